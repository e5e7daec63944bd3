/- Part 9: lemmas that the proofs of this seat share; by itself it claims nothing. -/
import Derived.Test.YtiohpadmabpecaaGreatDoorPt8
set_option maxRecDepth 100000
set_option maxHeartbeats 1000000
namespace Go.Pj
open Go Go.Ax Go.Ch Go.Proofs Go.Proofs.Tryz
abbrev lim(n:Nat):Prop:=n≤9223372036854775807
theorem aGY:Rd prog 111 2 (fun p:Int×Int=>[.d (dI p.1),.d (dI p.2)]) (fun _=>True):=
 (fI underlying111 rfl kR (aS rfl rI (aS rfl rI jN))).to (fun a=>(a.1,a.2.1)) (fun _=>rfl) (fun _ _=>trivial)
theorem aKZ:Rd prog 113 5 (fun s:lI=>[.d (dS s.name),.d (dI s.run),.d (dI s.aF5),.d (dI s.num),.d (dI s.den)]) (fun s=>lim s.name.size):=
 (fI underlying113 rfl kR (aS rfl rS (aS rfl rI (aS rfl rI (aS rfl aGY jN))))).to (fun a=>⟨a.1,a.2.1,a.2.2.1,a.2.2.2.1.1,a.2.2.2.1.2⟩) (fun _=>rfl) (fun _ h=>h.1)
theorem aIB:Rd prog 29 1 (fun l:List lI=>[.d (kV l)]) (fun l=>lim l.length∧∀a∈l,lim a.name.size):=
 kF underlying29 kR aKZ dC aGU (fun _=>rfl) (fun a j hj=>by match j,hj with|0,_|1,_|2,_|3,_|4,_=>rfl)
theorem aIC:Rd prog 115 2 (fun s:sC=>[.d (dI s.top),.d (dS s.aN)]) (fun _=>True):=
 (fI underlying115 rfl kR (aS rfl rI (aS rfl rS jN))).to (fun a=>⟨a.1,a.2.1⟩) (fun _=>rfl) (fun _ _=>trivial)
theorem aEZ:Rd prog 64 1 (fun l:List sC=>[.d (mN l)]) (fun l=>lim l.length∧∀a∈l,True):=
 kF underlying64 kR aIC dC aLM (fun _=>rfl) (fun a j hj=>by match j,hj with|0,_|1,_=>rfl)
theorem aOO:Rd prog 66 4 (fun s:fS=>[.d (dS s.name),.d (dI s.x),.d (dI s.y),.d (mN s.bB)]) (fun s=>lim s.name.size∧lim s.bB.length):=
 (fI underlying66 rfl kR (aS rfl rS (aS rfl rI (aS rfl rI (aS rfl aEZ jN))))).to (fun a=>⟨a.1,a.2.1,a.2.2.1,a.2.2.2.1⟩) (fun _=>rfl) (fun _ h=>⟨h.1,h.2.2.2.1.1⟩)
theorem aK7:Rd prog 30 1 (fun l:List fS=>[.d (pN l)]) (fun l=>lim l.length∧∀a∈l,lim a.name.size∧lim a.bB.length):=
 kF underlying30 kR aOO dC aNS (fun _=>rfl) (fun a j hj=>by match j,hj with|0,_|1,_|2,_|3,_=>rfl)
theorem aOI:Rd prog 117 2 (fun s:pQ=>[.d (dS s.aN),.d (dI s.vY)]) (fun _=>True):=
 (fI underlying117 rfl kR (aS rfl rS (aS rfl rI jN))).to (fun a=>⟨a.1,a.2.1⟩) (fun _=>rfl) (fun _ _=>trivial)
theorem aK2:Rd prog 33 1 (fun l:List pQ=>[.d (CG l)]) (fun l=>lim l.length∧∀a∈l,True):=
 kF underlying33 kR aOI dC aII (fun _=>rfl) (fun a j hj=>by match j,hj with|0,_|1,_=>rfl)
theorem aOE:Rd prog 157 3 (fun s:zF=>[.d (dS s.name),.d (dI s.due),.d (dI s.pen)]) (fun _=>True):=
 (fI underlying157 rfl kR (aS rfl rS (aS rfl rI (aS rfl rI jN)))).to (fun a=>⟨a.1,a.2.1,a.2.2.1⟩) (fun _=>rfl) (fun _ _=>trivial)
theorem aK0:Rd prog 34 1 (fun l:List zF=>[.d (RL l)]) (fun l=>lim l.length∧∀a∈l,True):=
 kF underlying34 kR aOE dC aH1 (fun _=>rfl) (fun a j hj=>by match j,hj with|0,_|1,_|2,_=>rfl)
theorem aOJ:Rd prog 68 6 (fun s:uF=>[.d (dS s.name),.d (dI s.OE),.d (dI s.base),.d (dI s.top),.d (b5 s.aV),.d (dI s.GZ)]) (fun s=>lim s.name.size):=
 (fI underlying68 rfl kR (aS rfl rS (aS rfl rI (aS rfl rI (aS rfl rI (aS rfl Ch.PL (aS rfl rI jN))))))).to (fun a=>⟨a.1,a.2.1,a.2.2.1,a.2.2.2.1,a.2.2.2.2.1,a.2.2.2.2.2.1⟩) (fun _=>rfl) (fun _ h=>h.1)
theorem aK3:Rd prog 35 1 (fun l:List uF=>[.d (q7 l)]) (fun l=>lim l.length∧∀a∈l,lim a.name.size):=
 kF underlying35 kR aOJ dC X0 (fun _=>rfl) (fun a j hj=>by match j,hj with|0,_|1,_|2,_|3,_|4,_|5,_=>rfl)
theorem aOP:Rd prog 119 3 (fun s:nM=>[.d (dS s.aN),.d (dI s.num),.d (dI s.den)]) (fun s=>lim s.aN.size):=
 (fI underlying119 rfl kR (aS rfl rS (aS rfl aGY jN))).to (fun a=>⟨a.1,a.2.1.1,a.2.1.2⟩) (fun _=>rfl) (fun _ h=>h.1)
theorem aK8:Rd prog 36 1 (fun l:List nM=>[.d (oY l)]) (fun l=>lim l.length∧∀a∈l,lim a.aN.size):=
 kF underlying36 kR aOP dC aNU (fun _=>rfl) (fun a j hj=>by match j,hj with|0,_|1,_|2,_=>rfl)
theorem aOM:Rd prog 32 2 (fun g:Ground=>[.d (kV g.bK),.d (pN g.cC)]) Ground.fits:=
 (fI underlying32 rfl kR (aS rfl aIB (aS rfl aK7 jN))).to (fun a=>⟨a.1,a.2.1⟩) (fun _=>rfl) (fun _ h=>⟨h.1.1,h.2.1.1,h.1.2,fun x hx=>(h.2.1.2 x hx).1,fun x hx=>(h.2.1.2 x hx).2⟩)
theorem aOL:Rd prog 24 6 (fun g:eZ=>[.d (dI g.x),.d (dI g.y),.d (dI g.side),.d (dI g.dO),.d (dI g.rows),.d (b5 g.levels)]) (fun g=>lim g.levels.length):=
 (fI underlying24 rfl kR (aS rfl rI (aS rfl rI (aS rfl rI (aS rfl rI (aS rfl rI (aS rfl Ch.PL jN))))))).to (fun a=>⟨a.1,a.2.1,a.2.2.1,a.2.2.2.1,a.2.2.2.2.1,a.2.2.2.2.2.1⟩) (fun _=>rfl) (fun _ h=>h.2.2.2.2.2.1.1)
theorem aON:Rd prog 28 5 (fun c:kE=>[.d (dS c.name),.d (x3 c.aZ),.d (dI c.over),.d (dI c.buffer),.d (zM c.regions)]) kE.ok:=
 (fI underlying28 rfl kR (aS rfl rS (aS rfl aOQ (aS rfl rI (aS rfl rI (aS rfl aK1 jN)))))).to (fun a=>⟨a.1,a.2.1,a.2.2.1,a.2.2.2.1,a.2.2.2.2.1⟩) (fun _=>rfl)
  (fun _ h=>⟨h.1,h.2.1.1,h.2.1.2,h.2.2.1,h.2.2.2.1,h.2.2.2.2.1.1,h.2.2.2.2.1.2⟩)
theorem aQF:RdA prog 38 oR Proj.okk:=
 VN (k:=20) underlying38 ((fI underlying38 rfl kR (aS rfl rS (aS rfl aOL (aS rfl aON (aS rfl aOM (aS rfl rI (aS rfl rI (aS rfl aK2 (aS rfl aK0 (aS rfl aK3 (aS rfl aK8 jN))))))))))).to
  (fun a=>(⟨a.1,a.2.1,a.2.2.1,a.2.2.2.1,a.2.2.2.2.1,a.2.2.2.2.2.1,a.2.2.2.2.2.2.1,a.2.2.2.2.2.2.2.1,a.2.2.2.2.2.2.2.2.1,a.2.2.2.2.2.2.2.2.2.1⟩:Proj)) (fun _=>rfl)
  (fun _ h=>⟨h.1,h.2.1,h.2.2.1,h.2.2.2.1,h.2.2.2.2.2.2.1.1,h.2.2.2.2.2.2.2.1.1,h.2.2.2.2.2.2.2.2.1.2,h.2.2.2.2.2.2.2.2.2.1.2⟩))
theorem aK6:Rd prog 46 13 (fun f:Fact=>[.d (dI f.kind),.d (dI f.seq),.d (dI f.a8),.d (dI f.month),.d (dI f.number),.d (dI f.aT),.d (dI f.over),.d (dI f.cls),.d (dI f.target),.d (dS f.aN),.d (dS f.dN),.d (dS f.eS),.d (b5 f.levels)]) Fact.fits:=
 (fI underlying46 rfl kR (aS rfl rI (aS rfl rI (aS rfl rI (aS rfl rI (aS rfl rI (aS rfl rI (aS rfl rI (aS rfl rI (aS rfl rI (aS rfl rS (aS rfl rS (aS rfl rS (aS rfl Ch.PL jN)))))))))))))).to
  (fun a=>(⟨a.1,a.2.1,a.2.2.1,a.2.2.2.1,a.2.2.2.2.1,a.2.2.2.2.2.1,a.2.2.2.2.2.2.1,a.2.2.2.2.2.2.2.1,a.2.2.2.2.2.2.2.2.1,a.2.2.2.2.2.2.2.2.2.1,a.2.2.2.2.2.2.2.2.2.2.1,a.2.2.2.2.2.2.2.2.2.2.2.1,a.2.2.2.2.2.2.2.2.2.2.2.2.1⟩:Fact)) (fun _=>rfl)
  (fun _ h=>⟨h.2.2.2.2.2.2.2.2.2.2.2.2.1.1,h.2.2.2.2.2.2.2.2.2.1,h.2.2.2.2.2.2.2.2.2.2.1,h.2.2.2.2.2.2.2.2.2.2.2.1⟩)
theorem aQH:Rd prog 39 1 (fun l:List Fact=>[.d (RN l)]) (fun l=>lim l.length∧∀a∈l,a.fits):=
 kF underlying39 kR aK6 dC J0 (fun _=>rfl) (fun a j hj=>by match j,hj with|0,_|1,_|2,_|3,_|4,_|5,_|6,_|7,_|8,_|9,_|10,_|11,_|12,_=>rfl)
end Go.Pj
set_option maxRecDepth 100000
set_option maxHeartbeats 20000000
namespace Go.Ax
open Go.RowKit
theorem AW.ybk{P:Program}{cx:Cx}{N:Nat}{σ:St}{K:Exit→St→Prop}{x y:Code}{S:Type}(UZ:S→St)(J:S→Prop)(h:AW P cx N x σ fun e s=>e=.normal∧∃q,J q∧aM cx N s (UZ q))(k:∀q,J q→AW P cx N y (UZ q) K):AW P cx N (.seq x y) σ K:=
 AW.seq (AW.mono h fun _ _ ⟨he,q,hq,hs⟩=>by subst he;exact AW.gR hs (k q hq))
theorem sh{b:Bool}{q:Prop}(h:q):Q3 (b=true) (some (rL true b))∧q:=⟨fun h=>by simpa [rL]using h,h⟩
theorem ybh{P:Program}{f:FuncId}{args:List AV}{r:AV}{K:AV→Prop}{b:Bool}{X:Prop}(h:b=true→aF P f args r)(k:K r):(∃r,(b=true→aF P f args r)∧K r)∨X:=.inl ⟨r,h,k⟩
section
variable{α:Type} [Inhabited α] {s n e:Nat}{f g:Nat→Nat→DV}{el:α→Nat→DV}{l:List α}{x:α}
theorem iJ.b8(h:iJ s n f el l):aY (.row e n s f) (.b8 e l.length s (fun i=>el (l.getD i default))):=
 aY.b8 h.1 fun i j hi hj=>aK.of_eq (h.2 i j hi hj)
end
end Go.Ax
namespace Go.Ch
open Go Go.Ax Go.Proofs Go.Proofs.Tryz
abbrev rIE(n e:Int):AV:=.t [.s (.d (dI n)),.s (.d (dI e))]
attribute [local irreducible] mI in
theorem ybm{l:List Int}:iJ 1 (bif l.isEmpty then 0 else l.length) (cP l) (fun x _=>dI x) l:=⟨dK l,fun _ _ _ _=>rfl⟩
end Go.Ch
namespace Go.Pj
open Go Go.Ax Go.Ch
abbrev ybo(s:Stmt):AV:=.g [.d (dI s.month),.d (dI s.over),.d (dI s.fG),.d (dI s.total),.d (x0 s.Y4),.d (xZ s.aO1),.d (b5 s.aP1)]
open Go Go.Ax Go.Ch Go.Proofs Go.Proofs.Tryz
theorem yaB(l:List Fact)(hl:l.length≤9223372036854775807)(f k:Nat)(c:Nat→DV)(p:Fact→Bool)(hp:∀x∈l,aF prog f (pX x::jF c k 0) (vB (p x))):
  aF prog 58 [cJ l,.s (.d (.dZ f k c))] (vB (l.any p)):=by
 refine eP func58 rfl rfl call58 rfl rfl fun cx aA=>?_
 refine aB (YF l hl f k c p hp) ?_
 exact aC.of_eq (congrArg vB (kI p l 0))
open Go Go.Ax Go.Ch Go.Proofs Go.Proofs.Tryz
def eqF(a b:Fact):Bool:=
 a.kind==b.kind&&a.seq==b.seq&&a.a8==b.a8&&a.month==b.month&&a.number==b.number&&a.aT==b.aT&&a.over==b.over&&a.cls==b.cls&&a.target==b.target&&a.aN.toList==b.aN.toList&&a.dN.toList==b.dN.toList&&a.eS.toList==b.eS.toList
def yaa(a b:Fact):Bool:=a.levels==b.levels&&eqF a b
theorem yaf(a:Fact):yaa a a=true:=by unfold yaa eqF;simp
theorem aBA(a b:Fact)(ha:a.fits):aF prog 13 [pX a,pX b] (vB (yaa a b)):=by
 refine eP func13 rfl rfl call13 rfl rfl fun cx aA=>aB (PL a.levels b.levels ha.levels) (aI (fun h=>?_) (fun h=>?_))
 ·have h:(a.levels==b.levels)=false:=by have h:(!(a.levels==b.levels))=true:=h;simpa using h
  exact aC.lit (by unfold yaa;rw[h];rfl)
 have h:(a.levels==b.levels)=true:=by have h:(!(a.levels==b.levels))=false:=h;simpa using h
 repeat refine aR ?_
 exact aC.of_eq (by unfold yaa;rw[h];rfl)
open Go Go.Ax Go.Ch Go.Proofs Go.Proofs.Tryz Go.Sort Go.Shelf
theorem ya5(a:Int)(w:World):Calls prog 239 #[.int .i64 a] w fun e w'=>e=.returned (.bool false)∧w'=w:=by go_enter func239,Tryz.ntmps239;go_wp2;go_ret;exact⟨rfl,rfl⟩
theorem ybj(a b:Int)(w:World):Calls prog 159 #[.int .i64 a,.int .i64 b] w fun e w'=>e=.returned (.int .i64 (aNI a b))∧w'=w:=by
 have hc:=fun a w'=>ya5 a w'
 go_enter func159,Tryz.ntmps159;go_wp2_with (first|(go_at_fn 239;refine(hc _ _).mono ?_;rintro e w' ⟨rfl,rfl⟩));refine(hc _ _).mono ?_;rintro e w' ⟨rfl,rfl⟩;go_wp2_with (first|(go_at_fn 239;refine(hc _ _).mono ?_;rintro e w' ⟨rfl,rfl⟩));refine(hc _ _).mono ?_;rintro e w' ⟨rfl,rfl⟩;go_wp2;all_goals go_ret
 all_goals (refine⟨?_,rfl⟩;unfold aNI)
 all_goals first
  |(rw[if_pos (by assumption)];rfl)
  |(rw[if_neg oM,if_pos (by assumption)];rfl)
  |(rw[if_neg oM,if_neg oM];rfl)
theorem ybq(a b:Int)(g cap:Nat)(w:World)(h0:w.cell? ⟨g,0,none⟩=some (.int .i64 a))(h1:w.cell? ⟨g,1,none⟩=some (.int .i64 b)):
  Calls prog 158 #[.slice (some ⟨g,0,none⟩) 2 cap] w fun e w'=>e=.returned (.int .i64 (orI a b))∧w'=w:=by
 go_enter func158,Tryz.ntmps158
 go_wp2_with fail
 go_rounds 3
 all_goals go_ret
 all_goals (refine⟨?_,rfl⟩;unfold orI)
 ·rename_i hz;rw[hz];rfl
 ·rename_i hz;rw[show(a !=0)=false by assumption,hz];rfl
 ·rw[show(a !=0)=false by assumption,show(b !=0)=false by assumption];rfl
theorem ybr(a b:Int)(w:World)(o1 o2:Obj):
  Calls prog 158 #[.slice (some ⟨w.heap.size+1+1,0,none⟩) 2 2] (((w.alloc o1).alloc o2).alloc (.cells #[.int .i64 a,.int .i64 b] 3)).drew fun e w'=>e=.returned (.int .i64 (orI a b))∧w'=(((w.alloc o1).alloc o2).alloc (.cells #[.int .i64 a,.int .i64 b] 3)).drew:=
 by
 have hs:((w.alloc o1).alloc o2).heap.size=w.heap.size+1+1:=by show(Array.push (Array.push w.heap o1) o2).size=_;rw[Array.size_push,Array.size_push]
 have hh:((((w.alloc o1).alloc o2).alloc (.cells #[.int .i64 a,.int .i64 b] 3)).drew).heap[w.heap.size+1+1]? =some (.cells #[.int .i64 a,.int .i64 b] 3):=by rw[←hs];exact heap_alloc_new ((w.alloc o1).alloc o2) _
 exact ybq a b _ _ _ (by simp only [World.cell?,hh];rfl) (by simp only [World.cell?,hh];rfl)
open Go Go.Ax Go.Ch Go.Proofs Go.Proofs.Tryz Go.Sort Go.Shelf
theorem ybi(m1 n1 m2 n2:Int)(w:World)(v0 v1 v2 v5 v6 v7 v8 v9 v10 v11 v12 u0 u1 u2 u5 u6 u7 u8 u9 u10 u11 u12:Value):
  Calls prog 157 #[.agg #[v0,v1,v2,.int .i64 m1,.int .i64 n1,v5,v6,v7,v8,v9,v10,v11,v12],.agg #[u0,u1,u2,.int .i64 m2,.int .i64 n2,u5,u6,u7,u8,u9,u10,u11,u12]] w fun e w'=>
   e=.returned (.int .i64 (orI (aNI m1 m2) (aNI n1 n2)))∧∃q os',w'=grow (w.drewN q) os':=by
 have hc:=fun a b w'=>ybj a b w'
 have ho:=ybr (aNI m1 m2) (aNI n1 n2) w (.cells #[v0,v1,v2,.int .i64 m1,.int .i64 n1,v5,v6,v7,v8,v9,v10,v11,v12] 46) (.cells #[u0,u1,u2,.int .i64 m2,.int .i64 n2,u5,u6,u7,u8,u9,u10,u11,u12] 46)
 go_enter func157,Tryz.ntmps157
 go_wp2_with fail
 go_region_with (first|(go_at_call 159;refine(hc _ _ _).mono ?_;rintro e w' ⟨rfl,rfl⟩)|(go_at_call 158;refine Calls.mono ho ?_;intro e w1 V7;obtain⟨he,V7⟩:=V7;subst he))
 all_goals go_wp2
 all_goals (try go_ret)
 all_goals exact⟨by first|rfl|simp[Act.put],1, #[.cells #[v0,v1,v2,.int .i64 m1,.int .i64 n1,v5,v6,v7,v8,v9,v10,v11,v12] 46,.cells #[u0,u1,u2,.int .i64 m2,.int .i64 n2,u5,u6,u7,u8,u9,u10,u11,u12] 46,.cells #[.int .i64 (aNI m1 m2),.int .i64 (aNI n1 n2)] 3],by first|rfl|exact V7.trans rfl⟩
end Go.Pj
namespace Go.Ch
open Go Go.Ax Go.Proofs Go.Proofs.Tryz
attribute [local irreducible] kC mU in
theorem yaG(c:kE)(g:eZ)(hc:c.ok)(hg:g.ok):aF prog 114 [chan c,rK g] (rGE (zK c g 0).1 (zK c g 0).2):=by exact eP func114 rfl rfl call114 rfl rfl fun cx aA=>aB (aM0 c g 0 hc hg) (aC.refl _)
def hG0(a b p:Pt):Bool:=(decide (a.y≤p.y)&&decide (p.y<b.y))&&decide (nU a b p>0)
def hG(a b p:Pt):Bool:=bif decide (a.y>b.y)then hG0 b a p else hG0 a b p
def yaw(a p:Pt):Bool:= !decide (a.x≤p.x)&& !decide (a.y≤p.y)
theorem yaK{a b p:Pt}(hc:nU a b p=0)(hx:(a.x≤p.x∧p.x≤b.x)∨(b.x≤p.x∧p.x≤a.x))(hy:(a.y≤p.y∧p.y≤b.y)∨(b.y≤p.y∧p.y≤a.y)):jP a b p=true:=by
 have key:∀u v w:Int,(u≤w∧w≤v)∨(v≤w∧w≤u)→within w (mm false u v) (mm true u v)=true:=by
  intro u v w h;have h1:mm false u v≤w:=by unfold mm;simp only;split <;> omega
  have h2:w≤mm true u v:=by unfold mm;simp only;split <;> omega
  unfold within;rw[decide_eq_true h1,decide_eq_true h2];rfl
 unfold jP;rw[hc,key _ _ _ hx,key _ _ _ hy];rfl
theorem yaj(a b p:Pt):N0 a b p=(a.x - p.x)*(b.y - p.y) - (b.x - p.x)*(a.y - p.y):=by unfold N0;simp only [Int.sub_mul,Int.mul_sub];have h1:=Int.mul_comm b.y p.x;have h2:=Int.mul_comm b.y a.x;have h3:=Int.mul_comm a.y p.x;have h4:=Int.mul_comm a.y a.x;omega
theorem yaF(a b p:Pt):N0 b a p= -N0 a b p:=by rw[yaj,yaj];omega
theorem ybf{n:Int}:decide (SY n<0)=decide (n<0):=by
 unfold SY;by_cases h:n<0
 ·simp[h]
 rw[if_neg h];by_cases h2:n>0
 ·rw[if_pos h2];simp;omega
 rw[if_neg h2];simp;omega
theorem ya4{a b p:Pt}(ha:fB a=true)(hb:fB b=true)(hp:fB p=true)(hn:jP a b p=false):(hG a b p !=hR a b p)=(yaw a p !=yaw b p):=by
 obtain⟨c1,_,_⟩:=RQ ha hb hp;obtain⟨c2,_,_⟩:=RQ hb ha hp;have hs:=yaF a b p;have hsh:=yaj a b p;have YN:¬(N0 a b p=0∧((a.x≤p.x∧p.x≤b.x)∨(b.x≤p.x∧p.x≤a.x))∧((a.y≤p.y∧p.y≤b.y)∨(b.y≤p.y∧p.y≤a.y))):=fun ⟨h0,h1,h2⟩=>by rw[yaK (by rw[c1];exact h0) h1 h2]at hn;cases hn
 have sg:∀u v:Int,(u>0→v>0→u*v>0)∧(u>0→v≤0→u*v≤0)∧(u≤0→v>0→u*v≤0)∧(u≤0→v≤0→u*v≥0):=fun u v=>
  ⟨fun h k=>Int.mul_pos h k,fun h k=>Int.mul_nonpos_of_nonneg_of_nonpos oM k,fun h k=>Int.mul_nonpos_of_nonpos_of_nonneg h oM,fun h k=>Int.mul_nonneg_of_nonpos_of_nonpos h k⟩
 obtain⟨x1,x2,x3,x4⟩:=sg (a.x - p.x) (b.y - p.y);obtain⟨y1,y2,y3,y4⟩:=sg (b.x - p.x) (a.y - p.y);have hzero:(a.x - p.x)*(b.y - p.y)=0→a.x - p.x≠0→b.y - p.y=0:=fun h0 h1=>(Int.mul_eq_zero.1 h0).resolve_left h1
 have eG:hG a b p=((decide (a.y≤p.y)&& !decide (b.y≤p.y))&&decide (N0 a b p>0)||(decide (b.y≤p.y)&& !decide (a.y≤p.y))&&decide (N0 a b p<0)):=by
  unfold hG hG0;rw[c1,c2,hs,Bool.eq_iff_iff];by_cases h:a.y>b.y
  ·rw[decide_eq_true h];simp;omega
  rw[decide_eq_false h];simp;omega
 have eR:hR a b p=((!(decide (a.x≤p.x)==decide (b.x≤p.x)))&&(decide (N0 a b p<0)==decide (a.x<b.x))):=by unfold hR;rw[ybf,c1]
 rw[eG,eR];unfold yaw;clear c1 c2 hs eG eR sg ha hb hp hn;generalize (a.x - p.x)*(b.y - p.y)=X at*;generalize (b.x - p.x)*(a.y - p.y)=Y at*;generalize N0 a b p=C at*;by_cases xa:a.x≤p.x <;> by_cases xb:b.x≤p.x <;> by_cases ya:a.y≤p.y <;> by_cases yb:b.y≤p.y <;> simp only [xa,xb,ya,yb,decide_true,decide_false,Bool.not_true,Bool.not_false,Bool.true_and,Bool.and_true,Bool.false_and,Bool.and_false,Bool.or_false,Bool.false_or,beq_self_eq_true,bne_self_eq_false];all_goals by_cases hx:a.x<b.x <;> rcases Int.lt_trichotomy C 0 with h|h|h
 all_goals first
  |(exfalso;omega)
  |(have h1:decide (C>0)=false:=decide_eq_false oM
    have h2:decide (C<0)=true:=decide_eq_true oM
    simp[h1,h2,hx];done)
  |(have h1:decide (C>0)=true:=decide_eq_true oM
    have h2:decide (C<0)=false:=decide_eq_false oM
    simp[h1,h2,hx];done)
  |(have h2:decide (C<0)=false:=decide_eq_false oM
    simp[h2,hx];done)
theorem yaz(q:Nat→Bool):∀n,aLD (fun i=>q i !=q (i+1)) n=(q 0 !=q n)
 |0=>by rw[aLD];cases q 0 <;> rfl
 |n+1=>by
  rw[aLD,yaz q n]
  cases q 0 <;> cases q n <;> cases q (n+1) <;> rfl
theorem yaJ{f g h:Nat→Bool}:∀n,(∀i,i<n→(f i !=g i)=h i)→(aLD f n !=aLD g n)=aLD h n
 |0,_=>rfl
 |n+1,e=>by
  have ih:=yaJ n fun i hi=>e i oM
  have:=e n oM;rw[aLD,aLD,aLD,←ih,←this]
  cases aLD f n <;> cases aLD g n <;> cases f n <;> cases g n <;> rfl
def yac(l:List Pt)(p:Pt)(i:Nat):Bool:=hG (sI l i) (qB l (i+1)) p
theorem ybn{l:List Pt}{p:Pt}(h3:3≤l.length)(hl:∀i,i<l.length→fB (l.getD i default)=true)(hp:fB p=true)(hn:∀i,i<l.length→aIM l p i=false):aLD (yac l p) l.length=aLD (aOK l p) l.length:=by
 have hc:∀j,fB (qB l j)=true:=fun j=>hl _ (Nat.mod_lt _ oM)
 have hpc:∀i,i<l.length→sI l i=qB l i:=fun i hi=>by show l.getD i default=l.getD (i%l.length) default;rw[Nat.mod_eq_of_lt hi]
 have h:=yaJ (f:=yac l p) (g:=aOK l p) (h:=fun i=>yaw (qB l i) p !=yaw (qB l (i+1)) p) l.length fun i hi=>by have:=hn i hi;unfold aIM at this;unfold yac aOK;rw[hpc i hi]at this ⊢;exact ya4 (hc i) (hc (i+1)) hp this
 rw[yaz (fun i=>yaw (qB l i) p)]at h;have e:qB l l.length=qB l 0:=by show l.getD (l.length%l.length) default=l.getD (0%l.length) default;rw[Nat.mod_self,Nat.zero_mod]
 simp only [e,bne_self_eq_false]at h;simpa using h
def yaD(b:Bool):Int:=bif b then 1 else -1
theorem yaq{l:List Pt}(h:lP l=0):3≤l.length∧l.length≤40∧∀i,i<l.length→fB (l.getD i default)=true:=by
 unfold lP at h
 cases h1:decide ((l.length:Int)<3)with
 |true=>rw[h1]at h;cases h
 |false=>
  cases h2:decide ((l.length:Int)>40)with
  |true=>rw[h1,h2]at h;cases h
  |false=>
   cases h3:(l.any fun p=> !fB p)with
   |true=>rw[h1,h2,h3]at h;cases h
   |false=>have h1:=bF h1;have h2:=bF h2;refine⟨oM,oM,fun i hi=>?_⟩;rw[List.any_eq_false]at h3;have:=h3 _ (List.getElem_mem hi);rw[aX hi];simpa using this
theorem ybd(l:List Pt)(p:Pt)(h3:3≤l.length)(h40:l.length≤40)(hg:∀i,i<l.length→fB (l.getD i default)=true)(hp:fB p=true):aF prog 252 [w9 l,pt p] (vI (aO7 l p)):=by
 have fJ:l≠[]:=by rintro rfl;cases h3
 refine eP func252 rfl rfl call252 rfl rfl fun cx aA=>AW.cG (fun i:Nat=>⟨[(0,w9 l),(3,.s (.ptr 3 0)),(5,vI (yaD (aLD (yac l p) i))),(9,w9 l),(10,vI l.length),(11,vI i)],[(3,some (ptB p))]⟩) (fun i=>i≤l.length∧∀j,j<i→aIM l p j=false) (fun i=>l.length - i) 0 ⟨Nat.zero_le _,fun j hj=>absurd hj (Nat.not_lt_zero j)⟩ (aM.bD aA [] rfl ⟨bQ,oO⟩ ⟨qZ,qZ,qZ,qZ,qZ,qZ,oO⟩) ?_
 rintro i ⟨hi,hj⟩;refine eX aA (aI (fun h=>?_) (fun h=>?_))
 ·have h:(i:Int)<l.length:=bG h;have bC:i<l.length:=oM;have e1:aW ((i:Int)+1)=((i+1:Nat):Int):=aG oM oM;have c2:aF prog 304 [w9 l,vI (aW ((i:Int)+1))] (pt (qB l (i+1))):=by rw[e1];exact NM l (i+1) fJ
  refine oi ⟨oM,oM⟩ (aB c2 ?_);refine aB (on (sI l i) (qB l (i+1)) p) (aI (fun h2=>?_) (fun h2=>?_))
  ·have h2:aIM l p i=true:=h2;have e:aO7 l p=0:=by unfold aO7;rw[eI bC h2];rfl
   rw[e];exact fun _ _ r=>r
  have h2:aIM l p i=false:=h2;have qR:∀j,j<i+1→aIM l p j=false:=fun j qR=>by
   by_cases y7:j=i
   ·rw[y7];exact h2
   exact hj j oM
  have yes:yac l p i=true→aW (0 - yaD (aLD (yac l p) i))=yaD (aLD (yac l p) (i+1)):=fun h3=>by rw[aLD,h3];cases aLD (yac l p) i <;> rfl
  have no:yac l p i=false→yaD (aLD (yac l p) i)=yaD (aLD (yac l p) (i+1)):=fun h3=>by rw[aLD,h3];cases aLD (yac l p) i <;> rfl
  refine aI (fun hs=>?_) (fun hs=>?_)
  ·have hs:decide ((sI l i).y>(qB l (i+1)).y)=true:=hs;have eh:yac l p i=hG0 (qB l (i+1)) (sI l i) p:=by unfold yac hG;rw[hs];rfl
   repeat refine aR ?_
   refine bR (T8 (qB l (i+1)) (sI l i) p) ?_;repeat refine aR ?_
   refine aI (fun h3=>?_) (fun h3=>?_)
   ·have h3:=eh.trans h3;exact⟨i+1,⟨oM,qR⟩,oM,aM.bD aA [] rfl ⟨bQ,oO⟩ ⟨qZ,qZ,⟨rfl,aU.int (yes h3)⟩,qZ,qZ,⟨rfl,aU.int e1⟩,oO⟩⟩
   have h3:=eh.trans h3;exact⟨i+1,⟨oM,qR⟩,oM,aM.bD aA [] rfl ⟨bQ,oO⟩ ⟨qZ,qZ,⟨rfl,aU.int (no h3)⟩,qZ,qZ,⟨rfl,aU.int e1⟩,oO⟩⟩
  have hs:decide ((sI l i).y>(qB l (i+1)).y)=false:=hs;have eh:yac l p i=hG0 (sI l i) (qB l (i+1)) p:=by unfold yac hG;rw[hs];rfl
  repeat refine aR ?_
  refine bR (T8 (sI l i) (qB l (i+1)) p) ?_;repeat refine aR ?_
  refine aI (fun h3=>?_) (fun h3=>?_)
  ·have h3:=eh.trans h3;exact⟨i+1,⟨oM,qR⟩,oM,aM.bD aA [] rfl ⟨bQ,oO⟩ ⟨qZ,qZ,⟨rfl,aU.int (yes h3)⟩,qZ,qZ,⟨rfl,aU.int e1⟩,oO⟩⟩
  have h3:=eh.trans h3;exact⟨i+1,⟨oM,qR⟩,oM,aM.bD aA [] rfl ⟨bQ,oO⟩ ⟨qZ,qZ,⟨rfl,aU.int (no h3)⟩,qZ,qZ,⟨rfl,aU.int e1⟩,oO⟩⟩
 have h:¬(i:Int)<l.length:=bF h;obtain rfl:i=l.length:=oM;refine aC.of_eq (congrArg vI ?_);unfold aO7;rw[oK hj,←ybn h3 hg hp hj];rfl
attribute [local irreducible] lP in
theorem ybb(l:List Pt)(p:Pt)(he:lP l=0)(hp:fB p=true):aF prog 172 [w9 l,pt p] (rIE (aO7 l p) 0):=by
 obtain⟨h3,h40,hg⟩:=yaq he;refine eP func172 rfl rfl call172 rfl rfl fun cx aA=>aB (JY l oM) (aI (fun h=>?_) (fun _=>?_))
 ·have h:(lP l !=0)=true:=h;rw[he]at h;cases h
 refine aB ((B0 [p] sM).conv (args':=_) ⟨aK.fU fun i j hi hj=>aK.of_eq ?_,oO⟩) ?_
 ·have hi:i<1:=hi;have hj:j<2:=hj
  match i,j,hi,hj with
  |0,0,_,_=>rfl
  |0,1,_,_=>rfl
 refine aI (fun h=>?_) (fun _=>?_)
 ·simp[hp]at h
 exact aB (ybd l p h3 h40 hg hp) (aC.t ⟨aK.refl _,fun _ _ r=>r,oO⟩)
theorem yaA(g:eZ)(l:List Pt)(i:Nat):aN2 g l (i+1)=bif aN3 g l i then aN2 g l i++ [(i:Int)]else aN2 g l i:=by
 unfold aN2;rw[c8]
 cases aN3 g l i <;> simp
theorem yaE(g:eZ)(l:List Pt)(i:Nat):(aN2 g l i).length≤i:=by have:=List.length_filterMap_le (fun k=>bif aN3 g l k then some (k:Int)else none) (List.range i);rw[List.length_range]at this;exact this
def yam(g:eZ)(l:List Pt):List Int×Int:=bif kC g !=0 then([],kC g)else bif lP l !=0 then([],lP l)else(aN2 g l g.levels.length,0)
theorem ybc(g:eZ)(l:List Pt)(hg:g.ok)(hl:l.length≤1000000):aF prog 115 [rK g,w9 l] (.t [.s (.d (b5 (yam g l).1)),.s (.d (dI (yam g l).2))]):=by
 refine eP func115 rfl rfl call115 rfl rfl fun cx aA=>aB (UW g hg.levels) ?_
 unfold yam;refine aI (fun h=>?_) (fun h=>?_)
 ·have h:(kC g !=0)=true:=h;rw[h,cond_true];exact aC.t ⟨aK.nil,aK.refl _,oO⟩
 have h:(kC g !=0)=false:=h;rw[h,cond_false];have gv:=FO.of (show kC g=0 by simpa using h);have hn:=gv.n;refine aB (JY l oM) (aI (fun h2=>?_) (fun h2=>?_))
 ·have h2:(lP l !=0)=true:=h2;rw[h2,cond_true];exact aC.t ⟨aK.nil,aK.refl _,oO⟩
 have h2:(lP l !=0)=false:=h2;rw[h2,cond_false];have he:lP l=0:=by simpa using h2
 refine AW.cG (fun i:Nat=>⟨[(1,w9 l),(2,.s (.ptr 2 0)),(8,.s (.mo (aN2 g l i).isEmpty 100)),(24,vI g.levels.length),(25,vI i)],
   [(2,some (aMS g)),(100,some (.b8 3 (aN2 g l i).length 1 (cP (aN2 g l i))))]⟩)
  (fun i=>i≤g.levels.length) (fun i=>g.levels.length - i) 0 (Nat.zero_le _) ?_ ?_
 ·exact aM.bD aA [(100,1000)] rfl ⟨bQ,⟨rfl,rfl⟩,oO⟩ ⟨qZ,qZ,⟨rfl,aU.nil rfl⟩,qZ,qZ,oO⟩
 intro i hi;have hlen:=yaE g l i;refine eX aA (aI (fun h=>?_) (fun h=>?_))
 ·have h:(i:Int)<g.levels.length:=bG h;have bC:i<g.levels.length:=oM;refine aB (aGI g i (by have:=gv.dO;omega)) ?_;refine aB (ybb l (dP g i) he (RY gv bC).1) (aI (fun h2=>?_) (fun h2=>?_))
  ·have h2:aN3 g l i=true:=h2;have e:aN2 g l (i+1)=aN2 g l i++ [(i:Int)]:=by rw[yaA,h2];rfl
   refine ob dC ?_;refine ob (by rw[dK];show _*8≤_;omega) ?_;refine ob (nJ (AS rfl)) ⟨i+1,oM,oM,?_⟩;refine aM.bD aA [(100,41)] rfl ⟨bQ,⟨rfl,?_⟩,oO⟩ ⟨qZ,qZ,⟨rfl,aU.mo ?_⟩,qZ,⟨rfl,aU.int (aG oM oM)⟩,oO⟩
   ·show aY _ (.b8 3 (aN2 g l (i+1)).length 1 (cP (aN2 g l (i+1))));rw[e];exact iJ.b8 (el:=fun x _=>dI x) (iJ.snoc ybm (AS rfl))
   rw[e];exact cA _ _
  have h2:aN3 g l i=false:=h2;have e:aN2 g l (i+1)=aN2 g l i:=by rw[yaA,h2];rfl
  refine⟨i+1,oM,oM,?_⟩;exact aM.bD aA [] rfl ⟨bQ,⟨rfl,aY.of_eq (by rw[e];rfl)⟩,oO⟩ ⟨qZ,qZ,⟨rfl,aU.of_eq (by rw[e];rfl)⟩,qZ,⟨rfl,aU.int (aG oM oM)⟩,oO⟩
 have h:¬(i:Int)<g.levels.length:=bF h;obtain rfl:i=g.levels.length:=oM;exact aC.t ⟨aK.wE (dK _) fun _ _ _ _=>aK.refl _,aK.refl _,oO⟩
end Go.Ch
namespace Go.Pj
open Go Go.Ax Go.Ch Go.Proofs Go.Proofs.Tryz
theorem yar{l:List zP}:∀{n i:Nat},rT l n i=0→∀j,i≤j→j<i+n→pC (l.getD j default) (l.take j)=0
 |0,i,_,j,h1,h2=>by omega
 |n+1,i,h,j,h1,h2=>by
  rw[rT]at h;obtain⟨ha,hb⟩:=dU h;by_cases hj:j=i
  ·subst hj;exact ha
  exact yar hb j oM oM
theorem PV.ybw{p:Proj}(h:PV p){i:Nat}(hi:i<p.chan.regions.length):lP (p.chan.regions.getD i default).lS=0:=by have hc:=h.chan;unfold mU at hc;obtain⟨_,hc⟩:=dF dC hc;obtain⟨_,hc⟩:=dF dC hc;obtain⟨_,hc⟩:=dU hc;obtain⟨_,hc⟩:=dF dC hc;have hr:=yar hc i (Nat.zero_le _) oM;unfold pC at hr;obtain⟨_,hr⟩:=dF dC hr;obtain⟨_,hr⟩:=dF dC hr;obtain⟨_,hr⟩:=dF dC hr;exact hr
theorem PV.eS{p:Proj}(h:PV p){i:Nat}(hi:i<p.cU.length):0≤PG p.chan.regions (p.cU.getD i default).name∧(p.cU.getD i default).due≤24:=by have hs:=h.cU;unfold rR at hs;obtain⟨_,hs⟩:=dF dC hs;have hr:=lQ hs i (Nat.zero_le _) oM;unfold qG at hr;obtain⟨h1,hr⟩:=dF dC hr;obtain⟨_,hr⟩:=dF dC hr;obtain⟨h3,hr⟩:=dF dC hr;simp only [decide_eq_false_iff_not]at h1;simp only [Bool.or_eq_false_iff,Bool.not_eq_false',within,Bool.and_eq_true,decide_eq_true_eq]at h3;omega
theorem ybu(des low:eZ)(i:Nat)(c d:Nat→DV)(hc:∀j,j<6→c j=aCQ des j)(hd:∀j,j<6→d j=aCQ low j)(h1:i<des.levels.length)(h2:i<low.levels.length):
  aF prog 117 [vI i,.s (.d (.rp 6 c)),.s (.d (.rp 6 d))] (vB (aMA des.levels low.levels i)):=by
 refine aF.conv (args:=[vI i,.s (.d (.rp 6 (aCQ des))),.s (.d (.rp 6 (aCQ low)))]) ?_ ⟨aK.refl _,aK.rp fun j hj=>aK.of_eq (hc j hj),aK.rp fun j hj=>aK.of_eq (hd j hj),oO⟩
 refine eP func117 rfl rfl call117 rfl rfl fun cx aA=>?_
 refine oi ⟨oM,oM⟩ ?_
 repeat refine aR ?_
 refine og (fun _=>⟨oM,oM⟩) ?_
 repeat refine aR ?_
 refine og (fun _=>⟨oM,oM⟩) ?_
 repeat refine aR ?_
 refine aD ?_
 exact aC.refl _
theorem ya7{g:eZ}{l:List Pt}{n:Nat}{x:Int}(h:x∈aN2 g l n):0≤x∧x.toNat<n:=by
 unfold aN2 at h;obtain⟨k,hk,hx⟩:=List.mem_filterMap.1 h;have hk:=List.mem_range.1 hk
 cases hw:aN3 g l k with
 |true=>rw[hw]at hx;cases hx;omega
 |false=>rw[hw]at hx;cases hx
theorem ya3(p:Proj)(fs:List Fact)(x:zF)(low:eZ)(hp:p.fits)(hv:PV p)(h0:0≤PG p.chan.regions x.name)(hl:low.levels.length=p.aT.levels.length):
  aF prog 60 [SR p fs,.g [.d (dS x.name),.d (dI x.due),.d (dI x.pen)],rK low] (vB (aP5 p x.name low)):=by
 have gv:=hv.gv
 have hn:=gv.n
 have hgok:=FO.gok gv
 have aCK:(PG p.chan.regions x.name).toNat<p.chan.regions.length:=(yN (fun r:zP=>bE r.name x.name&&r.kind==0) p.chan.regions 0 h0).2.1
 have hpoly:=hv.ybw aCK
 obtain⟨_,h40,_⟩:=yaq hpoly
 have hD:=yaG p.chan p.aT hp.chan hgok
 rw[hv.rK 0]at hD
 have hW:=ybc p.aT (aND p x.name) hgok (by unfold aND;omega)
 have hW':yam p.aT (aND p x.name)=(aN2 p.aT (aND p x.name) p.aT.levels.length,0):=by unfold yam;rw[hv.aT,show lP (aND p x.name)=0 from hpoly];rfl
 rw[hW']at hW
 have hwl:=yaE p.aT (aND p x.name) p.aT.levels.length
 refine eW func60 rfl rfl call60 rfl rfl (fun cx aA=>?_)
 refine sX aA ?_
 refine sX aA ?_
 refine aB (hD) ?_
 refine sX aA ?_
 refine aB (aA5 p.chan x.name hp.regions) ?_
 refine oi ⟨h0,oM⟩ ?_
 refine aB (hW) ?_
 refine aD ?_
 refine sX aA ?_
 refine aB (tZ (aN2 p.aT (aND p x.name) p.aT.levels.length) oM 117 2 _ (fun n=>aMA (aP2 p).levels low.levels n.toNat) (fun n hm=>?_)) ?_
 ·obtain⟨m0,m1⟩:=ya7 hm;have e:n=((n.toNat:Nat):Int):=oM;have:=ybu (aP2 p) low n.toNat (fun j=>aCQ (aP2 p) j) (fun j=>aCQ low j) (fun _ _=>rfl) (fun _ _=>rfl) (by rw[E6];exact m1) oM;rw[←e]at this;refine aF.conv this ⟨aK.refl _,aK.rp fun j hj=>aK.of_eq ?_,aK.rp fun j hj=>aK.of_eq ?_,oO⟩
  ·match j,hj with|0,_|1,_|2,_|3,_|4,_|5,_=>rfl
  match j,hj with|0,_|1,_|2,_|3,_|4,_|5,_=>rfl
 refine eX aA ?_
 exact aC.refl _
theorem yby(f:Fact)(s:ByteArray)(m:Int)(c d:Nat→DV)(hc:c 0=dS s)(hd:d 0=dI m):aF prog 59 [pX f,.s (.d (.rp 3 c)),.s (.d (.rp 1 d))] (vB (aN4 s m f)):=by
 refine aF.conv (args:=[pX f,.s (.d (.rp 3 (UO s))),.s (.d (.rp 1 fun _=>dI m))]) ?_ ⟨⟨aK.refl _,aK.refl _,aK.refl _,aK.refl _,aK.refl _,aK.refl _,aK.refl _,aK.refl _,aK.refl _,aK.refl _,aK.refl _,aK.refl _,aK.refl _,oO⟩,aK.rp fun j hj=>?_,aK.rp fun j hj=>aK.of_eq (by rw[show j=0 by omega];exact hd),oO⟩
 ·refine eP func59 rfl rfl call59 rfl rfl fun cx aA=>?_
  repeat refine aR ?_
  exact aC.refl _
 match j with
 |0=>exact aK.of_eq hc
 |_+1=>exact fun _ _ _=>trivial
theorem yaW(p:Proj)(fs:List Fact)(m:Int)(low:eZ)(n:Nat):M6 p fs m low (n+1)=M6 p fs m low n++(aLP p fs m low n).toList:=by unfold M6;rw[c8]
theorem ybv(p:Proj)(fs:List Fact)(m:Int)(low:eZ)(hp:p.fits)(hv:PV p)(hf:fs.length≤9223372036854775807)(hl:low.levels.length=p.aT.levels.length):
  aF prog 28 [SR p fs,vI m,rK low] (U8 (M6 p fs m low p.cU.length)):=by
 have hsl:p.cU.length≤20:=by have h:=hv.cU;unfold rR at h;obtain⟨h,_⟩:=dF dC h;simp only [decide_eq_false_iff_not]at h;omega
 refine eW func28 rfl rfl call28 rfl rfl (fun cx aA=>?_)
 refine sX aA ?_
 refine sX aA ?_
 refine AW.seq (sX aA ?_)
 refine AW.block ?_
 refine AW.cG (fun i:Nat=>⟨[(3,.s (.ptr 3 0)),(4,.s (.ptr 4 0)),(5,.s (.ptr 5 0)),(7,.s (.mo (M6 p fs m low i).isEmpty 100)),(13,U7 p.cU),(14,vI p.cU.length),(15,vI i)],[(3,some (.cells (l0 p fs))),(4,some (.cells [.d (dI m)])),(5,some (.cells [.d (dI low.x),.d (dI low.y),.d (dI low.side),.d (dI low.dO),.d (dI low.rows),.d (b5 low.levels)])),(100,some (.b8 95 (M6 p fs m low i).length 2 (aLQ (M6 p fs m low i))))]⟩) (fun i=>i≤p.cU.length) (fun i=>p.cU.length - i) 0 (Nat.zero_le _) ?_ ?_
 ·exact aM.bD aA [(100,1000)] rfl ⟨bQ,bQ,bQ,⟨rfl,rfl⟩,oO⟩ ⟨qZ,qZ,qZ,⟨rfl,aU.nil rfl⟩,qZ,qZ,qZ,oO⟩
 ·intro i hi;have hlen:=aB0 p fs m low i;have fN:=yaW p fs m low i;refine sX aA (AW.seq (AW.cond ?_));refine aI (fun h=>AW.skip ?_) (fun h=>AW.exit ?_)
  ·have h:(i:Int)<p.cU.length:=bG h;have hreg:=(hv.eS (show i<p.cU.length by omega)).1;refine AW.seq (AW.block ?_);refine sX aA (oi ⟨oM,oM⟩ ?_);generalize hS:p.cU.getD i default=s at hreg;refine AW.gR (σ':=⟨[(3,.s (.ptr 3 0)),(4,.s (.ptr 4 0)),(5,.s (.ptr 5 0)),(7,.s (.mo (M6 p fs m low i).isEmpty 100)),(9,.s (.ptr 9 0)),(13,U7 p.cU),(14,vI p.cU.length),(15,vI i)],[(3,some (.cells (l0 p fs))),(4,some (.cells [.d (dI m)])),(5,some (.cells [.d (dI low.x),.d (dI low.y),.d (dI low.side),.d (dI low.dO),.d (dI low.rows),.d (b5 low.levels)])),(9,some (.cells [.d (dS s.name),.d (dI s.due),.d (dI s.pen)])),(100,some (.b8 95 (M6 p fs m low i).length 2 (aLQ (M6 p fs m low i))))]⟩) (aM.bD aA [] rfl ⟨bQ,bQ,bQ,⟨rfl,aY.of_eq (by rw[←hS];rfl)⟩,bQ,oO⟩ ⟨qZ,qZ,qZ,qZ,qZ,qZ,qZ,qZ,oO⟩) ?_;refine sX aA (aB (yaB fs hf 59 2 _ (aN4 s.name m) (fun q _=>yby q s.name m _ _ rfl rfl)) ?_);refine AW.gR (σ':=⟨[(3,.s (.ptr 3 0)),(4,.s (.ptr 4 0)),(5,.s (.ptr 5 0)),(7,.s (.mo (M6 p fs m low i).isEmpty 100)),(9,.s (.ptr 9 0)),(10,vB (aHO fs s.name m)),(13,U7 p.cU),(14,vI p.cU.length),(15,vI i)],[(3,some (.cells (l0 p fs))),(4,some (.cells [.d (dI m)])),(5,some (.cells [.d (dI low.x),.d (dI low.y),.d (dI low.side),.d (dI low.dO),.d (dI low.rows),.d (b5 low.levels)])),(9,some (.cells [.d (dS s.name),.d (dI s.due),.d (dI s.pen)])),(100,some (.b8 95 (M6 p fs m low i).length 2 (aLQ (M6 p fs m low i))))]⟩) (aM.bD aA [] rfl ⟨bQ,bQ,bQ,bQ,bQ,oO⟩ ⟨qZ,qZ,qZ,qZ,qZ,qZ,qZ,qZ,qZ,oO⟩) (sX aA ?_);repeat refine aR ?_
   refine bR (ya3 p fs s low hp hv hreg hl) ?_;repeat refine aR ?_
   refine AW.cond (aI (fun h2=>?_) (fun h2=>AW.skip ?_))
   ·have h2:aLN p fs m low s=true:=h2;have e:M6 p fs m low (i+1)=M6 p fs m low i++ [⟨s.name,s.pen⟩]:=by rw[fN];unfold aLP;rw[hS,h2];rfl
    refine eX aA (ob dC ?_);refine ob (by rw[dK];show((M6 p fs m low i).length+1)*24≤_;omega) ?_;refine ob (nJ (lt2 rfl rfl)) (eX aA ?_);refine⟨i+1,oM,oM,?_⟩;refine aM.bD aA [(100,45)] rfl ⟨bQ,bQ,bQ,⟨rfl,?_⟩,oO⟩ ⟨qZ,qZ,qZ,⟨rfl,aU.mo (by rw[e];exact cA _ _)⟩,qZ,qZ,⟨rfl,aU.int (aG oM oM)⟩,oO⟩;show aY _ (.b8 95 (M6 p fs m low (i+1)).length 2 (aLQ (M6 p fs m low (i+1))));rw[e];refine aY.snoc (el:=aO2) (x:=⟨s.name,s.pen⟩) (fun c hc=>?_);have hc:c<2:=hc
    match c,hc with|0,_|1,_=>rfl
   have h2:aLN p fs m low s=false:=h2;have e:M6 p fs m low (i+1)=M6 p fs m low i:=by rw[fN];unfold aLP;rw[hS,h2];exact List.append_nil _
   refine eX aA ⟨i+1,oM,oM,?_⟩;exact aM.bD aA [] rfl ⟨bQ,bQ,bQ,⟨rfl,aY.of_eq (by rw[e];rfl)⟩,oO⟩ ⟨qZ,qZ,qZ,⟨rfl,aU.of_eq (by rw[e];rfl)⟩,qZ,qZ,⟨rfl,aU.int (aG oM oM)⟩,oO⟩
  have h:¬(i:Int)<p.cU.length:=bF h;obtain rfl:i=p.cU.length:=oM;exact eX aA aC.mo
open Go Go.Ax Go.Ch Go.Proofs Go.Proofs.Tryz Go.Sort Go.Shelf
theorem yal(x y:Fact):ltOf cfL x y=decide (x.month<y.month∨(x.month=y.month∧x.number<y.number)):=by
 unfold ltOf cfL orI aNI;refine decide_eq_decide.2 ?_;by_cases h1:x.month<y.month
 ·simp[h1]
 by_cases h2:y.month<x.month
 ·have:x.month≠y.month:=oM;simp[h1,h2,this]
 have e:x.month=y.month:=oM;by_cases h3:x.number<y.number
 ·simp[e,h3]
 by_cases h4:y.number<x.number
 ·simp[e,h3,h4]
 simp[e,h3,h4]
theorem ybx:SWO (ltOf cfL) where
 irrefl:=fun x=>by rw[yal];simp
 trans:=fun x y z h1 h2=>by rw[yal,decide_eq_true_eq]at*;omega
 ntrans:=fun x y z h1 h2=>by rw[yal,decide_eq_false_iff_not]at*;omega
instance:Inhabited (GV J0 13):=⟨⟨(default,[.int .i64 (default:Fact).kind,.int .i64 (default:Fact).seq,.int .i64 (default:Fact).a8,.int .i64 (default:Fact).month,.int .i64 (default:Fact).number,.int .i64 (default:Fact).aT,.int .i64 (default:Fact).over,.int .i64 (default:Fact).cls,.int .i64 (default:Fact).target,.string (default:Fact).aN,.string (default:Fact).dN,.string (default:Fact).eS,.slice none 0 0]),by
 refine⟨rfl,fun v hv=>?_,fun j u hj hu=>?_⟩
 ·simp only [List.mem_cons,List.not_mem_nil,or_false]at hv;rcases hv with rfl|rfl|rfl|rfl|rfl|rfl|rfl|rfl|rfl|rfl|rfl|rfl|rfl <;> rfl
 match j,hj,hu with
 |0,_,hu|1,_,hu|2,_,hu|3,_,hu|4,_,hu|5,_,hu|6,_,hu|7,_,hu|8,_,hu|9,_,hu|10,_,hu|11,_,hu=>cases hu;rfl
 |12,_,hu=>cases hu⟩⟩
theorem yaX(blk off n:Nat)(w:World):CmpLays prog 157 #[] (fun p:GV J0 13=>p.1.2) 13 (fun p q=>cfL p.1.1 q.1.1) blk off n w:=by
 intro m os dk _ x y;generalize sortWorldK _ 13 w blk off m dk os=W;obtain⟨⟨s,vs⟩,hx⟩:=x;obtain⟨⟨t,us⟩,hy⟩:=y;have e1:=hx.len;have e2:=hy.len;have s3:=hx.val 3 (.int .i64 s.month) oM rfl;have s4:=hx.val 4 (.int .i64 s.number) oM rfl;have t3:=hy.val 3 (.int .i64 t.month) oM rfl;have t4:=hy.val 4 (.int .i64 t.number) oM rfl
 match vs,e1,us,e2,s3,s4,t3,t4 with
 |[v0,v1,v2,v3,v4,v5,v6,v7,v8,v9,v10,v11,v12],_,[u0,u1,u2,u3,u4,u5,u6,u7,u8,u9,u10,u11,u12],_,s3,s4,t3,t4=>obtain rfl:v3=.int .i64 s.month:=Option.some.inj s3;obtain rfl:v4=.int .i64 s.number:=Option.some.inj s4;obtain rfl:u3=.int .i64 t.month:=Option.some.inj t3;obtain rfl:u4=.int .i64 t.number:=Option.some.inj t4;exact ybi s.month s.number t.month t.number W v0 v1 v2 v5 v6 v7 v8 v9 v10 v11 v12 u0 u1 u2 u5 u6 u7 u8 u9 u10 u11 u12
theorem yaH(l:List Fact)(hn:∀a∈l,∀b∈l,a.number=b.number→a=b)(l':List Fact)(hp:l'.Perm l)(hs:l'.Pairwise (fun x y=>ltOf cfL y x=false)):l'=JH l:=by
 refine List.Perm.eq_of_pairwise (le:=fun x y=>ltOf cfL y x=false) ?_ hs ?_ (hp.trans (List.mergeSort_perm _ _).symm)
 ·intro a b ha hb h1 h2;have ha:a∈l:=hp.mem_iff.1 ha;have hb:b∈l:=(List.mergeSort_perm _ _).mem_iff.1 hb;rw[yal,decide_eq_false_iff_not]at h1 h2;exact hn a ha b hb oM
 have:=List.pairwise_mergeSort (le:=fun x y:Fact=> !(ltOf cfL y x)) (fun a b c h1 h2=>by
  simp only [yal,Bool.not_eq_true',decide_eq_false_iff_not]at*;omega) (fun a b=>by
  simp only [yal,Bool.or_eq_true,Bool.not_eq_true',decide_eq_false_iff_not];omega) l
 exact this.imp fun {x y} h=>by simpa using h
theorem yaP(l:List Fact)(hn:∀a∈l,∀b∈l,a.number=b.number→a=b)(f0:Nat→Nat→DV)(SO:∀i j,i<l.length→j<13→aK (f0 i j) (nE l i j))(hl:l.length≤1000000):
  bW prog 156 [.s (.own 1001),.s (.dZ 157 [])] [(1001,.row 46 l.length 13 f0)] (.t []) [(1001,.row 46 l.length 13 (nE (JH l)))]:=
 aKD (α:=Fact) (k:=13) Tryz.aBY rfl call156 dC Tryz.isAgg46 Tryz.sizeOf46 J0 (fun t j h=>aCW t j h) cfL ybx
  (enters_of func157 kR rfl) yaX l (JH l) (yaH l hn) f0 SO hl
theorem ZR.of{fs:List Fact}{m:Int}(hl:fs.length≤200)(hn:∀a∈tO fs m,∀b∈tO fs m,a.number=b.number→a=b):ZR fs m:=fun _=>
 yaP _ hn _ (fun _ _ _ _=>fun _ _ r=>r) (by have:(tO fs m).length≤fs.length:=List.length_filter_le _ _;omega)
theorem yay{g:Fact}(h:g.kind=1)(hv:nZ g=0):bT g=iO [AX,Lib.itoa g.number]:=by unfold bT nH cS;rw[hv,h];rfl
theorem yaQ{l:List Fact}(hv:∀f∈l,fR f=0)(m:Int):∀a∈tO (cntF l) m,∀b∈tO (cntF l) m,a.number=b.number→a=b:=by
 intro a ha b hb hn;unfold tO at ha hb;obtain⟨ha,a1⟩:=List.mem_filter.1 ha;obtain⟨hb,b1⟩:=List.mem_filter.1 hb;simp only [Bool.and_eq_true,beq_iff_eq]at a1 b1;obtain⟨k1,_,e1,g1,hg1,c1,q1⟩:=N4 hv ha;obtain⟨k2,_,e2,g2,hg2,c2,q2⟩:=N4 hv hb;have t1:g1.kind=1:=by have:=a1.1;rw[c1]at this;exact this
 have t2:g2.kind=1:=by have:=b1.1;rw[c2]at this;exact this
 have n1:a.number=g1.number:=by rw[c1];unfold jE fW;simp[t1]
 have n2:b.number=g2.number:=by rw[c2];unfold jE fW;simp[t2]
 have z1:=(kN (hv g1 hg1)).1;have z2:=(kN (hv g2 hg2)).1;have hkk:k1=k2:=by rw[←q1,←q2,yay t1 z1,yay t2 z2,←n1,←n2,hn]
 rw[e1,e2,hkk]
theorem yan(p:Proj)(l:List Fact)(hp:p.fits)(hf:∀f∈l,f.fits)(hl:l.length≤9223372036854775807)(he:iI p l=0):aF prog 9 [oR p,cJ l] (.t [.s (.d (RN (cntF l))),.s (.d (dI 0))]):=by
 have hk:=YW he;refine eP func9 rfl rfl call9 rfl rfl fun cx aA=>aB (IS p l hp hf hl) (aI (fun h=>?_) (fun _=>?_))
 ·have h:(iI p l !=0)=true:=h;rw[he]at h;cases h
 exact aB (aF8 l hf hk.fmt hk.len) (aC.refl _)
theorem ybp(l:List Fact)(hf:∀f∈l,f.fits)(hl:l.length≤1000000):aF prog 10 [cJ l,cJ l] (vB true):=by
 refine eP func10 rfl rfl call10 rfl rfl fun cx aA=>aI (fun h=>?_) (fun _=>?_)
 ·have h:((l.length:Int) !=l.length)=true:=h;simp at h
 refine AW.cG (fun i:Nat=>⟨[(0,cJ l),(1,cJ l),(5,vI i)],[]⟩) (fun i=>i≤l.length) (fun i=>l.length - i) 0 (Nat.zero_le _) (aM.bD aA [] rfl trivial ⟨qZ,qZ,qZ,oO⟩) ?_;intro i hi;refine eX aA (aI (fun h=>?_) (fun h=>?_))
 ·have h:(i:Int)<l.length:=bG h;have bC:i<l.length:=oM;refine oi ⟨oM,oM⟩ ?_;repeat refine aR ?_
  refine oi ⟨oM,oM⟩ ?_;repeat refine aR ?_
  refine aB (aBA (l.getD i default) (l.getD i default) (hf _ (bP bC))) (aD ?_);refine aI (fun h2=>?_) (fun _=>?_)
  ·have h2:(!yaa (l.getD i default) (l.getD i default))=true:=h2;rw[yaf]at h2;cases h2
  exact⟨i+1,oM,oM,aM.bD aA [] rfl trivial ⟨qZ,qZ,⟨rfl,aU.int (aG oM oM)⟩,oO⟩⟩
 have h:¬(i:Int)<l.length:=bF h;obtain rfl:i=l.length:=oM;exact aC.refl _
theorem ybt{a b:Bool}(h:(a&&b)=true):a=true∧b=true:=Bool.and_eq_true_iff.1 h
theorem yag{l:List Fact}{k:bJ}{x:Fact}:x∈kO l k l.length↔(x∈l∧VH l k x=true)∧∀h∈l,VH l k h=true→h.seq≤x.seq:=by rw[GM l k _ (Nat.le_refl _),List.take_length,BP];simp only [List.mem_filter,and_imp]
theorem yad{l:List Fact}(hv:∀f∈l,fR f=0){k:bJ}{g:Fact}:J6 l k=some g↔∃x∈kO l k l.length,g=jE x∧∀y∈kO l k l.length,dR y≤dR x:=by
 have hm:=fun (y:Fact) (hy:y∈kO l k l.length)=>(yag.1 hy).1.1
 have hb:=WW (r:=kO l k l.length) (Nat.le_refl _);rw[List.take_length]at hb;unfold J6
 cases hz:(((kO l k l.length).length:Int)==0)with
 |true=>
  have h0:((kO l k l.length).length:Int)=0:=by simpa using hz
  have:(kO l k l.length).length=0:=oM;rw[List.length_eq_zero_iff.1 this];simp
 |false=>
  have h0:0<(kO l k l.length).length:=by
   have:((kO l k l.length).length:Int)≠0:=by simpa using hz
   omega
  have h1:=IY h0 (Nat.le_refl _);constructor
  ·intro h
   cases h
   exact⟨_,h1,rfl,hb⟩
  rintro⟨x,hx,rfl,aIZ⟩;have e:dR x=dR (pY (kO l k l.length) (kO l k l.length).length):=List.le_antisymm (hb x hx) (aIZ _ h1);rw[cond_false,←VO (hv _ (hm _ h1)),←e,VO (hv x (hm x hx))]
theorem yaV{l m:List Fact}(h:∀x,x∈l↔x∈m):fV l l.length=fV m m.length:=by
 obtain⟨p1,q1⟩:=K5 l l.length (Nat.le_refl _);obtain⟨p2,q2⟩:=K5 m m.length (Nat.le_refl _);rw[List.take_length]at q1 q2;have nd:∀{ks:List bJ},ks.Pairwise (fun a b=>a<b)→ks.Nodup:=fun hp=>hp.imp fun {a b} (h:a<b) (e:a=b)=>by subst e;exact List.lt_irrefl _ h
 refine List.Perm.eq_of_pairwise (le:=fun a b=>a<b) (fun a b _ _ h1 h2=>absurd h2 (List.lt_asymm h1)) p1 p2 ((List.perm_ext_iff_of_nodup (nd p1) (nd p2)).2 fun k=>?_);rw[q1,q2];simp only [h]
theorem ya2{l m:List Fact}(hv:∀f∈l,fR f=0)(h:∀x,x∈l↔x∈m):cntF l=cntF m:=by
 have Z3:∀f∈m,fR f=0:=fun f hf=>hv f ((h f).2 hf)
 rw[←aJO hv,←aJO Z3];unfold sQ;rw[List.take_length,List.take_length,yaV h];congr 1;funext k;have hr:∀x,VH l k x=VH m k x:=fun x=>by unfold VH AT;rw[show l.any (wdM (bT x) x.seq)=m.any (wdM (bT x) x.seq) by rw[Bool.eq_iff_iff,List.any_eq_true,List.any_eq_true];simp only [h]]
 have hi:∀x,x∈kO l k l.length↔x∈kO m k m.length:=fun x=>by rw[yag,yag];simp only [h,hr]
 refine Option.ext fun g=>?_
 show J6 l k=some g↔J6 m k=some g;rw[yad hv,yad Z3];simp only [hi]
theorem yaN{f:Fact}(h3:(f.kind !=3)=true)(hv:nZ f=0):bT (jE f)=bT f:=by
 have hk:fW f=f.kind:=by unfold fW;rw[show(f.kind==3)=false by simpa using h3];rfl
 have e:nZ f=cK f.kind f:=by unfold nZ;rw[h3];rfl
 have EW:((jE f).kind !=3)=true:=h3;rw[e]at hv;unfold bT nZ nH;rw[h3,EW];simp only [cond_true];show(bif cK f.kind (jE f)==0 then iO (cS f.kind (jE f))else [])=(bif cK f.kind f==0 then iO (cS f.kind f)else []);rcases iV hv with⟨h,_⟩|⟨h,_⟩|⟨h,_,_⟩;all_goals
  rw[h]at hk ⊢
  have e1:cK f.kind (jE f)=cK f.kind f:=by unfold cK jE;rw[hk,h];rfl
  have e2:cS f.kind (jE f)=cS f.kind f:=by unfold cS jE;rw[hk,h];rfl
  rw[h]at e1 e2
  rw[e1,e2]
abbrev wdF(g:Fact):Fact:={kind:=3,seq:=1000000,a8:=g.a8,month:=g.month,number:=g.number,aT:=0,over:=0,cls:=0,target:=g.kind,aN:=ByteArray.mk #[],dN:=ByteArray.mk #[],eS:=g.eS,levels:=[]}
theorem ya0{g:Fact}(h3:(g.kind !=3)=true)(hv:nZ g=0):nZ (wdF g)=0∧bT (wdF g)=W7++bT g:=by
 have e:nZ g=cK g.kind g:=by unfold nZ;rw[h3];rfl
 have e2:nH g=cS g.kind g:=by unfold nH;rw[h3];rfl
 have a:nZ (wdF g)=0:=by rw[e]at hv;exact hv
 refine⟨a,?_⟩;have b:bT g=iO (cS g.kind g):=by unfold bT;rw[hv,e2];rfl
 have c:bT (wdF g)=iO (cT::cS g.kind g):=by unfold bT;rw[a];rfl
 have hl:=(mR g.kind g).1;rw[b,c,HJ _ (fun h=>by rw[h]at hl;simp at hl)];rfl
theorem yaZ{g:Fact}(h3:(g.kind !=3)=true)(hv:nZ g=0):fR (wdF g)=0:=by unfold fR;rw[(ya0 h3 hv).1];rfl
theorem yax{a b:ByteArray}(h:a.toList=b.toList):a=b:=by rw[ByteArray.toList_eq,ByteArray.toList_eq]at h;exact ByteArray.ext (Array.ext' h)
theorem yau{a b:Fact}(h:yaa a b=true):a=b:=by
 cases a;cases b
 unfold yaa eqF at h;simp only [Bool.and_eq_true,beq_iff_eq]at h;obtain⟨h0,⟨⟨h1,h2⟩,h3⟩,h4⟩:=h;have:=yax h2;have:=yax h3;have:=yax h4;simp_all
theorem yai{l:List Fact}(hv:∀f∈l,fR f=0):cntF l=(fV l l.length).filterMap (J6 l):=by rw[←aJO hv];unfold sQ;rw[List.take_length]
theorem yah{l:List Fact}(hv:∀f∈l,fR f=0){k:bJ}{g:Fact}(h:J6 l k=some g):(g.kind !=3)=true∧nZ g=0∧bT g=k:=by
 obtain⟨x,hx,rfl,_⟩:=(yad hv).1 h;obtain⟨⟨h1,h2⟩,_⟩:=yag.1 hx;unfold VH at h2;simp only [Bool.not_eq_true',Bool.or_eq_false_iff]at h2;have h3:(x.kind !=3)=true:=by have:=h2.1.2;simpa using this
 have hk:bT x=k:=by have:=h2.1.1;simpa using this
 have hw:=(kN (hv x h1)).1;refine⟨h3,?_,by rw[yaN h3 hw,hk]⟩;have hkk:fW x=x.kind:=by unfold fW;rw[show(x.kind==3)=false by simpa using h3];rfl
 have e:nZ x=cK x.kind x:=by unfold nZ;rw[h3];rfl
 have e':nZ (jE x)=cK x.kind (jE x):=by unfold nZ;rw[show((jE x).kind !=3)=true from h3];rfl
 rw[e'];rw[e]at hw;rcases iV hw with⟨h,_⟩|⟨h,_⟩|⟨h,_,_⟩;all_goals
  rw[←hw]
  unfold cK jE
  rw[hkk,h];rfl
theorem yaR{l:List Fact}(hv:∀f∈l,fR f=0):(cntF l).Pairwise fun a b=>bT a<bT b:=by
 rw[yai hv,List.pairwise_filterMap];refine(K5 l l.length (Nat.le_refl _)).1.imp fun {a b} h x hx y hy=>?_
 rw[(yah hv hx).2.2,(yah hv hy).2.2];exact h
theorem yba{m:List Fact}(hv:∀f∈m,fR f=0){g:Fact}(hg:g∈cntF m):cntF (m++ [wdF g])=(cntF m).filter fun x=> !yaa x g:=by
 have hg2:=hg;rw[yai hv]at hg2;obtain⟨k,hk,hkg⟩:=List.mem_filterMap.1 hg2;obtain⟨g3,gw,gk⟩:=yah hv hkg;have V8:∀f∈m++ [wdF g],fR f=0:=fun f hf=>by
  rcases List.mem_append.1 hf with hf|hf
  ·exact hv f hf
  rw[List.mem_singleton.1 hf];exact yaZ g3 gw
 have hks:fV (m++ [wdF g]) (m++ [wdF g]).length=fV m m.length:=by unfold fV;rw[List.take_length,List.take_length,List.foldl_append];rfl
 have hkw:=(ya0 g3 gw).2;rw[gk]at hkw;rw[yai V8,yai hv,hks,List.filter_filterMap];congr 1;funext k2;have V6:VH (m++ [wdF g]) k2 (wdF g)=false:=by unfold VH;simp
 have jA:∀f∈m,VH (m++ [wdF g]) k2 f=(VH m k2 f&& !(k2==k)):=fun f hf=>by
  have hs:=within_iff.1 (lK (kN (hv f hf)).2);have e:wdM (bT f) f.seq (wdF g)=(bT f==k):=by unfold wdM;rw[hkw,show decide ((wdF g).seq≥f.seq)=true from decide_eq_true hs.2,Bool.and_true];rw[Bool.eq_iff_iff];simp only [beq_self_eq_true,Bool.true_and,beq_iff_eq];exact⟨fun h=>(List.append_cancel_left h).symm,fun h=>by rw[h]⟩
  unfold VH AT;rw[List.any_append,show [wdF g].any (wdM (bT f) f.seq)=(bT f==k) by simp[e]]
  cases h1:bT f !=k2 with
  |true=>simp
  |false=>
   have h1:bT f=k2:=by simpa using h1
   rw[h1]
   cases(k2==k) <;> simp
 have Z4:∀x,x∈kO (m++ [wdF g]) k2 (m++ [wdF g]).length↔x∈kO m k2 m.length∧k2≠k:=fun x=>by
  rw[yag,yag];constructor
  ·rintro⟨⟨h1,h2⟩,h3⟩;rcases List.mem_append.1 h1 with h1|h1
   ·rw[jA x h1]at h2;simp only [Bool.and_eq_true,Bool.not_eq_true',beq_eq_false_iff_ne]at h2;exact⟨⟨⟨h1,h2.1⟩,fun y hy hr=>h3 y (List.mem_append_left _ hy) (by rw[jA y hy,hr];simpa using h2.2)⟩,h2.2⟩
   rw[List.mem_singleton.1 h1,V6]at h2;cases h2
  rintro⟨⟨⟨h1,h2⟩,h3⟩,h4⟩;refine⟨⟨List.mem_append_left _ h1,by rw[jA x h1,h2];simpa using h4⟩,fun y hy hr=>?_⟩;rcases List.mem_append.1 hy with hy|hy
  ·rw[jA y hy]at hr;exact h3 y hy (ybt hr).1
  rw[List.mem_singleton.1 hy,V6]at hr;cases hr
 refine Option.ext fun y=>?_
 rw[yad V8,Option.filter_eq_some_iff,yad hv];simp only [Z4];by_cases h:k2=k
 ·subst h;constructor
  ·rintro⟨x,⟨_,fJ⟩,_⟩;exact absurd rfl fJ
  rintro⟨hy,hs⟩;have hy:=(yad hv).2 hy;rw[hkg]at hy
  cases hy
  rw[yaf]at hs;cases hs
 constructor
 ·rintro⟨x,⟨hx,_⟩,rfl,aIZ⟩;have QO:∃z∈kO m k2 m.length,jE x=jE z∧∀y∈kO m k2 m.length,dR y≤dR z:=⟨x,hx,rfl,fun y hy=>aIZ y ⟨hy,h⟩⟩;refine⟨QO,?_⟩
  cases hs:yaa (jE x) g with
  |false=>rfl
  |true=>have e:=(yah hv ((yad hv).2 QO)).2.2;rw[yau hs,gk]at e;exact absurd e.symm h
 rintro⟨⟨x,hx,rfl,aIZ⟩,_⟩;exact⟨x,⟨hx,h⟩,rfl,fun y hy=>aIZ y hy.1⟩
theorem yaM{l:List Fact}(hp:l.Pairwise fun a b=>bT a<bT b){g:Fact}(hg:g∈l):(l.filter fun x=> !yaa x g).length+1=l.length:=by
 induction l with
 |nil=>cases hg
 |cons a l ih=>
  obtain⟨h1,h2⟩:=List.pairwise_cons.1 hp
  cases hs:yaa a g with
  |true=>
   have e:=yau hs;rw[List.filter_cons_of_neg (by simp[hs]),List.filter_eq_self.2 fun x hx=>?_]
   ·rfl
   cases hx2:yaa x g with
   |false=>rfl
   |true=>have:=h1 x hx;rw[yau hx2,e]at this;exact absurd this (List.lt_irrefl _)
  |false=>
   rw[List.filter_cons_of_pos (by simp[hs])];rcases List.mem_cons.1 hg with rfl|hg
   ·rw[yaf]at hs;cases hs
   simpa using ih h2 hg
theorem yaT{q:Fact→Bool}{l:List Fact}{i:Nat}(h:i<l.length)(hq:q (l.getD i default)=true):((l.take i).filter q).length<(l.filter q).length∧(l.filter q).getD ((l.take i).filter q).length default=l.getD i default:=by
 have e:l.filter q=(l.take i).filter q++(l.getD i default)::((l.drop (i+1)).filter q):=by
  conv=>lhs;rw[←List.take_append_drop i l,List.filter_append,List.drop_eq_getElem_cons h]
  rw[aX h]at hq;rw[List.filter_cons_of_pos hq,aX h]
 rw[e];refine⟨sM,?_⟩;rw[List.getD_eq_getElem?_getD,List.getElem?_append_right (Nat.le_refl _),Nat.sub_self];rfl
abbrev yas(s:Stmt):List SV:=[.d (dI s.month),.d (dI s.over),.d (dI s.fG),.d (dI s.total),.d (x0 s.Y4),.d (xZ s.aO1),.d (b5 s.aP1)]
theorem ya1(s:Stmt)(h1:s.Y4.length≤1000000)(h2:s.aO1.length≤1000000)(h3:s.aP1.length≤1000000):aF prog 12 [ybo s,ybo s] (vB true):=by
 refine eW func12 rfl rfl call12 rfl rfl (fun cx aA=>?_);refine sX aA (AW.seq (sX aA ?_));repeat refine aR ?_
 refine bR (aE0 s.aP1 oM) ?_;repeat refine aR ?_
 refine AW.cond (aI (fun h=>?_) (fun _=>AW.skip ?_))
 ·have h:(((((((s.month !=s.month)||(s.over !=s.over))||(s.fG !=s.fG))||(s.total !=s.total))||((s.Y4.length:Int) !=s.Y4.length))||((s.aO1.length:Int) !=s.aO1.length))|| !true)=true:=h;simp at h
 refine AW.cut (σ':=⟨[(2,.s (.ptr 2 0)),(3,.s (.ptr 3 0))],[(2,some (.cells (yas s))),(3,some (.cells (yas s)))]⟩) ?_ ?_
 ·refine sX aA (AW.block ?_);refine AW.cG (fun i:Nat=>⟨[(2,.s (.ptr 2 0)),(3,.s (.ptr 3 0)),(5,vI i)],[(2,some (.cells (yas s))),(3,some (.cells (yas s)))]⟩) (fun i=>i≤s.Y4.length) (fun i=>s.Y4.length - i) 0 (Nat.zero_le _) (aM.bD aA [] rfl ⟨bQ,bQ,oO⟩ ⟨qZ,qZ,qZ,oO⟩) ?_;intro i hi;refine sX aA (aI (fun h=>?_) (fun h=>⟨rfl,aM.bD aA [] rfl ⟨bQ,bQ,oO⟩ ⟨qZ,qZ,oO⟩⟩));have h:(i:Int)<s.Y4.length:=bG h;have ew:aW ((i:Int)+1)=((i+1:Nat):Int):=aG oM oM;refine AW.seq (AW.block (sX aA ?_));refine oi ⟨oM,oM⟩ (oi ⟨oM,oM⟩ ?_);refine aD (AW.cond ?_);refine aI (fun g=>?_) (fun _=>AW.skip ?_)
  ·have g:(!((s.Y4.getD i default).aN.toList==(s.Y4.getD i default).aN.toList&&((s.Y4.getD i default).iZ==(s.Y4.getD i default).iZ&&((s.Y4.getD i default).GZ==(s.Y4.getD i default).GZ&&((s.Y4.getD i default).I3==(s.Y4.getD i default).I3&&true)))))=true:=g;simp at g
  exact eX aA ⟨i+1,oM,oM,aM.bD aA [] rfl ⟨bQ,bQ,oO⟩ ⟨qZ,qZ,⟨rfl,aU.int ew⟩,oO⟩⟩
 refine AW.cut (σ':=⟨[],[]⟩) ?_ ?_
 ·refine sX aA (AW.block ?_);refine AW.cG (fun i:Nat=>⟨[(2,.s (.ptr 2 0)),(3,.s (.ptr 3 0)),(6,vI i)],[(2,some (.cells (yas s))),(3,some (.cells (yas s)))]⟩) (fun i=>i≤s.aO1.length) (fun i=>s.aO1.length - i) 0 (Nat.zero_le _) (aM.bD aA [] rfl ⟨bQ,bQ,oO⟩ ⟨qZ,qZ,qZ,oO⟩) ?_;intro i hi;refine sX aA (aI (fun h=>?_) (fun h=>⟨rfl,aM.bD aA [] rfl trivial trivial⟩));have h:(i:Int)<s.aO1.length:=bG h;have ew:aW ((i:Int)+1)=((i+1:Nat):Int):=aG oM oM;refine AW.seq (AW.block (sX aA ?_));refine oi ⟨oM,oM⟩ (oi ⟨oM,oM⟩ ?_);refine aD (AW.cond ?_);refine aI (fun g=>?_) (fun _=>AW.skip ?_)
  ·have g:(!((s.aO1.getD i default).eS.toList==(s.aO1.getD i default).eS.toList&&((s.aO1.getD i default).I3==(s.aO1.getD i default).I3&&true)))=true:=g;simp at g
  exact eX aA ⟨i+1,oM,oM,aM.bD aA [] rfl ⟨bQ,bQ,oO⟩ ⟨qZ,qZ,⟨rfl,aU.int ew⟩,oO⟩⟩
 exact eX aA (aC.refl _)
theorem ZR.gen{p:Proj}{l:List Fact}(hk:FOK p l)(M:Int):ZR (cntF l) M:=ZR.of (x4 hk).len (yaQ hk.fmt M)
theorem yaI(p:Proj)(l:List Fact)(M:Nat)(hp:p.fits)(hf:∀f∈l,f.fits)(hl:l.length≤9223372036854775807)(he:j6 p l M 1=0):
  aF prog 11 [oR p,cJ l,vI M] (.t [.g [.d (dI M),.d (dI (OW p l M).over),.d (dI (OW p l M).fG),.d (dI (OW p l M).total),.d (x0 (OW p l M).Y4),.d (xZ (OW p l M).aO1),.d (b5 (OW p l M).aP1)],.s (.d (dI 0))]):=by
 obtain⟨hk,_⟩:=tL he
 have hS:=x4 hk
 exact aGO p l M hp hf hl he (ZR.gen hk M) (ybv p (cntF l) M (sK p (cntF l) M) hp (PV.of hk.proj) (by have:=hS.len;omega) (by show(lE p (cntF l) M).length=_;unfold lE;simp))
theorem ybe{l:List Fact}{n:Int}(h:HD l n=false):l.length≤n∧∀f∈l,f.levels.length≤1000000:=by unfold HD at h;rw[Bool.or_eq_false_iff]at h;have h1:=of_decide_eq_false h.1;refine⟨oM,fun f hf=>?_⟩;have:=List.any_eq_false.1 h.2 f hf;simp only [KX,Bool.or_eq_true,decide_eq_true_eq,not_or]at this;omega
theorem yap{l:List Fact}(hv:∀f∈l,fR f=0)(hf:∀f∈l,f.fits):∀f∈cntF l,f.fits:=by
 intro f h;obtain⟨_,_,_,g,hg,rfl,_⟩:=N4 hv h;have hw:=hf g hg;have z:(bs []).size≤9223372036854775807:=dC;refine⟨?_,?_,?_,?_⟩
 ·show(bif g.kind==0 then g.levels else []).length≤_
  cases g.kind==0
  ·exact Nat.zero_le _
  exact hw.levels
 ·show(bif g.kind==1 then g.aN else bs []).size≤_
  cases g.kind==1
  ·exact z
  exact hw.aN
 ·show(bif g.kind==1 then g.dN else bs []).size≤_
  cases g.kind==1
  ·exact z
  exact hw.dN
 show(bif fW g==0||fW g==1 then bs []else g.eS).size≤_
 cases fW g==0||fW g==1
 ·exact hw.eS
 exact z
theorem yaO(n:Int){d:Nat}(hd:0<d)(h2:d≤1000000):∃k:Nat,k<d∧aF prog 8 [vI n,vI d] (vI k):=by
 have h3:=Int.tmod_lt_of_pos n (show(0:Int)<d by omega);have h4:=Int.lt_tmod_of_pos n (show(0:Int)<d by omega);by_cases h:n.tmod d<0
 ·refine⟨(n.tmod d+d).toNat,oM,?_⟩;refine eP func8 rfl rfl call8 rfl rfl fun cx aA=>oi (show(d:Int)≠0 by omega) (aI (fun _=>?_) (fun g=>absurd h (of_decide_eq_false g)))
  refine aC.of_eq (congrArg vI (show aW (n.tmod d+d)=_ from ?_));rw[aG oM oM];omega
 refine⟨(n.tmod d).toNat,oM,?_⟩;refine eP func8 rfl rfl call8 rfl rfl fun cx aA=>oi (show(d:Int)≠0 by omega) (aI (fun g=>absurd (of_decide_eq_true g) h) (fun _=>?_))
 refine aC.of_eq (congrArg vI (show n.tmod d=_ from ?_));omega
def yae(m:List Fact)(a b:Nat):List Fact:=(m.set a (m.getD b default)).set b (m.getD a default)
theorem yat(m:List Fact)(a b:Nat):(yae m a b).length=m.length:=by unfold yae;simp
theorem yak{m:List Fact}{a b i:Nat}(ha:a<m.length)(hb:b<m.length):(yae m a b).getD i default=if i=b then m.getD a default else if i=a then m.getD b default else m.getD i default:=by
 unfold yae;simp only [List.getD_eq_getElem?_getD,List.getElem?_set,List.length_set];by_cases h1:b=i
 ·subst h1;simp[hb]
 by_cases h2:a=i
 ·subst h2;simp[h1,Ne.symm h1,ha]
 simp[h1,h2,Ne.symm h1,Ne.symm h2]
theorem yaC{l:List Fact}{x:Fact}(h:x∈l):∃i,i<l.length∧l.getD i default=x:=by obtain⟨i,hi⟩:=List.getElem?_of_mem h;obtain⟨hl,e⟩:=List.getElem?_eq_some_iff.1 hi;exact⟨i,hl,by rw[aX hl,e]⟩
theorem yaY{m:List Fact}{a b:Nat}(ha:a<m.length)(hb:b<m.length)(x:Fact):x∈yae m a b↔x∈m:=by
 have hl:=yat m a b;constructor
 ·intro h;obtain⟨i,hi,rfl⟩:=yaC h;rw[yak ha hb];split
  ·exact bP ha
  split
  ·exact bP hb
  exact bP oM
 intro h;obtain⟨i,hi,rfl⟩:=yaC h;by_cases h1:i=a
 ·have:=bP (l:=yae m a b) (i:=b) oM;rw[yak ha hb,if_pos rfl]at this;rw[h1];exact this
 by_cases h2:i=b
 ·have:=bP (l:=yae m a b) (i:=a) oM;rw[yak ha hb]at this;split at this
  ·rename_i h3;omega
  rw[if_pos rfl]at this;rw[h2];exact this
 have:=bP (l:=yae m a b) (i:=i) oM;rw[yak ha hb,if_neg h2,if_neg h1]at this;exact this
abbrev orS(p:Proj)(l:List Fact)(tn:List Int)(m:List Fact)(e:List (Nat×AV)):St:=
 ⟨[(1,cJ l),(2,iR tn),(3,.s (.ptr 3 0)),(7,.s (.own 100))]++e,[(3,some (.cells (qH p))),(100,some (.row 46 m.length 13 (nE m)))]⟩
abbrev orT(p:Proj)(l:List Fact)(tn:List Int)(m a:List Fact)(e:List (Nat×AV)):St:=
 ⟨[(1,cJ l),(2,iR tn),(3,.s (.ptr 3 0)),(7,cJ m),(11,cJ a)]++e,[(3,some (.cells (qH p)))]⟩
theorem yav(f:Nat→Nat→DV)(i b:Nat)(m:List Fact):∀c,c<13→eT f i 0 (gen 13 0 fun j=>nE m b (0+j)) i c=nE m b c:=fun c hc=>by match c,hc with|0,_|1,_|2,_|3,_|4,_|5,_|6,_|7,_|8,_|9,_|10,_|11,_|12,_=>exact if_pos rfl
theorem yao{g:Fact→Int}:∀{m:List Fact},(∀x∈m,g x=0)→oH g m=0
 |[],_=>rfl
 |a::m,h=>by rw[xS,h a (List.mem_cons_self ..)];exact yao fun x hx=>h x (List.mem_cons_of_mem _ hx)
theorem yaS{p:Proj}{l m:List Fact}(he:iI p l=0)(h:∀x,x∈m↔x∈l)(hl:m.length≤100):iI p m=0:=by
 have hk:=YW he;have h0:oH (JB p) l=0:=by unfold iI at he;rw[hk.proj,decide_eq_false (by have:=hk.len;omega)]at he;exact he
 unfold iI;rw[hk.proj,decide_eq_false oM,yao fun x hx=>E2 h0 x ((h x).1 hx)];rfl
theorem yaL{p:Proj}{l:List Fact}{f:Fact}(he:iI p l=0)(hf:JB p f=0)(hl:l.length≤99):iI p (l++ [f])=0:=by
 have hk:=YW he;have h0:oH (JB p) l=0:=by unfold iI at he;rw[hk.proj,decide_eq_false (by have:=hk.len;omega)]at he;exact he
 unfold iI;rw[hk.proj,decide_eq_false (by simp;omega),yao fun x hx=>?_]
 ·rfl
 rcases List.mem_append.1 hx with hx|hx
 ·exact E2 h0 x hx
 rw[List.mem_singleton.1 hx];exact hf
theorem ybg{p:Proj}{l:List Fact}(hg:vC p=false)(hk:FOK p l)(M:Nat):(OW p l M).Y4.length≤1000000∧(OW p l M).aO1.length≤1000000∧(OW p l M).aP1.length≤1000000:=by have h1:=LS p (G3 p (cntF l) M) p.gr.bK.length;have h2:=aB0 p (cntF l) M (sK p (cntF l) M) p.cU.length;have h3:=DY p (cntF l) M p.aT.levels.length;have hc:=(PV.of hk.proj).cells;simp only [vC,gr0,Bool.or_eq_false_iff,decide_eq_false_iff_not]at hg;exact⟨by show(gB ..).length≤_;omega,by show(M6 ..).length≤_;omega,by show(gY ..).length≤_;omega⟩
theorem ya6{p:Proj}{l m:List Fact}{g:Fact}(hk:FOK p l)(hf:∀f∈l,f.fits)(oW:p.fits)(hmf:∀f∈m,f.fits)(hmm:∀x,x∈m↔x∈l)(hml:m.length≤21)(I9:cntF m=cntF l)(hem:iI p m=0)(hg:g∈cntF l):
  aF prog 9 [oR p,cJ (m++ [wdF g])] (.t [.s (.d (RN ((cntF l).filter fun x=> !yaa x g))),.s (.d (dI 0))]):=by
 have hmv:∀f∈m,fR f=0:=fun f hf'=>hk.fmt f ((hmm f).1 hf')
 have hg':=hg
 rw[yai hk.fmt]at hg'
 obtain⟨k,_,hkg⟩:=List.mem_filterMap.1 hg'
 obtain⟨g3,gw,_⟩:=yah hk.fmt hkg
 have hgf:=yap hk.fmt hf g hg
 have hw:JB p (wdF g)=0:=by unfold JB;rw[yaZ g3 gw];rfl
 have h:=yan p (m++ [wdF g]) oW (fun f h=>by
  rcases List.mem_append.1 h with h|h
  ·exact hmf f h
  rw[List.mem_singleton.1 h];exact⟨Nat.zero_le _,Nat.zero_le _,Nat.zero_le _,hgf.eS⟩) (by simp;omega) (yaL hem hw oM)
 rw[yba hmv (I9▸hg),I9]at h
 exact h
theorem ProjectOrder(p:Proj)(l:List Fact)(tn:List Int)(hp:p.okk)(hf:∀f∈l,f.fits)(hl:l.length≤9223372036854775807)(ht:tn.length≤9223372036854775807):aF prog 3 [oR p,cJ l,iR tn] (vB true):=by
 refine eW func3 rfl rfl call3 rfl rfl (fun cx aA=>?_);refine sX aA (AW.seq (sX aA ?_));refine aB (aI9 p) ?_;repeat refine aR ?_
 refine bR (aMW l 20 dC) ?_;repeat refine aR ?_
 refine ybh (r:=vI (iI p l)) (fun hb=>?_) ?_
 ·have hb:(!((vC p||HD l 20)||decide ((tn.length:Int)>60)))=true:=hb;simp only [Bool.not_eq_true',Bool.or_eq_false_iff]at hb;exact PM p l (hp.fits hb.1.1) hf hl
 repeat refine aR ?_
 refine AW.cond (aI (fun _=>eX aA (aB (aDP) (aC.refl _))) (fun h=>AW.skip ?_));have h:(((vC p||HD l 20)||decide ((tn.length:Int)>60))||(iI p l !=0))=false:=h;simp only [Bool.or_eq_false_iff]at h;obtain⟨⟨⟨hg,hm⟩,htn⟩,he⟩:=h;have he:iI p l=0:=by simpa using he
 have htn:=of_decide_eq_false htn;have oW:=hp.fits hg;obtain⟨hlen,aPJ⟩:=ybe hm;have hk:=YW he;refine sX aA (ob (show(0+l.length)*144≤140737488355328 by omega) ?_);refine ob (fun a c ha hc=>by match c,hc with|0,_|1,_|2,_|3,_|4,_|5,_|6,_|7,_|8,_|9,_|10,_|11,_|12,_=>rfl) (AW.ybk (UZ:=fun m:List Fact=>orS p l tn m []) (J:=fun m=>m.length=l.length∧∀x,x∈m↔x∈l) ?_ ?_)
 ·refine sX aA (AW.block ?_);refine AW.cG (fun s:Nat×List Fact=>orS p l tn s.2 [(8,vI s.1)]) (fun s=>s.1≤tn.length∧s.2.length=l.length∧∀x,x∈s.2↔x∈l) (fun s=>tn.length - s.1) (0,l) ⟨Nat.zero_le _,rfl,fun _=>Iff.rfl⟩ ?_ ?_
  ·refine aM.bD aA [(100,46)] rfl ⟨bQ,⟨rfl,aY.row (show 0+l.length=l.length by omega) fun a c ha hc=>aK.of_eq ?_⟩,oO⟩ ⟨qZ,qZ,qZ,qZ,qZ,oO⟩;unfold jM;rw[if_neg (Nat.not_lt_zero a),Nat.sub_zero]
  rintro⟨i,m⟩ ⟨hi,hml,hmm⟩;have hi:i≤tn.length:=hi;have hml:m.length=l.length:=hml;have hmm:∀x,x∈m↔x∈l:=hmm;refine AW.seq (sX aA ?_);repeat refine aR ?_
  refine AW.cond (aI (fun h=>AW.skip ?_) (fun _=>AW.exit ?_))
  ·have h:(decide ((i:Int)<tn.length)&&decide ((m.length:Int)>0))=true:=h;simp only [Bool.and_eq_true,decide_eq_true_eq]at h;obtain⟨OO,hm0⟩:=h;have ew:aW ((i:Int)+1)=((i+1:Nat):Int):=aG oM oM;have t1:=Int.tmod_lt_of_pos (i:Int) hm0;have t2:0≤(i:Int).tmod m.length:=Int.tmod_nonneg _ oM;obtain⟨b,hb,hB⟩:=yaO (tn.getD i 0) (d:=m.length) oM oM;refine AW.seq (AW.block (sX aA ?_));refine oi (show(m.length:Int)≠0 by omega) (oi ⟨oM,oM⟩ ?_);refine aB (hB) (aD ?_);obtain⟨a,ha⟩:∃a:Nat,(i:Int).tmod m.length=a:=⟨((i:Int).tmod m.length).toNat,oM⟩;have ha':a<m.length:=oM;refine AW.gR (σ':=orS p l tn m [(8,vI i),(9,vI a),(10,vI b)]) (aM.bD aA [] rfl ⟨bQ,bQ,oO⟩ ⟨qZ,qZ,qZ,qZ,qZ,⟨rfl,aU.int ha⟩,qZ,oO⟩) (eX aA ?_);refine oi ⟨oM,oM⟩ (oi (show b<m.length by omega) ?_);refine oi ⟨oM,oM⟩ (oi (show a<m.length by omega) ?_);refine oi ⟨oM,oM⟩ (ob (show a<m.length by omega) ?_);refine oi ⟨oM,oM⟩ (ob (show b<m.length by omega) ?_);refine aD (eX aA ?_);refine⟨(i+1,yae m a b),⟨by show i+1≤tn.length;omega,(yat m a b).trans hml,fun x=>(yaY ha' hb x).trans (hmm x)⟩,by show tn.length - (i+1)<tn.length - i;omega,?_⟩;refine aM.bD aA [] rfl ⟨bQ,⟨rfl,aY.row (yat m a b).symm fun x c hx hc=>aK.of_eq ?_⟩,oO⟩ ⟨qZ,qZ,qZ,qZ,⟨rfl,aU.int ew⟩,oO⟩;have hc:c<13:=hc;show eT (eT (nE m) a 0 (gen 13 0 fun j=>nE m b (0+j))) b 0 (gen 13 0 fun j=>nE m a (0+j)) x c=J0 ((yae m a b).getD x default) c;rw[yak ha' hb];by_cases h1:x=b
   ·rw[if_pos h1,h1,yav _ _ _ _ c hc];rfl
   rw[if_neg h1,tG h1];by_cases h2:x=a
   ·rw[if_pos h2,h2,yav _ _ _ _ c hc];rfl
   rw[if_neg h2,tG h2];rfl
  exact⟨rfl,m,⟨hml,hmm⟩,aM.bD aA [] rfl ⟨bQ,bQ,oO⟩ ⟨qZ,qZ,qZ,qZ,oO⟩⟩
 rintro m ⟨hml,hmm⟩;refine AW.ybk (UZ:=fun m:List Fact=>orS p l tn m []) (J:=fun m=>m.length≤21∧∀x,x∈m↔x∈l) ?_ ?_
 ·refine sX aA ?_;repeat refine aR ?_
  refine AW.cond (aI (fun h=>?_) (fun _=>AW.skip ⟨rfl,m,⟨oM,hmm⟩,aM.bD aA [] rfl ⟨bQ,bQ,oO⟩ ⟨qZ,qZ,qZ,qZ,oO⟩⟩));have h:(decide ((m.length:Int)>0)&&decide ((tn.length:Int)>0))=true:=h;simp only [Bool.and_eq_true,decide_eq_true_eq]at h;obtain⟨hm0,ht0⟩:=h;obtain⟨b,hb,hB⟩:=yaO (tn.getD 0 0) (d:=m.length) oM oM;refine eX aA (oi ⟨oM,oM⟩ ?_);refine aB (hB) (oi ⟨oM,oM⟩ ?_);refine oi (show b<m.length by omega) (ob (show(m.length+1)*144≤140737488355328 by omega) ?_);refine ob (fun a c ha hc=>by match a,ha,c,hc with|0,_,0,_|0,_,1,_|0,_,2,_|0,_,3,_|0,_,4,_|0,_,5,_|0,_,6,_|0,_,7,_|0,_,8,_|0,_,9,_|0,_,10,_|0,_,11,_|0,_,12,_=>rfl) ?_;refine⟨rfl,m++ [m.getD b default],⟨by simp;omega,fun x=>?_⟩,?_⟩
  ·rw[List.mem_append,List.mem_singleton,←hmm];exact⟨fun h=>h.elim id fun h=>by rw[h];exact bP hb,.inl⟩
  refine aM.bD aA [(100,102)] rfl ⟨bQ,⟨rfl,(iJ.snoc (el:=J0) (iJ.refl (l:=m)) fun j hj=>?_).row⟩,oO⟩ ⟨qZ,qZ,qZ,qZ,oO⟩
  match j,hj with|0,_|1,_|2,_|3,_|4,_|5,_|6,_|7,_|8,_|9,_|10,_|11,_|12,_=>rfl
 rintro m ⟨hml,hmm⟩;have hmf:∀f∈m,f.fits:=fun f hf'=>hf f ((hmm f).1 hf')
 have hmv:∀f∈m,fR f=0:=fun f hf'=>hk.fmt f ((hmm f).1 hf')
 have I9:cntF m=cntF l:=ya2 hmv hmm;have hem:iI p m=0:=yaS he hmm oM;have hem2:∀M:Int,j6 p m M 1=j6 p l M 1:=fun M=>by unfold j6;rw[he,hem]
 have vA:(cntF l).length≤l.length:=by unfold cntF;rw[List.length_map];exact OZ l
 have hSame:=ybp (cntF l) (yap hk.fmt hf) oM;have hC1:=yan p l oW hf hl he;have hC2:=yan p m oW hmf oM hem;rw[I9]at hC2;have jO:∀M:Nat,OW p m M=OW p l M:=fun M=>by unfold OW;rw[I9]
 have hsl:∀M:Nat,(OW p l M).Y4.length≤1000000∧(OW p l M).aO1.length≤1000000∧(OW p l M).aP1.length≤1000000:=fun M=>ybg hg hk M
 have hS1:=fun (M:Nat) (hM:j6 p l M 1=0)=>yaI p l M oW hf hl hM
 have hS2:=fun (M:Nat) (hM:j6 p l M 1=0)=>yaI p m M oW hmf oM ((hem2 M).trans hM)
 have hmo:∀M:Nat,1≤M→M≤3→j6 p l M 1=0:=fun M h1 h2=>by unfold j6;rw[he,show within (M:Int) 1 24=true from within_iff.2 oM];rfl
 have hwd:=fun g (hg:g∈cntF l)=>ya6 hk hf oW hmf hmm hml I9 hem hg
 have aL4:=yaR hk.fmt;have hcf:=yap hk.fmt hf;simp only [jO]at hS2;generalize cntF l=a at hSame hC1 hC2 vA hwd aL4 hcf;refine AW.XE (σ':=⟨[(1,cJ l),(2,iR tn),(3,.s (.ptr 3 0)),(7,cJ m)],[(3,some (.cells (qH p)))]⟩) (pI.of aA [] [100] rfl rfl rfl ⟨⟨rfl,hI.rfl⟩,oO⟩ ⟨⟨rfl,b7.rfl⟩,⟨rfl,b7.rfl⟩,⟨rfl,b7.rfl⟩,⟨rfl,b7.own (List.mem_singleton.2 rfl) rfl⟩,oO⟩) (sX aA ?_);refine aB (hC1) (sX aA ?_);refine aB (hC2) (AW.seq (sX aA ?_));repeat refine aR ?_
 refine bR (hSame) ?_;repeat refine aR ?_
 refine AW.cond (aI (fun h=>by cases h) (fun _=>AW.skip ?_));refine AW.cut (σ':=orT p l tn m a []) ?_ ?_
 ·refine sX aA (AW.block ?_);refine AW.cG (fun i:Nat=>orT p l tn m a [(15,vI i)]) (fun i=>1≤i∧i≤4) (fun i=>4 - i) 1 ⟨oM,oM⟩ (aM.bD aA [] rfl ⟨bQ,oO⟩ ⟨qZ,qZ,qZ,qZ,qZ,qZ,oO⟩) ?_;rintro i ⟨OO,hi2⟩;refine sX aA (aI (fun h=>?_) (fun h=>?_))
  ·have h:(i:Int)≤3:=bG h;have hM:=hmo i OO oM;have ew:aW ((i:Int)+1)=((i+1:Nat):Int):=aG oM oM;obtain⟨l1,l2,l3⟩:=hsl i;have hSS:=ya1 (OW p l i) l1 l2 l3;have hS1:aF prog 11 [oR p,cJ l,vI i] (.t [.g (yas (OW p l i)),.s (.d (dI 0))]):=hS1 i hM;have hS2:aF prog 11 [oR p,cJ m,vI i] (.t [.g (yas (OW p l i)),.s (.d (dI 0))]):=hS2 i hM;generalize OW p l i=st at hSS hS1 hS2;refine AW.seq (AW.block (sX aA ?_));refine aB (hS1) (sX aA ?_);refine aB (hS2) (sX aA ?_);repeat first|refine oi trivial ?_|refine sk ?_|refine st ?_|refine sg ?_|refine sh ?_|refine su ?_|refine sn1 ?_|refine sn0 ?_
   refine bR (hSS) ?_;repeat first|refine oi trivial ?_|refine sk ?_|refine st ?_|refine sg ?_|refine sh ?_|refine su ?_|refine sn1 ?_|refine sn0 ?_
   refine AW.cond (aI (fun h=>by cases h) (fun _=>AW.skip ?_));exact eX aA ⟨i+1,⟨oM,oM⟩,oM,aM.bD aA [] rfl ⟨bQ,oO⟩ ⟨qZ,qZ,qZ,qZ,qZ,⟨rfl,aU.int ew⟩,oO⟩⟩
  have h:¬(i:Int)≤3:=bF h;exact⟨rfl,aM.bD aA [] rfl ⟨bQ,oO⟩ ⟨qZ,qZ,qZ,qZ,qZ,oO⟩⟩
 refine AW.seq (sX aA ?_);repeat refine aR ?_
 refine AW.cond (aI (fun _=>eX aA (aB (aDP) (aC.refl _))) (fun h=>AW.skip ?_));have h:(((a.length:Int)==0)||((tn.length:Int)==0))=false:=h;simp only [Bool.or_eq_false_iff,beq_eq_false_iff_ne,ne_eq]at h;obtain⟨ha0,ht0⟩:=h;obtain⟨b,hb,hB⟩:=yaO (tn.getD 0 0) (d:=a.length) oM oM;obtain⟨g,hgg⟩:∃g,a.getD b default=g:=⟨_,rfl⟩;have hga:g∈a:=by rw[←hgg];exact bP hb
 have hW:=hwd g hga;have hfo:=yaM aL4 hga;have hfa:=fun i (hi:i<a.length)=>yaT (q:=fun x=> !yaa x g) (l:=a) (i:=i) hi
 refine sX aA (oi ⟨oM,oM⟩ ?_);refine aB (hB) (oi ⟨oM,oM⟩ ?_);refine AW.gR (σ':=⟨[(1,cJ l),(2,iR tn),(3,.s (.ptr 3 0)),(7,cJ m),(11,cJ a),(20,.s (.ptr 20 0))],[(3,some (.cells (qH p))),(20,some (.cells (xT g)))]⟩) (aM.bD aA [] rfl ⟨bQ,⟨rfl,aY.cells ⟨?_,?_,?_,?_,?_,?_,?_,?_,?_,?_,?_,?_,?_,oO⟩⟩,oO⟩ ⟨qZ,qZ,qZ,qZ,qZ,qZ,oO⟩) ?_;iterate 13 exact aU.of_eq (by rw[←hgg];rfl)
 refine sX aA (ob (show(0+m.length)*144≤140737488355328 by omega) ?_);refine ob (fun a c ha hc=>by match c,hc with|0,_|1,_|2,_|3,_|4,_|5,_|6,_|7,_|8,_|9,_|10,_|11,_|12,_=>rfl) (ob (show(0+m.length+1)*144≤140737488355328 by omega) ?_);refine ob (fun a c ha hc=>by match a,ha,c,hc with|0,_,0,_|0,_,1,_|0,_,2,_|0,_,3,_|0,_,4,_|0,_,5,_|0,_,6,_|0,_,7,_|0,_,8,_|0,_,9,_|0,_,10,_|0,_,11,_|0,_,12,_=>rfl) (aD ?_);refine AW.seq (ex.sound (rc:=[2000009]) aJ mix aA _ ?_);refine⟨[190],_,hW.conv ?_,?_⟩
 ·refine⟨⟨aK.refl _,aK.refl _,aK.refl _,aK.refl _,aK.refl _,aK.refl _,aK.refl _,aK.refl _,aK.refl _,aK.refl _,aK.refl _,aK.refl _,aK.refl _,aK.refl _,aK.refl _,aK.refl _,aK.refl _,aK.refl _,aK.refl _,aK.refl _,oO⟩,?_,oO⟩;refine aK.wE (show 0+m.length+1=(m++ [wdF g]).length by simp) fun x c hx hc=>?_
  have hc:c<13:=hc;have hx:x<0+m.length+1:=hx;unfold jM;by_cases h1:x<m.length
  ·rw[if_pos oM,if_neg (Nat.not_lt_zero x)];refine aK.of_eq ?_;show J0 (m.getD (x - 0) default) c=J0 ((m++ [wdF g]).getD x default) c;rw[Nat.sub_zero,List.getD_eq_getElem?_getD,List.getD_eq_getElem?_getD,List.getElem?_append_left h1]
  obtain rfl:x=m.length:=oM;rw[if_neg oM,show m.length - (0+m.length)=0 by omega];show aK _ (J0 ((m++ [wdF g]).getD m.length default) c);rw[List.getD_eq_getElem?_getD,List.getElem?_concat_length]
  match c,hc with
  |0,_|1,_|2,_|3,_|4,_|5,_|6,_|7,_|8,_|9,_|10,_|11,_=>exact aK.refl _
  |12,_=>exact aK.nil
 refine AW.seq (sX aA ?_);repeat refine aR ?_
 refine AW.cond (aI (fun h=>?_) (fun _=>AW.skip ?_))
 ·have h:(((a.filter fun x=> !yaa x g).length:Int) !=aW ((a.length:Int) - 1))=true:=h;rw[aG oM oM,show(((a.filter fun x=> !yaa x g).length:Nat):Int)=(a.length:Int) - 1 by omega]at h;simp at h
 generalize pV:(a.filter fun x=> !yaa x g)=cl at hfo hfa;refine sX aA (AW.cut (σ':=⟨[(3,.s (.ptr 3 0))],[(3,some (.cells (qH p)))]⟩) ?_ ?_)
 ·refine sX aA (AW.block ?_);refine AW.cG (fun i:Nat=>⟨[(3,.s (.ptr 3 0)),(11,cJ a),(20,.s (.ptr 20 0)),(22,cJ cl),(24,vI (((a.take i).filter fun x=> !yaa x g).length:Nat)),(25,vI i)],[(3,some (.cells (qH p))),(20,some (.cells (xT g)))]⟩) (fun i=>i≤a.length) (fun i=>a.length - i) 0 (Nat.zero_le _) (aM.bD aA [] rfl ⟨bQ,bQ,oO⟩ ⟨qZ,qZ,qZ,qZ,qZ,qZ,oO⟩) ?_;intro i hi;refine sX aA (aI (fun h=>?_) (fun h=>⟨rfl,aM.bD aA [] rfl ⟨bQ,oO⟩ ⟨qZ,oO⟩⟩));have h:(i:Int)<a.length:=bG h;have bC:i<a.length:=oM;have ew:aW ((i:Int)+1)=((i+1:Nat):Int):=aG oM oM;have hfl:((a.take i).filter fun x=> !yaa x g).length≤i:=Nat.le_trans (List.length_filter_le _ _) (by simp;omega);have hsu:((a.take (i+1)).filter fun x=> !yaa x g).length=((a.take i).filter fun x=> !yaa x g).length+(bif yaa (a.getD i default) g then 0 else 1):=by
   rw[List.take_add_one,List.getElem?_eq_getElem bC,List.filter_append,aX bC,List.length_append]
   cases hs:yaa a[i] g <;> simp[hs]
  have hai:=hcf _ (bP bC);refine AW.seq (AW.block (AW.seq (sX aA ?_)));refine oi ⟨oM,oM⟩ (aB (aBA (a.getD i default) g hai) ?_);refine aD (AW.cond ?_);refine aI (fun h2=>AW.exit ?_) (fun h2=>AW.skip ?_)
  ·have h2:yaa (a.getD i default) g=true:=h2;rw[h2]at hsu;refine eX aA ⟨i+1,oM,oM,?_⟩;rw[hsu];exact aM.bD aA [] rfl ⟨bQ,bQ,oO⟩ ⟨qZ,qZ,qZ,qZ,qZ,⟨rfl,aU.int ew⟩,oO⟩
  have h2:yaa (a.getD i default) g=false:=h2;rw[h2]at hsu;obtain⟨f1,f2⟩:=hfa i bC (by show(!yaa (a.getD i default) g)=true;rw[h2];rfl);refine AW.seq (sX aA ?_);refine oi ⟨oM,oM⟩ (oi ⟨oM,oM⟩ ?_);refine aB (aBA (a.getD i default) (cl.getD ((a.take i).filter fun x=> !yaa x g).length default) hai) ?_;rw[f2,yaf];refine aD (AW.cond ?_);refine aI (fun h3=>by cases h3) (fun _=>AW.skip ?_);refine eX aA (eX aA ?_);refine⟨i+1,oM,oM,?_⟩;rw[hsu];exact aM.bD aA [] rfl ⟨bQ,bQ,oO⟩ ⟨qZ,qZ,qZ,qZ,⟨rfl,aU.int (aG oM oM)⟩,⟨rfl,aU.int ew⟩,oO⟩
 exact eX aA (aB (aDP) (aC.refl _))
end Go.Pj
