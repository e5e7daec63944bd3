/- Part 9: lemmas that the proofs of this seat share; by itself it claims nothing. -/
import Derived.Test.YthpblceoeonkbaaGreatDoorPt8
set_option maxRecDepth 100000
set_option maxHeartbeats 1000000
namespace Go.Pj
open Go Go.Ax Go.Ch Go.Proofs Go.Proofs.Tryz
theorem aBR{l:List Fact}(h:HD l 25=false):l.length≤25∧∀f∈l,f.levels.length≤1000000:=by unfold HD at h;rw[Bool.or_eq_false_iff]at h;have h1:=of_decide_eq_false h.1;refine⟨oM,fun f hf=>?_⟩;have:=List.any_eq_false.1 h.2 f hf;simp only [KX,Bool.or_eq_true,decide_eq_true_eq,not_or]at this;omega
abbrev lim(n:Nat):Prop:=n≤9223372036854775807
theorem aGY:Rd prog 116 2 (fun p:Int×Int=>[.d (dI p.1),.d (dI p.2)]) (fun _=>True):=
 (fI underlying116 rfl kR (aS rfl rI (aS rfl rI jN))).to (fun a=>(a.1,a.2.1)) (fun _=>rfl) (fun _ _=>trivial)
theorem aKZ:Rd prog 118 5 (fun s:lI=>[.d (dS s.name),.d (dI s.run),.d (dI s.aF5),.d (dI s.num),.d (dI s.den)]) (fun s=>lim s.name.size):=
 (fI underlying118 rfl kR (aS rfl rS (aS rfl rI (aS rfl rI (aS rfl aGY jN))))).to (fun a=>⟨a.1,a.2.1,a.2.2.1,a.2.2.2.1.1,a.2.2.2.1.2⟩) (fun _=>rfl) (fun _ h=>h.1)
theorem aIB:Rd prog 29 1 (fun l:List lI=>[.d (kV l)]) (fun l=>lim l.length∧∀a∈l,lim a.name.size):=
 kF underlying29 kR aKZ dC aGU (fun _=>rfl) (fun a j hj=>by match j,hj with|0,_|1,_|2,_|3,_|4,_=>rfl)
theorem aIC:Rd prog 120 2 (fun s:sC=>[.d (dI s.top),.d (dS s.aN)]) (fun _=>True):=
 (fI underlying120 rfl kR (aS rfl rI (aS rfl rS jN))).to (fun a=>⟨a.1,a.2.1⟩) (fun _=>rfl) (fun _ _=>trivial)
theorem aEZ:Rd prog 63 1 (fun l:List sC=>[.d (mN l)]) (fun l=>lim l.length∧∀a∈l,True):=
 kF underlying63 kR aIC dC aLM (fun _=>rfl) (fun a j hj=>by match j,hj with|0,_|1,_=>rfl)
theorem aOO:Rd prog 65 4 (fun s:fS=>[.d (dS s.name),.d (dI s.x),.d (dI s.y),.d (mN s.bB)]) (fun s=>lim s.name.size∧lim s.bB.length):=
 (fI underlying65 rfl kR (aS rfl rS (aS rfl rI (aS rfl rI (aS rfl aEZ jN))))).to (fun a=>⟨a.1,a.2.1,a.2.2.1,a.2.2.2.1⟩) (fun _=>rfl) (fun _ h=>⟨h.1,h.2.2.2.1.1⟩)
theorem aK7:Rd prog 30 1 (fun l:List fS=>[.d (pN l)]) (fun l=>lim l.length∧∀a∈l,lim a.name.size∧lim a.bB.length):=
 kF underlying30 kR aOO dC aNS (fun _=>rfl) (fun a j hj=>by match j,hj with|0,_|1,_|2,_|3,_=>rfl)
theorem aOI:Rd prog 122 2 (fun s:pQ=>[.d (dS s.aN),.d (dI s.vY)]) (fun _=>True):=
 (fI underlying122 rfl kR (aS rfl rS (aS rfl rI jN))).to (fun a=>⟨a.1,a.2.1⟩) (fun _=>rfl) (fun _ _=>trivial)
theorem aK2:Rd prog 33 1 (fun l:List pQ=>[.d (CG l)]) (fun l=>lim l.length∧∀a∈l,True):=
 kF underlying33 kR aOI dC aII (fun _=>rfl) (fun a j hj=>by match j,hj with|0,_|1,_=>rfl)
theorem aOE:Rd prog 173 3 (fun s:zF=>[.d (dS s.name),.d (dI s.due),.d (dI s.pen)]) (fun _=>True):=
 (fI underlying173 rfl kR (aS rfl rS (aS rfl rI (aS rfl rI jN)))).to (fun a=>⟨a.1,a.2.1,a.2.2.1⟩) (fun _=>rfl) (fun _ _=>trivial)
theorem aK0:Rd prog 34 1 (fun l:List zF=>[.d (RL l)]) (fun l=>lim l.length∧∀a∈l,True):=
 kF underlying34 kR aOE dC aH1 (fun _=>rfl) (fun a j hj=>by match j,hj with|0,_|1,_|2,_=>rfl)
theorem aOJ:Rd prog 67 6 (fun s:uF=>[.d (dS s.name),.d (dI s.OE),.d (dI s.base),.d (dI s.top),.d (b5 s.aV),.d (dI s.GZ)]) (fun s=>lim s.name.size):=
 (fI underlying67 rfl kR (aS rfl rS (aS rfl rI (aS rfl rI (aS rfl rI (aS rfl Ch.PL (aS rfl rI jN))))))).to (fun a=>⟨a.1,a.2.1,a.2.2.1,a.2.2.2.1,a.2.2.2.2.1,a.2.2.2.2.2.1⟩) (fun _=>rfl) (fun _ h=>h.1)
theorem aK3:Rd prog 35 1 (fun l:List uF=>[.d (q7 l)]) (fun l=>lim l.length∧∀a∈l,lim a.name.size):=
 kF underlying35 kR aOJ dC X0 (fun _=>rfl) (fun a j hj=>by match j,hj with|0,_|1,_|2,_|3,_|4,_|5,_=>rfl)
theorem aOP:Rd prog 124 3 (fun s:nM=>[.d (dS s.aN),.d (dI s.num),.d (dI s.den)]) (fun s=>lim s.aN.size):=
 (fI underlying124 rfl kR (aS rfl rS (aS rfl aGY jN))).to (fun a=>⟨a.1,a.2.1.1,a.2.1.2⟩) (fun _=>rfl) (fun _ h=>h.1)
theorem aK8:Rd prog 36 1 (fun l:List nM=>[.d (oY l)]) (fun l=>lim l.length∧∀a∈l,lim a.aN.size):=
 kF underlying36 kR aOP dC aNU (fun _=>rfl) (fun a j hj=>by match j,hj with|0,_|1,_|2,_=>rfl)
theorem aOM:Rd prog 32 2 (fun g:Ground=>[.d (kV g.bK),.d (pN g.cC)]) Ground.fits:=
 (fI underlying32 rfl kR (aS rfl aIB (aS rfl aK7 jN))).to (fun a=>⟨a.1,a.2.1⟩) (fun _=>rfl) (fun _ h=>⟨h.1.1,h.2.1.1,h.1.2,fun x hx=>(h.2.1.2 x hx).1,fun x hx=>(h.2.1.2 x hx).2⟩)
theorem aOL:Rd prog 24 6 (fun g:eZ=>[.d (dI g.x),.d (dI g.y),.d (dI g.side),.d (dI g.dO),.d (dI g.rows),.d (b5 g.levels)]) (fun g=>lim g.levels.length):=
 (fI underlying24 rfl kR (aS rfl rI (aS rfl rI (aS rfl rI (aS rfl rI (aS rfl rI (aS rfl Ch.PL jN))))))).to (fun a=>⟨a.1,a.2.1,a.2.2.1,a.2.2.2.1,a.2.2.2.2.1,a.2.2.2.2.2.1⟩) (fun _=>rfl) (fun _ h=>h.2.2.2.2.2.1.1)
theorem aON:Rd prog 28 5 (fun c:kE=>[.d (dS c.name),.d (x3 c.aZ),.d (dI c.over),.d (dI c.buffer),.d (zM c.regions)]) kE.ok:=
 (fI underlying28 rfl kR (aS rfl rS (aS rfl aOQ (aS rfl rI (aS rfl rI (aS rfl aK1 jN)))))).to (fun a=>⟨a.1,a.2.1,a.2.2.1,a.2.2.2.1,a.2.2.2.2.1⟩) (fun _=>rfl)
  (fun _ h=>⟨h.1,h.2.1.1,h.2.1.2,h.2.2.1,h.2.2.2.1,h.2.2.2.2.1.1,h.2.2.2.2.1.2⟩)
theorem aQF:RdA prog 38 oR Proj.okk:=
 VN (k:=20) underlying38 ((fI underlying38 rfl kR (aS rfl rS (aS rfl aOL (aS rfl aON (aS rfl aOM (aS rfl rI (aS rfl rI (aS rfl aK2 (aS rfl aK0 (aS rfl aK3 (aS rfl aK8 jN))))))))))).to
  (fun a=>(⟨a.1,a.2.1,a.2.2.1,a.2.2.2.1,a.2.2.2.2.1,a.2.2.2.2.2.1,a.2.2.2.2.2.2.1,a.2.2.2.2.2.2.2.1,a.2.2.2.2.2.2.2.2.1,a.2.2.2.2.2.2.2.2.2.1⟩:Proj)) (fun _=>rfl)
  (fun _ h=>⟨h.1,h.2.1,h.2.2.1,h.2.2.2.1,h.2.2.2.2.2.2.1.1,h.2.2.2.2.2.2.2.1.1,h.2.2.2.2.2.2.2.2.1.2,h.2.2.2.2.2.2.2.2.2.1.2⟩))
theorem aK6:Rd prog 55 13 (fun f:Fact=>[.d (dI f.kind),.d (dI f.seq),.d (dI f.a8),.d (dI f.month),.d (dI f.number),.d (dI f.aT),.d (dI f.over),.d (dI f.cls),.d (dI f.target),.d (dS f.aN),.d (dS f.dN),.d (dS f.eS),.d (b5 f.levels)]) Fact.fits:=
 (fI underlying55 rfl kR (aS rfl rI (aS rfl rI (aS rfl rI (aS rfl rI (aS rfl rI (aS rfl rI (aS rfl rI (aS rfl rI (aS rfl rI (aS rfl rS (aS rfl rS (aS rfl rS (aS rfl Ch.PL jN)))))))))))))).to
  (fun a=>(⟨a.1,a.2.1,a.2.2.1,a.2.2.2.1,a.2.2.2.2.1,a.2.2.2.2.2.1,a.2.2.2.2.2.2.1,a.2.2.2.2.2.2.2.1,a.2.2.2.2.2.2.2.2.1,a.2.2.2.2.2.2.2.2.2.1,a.2.2.2.2.2.2.2.2.2.2.1,a.2.2.2.2.2.2.2.2.2.2.2.1,a.2.2.2.2.2.2.2.2.2.2.2.2.1⟩:Fact)) (fun _=>rfl)
  (fun _ h=>⟨h.2.2.2.2.2.2.2.2.2.2.2.2.1.1,h.2.2.2.2.2.2.2.2.2.1,h.2.2.2.2.2.2.2.2.2.2.1,h.2.2.2.2.2.2.2.2.2.2.2.1⟩)
theorem aQH:Rd prog 39 1 (fun l:List Fact=>[.d (RN l)]) (fun l=>lim l.length∧∀a∈l,a.fits):=
 kF underlying39 kR aK6 dC J0 (fun _=>rfl) (fun a j hj=>by match j,hj with|0,_|1,_|2,_|3,_|4,_|5,_|6,_|7,_|8,_|9,_|10,_|11,_|12,_=>rfl)
end Go.Pj
set_option maxRecDepth 100000
set_option maxHeartbeats 20000000
namespace Go.Ax
open Go.RowKit
theorem sh{b:Bool}{q:Prop}(h:q):Q3 (b=true) (some (rL true b))∧q:=⟨fun h=>by simpa [rL]using h,h⟩
theorem ya0{P:Program}{f:FuncId}{args:List AV}{r:AV}{K:AV→Prop}{b:Bool}{X:Prop}(h:b=true→aF P f args r)(k:K r):(∃r,(b=true→aF P f args r)∧K r)∨X:=.inl ⟨r,h,k⟩
section
variable{α:Type} [Inhabited α] {s n e:Nat}{f g:Nat→Nat→DV}{el:α→Nat→DV}{l:List α}{x:α}
end
end Go.Ax
namespace Go.Pj
open Go Go.Ax Go.Ch Go.Proofs Go.Proofs.Tryz Go.Sort Go.Shelf
theorem yaO(a:Int)(w:World):Calls prog 92 #[.int .i64 a] w fun e w'=>e=.returned (.bool false)∧w'=w:=by go_enter func92,Tryz.ntmps92;go_wp2;go_ret;exact⟨rfl,rfl⟩
theorem ya2(a b:Int)(w:World):Calls prog 47 #[.int .i64 a,.int .i64 b] w fun e w'=>e=.returned (.int .i64 (aNI a b))∧w'=w:=by
 have hc:=fun a w'=>yaO a w'
 go_enter func47,Tryz.ntmps47;go_wp2_with (first|(go_at_fn 92;refine(hc _ _).mono ?_;rintro e w' ⟨rfl,rfl⟩));refine(hc _ _).mono ?_;rintro e w' ⟨rfl,rfl⟩;go_wp2_with (first|(go_at_fn 92;refine(hc _ _).mono ?_;rintro e w' ⟨rfl,rfl⟩));refine(hc _ _).mono ?_;rintro e w' ⟨rfl,rfl⟩;go_wp2;all_goals go_ret
 all_goals (refine⟨?_,rfl⟩;unfold aNI)
 all_goals first
  |(rw[if_pos (by assumption)];rfl)
  |(rw[if_neg oM,if_pos (by assumption)];rfl)
  |(rw[if_neg oM,if_neg oM];rfl)
theorem ya5(a b:Int)(g cap:Nat)(w:World)(h0:w.cell? ⟨g,0,none⟩=some (.int .i64 a))(h1:w.cell? ⟨g,1,none⟩=some (.int .i64 b)):
  Calls prog 46 #[.slice (some ⟨g,0,none⟩) 2 cap] w fun e w'=>e=.returned (.int .i64 (orI a b))∧w'=w:=by
 go_enter func46,Tryz.ntmps46
 go_wp2_with fail
 go_rounds 3
 all_goals go_ret
 all_goals (refine⟨?_,rfl⟩;unfold orI)
 ·rename_i hz;rw[hz];rfl
 ·rename_i hz;rw[show(a !=0)=false by assumption,hz];rfl
 ·rw[show(a !=0)=false by assumption,show(b !=0)=false by assumption];rfl
theorem ya6(a b:Int)(w:World)(o1 o2:Obj):
  Calls prog 46 #[.slice (some ⟨w.heap.size+1+1,0,none⟩) 2 2] (((w.alloc o1).alloc o2).alloc (.cells #[.int .i64 a,.int .i64 b] 3)).drew fun e w'=>e=.returned (.int .i64 (orI a b))∧w'=(((w.alloc o1).alloc o2).alloc (.cells #[.int .i64 a,.int .i64 b] 3)).drew:=
 by
 have hs:((w.alloc o1).alloc o2).heap.size=w.heap.size+1+1:=by show(Array.push (Array.push w.heap o1) o2).size=_;rw[Array.size_push,Array.size_push]
 have hh:((((w.alloc o1).alloc o2).alloc (.cells #[.int .i64 a,.int .i64 b] 3)).drew).heap[w.heap.size+1+1]? =some (.cells #[.int .i64 a,.int .i64 b] 3):=by rw[←hs];exact heap_alloc_new ((w.alloc o1).alloc o2) _
 exact ya5 a b _ _ _ (by simp only [World.cell?,hh];rfl) (by simp only [World.cell?,hh];rfl)
theorem ya1(m1 n1 m2 n2:Int)(w:World)(v0 v1 v2 v5 v6 v7 v8 v9 v10 v11 v12 u0 u1 u2 u5 u6 u7 u8 u9 u10 u11 u12:Value):
  Calls prog 45 #[.agg #[v0,v1,v2,.int .i64 m1,.int .i64 n1,v5,v6,v7,v8,v9,v10,v11,v12],.agg #[u0,u1,u2,.int .i64 m2,.int .i64 n2,u5,u6,u7,u8,u9,u10,u11,u12]] w fun e w'=>
   e=.returned (.int .i64 (orI (aNI m1 m2) (aNI n1 n2)))∧∃q os',w'=grow (w.drewN q) os':=by
 have hc:=fun a b w'=>ya2 a b w'
 have ho:=ya6 (aNI m1 m2) (aNI n1 n2) w (.cells #[v0,v1,v2,.int .i64 m1,.int .i64 n1,v5,v6,v7,v8,v9,v10,v11,v12] 55) (.cells #[u0,u1,u2,.int .i64 m2,.int .i64 n2,u5,u6,u7,u8,u9,u10,u11,u12] 55)
 go_enter func45,Tryz.ntmps45
 go_wp2_with fail
 go_region_with (first|(go_at_call 47;refine(hc _ _ _).mono ?_;rintro e w' ⟨rfl,rfl⟩)|(go_at_call 46;refine Calls.mono ho ?_;intro e w1 V7;obtain⟨he,V7⟩:=V7;subst he))
 all_goals go_wp2
 all_goals (try go_ret)
 all_goals first
  |exact⟨rfl,1, #[.cells #[v0,v1,v2,.int .i64 m1,.int .i64 n1,v5,v6,v7,v8,v9,v10,v11,v12] 55,.cells #[u0,u1,u2,.int .i64 m2,.int .i64 n2,u5,u6,u7,u8,u9,u10,u11,u12] 55,.cells #[.int .i64 (aNI m1 m2),.int .i64 (aNI n1 n2)] 3],rfl⟩
  |exact⟨by simp[Act.put],1, #[.cells #[v0,v1,v2,.int .i64 m1,.int .i64 n1,v5,v6,v7,v8,v9,v10,v11,v12] 55,.cells #[u0,u1,u2,.int .i64 m2,.int .i64 n2,u5,u6,u7,u8,u9,u10,u11,u12] 55,.cells #[.int .i64 (aNI m1 m2),.int .i64 (aNI n1 n2)] 3],rfl⟩
  |exact⟨rfl,1, #[.cells #[v0,v1,v2,.int .i64 m1,.int .i64 n1,v5,v6,v7,v8,v9,v10,v11,v12] 55,.cells #[u0,u1,u2,.int .i64 m2,.int .i64 n2,u5,u6,u7,u8,u9,u10,u11,u12] 55,.cells #[.int .i64 (aNI m1 m2),.int .i64 (aNI n1 n2)] 3],V7.trans rfl⟩
theorem yac(x y:Fact):ltOf cfL x y=decide (x.month<y.month∨(x.month=y.month∧x.number<y.number)):=by
 unfold ltOf cfL orI aNI;refine decide_eq_decide.2 ?_;by_cases h1:x.month<y.month
 ·simp[h1]
 by_cases h2:y.month<x.month
 ·have:x.month≠y.month:=oM;simp[h1,h2,this]
 have e:x.month=y.month:=oM;by_cases h3:x.number<y.number
 ·simp[e,h3]
 by_cases h4:y.number<x.number
 ·simp[e,h3,h4]
 simp[e,h3,h4]
theorem ya9:SWO (ltOf cfL) where
 irrefl:=fun x=>by rw[yac];simp
 trans:=fun x y z h1 h2=>by rw[yac,decide_eq_true_eq]at*;omega
 ntrans:=fun x y z h1 h2=>by rw[yac,decide_eq_false_iff_not]at*;omega
instance:Inhabited (GV J0 13):=⟨⟨(default,[.int .i64 (default:Fact).kind,.int .i64 (default:Fact).seq,.int .i64 (default:Fact).a8,.int .i64 (default:Fact).month,.int .i64 (default:Fact).number,.int .i64 (default:Fact).aT,.int .i64 (default:Fact).over,.int .i64 (default:Fact).cls,.int .i64 (default:Fact).target,.string (default:Fact).aN,.string (default:Fact).dN,.string (default:Fact).eS,.slice none 0 0]),by
 refine⟨rfl,fun v hv=>?_,fun j u hj hu=>?_⟩
 ·simp only [List.mem_cons,List.not_mem_nil,or_false]at hv;rcases hv with rfl|rfl|rfl|rfl|rfl|rfl|rfl|rfl|rfl|rfl|rfl|rfl|rfl <;> rfl
 match j,hj,hu with
 |0,_,hu|1,_,hu|2,_,hu|3,_,hu|4,_,hu|5,_,hu|6,_,hu|7,_,hu|8,_,hu|9,_,hu|10,_,hu|11,_,hu=>cases hu;rfl
 |12,_,hu=>cases hu⟩⟩
theorem yaF(blk off n:Nat)(w:World):CmpLays prog 45 #[] (fun p:GV J0 13=>p.1.2) 13 (fun p q=>cfL p.1.1 q.1.1) blk off n w:=by
 intro m os dk _ x y;generalize sortWorldK _ 13 w blk off m dk os=W;obtain⟨⟨s,vs⟩,hx⟩:=x;obtain⟨⟨t,us⟩,hy⟩:=y;have e1:=hx.len;have e2:=hy.len;have s3:=hx.val 3 (.int .i64 s.month) oM rfl;have s4:=hx.val 4 (.int .i64 s.number) oM rfl;have t3:=hy.val 3 (.int .i64 t.month) oM rfl;have t4:=hy.val 4 (.int .i64 t.number) oM rfl
 match vs,e1,us,e2,s3,s4,t3,t4 with
 |[v0,v1,v2,v3,v4,v5,v6,v7,v8,v9,v10,v11,v12],_,[u0,u1,u2,u3,u4,u5,u6,u7,u8,u9,u10,u11,u12],_,s3,s4,t3,t4=>obtain rfl:v3=.int .i64 s.month:=Option.some.inj s3;obtain rfl:v4=.int .i64 s.number:=Option.some.inj s4;obtain rfl:u3=.int .i64 t.month:=Option.some.inj t3;obtain rfl:u4=.int .i64 t.number:=Option.some.inj t4;exact ya1 s.month s.number t.month t.number W v0 v1 v2 v5 v6 v7 v8 v9 v10 v11 v12 u0 u1 u2 u5 u6 u7 u8 u9 u10 u11 u12
theorem yaw(l:List Fact)(hn:∀a∈l,∀b∈l,a.number=b.number→a=b)(l':List Fact)(hp:l'.Perm l)(hs:l'.Pairwise (fun x y=>ltOf cfL y x=false)):l'=JH l:=by
 refine List.Perm.eq_of_pairwise (le:=fun x y=>ltOf cfL y x=false) ?_ hs ?_ (hp.trans (List.mergeSort_perm _ _).symm)
 ·intro a b ha hb h1 h2;have ha:a∈l:=hp.mem_iff.1 ha;have hb:b∈l:=(List.mergeSort_perm _ _).mem_iff.1 hb;rw[yac,decide_eq_false_iff_not]at h1 h2;exact hn a ha b hb oM
 have:=List.pairwise_mergeSort (le:=fun x y:Fact=> !(ltOf cfL y x)) (fun a b c h1 h2=>by
  simp only [yac,Bool.not_eq_true',decide_eq_false_iff_not]at*;omega) (fun a b=>by
  simp only [yac,Bool.or_eq_true,Bool.not_eq_true',decide_eq_false_iff_not];omega) l
 exact this.imp fun {x y} h=>by simpa using h
theorem yaC(l:List Fact)(hn:∀a∈l,∀b∈l,a.number=b.number→a=b)(f0:Nat→Nat→DV)(SO:∀i j,i<l.length→j<13→aK (f0 i j) (nE l i j))(hl:l.length≤1000000):
  bW prog 44 [.s (.own 1001),.s (.dZ 45 [])] [(1001,.row 55 l.length 13 f0)] (.t []) [(1001,.row 55 l.length 13 (nE (JH l)))]:=
 aKD (α:=Fact) (k:=13) Tryz.aBY rfl call44 dC Tryz.isAgg55 Tryz.sizeOf55 J0 (fun t j h=>aCW t j h) cfL ya9
  (enters_of func45 kR rfl) yaF l (JH l) (yaw l hn) f0 SO hl
open Go Go.Ax Go.Ch Go.Proofs Go.Proofs.Tryz
theorem ZR.of{fs:List Fact}{m:Int}(hl:fs.length≤200)(hn:∀a∈tO fs m,∀b∈tO fs m,a.number=b.number→a=b):ZR fs m:=fun _=>
 yaC _ hn _ (fun _ _ _ _=>fun _ _ r=>r) (by have:(tO fs m).length≤fs.length:=List.length_filter_le _ _;omega)
open Go Go.Ax Go.Ch Go.Proofs Go.Proofs.Tryz
theorem yah{g:Fact}(h:g.kind=1)(hv:nZ g=0):bT g=iO [AX,Lib.itoa g.number]:=by unfold bT nH cS;rw[hv,h];rfl
theorem yaD{l:List Fact}(hv:∀f∈l,fR f=0)(m:Int):∀a∈tO (cntF l) m,∀b∈tO (cntF l) m,a.number=b.number→a=b:=by
 intro a ha b hb hn;unfold tO at ha hb;obtain⟨ha,a1⟩:=List.mem_filter.1 ha;obtain⟨hb,b1⟩:=List.mem_filter.1 hb;simp only [Bool.and_eq_true,beq_iff_eq]at a1 b1;obtain⟨k1,_,e1,g1,hg1,c1,q1⟩:=N4 hv ha;obtain⟨k2,_,e2,g2,hg2,c2,q2⟩:=N4 hv hb;have t1:g1.kind=1:=by have:=a1.1;rw[c1]at this;exact this
 have t2:g2.kind=1:=by have:=b1.1;rw[c2]at this;exact this
 have n1:a.number=g1.number:=by rw[c1];unfold jE fW;simp[t1]
 have n2:b.number=g2.number:=by rw[c2];unfold jE fW;simp[t2]
 have z1:=(kN (hv g1 hg1)).1;have z2:=(kN (hv g2 hg2)).1;have hkk:k1=k2:=by rw[←q1,←q2,yah t1 z1,yah t2 z2,←n1,←n2,hn]
 rw[e1,e2,hkk]
theorem ZR.gen{p:Proj}{l:List Fact}(hk:FOK p l)(M:Int):ZR (cntF l) M:=ZR.of (x4 hk).len (yaD hk.fmt M)
def yae(p:Proj)(fs:List Fact)(m:Int):List Fact×gK:=iM p (j8 fs m) (j8 fs m).length
def yab(l:List Fact)(i:Nat):List Int:=(l.take i).map Fact.number
theorem yaI{l:List Fact}{i:Nat}(h:i<l.length):yab l (i+1)=yab l i++ [(l.getD i default).number]:=by unfold yab;rw[List.take_add_one,List.getElem?_eq_getElem h,List.map_append,aX h];rfl
theorem yaR(l:List Fact)(i:Nat):(yab l i).length≤i:=by unfold yab;rw[List.length_map];simp;omega
theorem yaQ(l:List Fact):yab l l.length=l.map Fact.number:=by unfold yab;rw[List.take_length]
abbrev haS(H:List Fact)(y:gK)(d:List Int)(i:Nat):St:=⟨[(7,.s (.ptr 7 0)),(12,.s (.ptr 12 0)),(13,.s (.mo d.isEmpty 100)),(33,cJ H),(34,vI H.length),(35,vI i)],[(7,some (.cells (iB ty45.zero))),(12,some (.cells (uH y))),(100,some (.b8 3 d.length 1 (cP d)))]⟩
theorem yaB(p:Proj)(l:List Fact)(m:Int)(hp:p.fits)(hf:∀f∈l,f.fits)(hl:l.length≤9223372036854775807)(he:j6 p l m 0=0):
  aF prog 7 [oR p,cJ l,vI m] (.t [.s (.d (b5 ((yae p (cntF l) m).1.map Fact.number))),.g (uH (yae p (cntF l) m).2),.s (.d (dI 0))]):=by
 have hk:=(tL he).1
 have hS:=x4 hk
 have hH:=aI8 p (cntF l) m hp (PV.of hk.proj) hS.len (ZR.gen hk m)
 have hHl:(yae p (cntF l) m).1.length≤200:=by
  have h1:=BY p (j8 (cntF l) m) (j8 (cntF l) m).length;have h2:(j8 (cntF l) m).length≤(cntF l).length:=by unfold j8;rw[A5];exact List.length_filter_le _ _
  have:=hS.len;exact Nat.le_trans h1 oM
 have hH:aF prog 19 [SR p (cntF l),vI m] (.t [.s (.d (RN (yae p (cntF l) m).1)),.g (uH (yae p (cntF l) m).2)]):=hH
 generalize (yae p (cntF l) m)=r at hH hHl
 obtain⟨H,y⟩:=r
 have hHl:H.length≤200:=hHl
 refine eW func7 rfl rfl call7 rfl rfl (fun cx aA=>?_)
 refine sX aA ?_
 refine sX aA ?_
 refine aB (MP p l m 0 hp hf hl he) ?_
 refine AW.seq (sX aA ?_)
 refine AW.cond ?_
 refine aI (fun h=>by cases h) (fun _=>AW.skip ?_)
 refine sX aA ?_
 refine aB (hH) ?_
 refine sX aA ?_
 refine AW.cut (σ':=haS H y (yab H H.length) H.length) ?_ ?_
 ·refine sX aA (AW.block ?_);refine AW.cG (fun i:Nat=>haS H y (yab H i) i) (fun i=>i≤H.length) (fun i=>H.length - i) 0 (Nat.zero_le _) (aM.bD aA [(100,1000)] rfl ⟨bQ,bQ,⟨rfl,rfl⟩,oO⟩ ⟨qZ,qZ,⟨rfl,aU.nil rfl⟩,qZ,qZ,qZ,oO⟩) ?_;intro i hi;have hnl:=yaR H i;refine sX aA (AW.seq (AW.cond ?_));refine aI (fun h1=>AW.skip ?_) (fun h1=>AW.exit ?_)
  ·have h1:(i:Int)<H.length:=bG h1;have bC:i<H.length:=oM;have ew:aW ((i:Int)+1)=((i+1:Nat):Int):=aG oM oM;have hs:=yaI bC;refine AW.seq (AW.block (sX aA ?_));refine oi ⟨oM,oM⟩ (eX aA ?_);refine ob dC ?_;refine ob (by rw[dK];show((yab H i).length+1)*8≤_;omega) ?_;refine ob (nJ (AS rfl)) (eX aA ?_);refine⟨i+1,oM,oM,?_⟩;show aM _ _ _ (haS H y (yab H (i+1)) (i+1));rw[hs];exact aM.bD aA [(100,43)] rfl ⟨bQ,bQ,⟨rfl,aY.snoc (el:=fun n _=>dI n) (x:=(H.getD i default).number) (AS rfl)⟩,oO⟩ ⟨qZ,qZ,⟨rfl,aU.mo (cA _ _)⟩,qZ,qZ,⟨rfl,aU.int ew⟩,oO⟩
  have h1:¬(i:Int)<H.length:=bF h1;obtain rfl:i=H.length:=oM;exact⟨rfl,aM.bD aA [] rfl ⟨bQ,bQ,bQ,oO⟩ ⟨qZ,qZ,qZ,qZ,qZ,qZ,oO⟩⟩
 refine eX aA ?_
 rw[←yaQ]
 refine aD ?_
 exact aC.t ⟨aK.of_eq (show DV.fU (bif (yab H H.length).isEmpty then 0 else(yab H H.length).length) 1 (cP (yab H H.length))=b5 (yab H H.length) by rw[dK];rfl),⟨aK.refl _,aK.refl _,aK.refl _,aK.refl _,oO⟩,aK.refl _,oO⟩
theorem yaA(p:Proj)(l:List Fact)(m:Int)(hp:p.fits)(hf:∀f∈l,f.fits)(hl:l.length≤9223372036854775807)(he:j6 p l m 0≠0):
  aF prog 7 [oR p,cJ l,vI m] (.t [.s (.d eO),.g (iB ty45.zero),.s (.d (dI (j6 p l m 0)))]):=by
 have h1:(j6 p l m 0 !=0)=true:=by simpa using he
 refine eP func7 rfl rfl call7 rfl rfl fun cx aA=>?_
 refine aB (PR p l m 0 hp hf hl he) ?_
 refine aI (fun _=>?_) (fun h=>Bool.noConfusion (h1.symm.trans h))
 exact aC.refl _
theorem yaJ(y:gK)(b:Batch)(hl:y.bA.length≤9223372036854775807):aF prog 23 [tD y,aGJ b] (vI (R6 y b)):=by
 refine eP func23 rfl rfl call23 rfl rfl fun cx aA=>aB (cI _ _ _) ?_
 repeat refine aR ?_
 refine bR (cI _ _ _) ?_;repeat refine aR ?_
 refine bR (cI _ _ _) ?_;repeat refine aR ?_
 refine aI (fun h1=>?_) (fun h1=>?_)
 ·have h1:(!within b.number 1 1000000|| !within b.aT 0 1000000000000|| !within b.over 0 b.aT)=true:=h1;exact aC.of_eq (by unfold R6;rw[h1];rfl)
 have h1:(!within b.number 1 1000000|| !within b.aT 0 1000000000000|| !within b.over 0 b.aT)=false:=h1;refine aB (aH4 y.bA b.aN hl) (aI (fun h2=>?_) (fun h2=>?_))
 ·have h2:decide (zO y.bA b.aN<0)=true:=h2;exact aC.of_eq (by unfold R6;rw[h1,h2];rfl)
 have h2:decide (zO y.bA b.aN<0)=false:=h2;refine aB (cI _ _ _) (aI (fun h3=>?_) (fun h3=>?_))
 ·have h3:(!within b.cls 0 9)=true:=h3;exact aC.of_eq (by unfold R6;rw[h1,h2,h3];rfl)
 have h3:(!within b.cls 0 9)=false:=h3;exact aC.of_eq (by unfold R6;rw[h1,h2,h3];rfl)
theorem yaf{y:gK}{b:Batch}(h0:0≤zO y.bA b.aN):I0 y b<y.bA.length∧RA y.bA b.aN=I0 y b:=
 ⟨(yN (fun x:nM=>bE x.aN b.aN) y.bA 0 h0).2.1,by show zO y.bA b.aN=_;unfold I0;omega⟩
def yag(y:gK)(b:Batch):Int:=Int.tmod (R2 y b) (y.bA.getD (I0 y b) default).den
theorem yaz(y:gK)(b:Batch)(hl:y.bA.length≤1000000)(h0:0≤zO y.bA b.aN)(hd:(y.bA.getD (I0 y b) default).den≠0):
  aF prog 56 [tD y,aGJ b,vI (y.carry.getD (I0 y b) 0)] (.t [.s (.d (dI (q8 y b))),.s (.d (dI (yag y b)))]):=by
 obtain⟨fZ,hN⟩:=yaf h0
 refine eP func56 rfl rfl call56 rfl rfl fun cx aA=>?_
 refine aB (aH4 y.bA b.aN oM) ?_
 rw[hN]
 have e1:q8 y b=aW (Int.tdiv (R2 y b) (y.bA.getD (I0 y b) default).den):=rfl
 have e2:yag y b=Int.tmod (R2 y b) (y.bA.getD (I0 y b) default).den:=rfl
 have e3:R2 y b=aW (aW (aW (b.aT - b.over)*(y.bA.getD (I0 y b) default).num)+y.carry.getD (I0 y b) 0):=rfl
 rw[e1,e2,e3]
 generalize I0 y b=i at fZ hd
 refine oi ⟨oM,oM⟩ ?_
 refine aD ?_
 refine oi hd ?_
 refine oi hd ?_
 refine aD ?_
 exact aC.refl _
theorem yaT(p:uF)(x:Int)(hl:p.aV.length≤1000000):aF prog 106 [G1 p,vI x] (vB (p.aV.contains x)):=by
 have hc:p.aV.contains x=p.aV.any fun d=>d==x:=by rw[List.any_beq']
 rw[hc];refine eP func106 rfl rfl call106 rfl rfl fun cx aA=>AW.loop (fun i:Nat=>⟨[(1,vI x),(2,.s (.ptr 2 0)),(5,vI i),(4,.s (.d (.lit false)))],[(2,some (.cells [.d (dS p.name),.d (dI p.OE),.d (dI p.base),.d (dI p.top),.d (b5 p.aV),.d (dI p.GZ)]))]⟩) (fun i=>i≤p.aV.length∧(p.aV.any fun d=>d==x)=(p.aV.drop i).any fun d=>d==x) (fun i=>p.aV.length - i) 0 ⟨Nat.zero_le _,rfl⟩ ?_ ?_
 ·refine Sub.bD aA ⟨rQ,oO⟩ ⟨rQ,rQ,rQ,rQ,oO⟩
 rintro i ⟨hi,he⟩;refine eX aA (aI (fun h=>?_) (fun h=>?_))
 ·have h:(i:Int)<p.aV.length:=bG h;have bC:i<p.aV.length:=oM;have hd:p.aV.drop i=p.aV[i]::p.aV.drop (i+1):=List.drop_eq_getElem_cons bC;have hg:p.aV.getD i 0=p.aV[i]:=by simp[List.getD_eq_getElem?_getD,bC]
  refine oi ⟨oM,oM⟩ ?_;rw[hd,List.any_cons,←hg]at he;refine aI (fun h=>?_) (fun h=>?_)
  ·have h:(p.aV.getD i 0==x)=true:=h;exact aC.lit (by rw[he,h];rfl)
  have h:(p.aV.getD i 0==x)=false:=h;refine⟨i+1,⟨oM,by rw[he,h];rfl⟩,oM,?_⟩;exact Sub.bD aA ⟨rQ,oO⟩ ⟨rQ,rQ,⟨rfl,congrArg vI (aG oM oM)⟩,rQ,oO⟩
 have h:¬(i:Int)<p.aV.length:=bF h;have bC:i=p.aV.length:=oM;subst bC;exact aC.lit (by rw[he,List.drop_length];rfl)
theorem ya7(y:gK)(k:Nat)(hk:k<y.aQ.length)(hl:y.bH.length≤9223372036854775807):aF prog 107 [tD y,vI k] (vI (GL y (y.aQ.getD k default))):=by
 refine eP func107 rfl rfl call107 rfl rfl fun cx aA=>oi ⟨oM,oM⟩ (aB (XX (y.aQ.getD k default)) ?_)
 exact aB (aIA y k hk hl) (aD (aC.refl _))
theorem yaU(y:gK)(b:Batch)(k:Nat)(hk:k<y.aQ.length)(hy:y.small)(hl:y.bH.length≤9223372036854775807)(h0:0≤zO y.bA b.aN)(vA:y.carry.length=y.bA.length)(hd:(y.bA.getD (I0 y b) default).den≠0):
  aF prog 55 [tD y,aGJ b,vI k] (vI (JL y (y.aQ.getD k default) b.cls (q8 y b))):=by
 obtain⟨fZ,hN⟩:=yaf h0
 have hb:=yaz y b hy.bA h0 hd
 have hA:=yaT (y.aQ.getD k default) b.cls (hy.aV _ (bP hk))
 refine eP func55 rfl rfl call55 rfl rfl fun cx aA=>?_
 refine oi ⟨oM,oM⟩ ?_
 refine aB (hA) ?_
 refine aD ?_
 refine aI (fun h1=>?_) (fun h1=>?_)
 ·have h1:(!(y.aQ.getD k default).aV.contains b.cls)=true:=h1;exact aC.of_eq (by unfold JL;rw[h1];rfl)
 have h1:(!(y.aQ.getD k default).aV.contains b.cls)=false:=h1
 refine aB (aH4 y.bA b.aN (by have:=hy.bA;omega)) ?_
 rw[hN]
 generalize I0 y b=i at fZ hb
 refine oi ⟨oM,oM⟩ ?_
 refine aB (hb) ?_
 refine aD ?_
 refine aB (ya7 y k hk hl) ?_
 refine aI (fun h2=>?_) (fun h2=>?_)
 ·have h2:decide (q8 y b>GL y (y.aQ.getD k default))=true:=h2;exact aC.of_eq (by unfold JL;rw[h1,show decide (GL y (y.aQ.getD k default)<q8 y b)=true from h2];rfl)
 ·have h2:decide (q8 y b>GL y (y.aQ.getD k default))=false:=h2;exact aC.of_eq (by unfold JL;rw[h1,show decide (GL y (y.aQ.getD k default)<q8 y b)=false from h2];rfl)
def yad(y:gK)(b:Batch)(dN:ByteArray):Int:=
 bif NX y b.number then 5 else bif decide (lU y.aQ dN<0)then 6
 else bif JL y (y.aQ.getD (lU y.aQ dN).toNat default) b.cls (q8 y b) !=0 then JL y (y.aQ.getD (lU y.aQ dN).toNat default) b.cls (q8 y b)
 else bif decide ((y.bH.length:Int)≥200)then 8 else 0
theorem yaK(y:gK)(b:Batch)(dN:ByteArray)(hy:y.small)(hp:y.aQ.length≤9223372036854775807)(hl:y.bH.length≤9223372036854775807)(h0:0≤zO y.bA b.aN)(vA:y.carry.length=y.bA.length)(hd:(y.bA.getD (I0 y b) default).den≠0):
  aF prog 24 [tD y,aGJ b,vS dN] (vI (yad y b dN)):=by
 refine eP func24 rfl rfl call24 rfl rfl fun cx aA=>?_
 refine aB (S9 y.bH b.number hl) ?_
 refine aI (fun h1=>?_) (fun h1=>?_)
 ·have h1:NX y b.number=true:=h1;exact aC.of_eq (by unfold yad;rw[h1];rfl)
 have h1:NX y b.number=false:=h1
 refine aB (aAV y.aQ dN hp) ?_
 refine aI (fun h2=>?_) (fun h2=>?_)
 ·have h2:decide (lU y.aQ dN<0)=true:=h2;exact aC.of_eq (by unfold yad;rw[h1,h2];rfl)
 have h2:decide (lU y.aQ dN<0)=false:=h2
 have hp0:0≤lU y.aQ dN:=by
  have:¬lU y.aQ dN<0:=by simpa using h2
  omega
 have hpl:(lU y.aQ dN).toNat<y.aQ.length:=(yN (fun x:uF=>bE x.name dN) y.aQ 0 hp0).2.1
 have hR:=yaU y b (lU y.aQ dN).toNat hpl hy hl h0 vA hd
 rw[Int.toNat_of_nonneg hp0]at hR
 refine aB (hR) ?_
 refine aI (fun h3=>?_) (fun h3=>?_)
 ·have h3:(JL y (y.aQ.getD (lU y.aQ dN).toNat default) b.cls (q8 y b) !=0)=true:=h3;exact aC.of_eq (by unfold yad;rw[h1,h2,h3];rfl)
 have h3:(JL y (y.aQ.getD (lU y.aQ dN).toNat default) b.cls (q8 y b) !=0)=false:=h3
 refine aI (fun h4=>?_) (fun h4=>?_)
 ·have h4:decide ((y.bH.length:Int)≥200)=true:=h4;exact aC.of_eq (by unfold yad;rw[h1,h2,h3,h4];rfl)
 ·have h4:decide ((y.bH.length:Int)≥200)=false:=h4;exact aC.of_eq (by unfold yad;rw[h1,h2,h3,h4];rfl)
theorem ya4(y:gK)(b:Batch)(dN:ByteArray)(hy:y.small)(hl:y.bH.length≤200)(h0:0≤zO y.bA b.aN)(vA:y.carry.length=y.bA.length)(hd:(y.bA.getD (I0 y b) default).den≠0):
  aF prog 25 [tD y,aGJ b,vS dN] (tD (PO y b dN)):=by
 obtain⟨fZ,hN⟩:=yaf h0
 have hb:=yaz y b hy.bA h0 hd
 have qT:=hy.bA
 have hcy:=TA y.carry oM
 have hC:oZ y b=y.carry.set (I0 y b) (yag y b):=rfl
 have aI5:(oZ y b).length=y.carry.length:=by unfold oZ;simp
 refine eW func25 rfl rfl call25 rfl rfl (fun cx aA=>?_)
 refine sX aA ?_
 refine sX aA ?_
 refine aB (aH4 y.bA b.aN oM) ?_
 rw[hN]
 generalize I0 y b=i at fZ hb hC
 refine sX aA ?_
 refine oi ⟨oM,oM⟩ ?_
 refine aB (hb) ?_
 refine aD ?_
 refine AW.seq (ex.sound (rc:=[57]) aJ mix aA _ ?_)
 refine⟨[(5,600)],_,_,_,_,hcy,rfl,trivial,rfl,?_⟩
 refine sX aA ?_
 refine oi ⟨oM,oM⟩ ?_
 refine ob (show((i:Nat):Int).toNat<y.carry.length by omega) ?_
 refine AW.gR (σ':=⟨[(2,vS dN),(3,.s (.ptr 3 0)),(4,.s (.ptr 4 0)),(6,.s (.ptr 6 0)),(8,vI (q8 y b))],[(3,some (.cells [.d (q7 y.aQ),.d (oY y.bA),.d (LU y.bH),.own 600])),(4,some (.cells (aNW b))),(6,some (.cells (iB ty45.zero))),(600,some (.row 3 (oZ y b).length 1 (cP (oZ y b))))]⟩) (aM.bD aA [] rfl ⟨bQ,bQ,bQ,⟨rfl,aY.row aI5.symm fun a c ha hc=>aK.of_eq ?_⟩,oO⟩ ⟨qZ,qZ,qZ,qZ,qZ,oO⟩) ?_
 ·obtain rfl:c=0:=oM;show eT (cP y.carry) i 0 [.d (dI (yag y b))] a 0=dI ((oZ y b).getD a 0);rw[hC];by_cases h2:a=i
  ·subst h2;rw[oP];simp[List.getD_eq_getElem?_getD,show a<y.carry.length by omega]
  rw[tG h2];show dI (y.carry.getD a 0)=_;simp[List.getD_eq_getElem?_getD,Ne.symm h2]
 refine sX aA ?_
 refine ob (show(0+y.bH.length)*32≤140737488355328 by omega) ?_
 refine ob (fun a c ha hc=>by match c,hc with|0,_|1,_|2,_=>rfl) ?_
 refine ob (show(0+y.bH.length+1)*32≤140737488355328 by omega) ?_
 refine ob (fun a c ha hc=>by match a,ha,c,hc with|0,_,0,_|0,_,1,_|0,_,2,_=>rfl) ?_
 refine aD ?_
 refine eX aA ?_
 refine aC.le (x:=.g _) (y:=.g _) ⟨aK.refl _,aK.refl _,?_,aK.refl _,oO⟩
 refine aK.wE (show 0+y.bH.length+1=(y.bH++ [(⟨b.number,dN,q8 y b⟩:OQ)]).length by simp) fun x c hx hc=>aK.of_eq ?_
 have hc:c<3:=hc
 have hx:x<0+y.bH.length+1:=hx
 unfold jM
 by_cases h1:x<y.bH.length
 ·rw[if_pos oM,if_neg (Nat.not_lt_zero x)];show aF4 (y.bH.getD (x - 0) default) c=aF4 ((y.bH++ [(⟨b.number,dN,q8 y b⟩:OQ)]).getD x default) c;rw[Nat.sub_zero,List.getD_eq_getElem?_getD,List.getD_eq_getElem?_getD,List.getElem?_append_left h1]
 ·obtain rfl:x=y.bH.length:=oM;rw[if_neg oM,show y.bH.length - (0+y.bH.length)=0 by omega];show _=aF4 ((y.bH++ [(⟨b.number,dN,q8 y b⟩:OQ)]).getD y.bH.length default) c;rw[List.getD_eq_getElem?_getD,List.getElem?_concat_length]
  match c,hc with|0,_|1,_|2,_=>rfl
open Go Go.Ax Go.Ch Go.Proofs Go.Proofs.Tryz
theorem yaa{f:Nat→Int}:∀{n i:Nat},(∀j,i≤j→j<i+n→f j=0)→aO f n i=0
 |0,_,_=>rfl
 |n+1,i,h=>by rw[aO,h i (Nat.le_refl _) oM];exact yaa fun j h1 h2=>h j oM oM
structure YdV(y:gK):Prop where
 np:y.aQ.length≤8
 aQ:∀j,j<y.aQ.length→tK y.aQ j=0
 nb:y.bA.length≤20
 bA:∀j,j<y.bA.length→rN y.bA j=0
 nc:y.carry.length=y.bA.length
 carry:∀j,j<y.carry.length→D0 y j=0
 nd:y.bH.length≤200
 bH:∀j,j<y.bH.length→pF y j=0
 cap:∀j,j<y.aQ.length→D1 y j=0
theorem YdV.of{y:gK}(h:kX y=0):YdV y:=by
 unfold kX at h;obtain⟨h1,h⟩:=dF dC h;obtain⟨h2,h⟩:=dU h;obtain⟨hb,hd⟩:=dU h;unfold o4 at hb;obtain⟨h3,hb⟩:=dF dC hb;obtain⟨h4,hb⟩:=dU hb;obtain⟨h5,h6⟩:=dF dC hb;unfold pM at hd;obtain⟨h7,hd⟩:=dF dC hd;obtain⟨h8,h9⟩:=dU hd;simp only [decide_eq_false_iff_not]at h1 h3 h7;have h5:(y.carry.length:Int)=y.bA.length:=by simpa using h5
 exact⟨oM,fun j hj=>lQ h2 j (Nat.zero_le _) oM,oM,fun j hj=>lQ h4 j (Nat.zero_le _) oM,oM,
  fun j hj=>lQ h6 j (Nat.zero_le _) oM,oM,fun j hj=>lQ h8 j (Nat.zero_le _) oM,fun j hj=>lQ h9 j (Nat.zero_le _) oM⟩
theorem YdV.zero{y:gK}(h:YdV y):kX y=0:=by
 have e1:o4 y=0:=by unfold o4;rw[yaa fun j _ hj=>h.bA j oM,yaa fun j _ hj=>h.carry j oM,h.nc,show decide ((y.bA.length:Int)>20)=false by have:=h.nb;simp only [decide_eq_false_iff_not];omega];simp
 have e2:pM y=0:=by unfold pM;rw[yaa fun j _ hj=>h.bH j oM,yaa fun j _ hj=>h.cap j oM,show decide ((y.bH.length:Int)>200)=false by have:=h.nd;simp only [decide_eq_false_iff_not];omega];rfl
 unfold kX;rw[e1,e2,yaa fun j _ hj=>h.aQ j oM,show decide ((y.aQ.length:Int)>8)=false by have:=h.np;simp only [decide_eq_false_iff_not];omega];rfl
theorem yal(l:List OQ)(n:ByteArray):∀k i s,JG l n (k+1) i s=bif bE (l.getD (i+k) default).dN n then aW (JG l n k i s+(l.getD (i+k) default).iZ)else JG l n k i s
 |0,i,s=>by simp[JG]
 |k+1,i,s=>by rw[JG,yal l n k,show i+1+k=i+(k+1) by omega];conv=>rhs;rw[JG]
theorem yau(l:List OQ)(d:OQ)(n:ByteArray):∀k i s,i+k≤l.length→JG (l++ [d]) n k i s=JG l n k i s
 |0,_,_,_=>rfl
 |k+1,i,s,h=>by
  have e:(l++ [d]).getD i default=l.getD i default:=by rw[List.getD_eq_getElem?_getD,List.getD_eq_getElem?_getD,List.getElem?_append_left oM]
  rw[JG,JG,e,yau l d n k (i+1) _ oM]
theorem yaV(y:gK)(d:OQ)(c:List Int)(n:ByteArray):JF {y with bH:=y.bH++ [d],carry:=c} n=bif bE d.dN n then aW (JF y n+d.iZ)else JF y n:=by
 unfold JF;have e:(y.bH++ [d]).getD (0+y.bH.length) default=d:=by rw[Nat.zero_add,List.getD_eq_getElem?_getD,List.getElem?_concat_length];rfl
 show JG (y.bH++ [d]) n (y.bH++ [d]).length 0 0=_;rw[List.length_append];show JG (y.bH++ [d]) n (y.bH.length+1) 0 0=_;rw[yal,yau _ _ _ _ _ _ oM,e]
theorem yav(l:List OQ)(n:ByteArray)(hv:∀j,j<l.length→0≤(l.getD j default).iZ∧(l.getD j default).iZ≤100000000000000):∀k,k≤l.length→k≤200→0≤JG l n k 0 0∧JG l n k 0 0≤100000000000000*k
 |0,_,_=>⟨Int.le_refl _,Int.le_refl _⟩
 |k+1,h,h2=>by
  obtain⟨a,b⟩:=yav l n hv k oM oM;obtain⟨c,d⟩:=hv k oM;rw[yal,Nat.zero_add]
  cases bE (l.getD k default).dN n with
  |false=>show 0≤JG l n k 0 0∧JG l n k 0 0≤_;omega
  |true=>show 0≤aW _∧aW _≤_;rw[aG oM oM];omega
theorem yaN{y:gK}{j:Nat}(h:pF y j=0):0≤(y.bH.getD j default).iZ∧(y.bH.getD j default).iZ≤100000000000000:=by unfold pF at h;obtain⟨_,h⟩:=dF dC h;obtain⟨_,h⟩:=dF dC h;obtain⟨_,h⟩:=dF dC h;obtain⟨h,_⟩:=dF dC h;exact within_iff.1 (by simpa using h)
theorem YdV.tak{y:gK}(h:YdV y)(n:ByteArray):0≤JF y n∧JF y n≤20000000000000000:=by have:=yav y.bH n (fun j hj=>yaN (h.bH j hj)) y.bH.length (Nat.le_refl _) h.nd;have:=h.nd;unfold JF;omega
theorem yaS{p:uF}(h:qI p=0):0≤N8 p∧N8 p≤40000000000000:=by unfold qI at h;obtain⟨h1,h⟩:=dF dC h;obtain⟨h2,h⟩:=dF dC h;simp only [Bool.or_eq_false_iff,Bool.not_eq_false',within,Bool.and_eq_true,decide_eq_true_eq,decide_eq_false_iff_not]at h1 h2;unfold N8;rw[aG (n:=p.top - p.base) oM oM];have a:=Int.mul_nonneg (a:=p.OE) (b:=p.top - p.base) oM oM;have b:=Int.mul_le_mul (a:=p.OE) (b:=p.top - p.base) (c:=1000000000) (d:=40000) oM oM oM oM;rw[aG oM oM];omega
theorem yat{l:List uF}{j:Nat}(h:tK l j=0):(l.take j).any (fun y=>bE y.name (l.getD j default).name)=false∧qI (l.getD j default)=0:=by unfold tK at h;obtain⟨_,h⟩:=dF dC h;exact dF dC h
theorem YdV.yaY{y:gK}(h:YdV y){i j:Nat}(hi:i<y.aQ.length)(hj:j<y.aQ.length)(he:bE (y.aQ.getD i default).name (y.aQ.getD j default).name=true):i=j:=by
 have key:∀a b,a<b→b<y.aQ.length→bE (y.aQ.getD a default).name (y.aQ.getD b default).name=true→False:=fun a b JW hb hs=>by
  have hn:=(yat (h.aQ b hb)).1;have:(y.aQ.take b).any (fun z=>bE z.name (y.aQ.getD b default).name)=true:=
   List.any_eq_true.2 ⟨y.aQ.getD a default,by rw[List.mem_iff_getElem?];exact⟨a,by rw[List.getElem?_take_of_lt JW,List.getElem?_eq_getElem oM,aX oM]⟩,hs⟩
  rw[this]at hn;cases hn
 have hsym:bE (y.aQ.getD j default).name (y.aQ.getD i default).name=true:=by unfold bE at he ⊢;simp only [beq_iff_eq]at he ⊢;exact he.symm
 rcases Nat.lt_trichotomy i j with hl|hl|hl
 ·exact(key i j hl hj he).elim
 ·exact hl
 exact(key j i hl hi hsym).elim
theorem yay{y:gK}(h:kX y=0)(b:Batch)(dN:ByteArray):oS y b dN=bif R6 y b !=0 then R6 y b else yad y b dN:=by unfold oS yad yD;rw[h];rfl
theorem yap{y:gK}(h:YdV y){j:Nat}(hj:j<y.bA.length):1≤(y.bA.getD j default).den∧(y.bA.getD j default).den≤1000∧1≤(y.bA.getD j default).num∧(y.bA.getD j default).num≤10*(y.bA.getD j default).den:=by have hb:=h.bA j hj;unfold rN at hb;obtain⟨_,hb⟩:=dF dC hb;obtain⟨_,hb⟩:=dF dC hb;unfold JZ at hb;obtain⟨hb,_⟩:=dF dC hb;simp only [Bool.or_eq_false_iff,Bool.not_eq_false',within,Bool.and_eq_true,decide_eq_true_eq]at hb;rw[aG oM oM]at hb;omega
theorem yaj{y:gK}{b:Batch}(h:R6 y b=0):1≤b.number∧b.number≤1000000∧0≤b.aT∧b.aT≤1000000000000∧0≤b.over∧b.over≤b.aT∧0≤zO y.bA b.aN:=by unfold R6 at h;obtain⟨h1,h⟩:=dF dC h;obtain⟨h2,h⟩:=dF dC h;simp only [Bool.or_eq_false_iff,Bool.not_eq_false',within,Bool.and_eq_true,decide_eq_true_eq,decide_eq_false_iff_not]at h1 h2;omega
theorem yaM{y:gK}(h:YdV y){b:Batch}(hb:R6 y b=0):0≤q8 y b∧q8 y b≤100000000000000∧0≤yag y b∧yag y b≤(y.bA.getD (I0 y b) default).den - 1:=by
 obtain⟨_,_,h1,h2,h3,h4,h0⟩:=yaj hb;have fZ:=(yaf h0).1;obtain⟨d1,d2,n1,n2⟩:=yap h fZ;have hc:0≤y.carry.getD (I0 y b) 0∧y.carry.getD (I0 y b) 0≤(y.bA.getD (I0 y b) default).den - 1:=by have:=h.carry (I0 y b) (by have:=h.nc;omega);unfold D0 at this;obtain⟨this,_⟩:=dF dC this;rw[aG oM oM]at this;exact within_iff.1 (by simpa using this)
 have e1:q8 y b=aW (Int.tdiv (R2 y b) (y.bA.getD (I0 y b) default).den):=rfl;have e2:yag y b=Int.tmod (R2 y b) (y.bA.getD (I0 y b) default).den:=rfl;have e3:R2 y b=aW (aW (aW (b.aT - b.over)*(y.bA.getD (I0 y b) default).num)+y.carry.getD (I0 y b) 0):=rfl;generalize y.bA.getD (I0 y b) default=B at*;generalize y.carry.getD (I0 y b) 0=c at*;have p1:=Int.mul_nonneg (a:=b.aT - b.over) (b:=B.num) oM oM;have p2:=Int.mul_le_mul (a:=b.aT - b.over) (b:=B.num) (c:=1000000000000) (d:=10*B.den) oM oM oM oM;rw[aG (n:=b.aT - b.over) oM oM]at e3;generalize (b.aT - b.over)*B.num=m at*;rw[aG (n:=m) oM oM,aG (n:=m+c) oM oM]at e3;rw[e3]at e1 e2;rw[Int.tdiv_eq_ediv_of_nonneg oM]at e1;rw[Int.tmod_eq_emod_of_nonneg oM]at e2;have q1:0≤(m+c) / B.den:=Int.ediv_nonneg oM oM;have q2:(m+c) / B.den≤10000000000001:=Int.ediv_le_of_le_mul oM oM;have q3:=Int.emod_nonneg (m+c) (b:=B.den) oM;have q4:=Int.emod_lt_of_pos (m+c) (b:=B.den) oM;rw[aG oM oM]at e1;omega
theorem YdV.plc{y:gK}(h:YdV y){b:Batch}{dN:ByteArray}(hb:R6 y b=0)(hp:yad y b dN=0):YdV (PO y b dN):=by
 obtain⟨b1,b2,_,_,_,_,h0⟩:=yaj hb;obtain⟨v1,v2,m1,m2⟩:=yaM h hb;have fZ:=(yaf h0).1;obtain⟨d1,d2,_,_⟩:=yap h fZ;unfold yad at hp;obtain⟨p1,hp⟩:=dF dC hp;obtain⟨p2,hp⟩:=dF dC hp;obtain⟨p3,hp⟩:=dU hp;obtain⟨p4,_⟩:=dF dC hp;simp only [decide_eq_false_iff_not]at p2 p4;have hpi:=yN (fun x:uF=>bE x.name dN) y.aQ 0 (show 0≤lU y.aQ dN by omega);have hpl:(lU y.aQ dN).toNat<y.aQ.length:=hpi.2.1;have hps:bE (y.aQ.getD (lU y.aQ dN).toNat default).name dN=true:=hpi.2.2;unfold JL at p3;obtain⟨_,p3⟩:=dF dC p3;obtain⟨p3,_⟩:=dF dC p3;simp only [decide_eq_false_iff_not]at p3;have vA:(oZ y b).length=y.carry.length:=by unfold oZ;simp
 have wI:∀j,j<y.aQ.length→0≤N8 (y.aQ.getD j default)∧N8 (y.aQ.getD j default)≤40000000000000:=fun j hj=>yaS (yat (h.aQ j hj)).2
 have rY:∀j,j<y.aQ.length→GL y (y.aQ.getD j default)=N8 (y.aQ.getD j default) - JF y (y.aQ.getD j default).name:=fun j hj=>by have:=wI j hj;have:=h.tak (y.aQ.getD j default).name;unfold GL;rw[aG oM oM]
 refine⟨h.np,h.aQ,h.nb,h.bA,vA.trans h.nc,fun j hj=>?_,?_,fun j hj=>?_,fun j hj=>?_⟩
 ·have hj:j<y.carry.length:=by rw[←vA];exact hj
  show(bif !within ((oZ y b).getD j 0) 0 (aW ((y.bA.getD j default).den - 1))then(2:Int)else 0)=0;by_cases e:j=I0 y b
  ·subst e;have:(oZ y b).getD (I0 y b) 0=yag y b:=by unfold oZ;rw[List.getD_eq_getElem?_getD,List.getElem?_set_self oM];rfl
   rw[this,aG oM oM,within_iff.2 ⟨m1,m2⟩];rfl
  have:(oZ y b).getD j 0=y.carry.getD j 0:=by unfold oZ;rw[List.getD_eq_getElem?_getD,List.getElem?_set_ne (Ne.symm e),List.getD_eq_getElem?_getD]
  rw[this];exact h.carry j hj
 ·show(y.bH++_).length≤_;rw[List.length_append];simp only [List.length_singleton];omega
 ·have hj:j<y.bH.length+1:=by simpa [PO]using hj
  show(bif !within ((y.bH++ [(⟨b.number,dN,q8 y b⟩:OQ)]).getD j default).batch 1 1000000 then(2:Int)
   else bif ((y.bH++ [(⟨b.number,dN,q8 y b⟩:OQ)]).take j).any (fun d=>d.batch==((y.bH++ [(⟨b.number,dN,q8 y b⟩:OQ)]).getD j default).batch)then 5
   else bif decide (lU y.aQ ((y.bH++ [(⟨b.number,dN,q8 y b⟩:OQ)]).getD j default).dN<0)then 6
   else bif !within ((y.bH++ [(⟨b.number,dN,q8 y b⟩:OQ)]).getD j default).iZ 0 100000000000000 then 2 else 0)=0
  by_cases e:j<y.bH.length
  ·have e1:(y.bH++ [(⟨b.number,dN,q8 y b⟩:OQ)]).getD j default=y.bH.getD j default:=by rw[List.getD_eq_getElem?_getD,List.getD_eq_getElem?_getD,List.getElem?_append_left e]
   have e2:(y.bH++ [(⟨b.number,dN,q8 y b⟩:OQ)]).take j=y.bH.take j:=List.take_append_of_le_length oM;rw[e1,e2];exact h.bH j e
  obtain rfl:j=y.bH.length:=oM;have e1:(y.bH++ [(⟨b.number,dN,q8 y b⟩:OQ)]).getD y.bH.length default=⟨b.number,dN,q8 y b⟩:=by rw[List.getD_eq_getElem?_getD,List.getElem?_concat_length];rfl
  have e2:(y.bH++ [(⟨b.number,dN,q8 y b⟩:OQ)]).take y.bH.length=y.bH:=sM;rw[e1,e2,within_iff.2 ⟨b1,b2⟩,within_iff.2 ⟨v1,v2⟩,show y.bH.any (fun d=>d.batch==b.number)=false from p1,show decide (lU y.aQ dN<0)=false by simpa using p2];rfl
 have hj:j<y.aQ.length:=hj;show(bif decide (aW (N8 (y.aQ.getD j default) - JF {y with bH:=y.bH++ [(⟨b.number,dN,q8 y b⟩:OQ)],carry:=oZ y b} (y.aQ.getD j default).name)<0)then(19:Int)else 0)=0;rw[yaV]
 cases hs:bE dN (y.aQ.getD j default).name with
 |false=>have:=h.cap j hj;exact this
 |true=>have ej:j=(lU y.aQ dN).toNat:=h.yaY hj hpl (by unfold bE at hs hps ⊢;simp only [beq_iff_eq]at hs hps ⊢;rw[←hs,hps]);have c1:=wI j hj;have t1:=h.tak (y.aQ.getD j default).name;have r1:=rY j hj;rw[←ej]at p3;show(bif decide (aW (N8 (y.aQ.getD j default) - aW (JF y (y.aQ.getD j default).name+q8 y b))<0)then(19:Int)else 0)=0;rw[aG (n:=JF y (y.aQ.getD j default).name+q8 y b) oM oM,aG oM oM,decide_eq_false oM];rfl
theorem yar{l:List Fact}(hv:∀f∈l,fR f=0){k:bJ}(hk:k∈pS l):∃g∈l,rU (zH (pT l) k)=jE g∧bT g=k:=by
 obtain⟨j,e,uZ,he⟩:=KO hk;obtain⟨hl1,_⟩:=O0 he;obtain⟨e',DT,y5,_,hp,_⟩:=A4 he;have qP:zH (pT l) k=e.2.1.getD (e.2.1.length - 1) []:=by unfold zH;rw[uZ]
 have kK:zH (pT l) k∈e.2.1:=by rw[qP,aX oM];exact List.getElem_mem _
 rw[hp]at kK;obtain⟨g,hg,ht,tR⟩:=yP DT _ (XZ kK);refine⟨g,hg,?_,?_⟩
 ·rw[ht];exact LZ (hv g hg)
 rw[tR,←y5];exact(xU uZ).2.2
theorem yaX{l:List Fact}(hv:∀f∈l,fR f=0):(cntF l).Pairwise fun a b=>a.kind=1→b.kind=1→a.number≠b.number:=by
 unfold cntF;rw[List.pairwise_map];have hn:(pS l).Nodup:=(List.mergeSort_perm _ _).nodup_iff.2 (C9 l);refine List.Pairwise.imp_of_mem ?_ hn;intro k1 k2 h1 h2 fJ a1 a2 hnum;obtain⟨g1,hg1,c1,q1⟩:=yar hv h1;obtain⟨g2,hg2,c2,q2⟩:=yar hv h2;rw[c1]at a1 hnum;rw[c2]at a2 hnum;have t1:g1.kind=1:=a1;have t2:g2.kind=1:=a2;have n1:(jE g1).number=g1.number:=by unfold jE fW;simp[t1]
 have n2:(jE g2).number=g2.number:=by unfold jE fW;simp[t2]
 refine fJ ?_;rw[←q1,←q2,yah t1 (kN (hv g1 hg1)).1,yah t2 (kN (hv g2 hg2)).1,←n1,←n2,hnum]
theorem yaL{l:List Fact}(hv:∀f∈l,fR f=0)(m:Int):(j8 (cntF l) m).Pairwise fun a b=>a.month<b.month∨(a.month=b.month∧a.number<b.number):=by
 have h1:(tO (cntF l) m).Pairwise fun a b=>a.number≠b.number:=by unfold tO;refine List.Pairwise.imp_of_mem ?_ ((yaX hv).filter _);intro a b ha hb h;have ha:=(List.mem_filter.1 ha).2;have hb:=(List.mem_filter.1 hb).2;simp only [Bool.and_eq_true,beq_iff_eq]at ha hb;exact h ha.1 hb.1
 have h2:(j8 (cntF l) m).Pairwise fun a b=>a.number≠b.number:=(List.mergeSort_perm _ _).symm.pairwise h1 fun h=>h.symm
 have h3:=List.pairwise_mergeSort (le:=fun x y:Fact=> !(ltOf cfL y x)) (fun a b c h1 h2=>by
   simp only [yac,Bool.not_eq_true',decide_eq_false_iff_not]at*;omega) (fun a b=>by
   simp only [yac,Bool.or_eq_true,Bool.not_eq_true',decide_eq_false_iff_not];omega) (tO (cntF l) m)
 have h3:(j8 (cntF l) m).Pairwise fun x y=>(!(ltOf cfL y x))=true:=h3
 refine(h2.and h3).imp ?_;intro a b ⟨hn,h⟩;simp only [yac,Bool.not_eq_true',decide_eq_false_iff_not]at h;omega
def mnC(l:List Fact)(m last:Int)(j:Nat):Bool:=(l.getD j default).kind==1&&(l.getD j default).month==m&&decide ((l.getD j default).number>last)
def ya(l:List Fact)(m last:Int):Nat→Int
 |0=> -1
 |i+1=>bif mnC l m last i&&(decide (ya l m last i<0)||decide ((l.getD i default).number<(l.getD (ya l m last i).toNat default).number))then(i:Int)else ya l m last i
theorem yan(l:List Fact)(m last:Int):∀i, -1≤ya l m last i∧ya l m last i<i
 |0=>⟨Int.le_refl _,by show(-1:Int)<((0:Nat):Int);decide⟩
 |i+1=>by
  have ih:=yan l m last i;rw[ya]
  cases(mnC l m last i&&(decide (ya l m last i<0)||decide ((l.getD i default).number<(l.getD (ya l m last i).toNat default).number)))with
  |true=>show -1≤(i:Int)∧(i:Int)<_;omega
  |false=>show -1≤ya l m last i∧ya l m last i<_;omega
theorem yao(l:List Fact)(m last:Int):∀i,ya l m last i<0→∀j,j<i→mnC l m last j=false
 |0,_,j,hj=>by omega
 |i+1,h,j,hj=>by
  rw[ya]at h
  cases hc:(mnC l m last i&&(decide (ya l m last i<0)||decide ((l.getD i default).number<(l.getD (ya l m last i).toNat default).number)))with
  |true=>rw[hc]at h;have h:(i:Int)<0:=h;omega
  |false=>
   rw[hc]at h;have h:ya l m last i<0:=h;by_cases e:j=i
   ·subst e;rw[decide_eq_true h]at hc;simpa using hc
   exact yao l m last i h j oM
theorem yaq(l:List Fact)(m last:Int):∀i,0≤ya l m last i→mnC l m last (ya l m last i).toNat=true∧∀j,j<i→mnC l m last j=true→(l.getD (ya l m last i).toNat default).number≤(l.getD j default).number
 |0,h=>by simp[ya]at h
 |i+1,h=>by
  rw[ya]at h ⊢
  cases hc:(mnC l m last i&&(decide (ya l m last i<0)||decide ((l.getD i default).number<(l.getD (ya l m last i).toNat default).number)))with
  |true=>
   have JA:=hc;simp only [Bool.and_eq_true,Bool.or_eq_true,decide_eq_true_eq]at JA;show mnC l m last ((i:Int).toNat)=true∧∀j,j<i+1→_→(l.getD ((i:Int).toNat) default).number≤_;rw[Int.toNat_natCast];refine⟨JA.1,fun j hj hcj=>?_⟩;by_cases e:j=i
   ·subst e;exact Int.le_refl _
   rcases JA.2 with hn|hl
   ·rw[yao l m last i hn j oM]at hcj;cases hcj
   by_cases hn:ya l m last i<0
   ·rw[yao l m last i hn j oM]at hcj;cases hcj
   have:=(yaq l m last i oM).2 j oM hcj;omega
  |false=>
   rw[hc]at h;have h:0≤ya l m last i:=h;obtain⟨h1,h2⟩:=yaq l m last i h;refine⟨h1,fun j hj hcj=>?_⟩;show(l.getD (ya l m last i).toNat default).number≤_;by_cases e:j=i
   ·subst e;rw[hcj,decide_eq_false oM]at hc;simp at hc;exact hc
   exact h2 j oM hcj
structure StW(S:List Fact)(m last:Int)(k:Nat):Prop where
 le:k≤S.length
 past:∀j,j<k→(S.getD j default).month<m∨((S.getD j default).month=m∧(S.getD j default).number≤last)
 rest:∀j,k≤j→j<S.length→m<(S.getD j default).month∨((S.getD j default).month=m∧last<(S.getD j default).number)
abbrev ltL(a b:Fact):Prop:=a.month<b.month∨(a.month=b.month∧a.number<b.number)
theorem yax{S:List Fact}(h:S.Pairwise ltL){i j:Nat}(Z5:i<j)(hj:j<S.length):ltL (S.getD i default) (S.getD j default):=by have:=List.pairwise_iff_getElem.1 h i j oM hj Z5;rw[aX hj,aX (show i<S.length by omega)];exact this
structure LdS(fs S:List Fact)(M:Int):Prop where
 mem:∀{f},f∈S→f∈fs∧f.kind=1∧f.month≤M
 sub:∀{f},f∈fs→f.kind=1→f.month≤M→f∈S
 pair:S.Pairwise ltL
theorem yaH{fs:List Fact}{m last:Int}{f:Fact}(h:f∈fs)(hk:f.kind=1):∃i,i<fs.length∧fs.getD i default=f∧mnC fs m last i=decide (f.month=m∧f.number>last):=by
 obtain⟨i,hi,he⟩:=List.getElem_of_mem h;have hg:fs.getD i default=f:=by rw[aX hi];exact he
 refine⟨i,hi,hg,?_⟩;unfold mnC;rw[hg,hk,Bool.decide_and];rfl
theorem StW.none{fs S:List Fact}{M m last:Int}{k:Nat}(h:StW S m last k)(hS:LdS fs S M)(hn:ya fs m last fs.length<0)(h1:∀f∈fs,f.kind=1→1≤f.number∧1≤f.month):StW S (m+1) 0 k:=by
 refine⟨h.le,fun j hj=>?_,fun j hj hl=>?_⟩
 ·have:=h.past j hj;omega
 have hm:=hS.mem (bP hl);have hr:=h.rest j hj hl;have hn1:=h1 _ hm.1 hm.2.1;obtain⟨i,hi,_,hg⟩:=yaH (m:=m) (last:=last) hm.1 hm.2.1;rw[yao fs m last fs.length hn i hi]at hg;have:=of_decide_eq_false hg.symm;omega
theorem StW.some{fs S:List Fact}{M m last:Int}{k:Nat}(h:StW S m last k)(hS:LdS fs S M)(hm:m≤M)(hn:0≤ya fs m last fs.length):
  k<S.length∧fs.getD (ya fs m last fs.length).toNat default=S.getD k default∧StW S m (S.getD k default).number (k+1):=by
 obtain⟨hc,aIY⟩:=yaq fs m last fs.length hn
 have hb:=(yan fs m last fs.length).2
 have fZ:(ya fs m last fs.length).toNat<fs.length:=oM
 generalize (ya fs m last fs.length).toNat=a at hc aIY fZ
 unfold mnC at hc
 simp only [Bool.and_eq_true,beq_iff_eq,decide_eq_true_eq]at hc
 obtain⟨j,hj,he⟩:=List.getElem_of_mem (hS.sub (bP fZ) hc.1.1 oM)
 have he:S.getD j default=fs.getD a default:=by rw[aX hj];exact he
 have hkj:k≤j:=by have:=h.past j;rw[he]at this;omega
 have hkm:=hS.mem (bP (show k<S.length by omega))
 have hr:=h.rest k (Nat.le_refl _) oM
 have SL:j=k:=by
  by_cases e:k<j
  ·have hl:=yax hS.pair e hj;obtain⟨i,hi,hg,hci⟩:=yaH (m:=m) (last:=last) hkm.1 hkm.2.1;unfold ltL at hl;rw[he]at hl;have:=aIY i hi (hci.trans (decide_eq_true oM));rw[hg]at this;omega
  omega
 subst SL
 refine⟨hj,he.symm,hj,fun i hi=>?_,fun i hi hl=>?_⟩
 ·by_cases e:i=j
  ·subst e;rw[he];omega
  have:=h.past i oM;rw[he];omega
 ·have:=yax hS.pair (show j<i by omega) hl;unfold ltL at this;rw[he]at this ⊢;omega
theorem StW.done{fs S:List Fact}{M:Int}{k:Nat}(h:StW S (M+1) 0 k)(hS:LdS fs S M):k=S.length:=by
 have hle:=h.le;by_cases e:k<S.length
 ·have:=(hS.mem (bP e)).2.2;have:=h.rest k (Nat.le_refl _) e;omega
 omega
theorem StW.start{fs S:List Fact}{M:Int}(hS:LdS fs S M)(h1:∀f∈fs,f.kind=1→1≤f.number∧1≤f.month):StW S 1 0 0:=
 ⟨Nat.zero_le _,fun j hj=>by omega,fun j _ hl=>by have hm:=hS.mem (bP hl);have:=h1 _ hm.1 hm.2.1;omega⟩
theorem LdS.of{l:List Fact}(hv:∀f∈l,fR f=0)(M:Int):LdS (cntF l) (j8 (cntF l) M) M:=
 ⟨aAN,fun h hk hm=>by refine(List.mergeSort_perm _ _).mem_iff.2 ?_;unfold tO;exact List.mem_filter.2 ⟨h,by simp[hk,hm]⟩,yaL hv M⟩
theorem yam{p:Proj}{S:List Fact}(hz:PW p.aQ p.bA=0):∀k,YdV (iM p S k).2
 |0=>by show YdV (G7 p.aQ p.bA);rw[show G7 p.aQ p.bA=BL p.aQ p.bA by unfold G7;rw[hz];rfl];exact YdV.of hz
 |k+1=>by
  have ih:=yam (S:=S) hz k;rw[iM]
  cases he:(oS (iM p S k).2 (zC (S.getD k default)) (S.getD k default).dN==0)with
  |false=>exact ih
  |true=>
   have he:oS (iM p S k).2 (zC (S.getD k default)) (S.getD k default).dN=0:=by simpa using he
   rw[yay ih.zero]at he;obtain⟨e1,e2⟩:=dU he;exact ih.plc e1 e2
theorem yb(a b:Int):((bif a !=0 then a else b)==0)=(a==0&&b==0):=by cases h:(a==0) <;> simp[bne,h]
theorem yaE{p:Proj}{S:List Fact}(hz:PW p.aQ p.bA=0){k:Nat}{H:List Fact}{y:gK}{f:Fact}(e:iM p S k=(H,y))(hf:S.getD k default=f):iM p S (k+1)=bif R6 y (zC f)==0&&yad y (zC f) f.dN==0 then(H++ [f],PO y (zC f) f.dN)else(H,y):=by have h:=(yam (S:=S) hz k).zero;rw[iM,hf];rw[e]at h ⊢;rw[yay h,yb]
theorem yak{p:Proj}{S:List Fact}(hz:PW p.aQ p.bA=0):∀k,(iM p S k).2.aQ=p.aQ∧(iM p S k).2.bA=p.bA
 |0=>by show(G7 p.aQ p.bA).aQ=_∧(G7 p.aQ p.bA).bA=_;rw[show G7 p.aQ p.bA=BL p.aQ p.bA by unfold G7;rw[hz];rfl];exact⟨rfl,rfl⟩
 |k+1=>by
  have ih:=yak (S:=S) hz k;rw[iM]
  cases(oS (iM p S k).2 (zC (S.getD k default)) (S.getD k default).dN==0)with
  |false=>exact ih
  |true=>exact ih
abbrev hkS(fs H:List Fact)(y:gK)(M m:Int)(r:List (Nat×AV))(b:List (Nat×Option jK)):St:=⟨[(1,cJ fs),(2,vI M),(7,.s (.ptr 7 0)),(8,.s (.ptr 8 0)),(9,.s (.mo H.isEmpty 100)),(10,vI m)]++r,[(7,some (.cells (iB ty45.zero))),(8,some (.cells (uH y))),(100,some (.b8 55 H.length 13 (nE H)))]++b⟩
theorem yaZ(p:Proj)(fs S:List Fact)(M:Nat)(hs:(BL p.aQ p.bA).small)(hz:PW p.aQ p.bA=0)(hl:fs.length≤200)(hM:M≤24)(hS:LdS fs S M)(hSl:S.length≤200)
  (h1:∀f∈fs,f.kind=1→1≤f.number∧1≤f.month):
  aF prog 9 [oR p,cJ fs,vI M] (.t [.s (.d (RN (iM p S S.length).1)),.g (uH (iM p S S.length).2)]):=by
 have hSt:=StW.start hS h1
 have hN:G7 p.aQ p.bA=BL p.aQ p.bA:=by unfold G7;rw[hz];rfl
 have hYV:=yam (S:=S) hz
 have hsm:∀k,(iM p S k).2.small:=fun k=>by have h2:=hYV k;have h3:=h2.nd;have h4:=h2.nc;have h5:=h2.nb;have h6:=h2.np;refine⟨oM,oM,oM,oM,?_⟩;rw[(yak (S:=S) hz k).1];exact hs.aV
 refine eW func9 rfl rfl call9 rfl rfl (fun cx aA=>?_)
 refine sX aA ?_
 refine sX aA ?_
 refine aB (aH5 p hs) ?_
 refine sX aA ?_
 refine AW.seq (sX aA ?_)
 refine AW.block ?_
 refine AW.cG (fun s:Nat×Nat=>hkS fs (iM p S s.2).1 (iM p S s.2).2 M s.1 [] []) (fun s=>1≤s.1∧s.1≤M+1∧StW S s.1 0 s.2) (fun s=>M+1 - s.1) (1,0) ⟨Nat.le_refl _,by show 1≤M+1;omega,hSt⟩ ?_ ?_
 ·refine aM.bD aA [(100,1000)] rfl ⟨bQ,⟨rfl,aY.cells ?_⟩,⟨rfl,rfl⟩,oO⟩ ⟨qZ,qZ,qZ,qZ,⟨rfl,aU.nil rfl⟩,qZ,oO⟩;show ZW _ (mC [(100,1000)] (uH (G7 p.aQ p.bA)));rw[hN];exact⟨aU.rfl,aU.rfl,aU.rfl,aU.rfl,oO⟩
 rintro⟨m,k⟩ ⟨hm1,hm2,hw⟩
 dsimp only at hm1 hm2 hw
 refine sX aA ?_
 refine aI (fun h2=>?_) (fun h2=>?_)
 ·have h2:(m:Int)≤M:=bG h2;refine AW.seq (AW.block (sX aA ?_));refine AW.block (AW.cG (fun s:Nat×Int=>hkS fs (iM p S s.1).1 (iM p S s.1).2 M m [(11,vI s.2)] []) (fun s=>StW S m s.2 s.1) (fun s=>S.length - s.1) (k,0) hw (aM.bD aA [] rfl ⟨bQ,bQ,bQ,oO⟩ ⟨qZ,qZ,qZ,qZ,qZ,qZ,qZ,oO⟩) ?_);rintro⟨k,last⟩ hw;dsimp only at hw;refine AW.block (sX aA ?_);refine AW.cut (σ':=hkS fs (iM p S k).1 (iM p S k).2 M m [(12,vI (ya fs m last fs.length))] []) ?_ ?_
  ·refine sX aA (AW.block ?_);refine AW.cG (fun i:Nat=>hkS fs (iM p S k).1 (iM p S k).2 M m [(11,vI last),(12,vI (ya fs m last i)),(13,vI i)] []) (fun i=>i≤fs.length) (fun i=>fs.length - i) 0 (Nat.zero_le _) (aM.bD aA [] rfl ⟨bQ,bQ,bQ,oO⟩ ⟨qZ,qZ,qZ,qZ,qZ,qZ,qZ,qZ,qZ,oO⟩) ?_;intro i hi;refine sX aA (aI (fun h3=>?_) (fun h3=>?_))
   ·have h3:(i:Int)<fs.length:=bG h3;have hmb:=yan fs m last i;refine AW.seq (AW.block (sX aA ?_));refine oi ⟨oM,oM⟩ ?_;repeat refine aR ?_
    refine og (fun _=>⟨oM,oM⟩) ?_;repeat refine aR ?_
    refine og (fun _=>⟨oM,oM⟩) ?_;repeat refine aR ?_
    refine og (fun _=>⟨oM,oM⟩) ?_;repeat refine aR ?_
    refine og (fun h4=>?_) ?_
    ·simp[rL]at h4;omega
    repeat refine aR ?_
    refine aD ?_;have ew:aW ((i:Int)+1)=((i+1:Nat):Int):=aG oM oM;refine AW.cond (aI (fun h4=>?_) (fun h4=>AW.skip ?_))
    ·have h4:(mnC fs m last i&&(decide (ya fs m last i<0)||decide ((fs.getD i default).number<(fs.getD (ya fs m last i).toNat default).number)))=true:=h4;have hA4:(i:Int)=ya fs m last (i+1):=by rw[ya,h4];rfl
     refine eX aA (eX aA ?_);exact⟨i+1,oM,oM,aM.bD aA [] rfl ⟨bQ,bQ,bQ,oO⟩ ⟨qZ,qZ,qZ,qZ,qZ,qZ,qZ,⟨rfl,aU.int hA4⟩,⟨rfl,aU.int ew⟩,oO⟩⟩
    have h4:(mnC fs m last i&&(decide (ya fs m last i<0)||decide ((fs.getD i default).number<(fs.getD (ya fs m last i).toNat default).number)))=false:=h4;have hA4:ya fs m last i=ya fs m last (i+1):=by rw[ya,h4];rfl
    exact eX aA ⟨i+1,oM,oM,aM.bD aA [] rfl ⟨bQ,bQ,bQ,oO⟩ ⟨qZ,qZ,qZ,qZ,qZ,qZ,qZ,⟨rfl,aU.int hA4⟩,⟨rfl,aU.int ew⟩,oO⟩⟩
   have h3:¬(i:Int)<fs.length:=bF h3;obtain rfl:i=fs.length:=oM;exact⟨rfl,aM.bD aA [] rfl ⟨bQ,bQ,bQ,oO⟩ ⟨qZ,qZ,qZ,qZ,qZ,qZ,qZ,oO⟩⟩
  refine sX aA (aI (fun h3=>?_) (fun h3=>?_))
  ·have h3:ya fs m last fs.length<0:=bG h3;have V6:=hw.none hS h3 h1;have ew:aW ((m:Int)+1)=((m+1:Nat):Int):=aG oM oM;have em:((m+1:Nat):Int)=(m:Int)+1:=oM;refine eX aA ?_;refine⟨(m+1,k),⟨by show 1≤m+1;omega,by show m+1≤M+1;omega,by show StW _ ((m+1:Nat):Int) 0 k;rw[em];exact V6⟩,by show M+1 - (m+1)<M+1 - m;omega,?_⟩;exact aM.bD aA [] rfl ⟨bQ,bQ,bQ,oO⟩ ⟨qZ,qZ,qZ,qZ,qZ,⟨rfl,aU.int ew⟩,oO⟩
  have h3:¬ya fs m last fs.length<0:=bF h3;obtain⟨hk,oL,V6⟩:=hw.some hS h2 oM;have hmb:=yan fs m last fs.length;refine sX aA (oi ⟨oM,oM⟩ ?_);refine sX aA (sX aA ?_);generalize hf:S.getD k default=f at oL V6;obtain⟨H,y,e⟩:∃H y,iM p S k=(H,y):=⟨_,_,rfl⟩;have hsu:=yaE hz e hf;have hHk:=BY p S k;have hy:=hYV k;have hys:=hsm k;rw[e]at hHk hy hys;dsimp only at hHk hy hys;refine AW.gR (σ':=hkS fs H y M m [(11,vI f.number),(14,.s (.ptr 14 0)),(15,.s (.ptr 15 0))] [(14,some (.cells (xT f))),(15,some (.cells (aNW (zC f))))]) ?_ ?_
  ·rw[e];refine aM.bD aA [] rfl ⟨bQ,bQ,bQ,⟨rfl,aY.cells ⟨?_,?_,?_,?_,?_,?_,?_,?_,?_,?_,?_,?_,?_,oO⟩⟩,⟨rfl,aY.cells ⟨?_,?_,?_,?_,?_,oO⟩⟩,oO⟩ ⟨qZ,qZ,qZ,qZ,qZ,qZ,⟨rfl,?_⟩,qZ,qZ,oO⟩;all_goals exact aU.of_eq (by rw[←oL];rfl)
  refine sX aA ?_;refine aB (yaJ y (zC f) (by have:=hys.bA;omega)) ?_;repeat refine aR ?_
  have hgo:R6 y (zC f)=0→0≤zO y.bA f.aN∧(y.bA.getD (I0 y (zC f)) default).den≠0:=fun hb=>by have h0:=(yaj hb).2.2.2.2.2.2;have:=(yap hy (yaf h0).1).1;exact⟨h0,oM⟩
  have hnp:=hys.aQ;have YP:=hy.nd;refine ya0 (r:=vI (yad y (zC f) f.dN)) (fun hb=>?_) ?_
  ·have hb:R6 y (zC f)=0:=by simpa [rL]using hb
   exact yaK y (zC f) f.dN hys oM oM (hgo hb).1 hy.nc (hgo hb).2
  repeat refine aR ?_
  refine AW.cond (aI (fun h4=>?_) (fun h4=>AW.skip ?_))
  ·have h4:(R6 y (zC f)==0&&yad y (zC f) f.dN==0)=true:=h4;rw[h4]at hsu;simp only [Bool.and_eq_true,beq_iff_eq]at h4;obtain⟨g1,g2⟩:=hgo h4.1;refine sX aA (aB (ya4 y (zC f) f.dN hys YP g1 hy.nc g2) ?_);refine eX aA (ob dC ?_);refine ob (by rw[dK];show(H.length+1)*144≤_;omega) ?_;refine ob (fun a c ha hc=>by match a,ha,c,hc with|0,_,0,_|0,_,1,_|0,_,2,_|0,_,3,_|0,_,4,_|0,_,5,_|0,_,6,_|0,_,7,_|0,_,8,_|0,_,9,_|0,_,10,_|0,_,11,_|0,_,12,_=>rfl) ?_;refine⟨(k+1,f.number),V6,by show S.length - (k+1)<S.length - k;omega,?_⟩;show aM _ _ _ (hkS fs (iM p S (k+1)).1 (iM p S (k+1)).2 M m [(11,vI f.number)] []);rw[hsu];refine aM.bD aA [(100,110)] rfl ⟨bQ,bQ,⟨rfl,?_⟩,oO⟩ ⟨qZ,qZ,qZ,qZ,⟨rfl,aU.mo (cA _ _)⟩,qZ,qZ,oO⟩;exact aY.snoc (el:=J0) (x:=f) fun c hc=>by match c,hc with|0,_|1,_|2,_|3,_|4,_|5,_|6,_|7,_|8,_|9,_|10,_|11,_|12,_=>rfl
  have h4:(R6 y (zC f)==0&&yad y (zC f) f.dN==0)=false:=h4;rw[h4]at hsu;refine⟨(k+1,f.number),V6,by show S.length - (k+1)<S.length - k;omega,?_⟩;show aM _ _ _ (hkS fs (iM p S (k+1)).1 (iM p S (k+1)).2 M m [(11,vI f.number)] []);rw[hsu];exact aM.bD aA [] rfl ⟨bQ,bQ,bQ,oO⟩ ⟨qZ,qZ,qZ,qZ,qZ,qZ,qZ,oO⟩
 ·have h2:¬(m:Int)≤M:=bF h2;obtain rfl:m=M+1:=oM;have em:((M+1:Nat):Int)=(M:Int)+1:=oM;rw[em]at hw;obtain rfl:=hw.done hS;have hHk:=BY p S S.length;generalize iM p S S.length=r at*;refine eX aA (aD ?_);exact aC.t ⟨aK.of_eq (show DV.fU (bif r.1.isEmpty then 0 else r.1.length) 13 (nE r.1)=RN r.1 by rw[dK];rfl),⟨aK.refl _,aK.refl _,aK.refl _,aK.refl _,oO⟩,oO⟩
theorem yaP{l:List Fact}(hv:∀f∈l,fR f=0):∀f∈cntF l,f.kind=1→1≤f.number∧1≤f.month:=by
 intro f hf hk;obtain⟨k,_,_,g,hg,rfl,_⟩:=N4 hv hf;have hk:g.kind=1:=hk;have hz:=kN (hv g hg);have h1:=within_iff.1 (mQ hz.2 (by rw[hk];rfl)).1.1;have e1:(jE g).month=g.month:=by unfold jE;rw[hk];rfl
 have e2:(jE g).number=g.number:=by unfold jE fW;simp[hk]
 rw[e1,e2];have h2:=hz.1;unfold nZ cK at h2;rw[hk]at h2
 cases hw:within g.number 1 1000000 with
 |true=>exact⟨(within_iff.1 hw).1,h1.1⟩
 |false=>rw[hw]at h2;cases h2
abbrev phS(n:List Fact)(y:gK)(r:List (Nat×AV)):St:=⟨[(7,iR (n.map Fact.number)),(8,.s (.ptr 8 0)),(11,cJ n),(12,.s (.ptr 12 0))]++r,[(8,some (.cells (uH y))),(12,some (.cells (uH y)))]⟩
theorem ProjectHauls(p:Proj)(l:List Fact)(m:Int)(hp:p.okk)(hf:∀f∈l,f.fits)(hl:l.length≤9223372036854775807):aF prog 3 [oR p,cJ l,vI m] (vB true):=by
 refine eW func3 rfl rfl call3 rfl rfl (fun cx aA=>?_);refine sX aA (AW.seq (sX aA ?_));refine aB (aI9 p) ?_;repeat refine aR ?_
 refine bR (aMW l 25 dC) ?_;repeat refine aR ?_
 refine AW.cond (aI (fun h=>eX aA (aB (aDP) (aC.refl _))) (fun h=>AW.skip ?_));have h:(vC p||HD l 25)=false:=h;rw[Bool.or_eq_false_iff]at h;have oW:=hp.fits h.1;obtain⟨hlen,aPJ⟩:=aBR h.2;by_cases he:j6 p l m 0=0
 ·obtain⟨hk,hw⟩:=tL he;have hwm:=within_iff.1 hw;obtain⟨k,rfl⟩:∃k:Nat,m=k:=⟨m.toNat,oM⟩;have hS:=x4 hk;have hpv:=PV.of hk.proj;have hC:=aBC l hf aPJ oM;rw[aJO hk.fmt]at hC;have hR:=yaB p l k oW hf hl he;have hE:=WH p l k 0 oW hf hl;rw[he]at hE;have hyv:YdV (yae p (cntF l) k).2:=yam hpv.new _;have hsm:(yae p (cntF l) k).2.aQ=p.aQ∧(yae p (cntF l) k).2.bA=p.bA:=yak hpv.new _;have hSl:(j8 (cntF l) k).length≤200:=by
   have h2:(j8 (cntF l) k).length≤(cntF l).length:=by unfold j8;rw[A5];exact List.length_filter_le _ _
   have:=hS.len;omega
  have hRR:aF prog 9 [oR p,cJ (cntF l),vI k] (.t [.s (.d (RN (yae p (cntF l) k).1)),.g (uH (yae p (cntF l) k).2)]):=
   yaZ p (cntF l) _ k oW.small hpv.new hS.len oM (LdS.of hk.fmt k) hSl (yaP hk.fmt)
  have hHl:(yae p (cntF l) k).1.length≤200:=Nat.le_trans (BY p _ _) hSl;generalize yae p (cntF l) k=r at hR hRR hyv hsm hHl;generalize cntF l=fs at hC hRR;obtain⟨H,y⟩:=r;dsimp only at hR hRR hyv hHl hsm;have YP:=hyv.nd;have hnc:=hyv.nc;have hnb:=hyv.nb;have hnl:(H.map Fact.number).length=H.length:=List.length_map ..;refine sX aA (aB (hR) ?_);refine AW.seq (sX aA ?_);refine aB (hE) (sX aA ?_);refine AW.cond (aI (fun h2=>by cases h2) (fun _=>AW.skip ?_));refine sX aA (aB (hC) ?_);refine aB (hRR) (aD ?_);refine sX aA ?_;repeat first|refine oi trivial ?_|refine sk ?_|refine st ?_|refine sg ?_|refine sh ?_|refine su ?_|refine sn1 ?_|refine sn0 ?_
  refine bR (PL y.carry y.carry oM) ?_;repeat first|refine oi trivial ?_|refine sk ?_|refine st ?_|refine sg ?_|refine sh ?_|refine su ?_|refine sn1 ?_|refine sn0 ?_
  refine aI (fun h2=>?_) (fun _=>?_)
  ·exfalso;have h2:((0:Int) !=0||((H.map Fact.number).length:Int) !=H.length||(y.bH.length:Int) !=y.bH.length|| !(y.carry==y.carry)||(y.aQ.length:Int) !=p.aQ.length||(y.bA.length:Int) !=p.bA.length)=true:=h2;rw[hnl,hsm.1,hsm.2]at h2;simp at h2
  refine AW.cut (σ':=phS H y []) ?_ ?_
  ·refine sX aA (AW.block ?_);refine AW.cG (fun i:Nat=>phS H y [(13,vI i)]) (fun i=>i≤H.length) (fun i=>H.length - i) 0 (Nat.zero_le _) (aM.bD aA [] rfl ⟨bQ,bQ,oO⟩ ⟨qZ,qZ,qZ,qZ,qZ,oO⟩) ?_;intro i hi;refine sX aA (aI (fun h3=>?_) (fun h3=>⟨rfl,aM.bD aA [] rfl ⟨bQ,bQ,oO⟩ ⟨qZ,qZ,qZ,qZ,oO⟩⟩));have h3:(i:Int)<(H.map Fact.number).length:=bG h3;have bC:i<H.length:=oM;have ew:aW ((i:Int)+1)=((i+1:Nat):Int):=aG oM oM;refine AW.seq (AW.block (sX aA ?_));refine oi ⟨oM,oM⟩ (oi ⟨oM,oM⟩ ?_);refine aD (AW.cond ?_);refine aI (fun h4=>?_) (fun _=>AW.skip ?_)
   ·exfalso;have h4:((H.map Fact.number).getD i 0 !=(H.getD i default).number)=true:=h4;rw[List.getD_eq_getElem?_getD,List.getElem?_map,List.getElem?_eq_getElem bC,aX bC]at h4;simp at h4
   exact eX aA ⟨i+1,oM,oM,aM.bD aA [] rfl ⟨bQ,bQ,oO⟩ ⟨qZ,qZ,qZ,qZ,⟨rfl,aU.int ew⟩,oO⟩⟩
  refine AW.cut (σ':=phS H y []) ?_ ?_
  ·refine sX aA (AW.block ?_);refine AW.cG (fun i:Nat=>phS H y [(14,vI i)]) (fun i=>i≤y.bH.length) (fun i=>y.bH.length - i) 0 (Nat.zero_le _) (aM.bD aA [] rfl ⟨bQ,bQ,oO⟩ ⟨qZ,qZ,qZ,qZ,qZ,oO⟩) ?_;intro i hi;refine sX aA (aI (fun h3=>?_) (fun h3=>⟨rfl,aM.bD aA [] rfl ⟨bQ,bQ,oO⟩ ⟨qZ,qZ,qZ,qZ,oO⟩⟩));have h3:(i:Int)<y.bH.length:=bG h3;have bC:i<y.bH.length:=oM;have ew:aW ((i:Int)+1)=((i+1:Nat):Int):=aG oM oM;refine AW.seq (AW.block (sX aA ?_));refine oi ⟨oM,oM⟩ (oi ⟨oM,oM⟩ ?_);refine aD (AW.cond ?_);refine aI (fun h4=>?_) (fun _=>AW.skip ?_)
   ·simp at h4
   exact eX aA ⟨i+1,oM,oM,aM.bD aA [] rfl ⟨bQ,bQ,oO⟩ ⟨qZ,qZ,qZ,qZ,⟨rfl,aU.int ew⟩,oO⟩⟩
  exact eX aA (aB (aDP) (aC.refl _))
 have hd:(j6 p l m 0 !=0)=true:=by simpa using he
 refine sX aA (aB (yaA p l m oW hf hl he) ?_);refine AW.seq (sX aA ?_);refine aB (WH p l m 0 oW hf hl) (sX aA ?_);refine AW.cond (aI (fun _=>?_) (fun h2=>Bool.noConfusion (hd.symm.trans h2)));refine eX aA ?_;repeat first|refine oi trivial ?_|refine sk ?_|refine st ?_|refine sg ?_|refine sh ?_|refine su ?_|refine sn1 ?_|refine sn0 ?_
 refine bR (aDP) ?_;repeat first|refine oi trivial ?_|refine sk ?_|refine st ?_|refine sg ?_|refine sh ?_|refine su ?_|refine sn1 ?_|refine sn0 ?_
 refine aC.of_eq (congrArg (fun b=>vB b) ?_);simp;rfl
end Go.Pj
