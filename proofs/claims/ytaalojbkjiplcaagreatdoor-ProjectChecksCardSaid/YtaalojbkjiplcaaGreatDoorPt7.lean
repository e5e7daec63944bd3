/- Part 7: lemmas that the proofs of this seat share; by itself it claims nothing. -/
import Derived.Shelf.SlSortCmp.NoneTotal
import Derived.Test.YtaalojbkjiplcaaGreatDoorProg
import Derived.Test.YtaalojbkjiplcaaGreatDoorPt6
set_option maxRecDepth 100000
set_option maxHeartbeats 1000000
namespace Go.Proofs
open Go.Shelf
def Tryz.LJ:Ren where
 f:=fun n=>match n with|6=>218|15=>269|14=>268|28=>305|29=>252|20=>297|21=>298|22=>299|23=>300|24=>301|25=>302|26=>303|27=>304|46=>338|47=>339|48=>340|49=>341|50=>342|57=>360|n=>n
 t:=fun n=>match n with|22=>255|24=>254|25=>304|3=>3|39=>328|0=>0|53=>326|55=>286|4=>4|46=>369|45=>368|50=>215|5=>5|9=>9|66=>398|70=>402|76=>418|77=>415|n=>n
 g:=fun n=>n
theorem Tryz.ZH:SlLaysF0.n6 Tryz.prog Tryz.LJ where
 mixed:=by kernel_rfl
 f6:=⟨ "slices.SortFunc[[]draghead/project.told,draghead/project.told]",of_decide_eq_true (by kernel_rfl),Tryz.func218.trans (congrArg some (by kernel_rfl))⟩
 f14:=⟨ "slices.pdqsortCmpFunc[draghead/project.told]",of_decide_eq_true (by kernel_rfl),Tryz.func268.trans (congrArg some (by kernel_rfl))⟩
 f15:=Tryz.func269.trans (congrArg some (by kernel_rfl))
 f20:=⟨ "slices.insertionSortCmpFunc[draghead/project.told]",of_decide_eq_true (by kernel_rfl),Tryz.func297.trans (congrArg some (by kernel_rfl))⟩
 f21:=⟨ "slices.heapSortCmpFunc[draghead/project.told]",of_decide_eq_true (by kernel_rfl),Tryz.func298.trans (congrArg some (by kernel_rfl))⟩
 f22:=⟨ "slices.breakPatternsCmpFunc[draghead/project.told]",of_decide_eq_true (by kernel_rfl),Tryz.func299.trans (congrArg some (by kernel_rfl))⟩
 f23:=⟨ "slices.choosePivotCmpFunc[draghead/project.told]",of_decide_eq_true (by kernel_rfl),Tryz.func300.trans (congrArg some (by kernel_rfl))⟩
 f24:=⟨ "slices.reverseRangeCmpFunc[draghead/project.told]",of_decide_eq_true (by kernel_rfl),Tryz.func301.trans (congrArg some (by kernel_rfl))⟩
 f25:=⟨ "slices.partialInsertionSortCmpFunc[draghead/project.told]",of_decide_eq_true (by kernel_rfl),Tryz.func302.trans (congrArg some (by kernel_rfl))⟩
 f26:=⟨ "slices.partitionEqualCmpFunc[draghead/project.told]",of_decide_eq_true (by kernel_rfl),Tryz.func303.trans (congrArg some (by kernel_rfl))⟩
 f27:=⟨ "slices.partitionCmpFunc[draghead/project.told]",of_decide_eq_true (by kernel_rfl),Tryz.func304.trans (congrArg some (by kernel_rfl))⟩
 f28:=Tryz.func305.trans (congrArg some (by kernel_rfl))
 f29:=Tryz.func252.trans (congrArg some (by kernel_rfl))
 f46:=⟨ "slices.siftDownCmpFunc[draghead/project.told]",of_decide_eq_true (by kernel_rfl),Tryz.func338.trans (congrArg some (by kernel_rfl))⟩
 f47:=Tryz.func339.trans (congrArg some (by kernel_rfl))
 f48:=Tryz.func340.trans (congrArg some (by kernel_rfl))
 f49:=⟨ "slices.medianAdjacentCmpFunc[draghead/project.told]",of_decide_eq_true (by kernel_rfl),Tryz.func341.trans (congrArg some (by kernel_rfl))⟩
 f50:=⟨ "slices.medianCmpFunc[draghead/project.told]",of_decide_eq_true (by kernel_rfl),Tryz.func342.trans (congrArg some (by kernel_rfl))⟩
 f57:=⟨ "slices.order2CmpFunc[draghead/project.told]",of_decide_eq_true (by kernel_rfl),Tryz.func360.trans (congrArg some (by kernel_rfl))⟩
 t0:=Tryz.underlying0
 a0:=Tryz.isAgg0
 z0:=Tryz.sizeOf0
 v0:=Tryz.zeroValue0
 t3:=Tryz.underlying3
 a3:=Tryz.isAgg3
 z3:=Tryz.sizeOf3
 v3:=Tryz.zeroValue3
 t4:=Tryz.underlying4
 a4:=Tryz.isAgg4
 z4:=Tryz.sizeOf4
 v4:=Tryz.zeroValue4
 t5:=Tryz.underlying5
 a5:=Tryz.isAgg5
 z5:=Tryz.sizeOf5
 v5:=Tryz.zeroValue5
 t9:=Tryz.underlying9
 a9:=Tryz.isAgg9
 z9:=Tryz.sizeOf9
 v9:=Tryz.zeroValue9
 t22:=Tryz.underlying255
 a22:=Tryz.isAgg255
 z22:=Tryz.sizeOf255
 v22:=Tryz.zeroValue255
 t25:=Tryz.underlying304
 a25:=Tryz.isAgg304
 z25:=Tryz.sizeOf304
 v25:=Tryz.zeroValue304
 t39:=Tryz.underlying328
 a39:=Tryz.isAgg328
 z39:=Tryz.sizeOf328
 v39:=Tryz.zeroValue328
 t45:=Tryz.underlying368
 a45:=Tryz.isAgg368
 z45:=Tryz.sizeOf368
 v45:=Tryz.zeroValue368
 t46:=Tryz.underlying369
 a46:=Tryz.isAgg369
 z46:=Tryz.sizeOf369
 v46:=Tryz.zeroValue369
 t50:=Tryz.underlying215
 a50:=Tryz.isAgg215
 z50:=Tryz.sizeOf215
 v50:=Tryz.zeroValue215
 t53:=Tryz.underlying326
 a53:=Tryz.isAgg326
 z53:=Tryz.sizeOf326
 v53:=Tryz.zeroValue326
 t55:=Tryz.underlying286
 a55:=Tryz.isAgg286
 z55:=Tryz.sizeOf286
 v55:=Tryz.zeroValue286
 t66:=Tryz.underlying398
 a66:=Tryz.isAgg398
 z66:=Tryz.sizeOf398
 v66:=Tryz.zeroValue398
 t70:=Tryz.underlying402
 a70:=Tryz.isAgg402
 z70:=Tryz.sizeOf402
 v70:=Tryz.zeroValue402
 t76:=Tryz.underlying418
 a76:=Tryz.isAgg418
 z76:=Tryz.sizeOf418
 v76:=Tryz.zeroValue418
 t77:=Tryz.underlying415
 a77:=Tryz.isAgg415
 z77:=Tryz.sizeOf415
 v77:=Tryz.zeroValue415
def Tryz.AP:Ren where
 f:=fun n=>match n with|6=>224|15=>269|14=>272|28=>305|29=>252|20=>316|21=>317|22=>318|23=>319|24=>320|25=>321|26=>322|27=>323|46=>347|47=>339|48=>340|49=>348|50=>349|57=>362|n=>n
 t:=fun n=>match n with|22=>77|24=>40|25=>309|3=>3|39=>328|0=>0|53=>326|55=>286|4=>4|46=>369|45=>368|50=>215|5=>5|9=>9|66=>398|70=>402|76=>418|77=>415|n=>n
 g:=fun n=>n
theorem Tryz.ZJ:SlLaysF0.n6 Tryz.prog Tryz.AP where
 mixed:=by kernel_rfl
 f6:=⟨ "slices.SortFunc[[]draghead/api.Fact,draghead/api.Fact]",of_decide_eq_true (by kernel_rfl),Tryz.func224.trans (congrArg some (by kernel_rfl))⟩
 f14:=⟨ "slices.pdqsortCmpFunc[draghead/api.Fact]",of_decide_eq_true (by kernel_rfl),Tryz.func272.trans (congrArg some (by kernel_rfl))⟩
 f15:=Tryz.func269.trans (congrArg some (by kernel_rfl))
 f20:=⟨ "slices.insertionSortCmpFunc[draghead/api.Fact]",of_decide_eq_true (by kernel_rfl),Tryz.func316.trans (congrArg some (by kernel_rfl))⟩
 f21:=⟨ "slices.heapSortCmpFunc[draghead/api.Fact]",of_decide_eq_true (by kernel_rfl),Tryz.func317.trans (congrArg some (by kernel_rfl))⟩
 f22:=⟨ "slices.breakPatternsCmpFunc[draghead/api.Fact]",of_decide_eq_true (by kernel_rfl),Tryz.func318.trans (congrArg some (by kernel_rfl))⟩
 f23:=⟨ "slices.choosePivotCmpFunc[draghead/api.Fact]",of_decide_eq_true (by kernel_rfl),Tryz.func319.trans (congrArg some (by kernel_rfl))⟩
 f24:=⟨ "slices.reverseRangeCmpFunc[draghead/api.Fact]",of_decide_eq_true (by kernel_rfl),Tryz.func320.trans (congrArg some (by kernel_rfl))⟩
 f25:=⟨ "slices.partialInsertionSortCmpFunc[draghead/api.Fact]",of_decide_eq_true (by kernel_rfl),Tryz.func321.trans (congrArg some (by kernel_rfl))⟩
 f26:=⟨ "slices.partitionEqualCmpFunc[draghead/api.Fact]",of_decide_eq_true (by kernel_rfl),Tryz.func322.trans (congrArg some (by kernel_rfl))⟩
 f27:=⟨ "slices.partitionCmpFunc[draghead/api.Fact]",of_decide_eq_true (by kernel_rfl),Tryz.func323.trans (congrArg some (by kernel_rfl))⟩
 f28:=Tryz.func305.trans (congrArg some (by kernel_rfl))
 f29:=Tryz.func252.trans (congrArg some (by kernel_rfl))
 f46:=⟨ "slices.siftDownCmpFunc[draghead/api.Fact]",of_decide_eq_true (by kernel_rfl),Tryz.func347.trans (congrArg some (by kernel_rfl))⟩
 f47:=Tryz.func339.trans (congrArg some (by kernel_rfl))
 f48:=Tryz.func340.trans (congrArg some (by kernel_rfl))
 f49:=⟨ "slices.medianAdjacentCmpFunc[draghead/api.Fact]",of_decide_eq_true (by kernel_rfl),Tryz.func348.trans (congrArg some (by kernel_rfl))⟩
 f50:=⟨ "slices.medianCmpFunc[draghead/api.Fact]",of_decide_eq_true (by kernel_rfl),Tryz.func349.trans (congrArg some (by kernel_rfl))⟩
 f57:=⟨ "slices.order2CmpFunc[draghead/api.Fact]",of_decide_eq_true (by kernel_rfl),Tryz.func362.trans (congrArg some (by kernel_rfl))⟩
 t0:=Tryz.underlying0
 a0:=Tryz.isAgg0
 z0:=Tryz.sizeOf0
 v0:=Tryz.zeroValue0
 t3:=Tryz.underlying3
 a3:=Tryz.isAgg3
 z3:=Tryz.sizeOf3
 v3:=Tryz.zeroValue3
 t4:=Tryz.underlying4
 a4:=Tryz.isAgg4
 z4:=Tryz.sizeOf4
 v4:=Tryz.zeroValue4
 t5:=Tryz.underlying5
 a5:=Tryz.isAgg5
 z5:=Tryz.sizeOf5
 v5:=Tryz.zeroValue5
 t9:=Tryz.underlying9
 a9:=Tryz.isAgg9
 z9:=Tryz.sizeOf9
 v9:=Tryz.zeroValue9
 t22:=Tryz.underlying77
 a22:=Tryz.isAgg77
 z22:=Tryz.sizeOf77
 v22:=Tryz.zeroValue77
 t25:=Tryz.underlying309
 a25:=Tryz.isAgg309
 z25:=Tryz.sizeOf309
 v25:=Tryz.zeroValue309
 t39:=Tryz.underlying328
 a39:=Tryz.isAgg328
 z39:=Tryz.sizeOf328
 v39:=Tryz.zeroValue328
 t45:=Tryz.underlying368
 a45:=Tryz.isAgg368
 z45:=Tryz.sizeOf368
 v45:=Tryz.zeroValue368
 t46:=Tryz.underlying369
 a46:=Tryz.isAgg369
 z46:=Tryz.sizeOf369
 v46:=Tryz.zeroValue369
 t50:=Tryz.underlying215
 a50:=Tryz.isAgg215
 z50:=Tryz.sizeOf215
 v50:=Tryz.zeroValue215
 t53:=Tryz.underlying326
 a53:=Tryz.isAgg326
 z53:=Tryz.sizeOf326
 v53:=Tryz.zeroValue326
 t55:=Tryz.underlying286
 a55:=Tryz.isAgg286
 z55:=Tryz.sizeOf286
 v55:=Tryz.zeroValue286
 t66:=Tryz.underlying398
 a66:=Tryz.isAgg398
 z66:=Tryz.sizeOf398
 v66:=Tryz.zeroValue398
 t70:=Tryz.underlying402
 a70:=Tryz.isAgg402
 z70:=Tryz.sizeOf402
 v70:=Tryz.zeroValue402
 t76:=Tryz.underlying418
 a76:=Tryz.isAgg418
 z76:=Tryz.sizeOf418
 v76:=Tryz.zeroValue418
 t77:=Tryz.underlying415
 a77:=Tryz.isAgg415
 z77:=Tryz.sizeOf415
 v77:=Tryz.zeroValue415
end Go.Proofs
namespace Go.Ch
open Go Go.Ax Go.Sort Go.Shelf Go.Proofs
theorem LW{w:World}{g n:Nat}{os:Array Obj}{cur:Array Value}{e:TypeId}{fr:Nat×Nat}(F:Array Value)(hb:w.heap[g]? =some (.cells cur e fr)):
  (grow (putRow id (Sort.ahead w n) g 0 F) os).heap[g]? =some (.cells (putCells id 0 F cur) e fr):=by
 have hg:g<w.heap.size:=(Array.getElem?_eq_some_iff.1 hb).1
 rw[heap_grow_old _ _ (by simpa using hg)]
 simp[putRow,mapBlock,Sort.ahead,Array.getElem?_modify,hb,onCells]
theorem y5{w:World}{g n k:Nat}{os:Array Obj}(F:Array Value)(hk:k<w.heap.size)(h:k≠g):
  (grow (putRow id (Sort.ahead w n) g 0 F) os).heap[k]? =w.heap[k]? :=by
 rw[heap_grow_old _ _ (by simpa using hk)]
 simp[putRow,mapBlock,Sort.ahead,Array.getElem?_modify,Ne.symm h]
theorem IB{F cur:Array Value}{t:Nat}(hi:t<F.size)(hc:t<cur.size):(putCells id 0 F cur)[t]? =some F[t]! :=by
 unfold putCells
 rw[Array.getElem?_mapIdx]
 simp[hc,hi]
structure aE1{α:Type}(el:α→Nat→DV)(k:Nat)(x:α)(vs:List Value):Prop where
 len:vs.length=k
 one:∀v∈vs,v.oneCell'=true
 val:∀j u,j<k→el x j=.val u→vs[j]? =some u
abbrev GV{α:Type}(el:α→Nat→DV)(k:Nat):={p:α×List Value // aE1 el k p.1 p.2}
theorem aHU{P:Program}{α:Type} [Inhabited α] {ρ:Ren}(L:SlLaysF0.n6 P ρ){F g e k:Nat}(hF:ρ.f 6=F)(dV:∀vs w,(callFunc F vs).run P w=.ok (.enter F vs) w)(RO:0<k)
  (aE:∀w,(isAgg (ρ.t 24)).run P w=.ok true w) (zE:∀w,(Go.sizeOf (ρ.t 24)).run P w=.ok k w)
  (el:α→Nat→DV) (nX:∀x j,j<k→(el x j).one=true) [Inhabited (GV el k)]
  (cf:α→α→Int) (hO:SWO (ltOf cf))
  (eg:∀args w,(callFunc g args).run P w=.ok (.enter g args) w) (aM3:∀blk off n w,CmpLays P g #[] (fun p:GV el k=>p.1.2) k (fun p q=>cf p.1.1 q.1.1) blk off n w)
  (l srt:List α) (aJG:∀l':List α,l'.Perm l→l'.Pairwise (fun x y=>ltOf cf y x=false)→l'=srt)
  (f0:Nat→Nat→DV) (T2:∀i j,i<l.length→j<k→aL (f0 i j) (el (l.getD i default) j)) (hl:l.length≤1000000):
  bT P F [.s (.own 1001),.s (.dR g [])] [(1001,.row e l.length k f0)] (.t []) [(1001,.row e l.length k fun i=>el (srt.getD i default))]:=by
 subst hF
 refine⟨dV,fun M β w vs hG hr hM qP hβ=>?_⟩
 obtain⟨b,c,cur,hx,g1,h2,h3,h4,h5,h6⟩:=qP.rep 1001 _ (List.mem_singleton.2 rfl)
 match vs,hr with
 |[v,v2],⟨hv,XR,_⟩=>
  obtain⟨b',c',OP,TZ,O1⟩:=hv
  rw[hx]at OP
  cases OP
  subst TZ
  obtain⟨vs2,XR,V6⟩:=XR
  obtain rfl:vs2=[]:=by cases vs2 with
   |nil=>rfl
   |cons _ _=>exact V6.elim
  subst XR
  let cells:Nat→List Value:=fun i=>(List.range k).map fun j=>(cur[i*k+j]?).getD undef
  have LX:∀i j,i<l.length→j<k→∃u,cur[i*k+j]? =some u∧(el (l.getD i default) j).bD M u:=by
   intro i j hi hj
   obtain⟨u,e1,e2⟩:=h6 i j hi hj
   exact⟨u,e1,T2 i j hi hj M u e2⟩
  have nY:∀i,i<l.length→aE1 el k (l.getD i default) (cells i):=by
   intro i hi
   refine⟨by simp[cells],fun v hv=>?_,fun j u hj hu=>?_⟩
   ·obtain⟨j,hj,rfl⟩:=List.mem_map.1 hv
    have hj:=List.mem_range.1 hj
    obtain⟨u,e1,e2⟩:=LX i j hi hj
    rw[e1]
    exact DV.bD.kD e2 (nX _ j hj)
   ·obtain⟨u',e1,e2⟩:=LX i j hi hj
    rw[hu]at e2
    have e2:u'=u:=e2
    simp[cells,List.getElem?_map,List.getElem?_range hj,e1,e2]
  let dl:List (GV el k):=(List.range l.length).map fun i=>if hi:i<l.length then⟨(l.getD i default,cells i),nY i hi⟩else default
  have xT:dl.length=l.length:=by simp[dl]
  have aM1:∀i,i<l.length→dl[i]! =if hi:i<l.length then(⟨(l.getD i default,cells i),nY i hi⟩:GV el k)else default:=by
   intro i hi
   rw[getElem!_pos dl i oM]
   simp[dl]
  have aGL:∀i,i<l.length→dl[i]!.1.1=l.getD i default∧dl[i]!.1.2=cells i:=by
   intro i hi
   rw[aM1 i hi,dif_pos hi]
   exact⟨rfl,rfl⟩
  have aJU:dl.map (fun p=>p.1.1)=l:=by
   refine List.ext_getElem (by simp[xT]) fun i h1 h2=>?_
   have hi:i<l.length:=h2
   have:=(aGL i hi).1
   rw[getElem!_pos dl i oM]at this
   rw[List.getElem_map,this,a7 hi]
  have aMZ:∀x:GV el k,(x.1.2).length=k:=fun x=>x.2.len
  have hb:b<w.heap.size:=(Array.getElem?_eq_some_iff.1 g1).1
  have aJT:∀t,t<l.length*k→cur[t]? =some ((flatK (fun p:GV el k=>p.1.2) k dl.toArray)[t]!):=by
   intro t ht
   have hd:t / k<l.length:=by rw[Nat.div_lt_iff_lt_mul RO];exact ht
   have hm:t%k<k:=Nat.mod_lt _ RO
   obtain⟨u,e1,_⟩:=LX (t / k) (t%k) hd hm
   have e2:cur[t]? =some u:=by rw[←e1,Nat.div_add_mod' t k]
   rw[get_flatK _ _ _ t (by simpa [xT]using ht)]
   have e3:dl.toArray[t / k]! =dl[t / k]! :=sM
   rw[e3,(aGL _ hd).2]
   have e4:(cells (t / k))[t%k]! =u:=by
    rw[getElem!_pos _ _ (by simpa [cells]using hm)]
    simp[cells,e1]
   rw[e4,e2]
  have hH:HoldsK (fun p:GV el k=>p.1.2) k w b 0 dl.toArray:=by
   intro t ht
   have ht:t<l.length*k:=by simpa [xT]using ht
   refine⟨?_,by simp[World.frozen?,g1]⟩
   simp only [World.cell?,g1,Nat.zero_add,Option.isSome_none,Bool.false_eq_true,if_false]
   rw[aJT t ht];rfl
  have hO':SWO (ltOf fun p q:GV el k=>cf p.1.1 q.1.1):=⟨fun x=>hO.irrefl x.1.1,fun x y z=>hO.trans x.1.1 y.1.1 z.1.1,fun x y z=>hO.ntrans x.1.1 y.1.1 z.1.1⟩
  have aJV:=AnyQ.slices_SortFunc L k aE zE (fun p:GV el k=>p.1.2) aMZ (fun x=>x.2.one) (fun p q=>cf p.1.1 q.1.1) hO' g #[] b 0 c.1 dl.toArray w eg (aM3 b 0 dl.toArray.size w) hH hb (by simp[xT];omega)
  rw[h2]
  have l5:dl.toArray.size=l.length:=by simp[xT]
  rw[l5]at aJV
  refine aJV.mono ?_
  rintro q w' ⟨he,d',n,os,hp,hs,hw⟩
  obtain⟨p1,_,p3⟩:=hp
  have hd':d'.size=l.length:=by rw[p1,l5]
  have e1:d'.extract 0 l.length=d':=by rw[←hd'];exact Array.extract_size
  have e2:dl.toArray.extract 0 l.length=dl.toArray:=by rw[←l5];exact Array.extract_size
  rw[e1,e2]at p3
  have aJM:(d'.toList.map fun p=>p.1.1).Perm l:=by
   have:=p3.map (fun p:GV el k=>p.1.1)
   rw[←aJU]
   simpa using this
  have hpw:(d'.toList.map fun p=>p.1.1).Pairwise (fun x y=>ltOf cf y x=false):=by
   rw[List.pairwise_map,List.pairwise_iff_getElem]
   intro i j hi hj XU
   have pX:j<l.length:=by rw[←hd'];simpa using hj
   have:=hs i j (Nat.zero_le _) XU pX
   rw[getElem!_pos d' i oM,getElem!_pos d' j oM]at this
   simp only [Array.getElem_toList]
   exact this
  have aMN:=aJG _ aJM hpw
  have oN:=LW (w:=w) (n:=n) (os:=os) (flatK (fun p:GV el k=>p.1.2) k d') g1
  have Z9:∀j,j<w.heap.size→j≠b→w'.heap[j]? =w.heap[j]? :=fun j hj gI=>by rw[hw];exact y5 _ hj gI
  have TX:w'=grow (putRow id (Sort.ahead w n) b 0 (flatK (fun p:GV el k=>p.1.2) k d')) os:=hw
  rw[←TX]at oN
  have QF:w.heap.size≤w'.heap.size:=by rw[TX];simp[putRow,mapBlock,Sort.ahead]
  have iF:∀x,x∈names [(1001,jE.row e l.length k fun i=>el (srt.getD i default))]→x=1001:=fun x hx=>List.mem_singleton.1 hx
  have aM9:kF M w':=by
   intro b2 o u hu
   have gI:b2≠b:=fun h=>by
    subst h
    have:=qP.apart 1001 b2 c (List.mem_singleton.2 rfl) hx o
    rw[this]at hu;cases hu
   have hold:=hM b2 o u hu
   have hb2:b2<w.heap.size:=World.block_lt_of_cell? w ⟨b2,o,none⟩ hold
   simp only [World.cell?]at hold ⊢
   rw[Z9 b2 hb2 gI]
   exact hold
  have dU:∀i j,i<l.length→j<k→(el (srt.getD i default) j).bD M ((d'[i]!.1.2)[j]!):=by
   intro i j hi hj
   have jX:d'[i]! ∈dl:=by
    have:d'[i]! ∈d'.toList:=by rw[getElem!_pos d' i oM];simp
    simpa using p3.subset this
   obtain⟨t,ht,et⟩:=List.mem_iff_getElem.1 jX
   have ht':t<l.length:=oM
   have hv:=aGL t ht'
   rw[getElem!_pos dl t ht,et]at hv
   have ex:srt.getD i default=d'[i]!.1.1:=by
    rw[←aMN,getElem!_pos d' i oM]
    simp[List.getD,show i<d'.size by omega]
   rw[ex,hv.1,hv.2]
   obtain⟨u,q1,q2⟩:=LX t j ht' hj
   have e4:(cells t)[j]! =u:=by
    rw[getElem!_pos _ _ (by simpa [cells]using hj)]
    simp[cells,q1]
   rw[e4];exact q2
  refine⟨.tuple #[],M,β,he,Nm.le_refl β,⟨[],rfl,oO⟩,Grow.refl _ _,aM9,⟨?_,?_,?_,?_⟩,?_,?_,?_,?_,QF,?_,oO⟩
  ·intro x h
   rw[iF x h];exact⟨b,c,hx⟩
  ·intro x bx h
   obtain⟨rfl,rfl⟩:=Prod.mk.inj (List.mem_singleton.1 h)
   refine⟨b,c,_,hx,oN,h2,by simp[putCells,h3],h4,h5,fun i j hi hj=>?_⟩
   have fR:i*k+j<l.length*k:=by
    have:(i+1)*k≤l.length*k:=Nat.mul_le_mul_right k hi
    rw[Nat.add_mul]at this
    omega
   have hd:(i*k+j) / k=i:=by
    rw[Nat.mul_comm,Nat.mul_add_div RO,Nat.div_eq_of_lt hj,Nat.add_zero]
   have hm:(i*k+j)%k=j:=by
    rw[Nat.mul_comm,Nat.mul_add_mod,Nat.mod_eq_of_lt hj]
   refine⟨(d'[i]!.1.2)[j]!,?_,dU i j hi hj⟩
   have lM:i*k+j<cur.size:=by
    rw[h3]
    have:l.length*k≤c.1*k:=Nat.mul_le_mul_right k oM
    omega
   rw[IB (by simpa [hd']using fR) lM,get_flatK _ _ _ _ (by simpa [hd']using fR),hd,hm]
  ·intro x y b1 c1 c2 hx1 hy1 _ _
   rw[iF x hx1,iF y hy1]
  ·intro x b1 c1 h e o
   rw[iF x h]at e
   rw[hx]at e
   cases e
   exact qP.apart 1001 b c (List.mem_singleton.2 rfl) hx o
  ·intro x b1 c1 h e
   rw[iF x h]at e
   exact .inr ⟨1001,c1,e⟩
  ·rw[TX];rfl
  ·rw[TX];rfl
  ·rw[TX];rfl
  ·exact fun j hj gI=>Z9 j hj (fun h=>gI 1001 c (by rw[h];exact hx))
 |[],h=>exact h.elim
 |[_],h=>exact h.2.elim
 |_::_::_::_,h=>exact h.2.2.elim
end Go.Ch
