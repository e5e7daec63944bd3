/- Part 1: lemmas that the proofs of this seat share; by itself it claims nothing. -/
import Derived.Lib.LaidTab
import Derived.Lib.ItoaNum
import Derived.TacticsIn
import Derived.OrdersIn
import Derived.Laws.Slices
import Derived.Great.BuildSlice
import Derived.IntWalk
import Derived.Lib.ConvBytes
import Derived.Laws.IdiomCopy
import Derived.Maps.RangeRun
import Derived.Carry
set_option linter.defProp false
namespace Go
def Ka:=@if_neg
def La:=@if_pos
def Na:=@congrArg
def Ua:=@cond_false
def mb:=@Nat.le_refl
def wb:=@List.mem_cons
def Bb:=@run_underlying
def Ib:=@List.mem_singleton
def Mb:=@Nat.eq_of_beq_eq_true
def Nb:=@of_decide_eq_true
def Rb:=@List.length_cons
def Xb:=@Nat.le_trans
def fc:=@List.getD_eq_getElem?_getD
def ic:=@List.mem_append
def oc:=@List.mem_cons_of_mem
def pc:=@decide_eq_true
def sc:=@Option.some.inj
def Dc:=@Nat.le_of_ble_eq_true
def Ec:=@Nat.zero_add
def Ic:=@Sem.run_bind
def Jc:=@List.getElem?_append_left
def Kc:=@decide_eq_false
def Lc:=@List.mem_map
def Vc:=@Nat.mul_le_mul_right
def Wc:=@Sem.run_pure
def cd:=@Nat.not_lt_zero
def dd:=@List.getElem?_of_mem
def ed:=@List.length_append
def Dd:=@List.mem_of_getElem?
def Ed:=@Bool.or_eq_false_iff
def Gd:=@List.getElem?_append_right
def Hd:=@List.all_eq_true
def Jd:=@Array.ext'
def Kd:=@or_false
def Qd:=@decide_eq_false_iff_not
def Sd:=@List.not_mem_nil
def Td:=@Nat.sub_self
def Vd:=@List.take_length
def Wd:=@Oper.upon_value
def Zd:=@List.mem_cons_self
def ae:=@decide_eq_true_eq
def de:=@Nat.add_mul
def se:=@List.getElem?_modify
def xe:=@List.length_nil
def Ce:=@List.getElem_mem
def De:=@Nat.add_assoc
def Je:=@Option.some.injEq
def Ke:=@heap_alloc_new
def Le:=@List.map_cons
def Me:=@Int.le_refl
def Ue:=@List.getElem?_eq_some_iff
def Ve:=@List.drop_eq_getElem_cons
def We:=@List.cons_append
def pf:=@List.length_take
def rf:=@List.mem_filter
def Ff:=@Bool.eq_iff_iff
def Gf:=@List.mem_range
def Hf:=@Oper.wp_mono
def Sf:=@getElem!_pos
def Tf:=@beq_iff_eq
def ag:=@List.getElem?_map
def bg:=@List.length_map
def Ag:=@List.mem_append_left
def Bg:=@List.take_add_one
def Cg:=@Nat.mod_lt
def Dg:=@wpIn_mono
def Qg:=@List.length_filterMap_le
def Rg:=@Int.toNat_natCast
def Sg:=@List.drop_length
def Tg:=@List.any_eq_false
def Ug:=@List.nodup_cons
def Vg:=@List.any_cons
def fh:=@List.eq_nil_of_length_eq_zero
def gh:=@List.mem_append_right
def lh:=@List.mem_filterMap
def mh:=@List.append_nil
def nh:=@Nat.add_zero
def oh:=@Nat.mul_one
def ph:=@mem_ready
def rh:=@if_false
def Lh:=@Array.getElem?_eq_some_iff
def Mh:=@List.length_filter_le
def Nh:=@List.length_pos_iff
def Oh:=@Array.length_toList
def Ph:=@Bool.not_eq_false'
def Qh:=@Bool.not_eq_true'
def Rh:=@Nat.mod_eq_of_lt
def Sh:=@Bool.or_eq_true
def Th:=@Int.mul_nonneg
def Uh:=@Bool.and_true
def Mi:=@Int.mul_le_mul_of_nonneg_right
def Ni:=@List.getElem?_take_of_lt
def Oi:=@List.mergeSort_perm
def Qi:=@List.filterMap_cons
def Ri:=@List.getElem?_drop
def Si:=@List.ext_getElem?
def Ti:=@List.append_assoc
def Ui:=@beq_self_eq_true
def Vi:=@List.map_append
def Wi:=@Nat.add_comm
def Xi:=@if_true
def sj:=@Int.tmod_eq_emod_of_nonneg
def tj:=@Oper.apart_spec
def wj:=@List.nil_append
def yj:=@Oper.upon_skip
def Aj:=@Prod.mk.injEq
def Bj:=@Nat.succ_mul
def Cj:=@Nat.mul_comm
def Dj:=@List.not_lt
def Ej:=@ready_mono
def Vj:=@List.getElem_of_mem
def Wj:=@of_decide_eq_false
def Xj:=@Bool.false_eq_true
def Yj:=@Int.mul_le_mul
def Zj:=@Bool.or_false
def ak:=@Nat.sub_zero
def Il:=@Int.tdiv_eq_ediv_of_nonneg
def Jl:=@List.getElem?_toArray
def Kl:=@Nat.lt_succ_self
def Ll:=@List.any_eq_true
def Ml:=@Bool.false_or
def Nl:=@setRow_other
def Ol:=@Nat.min_self
def Ql:=@Nat.lt_or_ge
def Rl:=@setRow_heap
def Sl:=@getD_set_ne
def Tl:=@fenced_calm
def Ul:=@decide_true
def Gn:=@List.take_succ_eq_append_getElem
def Hn:=@List.take_of_length_le
def Jn:=@List.modify_succ_cons
def Kn:=@List.take_succ_cons
def Ln:=@List.size_toArray
def Mn:=@decide_eq_decide
def Nn:=@Option.getD_some
def On:=@List.getElem_map
def Pn:=@List.any_append
def Qn:=@Nat.lt_irrefl
def Rn:=@List.map_map
def Sn:=@Int.mul_comm
def Tn:=@Int.le_trans
def Un:=@Int.add_zero
def Vn:=@grownCap_ge
def Wn:=@calls_of_wp
def Xn:=@wpIn_wide
def Yn:=@wp_mono
def Rq:=@World.block_lt_of_cell?
def Sq:=@Nat.le_mul_of_pos_right
def Tq:=@Nat.add_sub_cancel_left
def Uq:=@List.getElem?_cons_succ
def Vq:=@Array.getElem?_modify
def Wq:=@beq_eq_false_iff_ne
def Xq:=@ByteArray.toList_eq
def Yq:=@grownCap_le_maxLen
def Zq:=@List.length_modify
def br:=@Array.size_append
def cr:=@Nat.shiftLeft_eq
def er:=@List.length_drop
def ir:=@Array.toList_map
def lr:=@Option.map_some
def mr:=@Oper.upon_enter
def nr:=@Int.ediv_nonneg
def sr:=@size_zeroCells
def tr:=@List.le_trans
def yr:=@run_entry_at
def Ar:=@Nat.beq_refl
def Br:=@Int.zero_add
def Cr:=@run_next_at
def Er:=@dite_true
def Gr:=@dif_neg
def Pv:=@Array.setIfInBounds_comm
def Qv:=@Array.getElem?_replicate
def Rv:=@List.pairwise_mergeSort
def Sv:=@Array.getElem?_eq_none
def Tv:=@Array.getElem?_toList
def Uv:=@Nat.div_lt_of_lt_mul
def Vv:=@List.isEmpty_toArray
def Wv:=@Array.toArray_toList
def Xv:=@List.map_congr_left
def Yv:=@Array.toList_filter
def Zv:=@run_loadCells_list
def aw:=@Nat.lt_of_lt_of_le
def cw:=@List.filter_append
def fw:=@Result.andThen_ok
def gw:=@List.pairwise_map
def iw:=@List.foldl_append
def mw:=@Bool.eq_false_iff
def ow:=@Nat.lt_log2_self
def pw:=@Nat.div_eq_of_lt
def qw:=@List.isEmpty_iff
def tw:=@List.filter_cons
def ww:=@Int.ediv_le_self
def yw:=@wpIn_region_any
def zw:=@List.range_succ
def Aw:=@IntWalk.i64_in
def Bw:=@run_range_map
def Cw:=@Bool.true_and
def Dw:=@decide_false
def Ew:=@List.any_nil
def Fw:=@Int.le_total
def Gw:=@Int.sub_mul
def Hw:=@Int.mul_sub
def Px:=@List.perm_ext_iff_of_nodup
def Qx:=@Array.getElem?_eq_getElem
def Rx:=@List.Perm.eq_of_pairwise
def Sx:=@List.length_eq_zero_iff
def Tx:=@Int.eq_ofNat_of_zero_le
def Ux:=@List.getElem?_eraseIdx
def Vx:=@Nat.div_lt_iff_lt_mul
def Wx:=@List.modify_zero_cons
def Xx:=@List.getElem?_eq_none
def Yx:=@List.contains_iff_mem
def Zx:=@List.mem_of_mem_take
def ay:=@List.mem_of_mem_drop
def cy:=@List.mem_iff_getElem
def dy:=@List.getElem?_range
def fy:=@Nat.eq_zero_or_pos
def gy:=@List.pairwise_cons
def iy:=@List.getElem?_take
def ny:=@List.contains_cons
def oy:=@Int.emod_lt_of_pos
def sy:=@Array.toList_range
def wy:=@run_storeCells_at
def yy:=@List.mapM_toArray
def Ay:=@List.length_range
def By:=@List.getElem_take
def Cy:=@Option.getD_none
def Dy:=@Nat.min_le_right
def Ey:=@Nat.le_add_right
def Fy:=@wpIn_cond_split
def Gy:=@wpIn_cond_false
def Hy:=@Nat.two_pow_pos
def Iy:=@Nat.min_le_left
def Jy:=@Nat.min_eq_left
def Ky:=@Nat.div_add_mod
def Ly:=@List.foldl_cons
def My:=@Int.emod_nonneg
def Ny:=@wpIn_cond_true
def Oy:=@List.tail_cons
def Py:=@List.nodup_nil
def Qy:=@List.drop_drop
def Ry:=@List.Perm.refl
def Sy:=@Bool.not_false
def Ty:=@Bool.and_false
def Uy:=@Bool.or_assoc
def Vy:=@List.map_nil
def Wy:=@Int.sub_self
def Xy:=@Int.neg_tmod
def Yy:=@Int.mul_zero
def Zy:=@Int.lt_or_le
def az:=@Int.add_comm
def rz:=@Int.mul_nonneg_of_nonpos_of_nonpos
def tz:=@Array.getElem?_setIfInBounds_ne
def wz:=@List.Nodup.length_le_of_subset
def yz:=@Int.mul_le_mul_of_nonneg_left
def Az:=@Nat.mul_lt_mul_of_pos_right
def Bz:=@Array.getElem?_append_left
def Cz:=@List.pairwise_iff_getElem
def Dz:=@List.extract_eq_take_drop
def Ez:=@Option.isSome_iff_exists
def Gz:=@List.mergeSort_singleton
def Hz:=@List.Pairwise.imp_of_mem
def Iz:=@Option.map_eq_some_iff
def Jz:=@List.toArray_replicate
def Kz:=@List.drop_eq_nil_of_le
abbrev ta:=ByteArray
abbrev wa:=Value
abbrev Aa:=World
abbrev Ba:=Program
abbrev Ca:=Operand
abbrev Da:=Option
abbrev Ea:=TypeId
end Go
--AxTab
namespace Go.Ax
def aBG:Array wa:=(Go.Lib.pow10Tab.map λz=>Value.int .u64 z).toArray
structure Km where
 t2:Ea
 p2:wa
 t3:Ea
 p3:wa
 m:Int
def tE(x:Km):List (Nat×Array wa):=
 [(0, #[.int .i64 x.m]),(1,aBG),(6, #[.iface x.t2 x.p2]),(7, #[.iface x.t3 x.p3])]
def L7:List Nat:=[197]
def aJ7:List Nat:=[195]
section
variable{p:Prop}
def za(h:p:=by
 have h1:s.v>0:=bG h1
 obtain⟨k',rfl,hJ2⟩:=hJ.step h1
 apply Eb
 apply sX J
 apply sX J
 refine Tb (I':=⟨[(1,.s (.j0 1001 14 s.lo (n-s.lo))),(2,.s (.ptr 2 0)),(6,.s (.mo s.out.isEmpty 100)),(7,vI s.v),(8,vI s.p),(9,.s (.ptr 9 0))],[(1001,some (.row 180 n 14 (j9 s.cur))),(2,some (.cells [.d (dI pt.month),.d (dI pt.cell),.d (dS pt.aN),.d (dI pt.iZ),.d (dI pt.gV),.d (dI pt.load),.d (dS pt.dN)])),(100,some (.b8 82 s.out.length 7 (eJ s.out))),(9,some (.cells [.d (dI pt.month),.d (dI pt.cell),.d (dS pt.aN),.d (dI s.v),.d (dI pt.gV),.d (dI pt.load),.d (dS pt.dN)]))]⟩) (Lb [] (by rw[J];rfl) rfl Fa Fa) ?_
 have aMN:(a6 pt s).cur.length=n:=hJ2.len
 refine Uf (I':=⟨[(1,.s (.j0 1001 14 (a6 pt s).lo (n-(a6 pt s).lo))),(2,.s (.ptr 2 0)),(6,.s (.mo s.out.isEmpty 100)),(7,vI s.v),(8,vI s.p),(9,.s (.ptr 9 0))],[(1001,some (.row 180 n 14 (j9 (a6 pt s).cur))),(2,some (.cells [.d (dI pt.month),.d (dI pt.cell),.d (dS pt.aN),.d (dI pt.iZ),.d (dI pt.gV),.d (dI pt.load),.d (dS pt.dN)])),(100,some (.b8 82 s.out.length 7 (eJ s.out))),(9,some (.cells [.d (dI pt.month),.d (dI pt.cell),.d (dS pt.aN),.d (dI (xD s)),.d (dI pt.gV),.d (dI (I8 pt s)),.d (dS (FG pt s))]))]⟩) ?_ ?_
 ·apply sX J
  apply Cb
  refine aI (λh2=>?_) (λh2=>Qb ?_)
  ·have h2:((n-s.lo:Nat):Int)>0:=bG h2
   have fZ:s.lo<n:=O
   have wH:decide (s.lo<s.cur.length)=true:=pc O
   have YY:xD s=mm false s.v (s.cur.getD s.lo default).2:=by unfold xD;rw[wH];rfl
   have el:I8 pt s=(s.cur.getD s.lo default).1.number:=by unfold I8;rw[wH];rfl
   have ep:FG pt s=(s.cur.getD s.lo default).1.dN:=by unfold FG;rw[wH];rfl
   apply sX J
   apply oi Ha
   refine oi (show s.lo+(0:Int).toNat<n by omega) ?_
   refine Tb (I':=⟨[(1,.s (.j0 1001 14 s.lo (n-s.lo))),(2,.s (.ptr 2 0)),(6,.s (.mo s.out.isEmpty 100)),(7,vI s.v),(8,vI s.p),(9,.s (.ptr 9 0))],[(1001,some (.row 180 n 14 (j9 s.cur))),(2,some (.cells [.d (dI pt.month),.d (dI pt.cell),.d (dS pt.aN),.d (dI pt.iZ),.d (dI pt.gV),.d (dI pt.load),.d (dS pt.dN)])),(100,some (.b8 82 s.out.length 7 (eJ s.out))),(9,some (.cells [.d (dI pt.month),.d (dI pt.cell),.d (dS pt.aN),.d (dI (xD s)),.d (dI pt.gV),.d (dI pt.load),.d (dS pt.dN)]))]⟩) (Lb [] (by rw[J];rfl) rfl ⟨bQ,bQ,bQ,⟨rfl,cc (by rw[YY];rfl)⟩,oO⟩ Fa) ?_
   apply sX J
   apply oi Ha
   refine oi (show s.lo+(0:Int).toNat<n by omega) ?_
   apply oi Ha
   refine oi (show s.lo+(0:Int).toNat<n by omega) ?_
   refine aD ?_
   refine Tb (I':=⟨[(1,.s (.j0 1001 14 s.lo (n-s.lo))),(2,.s (.ptr 2 0)),(6,.s (.mo s.out.isEmpty 100)),(7,vI s.v),(8,vI s.p),(9,.s (.ptr 9 0))],[(1001,some (.row 180 n 14 (j9 s.cur))),(2,some (.cells [.d (dI pt.month),.d (dI pt.cell),.d (dS pt.aN),.d (dI pt.iZ),.d (dI pt.gV),.d (dI pt.load),.d (dS pt.dN)])),(100,some (.b8 82 s.out.length 7 (eJ s.out))),(9,some (.cells [.d (dI pt.month),.d (dI pt.cell),.d (dS pt.aN),.d (dI (xD s)),.d (dI pt.gV),.d (dI (I8 pt s)),.d (dS (FG pt s))]))]⟩) (Lb [] (by rw[J];rfl) rfl ⟨bQ,bQ,bQ,⟨rfl,cc (by rw[el,ep];rfl)⟩,oO⟩ Fa) ?_
   have e2:(a6 pt s).cur=s.cur.set s.lo ((s.cur.getD s.lo default).1,aW ((s.cur.getD s.lo default).2-xD s)):=by rw[YY];unfold a6;rw[wH];rfl
   have e1:(a6 pt s).lo=bif aW ((s.cur.getD s.lo default).2-xD s)==0 then s.lo+1 else s.lo:=by rw[YY];unfold a6;rw[wH];rfl
   apply sX J
   apply oi Ha
   refine oi (show s.lo+(0:Int).toNat<n by omega) ?_
   apply oi Ha
   refine ob (show s.lo+(0:Int).toNat<n by omega) ?_
   refine aD ?_
   refine Tb (I':=⟨[(1,.s (.j0 1001 14 s.lo (n-s.lo))),(2,.s (.ptr 2 0)),(6,.s (.mo s.out.isEmpty 100)),(7,vI s.v),(8,vI s.p),(9,.s (.ptr 9 0))],[(1001,some (.row 180 n 14 (j9 (a6 pt s).cur))),(2,some (.cells [.d (dI pt.month),.d (dI pt.cell),.d (dS pt.aN),.d (dI pt.iZ),.d (dI pt.gV),.d (dI pt.load),.d (dS pt.dN)])),(100,some (.b8 82 s.out.length 7 (eJ s.out))),(9,some (.cells [.d (dI pt.month),.d (dI pt.cell),.d (dS pt.aN),.d (dI (xD s)),.d (dI pt.gV),.d (dI (I8 pt s)),.d (dS (FG pt s))]))]⟩) (Lb [] (by rw[J];rfl) rfl ⟨⟨rfl,Bc rfl λa c ha hc=>Wa (by rw[e2];exact aGX (x:=aW ((s.cur.getD (s.lo+(0:Int).toNat) default).2-xD s)) O O hc)⟩,Fa⟩ Fa) ?_
   have hg:((a6 pt s).cur.getD s.lo default).2=aW ((s.cur.getD s.lo default).2-xD s):=by
    rw[e2]
    simp[fc,show s.lo<s.cur.length by omega]
   apply sX J
   apply oi Ha
   refine oi (show s.lo+(0:Int).toNat<n by omega) ?_
   apply Cb
   refine aI (λh3=>?_) (λh3=>Qb ?_)
   ·have h3:(((a6 pt s).cur.getD s.lo default).2==0)=true:=h3
    rw[hg]at h3
    rw[h3]at e1
    have e1:(a6 pt s).lo=s.lo+1:=e1
    apply eX J
    refine oi (show(0:Int)<=1/\(1:Int)<=((n-s.lo:Nat):Int)/\((n-s.lo:Nat):Int)<=((n-s.lo:Nat):Int) by omega) ?_
    exact⟨rfl,Lb [] (by rw[J];rfl) rfl Fa ⟨⟨rfl,Wb (by rw[e1,show n-(s.lo+1)=n-s.lo-1 by omega];rfl)⟩,Fa⟩⟩
   ·have h3:(((a6 pt s).cur.getD s.lo default).2==0)=false:=h3
    rw[hg]at h3
    rw[h3]at e1
    have e1:(a6 pt s).lo=s.lo:=e1
    exact⟨rfl,Lb [] (by rw[J];rfl) rfl Fa ⟨⟨rfl,Wb (by rw[e1];rfl)⟩,Fa⟩⟩
  ·have h2:¬((n-s.lo:Nat):Int)>0:=bF h2
   have wH:decide (s.lo<s.cur.length)=false:=Kc O
   have YY:xD s=s.v:=by unfold xD;rw[wH];rfl
   have el:I8 pt s=pt.load:=by unfold I8;rw[wH];rfl
   have ep:FG pt s=pt.dN:=by unfold FG;rw[wH];rfl
   have e1:(a6 pt s).lo=s.lo:=by unfold a6;rw[wH];rfl
   have e2:(a6 pt s).cur=s.cur:=by unfold a6;rw[wH];rfl
   exact⟨rfl,Lb [] (by rw[J];rfl) rfl ⟨⟨rfl,cc (by rw[e2];rfl)⟩,bQ,bQ,⟨rfl,cc (by rw[YY,el,ep];rfl)⟩,oO⟩ ⟨⟨rfl,Wb (by rw[e1];rfl)⟩,Fa⟩⟩
 ·apply sX J
  apply sX J
  refine aD ?_
  apply eX J
  apply ob dC
  refine ob (by rw[dK];show(s.out.length+1)*72<=_;omega) ?_
  refine ob (nJ λc hc=>by match c,hc with|0,_|1,_|2,_|3,_|4,_|5,_|6,_=>rfl) ?_
  refine⟨(k',a6 pt s),hJ2,Kl _,?_⟩
  refine Lb [(100,73)] (by rw[J];rfl) rfl ⟨bQ,bQ,⟨rfl,?_⟩,oO⟩ ⟨Z,Z,⟨rfl,Ye (by rw[lJ];exact cA _ _)⟩,⟨rfl,Ra (L8 pt s).symm⟩,⟨rfl,Ra (L9 pt s).symm⟩,oO⟩
  show aY _ (.b8 82 (a6 pt s).out.length 7 (eJ (a6 pt s).out))
  rw[lJ]
  refine Nf (el:=Av) (x:=⟨pt.month,pt.cell,pt.aN,xD s,mm false s.p (xD s),I8 pt s,FG pt s⟩) (λc hc=>?_)
  have hc:c<7:=hc
  match c,hc with|0,_|1,_|2,_|3,_|4,_|5,_|6,_=>rfl):=h
def zb(h:p:=by
 refine⟨rfl,by simp;omega,⟨mb _,by obtain⟨bs,hG,hN2⟩:=hG;exact⟨bs,hG,λg t m=>⟨hG.lt m,by rintro⟨x,c,_,hx⟩;exact hN2 g t m x c hx⟩⟩⟩,λt=>?_,hM,λx p e=>gO.has (hβ x p e),λx b e=>rJ.rep x b (Gk e),λx y b1 b2 b c c' h1 h2 e1 e2=>?_,λx b1 b c h1 e=>?_,λx b1 b c h1 e=>?_,λx hx=>⟨rfl,hex x hx⟩⟩
 ·have:=tW.rep (k:=0) (t:=t) (List.replicate (fn.ntmps-vs.length) undef) hr (Nat.zero_le _)
  simp only[ak]at this
  simp only[qM]
  have e:(vs.toArray++Array.replicate (fn.ntmps-vs.toArray.size) undef).getD t undef=(vs++List.replicate (fn.ntmps-vs.length) undef).getD t undef:=by
   simp[<-List.toArray_replicate]
  rw[e]
  exact this
 ·exact rJ.inj x y b c c' (dG (Gk h1)) (dG (Gk h2)) e1 e2
 ·exact rJ.apart x b c (dG (Gk h1)) e
 ·exact .inr ⟨x,c,dG (Gk h1),e⟩):=h
def zc(h:p:=by
 rw[hd,cL]at he
 rw[hg]
 apply aI<;>intro h
 ·apply Ia
  rw[he,h];rfl
 ·refine⟨i+1,⟨O,?_⟩,O,?_⟩
  ·rw[he,h];rfl
  ·refine Zb J trivial ⟨rQ,rQ,rQ,⟨rfl,?_⟩,rQ,oO⟩
   exact Na vI (aG O O)):=h
def zd(h:p:=by
 rintro i ⟨hi,he⟩
 apply eX J
 apply aI<;>intro h
 ·have h:(i:Int)<l.length:=bG h
  have bC:i<l.length:=O
  have hd:l.drop i=l[i]::l.drop (i+1):=Ve bC
  have hg:l.getD i default=l[i]:=aX bC
  apply oi Ha
  refine aB ((hp (l.getD i default) (by rw[hg];simp)).conv (args':=_) ⟨⟨Ja _,Ja _,Ja _,oO⟩,bj⟩) ?_
  rw[hd,cL]at he
  rw[hg]
  apply aI<;>intro h
  ·apply Ia
   rw[he,h];rfl
  ·refine⟨i+1,⟨O,?_⟩,O,?_⟩
   ·rw[he,h];rfl
   ·refine Zb J trivial ⟨rQ,rQ,rQ,⟨rfl,?_⟩,rQ,oO⟩
    exact Na vI (aG O O)
 ·have h:¬(i:Int)<l.length:=bF h
  have bC:i=l.length:=O
  subst bC
  apply Ia
  rw[he,Sg];rfl):=h
def zg(h:p:=by
 have TP:(cur.toList.take (ix*s+off)).length=ix*s+off:=by simp;omega
 simp only[Jl]
 by_cases jA:i'=ix/\off<=j/\j<off+cs.length
 ·obtain⟨rfl,hj1,hj2⟩:=jA
  have tC:j-off<cs.length:=O
  have hd:=Ek hc.1.1 (List.getElem?_eq_getElem tC)
  obtain⟨u,hu,hrr⟩:=FJ.get (List.getElem?_eq_getElem tC)
  refine⟨u,?_,?_⟩
  ·rw[Gd O,TP,Jc O]
   rw[show i'*s+j-(i'*s+off)=j-off by omega]
   exact hu
  ·have b1:Nat.ble off j=true:=Nat.ble_eq_true_of_le hj1
   have b2:Nat.blt j (off+cs.length)=true:=Nat.ble_eq_true_of_le hj2
   simp only[eT,Xi,b1,b2,Uh,cond_true,List.getElem?_eq_getElem tC]
   rw[hd]at hrr
   exact hrr
 ·obtain⟨u,hu,hrr⟩:=cY i' j bC hj
  have fJ:i'*s+j<ix*s+off\/ix*s+off+us.length<=i'*s+j:=by
   rcases Nat.lt_trichotomy i' ix with h|h|h
   ·have:(i'+1)*s<=ix*s:=Vc _ h
    rw[Bj]at this;omega
   ·subst h;omega
   ·have:(ix+1)*s<=i'*s:=Vc _ h
    rw[Bj]at this;omega
  refine⟨u,?_,?_⟩
  ·rcases fJ with h|h
   ·rw[Jc O,Ni h]
    simpa using hu
   ·rw[Gd O,TP,Gd O,Ri]
    rw[show ix*s+off+us.length+(i'*s+j-(ix*s+off)-us.length)=i'*s+j by omega]
    simpa using hu
  ·have:eT f ix off cs i' j=f i' j:=by
    unfold eT
    split
    ·rename_i h
     cases hbb:(Nat.ble off j&&Nat.blt j (off+cs.length))with
     |false=>rfl
     |true=>
      simp only[Bool.and_eq_true]at hbb
      exact absurd ⟨h,Dc hbb.1,Dc hbb.2⟩ jA
    ·rfl
   rw[this]
   exact hrr):=h
def zh(h:p:=by
 intro n
 induction n with
 |zero=>intro x _;cases x <;> rfl
 |succ n ih=>
  intro x h
  have cat:∀{α:Type} (f f':α->List Nat) (l:List α),(∀c,c∈l->f' c=f c)->dV f' l=dV f l:=by
   intro α f f' l hl
   induction l with
   |nil=>rfl
   |cons c r ihl=>simp only[dV];rw[hl c sM,ihl (λc hc=>hl c (oc _ hc))]
  cases x with
  |ptr x off=>
   simp only[reach,h x (by simp[reach])]
   congr 1
   cases hb:aH I.box x with
   |none=>rfl
   |some y=>cases y with
    |none=>rfl
    |some bc=>cases bc with
     |row e n s f=>rfl
     |b8 e n s f=>rfl
     |map vk l=>rfl
     |smap vk l=>rfl
     |dm l n=>rfl
     |fresh T vs=>rfl
     |iter q n t=>rfl
     |cells cs=>
      simp only
      refine cat _ _ cs (λc hc=>ih c (λm hm=>h m ?_))
      simp only[reach,hb]
      obtain⟨j,hj⟩:=dd hc
      exact oc _ (iT hj hm)
  |j0 x s lo q=>
   simp only[reach,h x (by simp[reach])]
   congr 1
   cases hb:aH I.box x with
   |none=>rfl
   |some y=>cases y with
    |none=>rfl
    |some bc=>cases bc with
     |row e n s f=>rfl
     |b8 e n s f=>rfl
     |map vk l=>rfl
     |smap vk l=>rfl
     |dm l n=>rfl
     |fresh T vs=>rfl
     |iter q n t=>rfl
     |cells cs=>
      simp only
      refine cat _ _ cs (λc hc=>ih c (λm hm=>h m ?_))
      simp only[reach,hb]
      obtain⟨j,hj⟩:=dd hc
      exact oc _ (iT hj hm)
  |dZ f cs=>
   simp only[reach]
   refine cat _ _ cs (λc hc=>?_)
   cases c with
   |d x=>rfl
   |ptr x off=>
    refine ih _ (λm hm=>h m ?_)
    obtain⟨j,hj⟩:=dd hc
    exact iT (f:=λc=>match c with|.d _=>[]|.ptr x off=>reach n I (.ptr x off)) hj hm
  |_=>rfl):=h
def zj(h:p:=by
 have:(fn.results.mapM (l6 a'.tmps)).run P w'=.ok AY.toArray w':=by
  rw[<-Array.toArray_toList (xs:=fn.results),yy,NA]
  simp only[Sem.run_map,a7,Result.andThen]
 have e:results fn a'.tmps=(do let vs<-fn.results.mapM (l6 a'.tmps);pure (if h:vs.size=1 then vs[0]else .tuple vs)):=by
  unfold results
  congr 1
 rw[e]
 simp only[Ic,this,Result.andThen,Wc]):=h
def zk(h:p:=by
 ·have h:¬(i:Int)<l.length:=bF h
  have bC:i=l.length:=O
  subst bC
  apply Ia
  rw[he,Sg];rfl):=h
def zm(h:p:=by exact Na vI (aG O O)):=h
def zn(h:p:=by
 cases lo with
 |none=>
  simp only[gM]at h⊢
  cases hi with
  |none=>exact h
  |some y=>simp only at h⊢;rw[TZ y sM];exact h
 |some y=>
  simp only[gM]at h⊢
  rw[DR y sM]
  cases hi with
  |none=>exact h
  |some z=>simp only at h⊢;rw[TZ z sM];exact h):=h
def zo(h:p:=by
 replace h:=Db h
 obtain⟨vx,h,tB⟩:=h
 split at h
 case h_2=>cases h
 rename_i b
 split at h
 case h_2=>cases h
 rename_i vk l hb
 split at h
 case h_2=>cases h
 rename_i ti gG
 split at h
 case h_2=>cases h
 rename_i kt et hu
 have dB:=(hT.get gG).EM hu
 split at h
 case h_2=>cases h
 rename_i hd
 refine⟨_,_,h,λR N M V a w i=>?_⟩
 obtain⟨bb,c,e1,ex⟩:=tB iY R N M V a w i
 obtain⟨b',c',e2,hh⟩:=i.box b _ hb
 rw[e1]at e2;cases e2
 have a7:(execOp a.eval o).run P w=.ok (.value (.pointer (some ⟨w.heap.size,0,none⟩))) (w.alloc (.mapIter (some bb) l.length #[] l.length)):=by
  simp[execOp,ho,ex,Bw w t kt et bb _ _ dB hh]
 obtain⟨V',h1,h2,h3,h4⟩:=i.new (w':=w.alloc (.mapIter (some bb) l.length #[] l.length)) (c:=(0,0)) hd (ob:=.mapIter (some bb) l.length #[] l.length) rfl rfl rfl rfl (bc:=.iter b l.length []) (by
  intro V' e hle
  exact⟨_,_,_,_,e,hle _ _ e1,Ke w _⟩)
 exact⟨_,_,M,V',.inl a7,⟨_,_,h1,rfl⟩,h3,fb _ _,h4⟩):=h
def zp(h:p:=by
 cases pV:(Nat.beq s s'&&Nat.ble (o+bl agg size) s)with
 |false=>rw[pV]at h;cases h
 |true=>
  rw[pV]at h
  simp only[Bool.and_eq_true]at pV
  have LC:=Mb pV.1
  have SH:=Dc pV.2
  obtain⟨jA,h⟩:=h
  cases agg with
  |true=>
   refine⟨_,h,λH4 R N M V a w iv t u ru ha hs=>?_⟩
   obtain⟨b,rfl,cY⟩:=row R N M V a w iv LC (jA.get H4) u ru
   simp only[bl]at SH
   obtain⟨vs,hl,hr,hm⟩:=Jr (M:=M) (V:=V) (C:=λj v=>w.cell? ⟨b,i*s+o+j,none⟩=some v) (f:=λj=>f i (o+j)) size 0
    (λj _ hj=>cY j O)
   exact⟨_,many w t b _ vs ha (by intro w;rw[hs,hl]) (λj v hv=>by have:=hm j v hv;rwa [Ec]at this),vs,rfl,hr⟩
  |false=>
   refine⟨_,h,λH4 R N M V a w iv t u ru ha hs=>?_⟩
   obtain⟨b,rfl,cY⟩:=row R N M V a w iv LC (jA.get H4) u ru
   simp only[bl]at SH
   obtain⟨v,hv,hr⟩:=cY 0 O
   exact⟨v,one w t b _ v ha hv,hr⟩):=h
def zq(h:p:=by
 rw[QQ]at jJ
 cases AY with
 |nil=>exact jJ.elim
 |cons v F9=>
  cases r' with
  |nil=>
   cases F9 with
   |cons _ _=>exact jJ.2.elim
   |nil=>
    have:=jJ.1
    simp only[Ln,Rb,xe,Ec,Er,yX]
    cases t with
    |s x=>exact this
    |g cs=>exact this
  |cons t2 r2=>
   cases F9 with
   |nil=>exact jJ.2.elim
   |cons v2 vs3=>
    have fJ:¬(v::v2::vs3).toArray.size=1:=sM
    rw[Gr fJ]
    exact⟨_,rfl,jJ⟩):=h
def zu(h:p:=by
 intro x b h
 obtain⟨h1,h2,h3⟩:=Eo (λ_ h=>h) hb x b h
 cases hs:aH I.box (look ren x)with
 |none=>
  rw[hs]at h3
  have hn:V' x=none:=by
   rw[jA x h1]
   cases hb0:V (look ren x)with
   |none=>rfl
   |some p=>obtain⟨y,hy⟩:=i.keys _ _ hb0;rw[hs]at hy;cases hy
  cases b with
  |b8 e n s f=>intro k c e;rw[hn]at e;cases e
  |_=>cases h3
 |some y=>
  cases y with
  |none=>rw[hs]at h3;exact h3.elim
  |some b0=>
   rw[hs]at h3
   have eD:=h3 M V w (look ren x) (i.box _ _ hs)
   cases b with
   |cells cs=>exact tf EP h1 h2 eD
   |row e n s f=>exact tf EP h1 rfl eD
   |b8 e n s f=>intro k c e;rw[jA x h1]at e;exact eD k c e
   |map vk l=>exact tf EP h1 rfl eD
   |smap vk l=>exact tf EP h1 rfl eD
   |dm l n=>exact tf EP h1 rfl eD
   |fresh T vs=>exact tf EP h1 rfl eD
   |iter m n seen=>exact tf EP h1 h2 eD):=h
def zx(h:p:=by
 refine⟨i+1,⟨O,by rw[hj,h];rfl⟩,O,?_⟩
 refine Zb J Ga ⟨rQ,⟨rfl,?_⟩,rQ,oO⟩
 exact Na vI (aG O O)):=h
def zy(h:p:=by exact Ia (by rw[hj,h];rfl)):=h
def ua(h:p:=by
 rintro i ⟨hi,he⟩
 apply eX J
 apply aI<;>intro h
 ·have h:(i:Int)<l.length:=bG h
  have bC:i<l.length:=O
  have hd:l.drop i=l[i]::l.drop (i+1):=Ve bC
  have hg:l.getD i default=l[i]:=aX bC
  apply oi Ha
  refine aB ((hp (l.getD i default) (by rw[hg];simp)).conv (args':=_) ⟨⟨Ja _,Ja _,oO⟩,bj⟩) ?_
  rw[hd,cL]at he
  rw[hg]
  apply aI<;>intro h
  ·apply Ia
   rw[he,h];rfl
  ·refine⟨i+1,⟨O,?_⟩,O,?_⟩
   ·rw[he,h];rfl
   ·refine Zb J trivial ⟨rQ,rQ,rQ,⟨rfl,?_⟩,rQ,oO⟩
    exact Na vI (aG O O)
 ·have h:¬(i:Int)<l.length:=bF h
  have bC:i=l.length:=O
  subst bC
  apply Ia
  rw[he,Sg];rfl):=h
def ub(h:p:=by
 have hh:=h x (by simp[b9,reach])
 cases dE T t with
 |none=>rfl
 |some ti=>
  simp only
  generalize ti.j7=u
  cases u with
  |slice e=>
   simp only
   cases dE T e with
   |none=>rfl
   |some te=>
    cases vi with
    |s y=>cases y with
     |d z=>cases z with
      |val v=>cases v <;> first|rfl|simp only[hh]
      |_=>rfl
     |_=>rfl
    |_=>rfl
  |_=>rfl):=h
def uc(h:p:=by exact xA J hdn O HW hj (λaa h2=>hX aa _ (by rw[hS];exact s1) (by rw[hS];rw[Zq];exact s3.trans jL) (s4.trans hit) (by rw[hS];exact Eq.mpr (Na (λb=>HSub R _ aa _ (xM p Y M LN b i xs (j+1) _) _) s2) h2))):=h
def ud(h:p:=by
 rw[h]at hj
 apply aI<;>intro h8
 ·exact Ia (by rw[hj,h8];rfl)
 refine⟨i+1,⟨O,by rw[hj,h8];rfl⟩,O,?_⟩
 refine Zb J Ga ⟨rQ,rQ,rQ,rQ,rQ,⟨rfl,?_⟩,rQ,oO⟩
 exact Na vI (aG O O)):=h
def ue(h:p:=by
 refine⟨rfl,by simp;omega,⟨mb _,by obtain⟨bs,hG⟩:=hG;exact⟨bs,hG,λg t m=>⟨hG.lt m,by rintro⟨x,c,hx,_⟩;cases hx⟩⟩⟩,λt=>?_,hM,λ_ _ e=>(by cases e),λ_ _ e=>(by cases e),λ_ _ _ _ _ _ _ e=>(by cases e),λ_ _ _ _ e=>(by cases e),λ_ _ _ _ e=>(by cases e),λ_ hx=>(by cases hx)⟩
 have:=tW.rep (k:=0) (t:=t) (List.replicate (fn.ntmps-vs.length) undef) hr (Nat.zero_le _)
 simp only[ak]at this
 simp only[uV]
 have e:(vs.toArray++Array.replicate (fn.ntmps-vs.toArray.size) undef).getD t undef=(vs++List.replicate (fn.ntmps-vs.length) undef).getD t undef:=by
  simp[<-List.toArray_replicate]
 rw[e]
 exact this):=h
def uf(h:p:=by exact Ia (by rw[hj,bC,Td];rfl)):=h
def ug(h:p:=by
 apply ob dC
 refine ob (by rw[dK];show((fK p Y m i).length+1)*8<=_;rw[TW];omega) ?_
 refine ob (nJ (AS rfl)) ?_
 refine aD ?_
 apply eX J
 refine⟨i+1,O,O,?_⟩
 rw[fN]
 refine Lb [(1004,701),(100,25)] (by rw[J];rfl) rfl ⟨bQ,bQ,⟨rfl,Pe ⟨Ta,Ta,Ta,Ta,Ta,Ye (by rw[SJ];exact cA _ _),oO⟩⟩,⟨rfl,?_⟩,bQ,bQ,bQ,⟨rfl,pD.row⟩,oO⟩ Fa
 show aY _ (.b8 3 (fK p Y m (i+1)).length 1 (cP (fK p Y m (i+1))))
 rw[SJ]
 exact Nf (el:=λn _=>dI n) (x:=(fF p Y m i).1) (AS rfl)):=h
def uh(h:p:=by
 refine⟨λx hx=>?_,λx b hb=>?_,λx y b c c' hx hy e1 e2=>?_,λx b c hx e o=>?_⟩
 ·obtain⟨b,hb⟩:=jT hx
  rw[Hd]at kJ
  exact(i'.box x b (qk qS hb)).Qj (kJ _ hb)
 ·exact xh hMF (Kf V') rfl (λ_ _ _=>rfl) (i'.box x b (qk qS hb))
 ·obtain⟨D2,h1⟩:=cQ x hx
  obtain⟨bx2,h2⟩:=cQ y hy
  exact i'.inj x y D2 bx2 b c c' h1 h2 e1 e2
 ·obtain⟨D2,h1⟩:=cQ x hx
  have hB:isB b:=⟨x,c,hx,e⟩
  by_cases qT:b<w.heap.size
  ·simp only[F,La qT]
   exact i'.apart x D2 b c h1 e o
  ·simp only[F,Ka qT,La hB]):=h
def ui(h:p:=by
 intro u hu
 obtain⟨j,hj⟩:=dd hu
 have tC:j<m*te.size:=by have:=(Ue.1 hj).1;omega
 have h1:j / te.size<m:=Uv (by rw[Cj];exact tC)
 obtain⟨v,hv,hr⟩:=pL (j / te.size) (j%te.size) h1 (Cg _ c2)
 have e:j / te.size*te.size+j%te.size=j:=by rw[Cj];exact Ky j te.size
 rw[e,hj]at hv;cases hv
 have xO:=oW (j / te.size) (j%te.size) h1 (Cg _ c2)
 exact gm hr (by cases hx:g (j / te.size) (j%te.size) <;> rw[hx]at xO <;> first|exact xO|rfl|cases xO)):=h
def uj(h:p:=by
 intro x bc b c e e' o u hu
 obtain⟨hnx,ex⟩:=Ij e
 have hnb:¬isB b:=by
  rintro⟨y,c',hy,TO⟩
  obtain⟨bc',aI7⟩:=cQ y hy
  exact hnx (i'.inj y x bc' bc b c' c aI7 ex TO e'▸hy)
 rcases i'.low x bc b c ex e' with h|h
 ·have:¬b<w.heap.size:=by have:w.heap.size<=b:=h;omega
  simp only[F,Ka this,Ka hnb];exact hu
 ·obtain⟨y,c',hy,TO⟩:=h
  have hy':y∈names bx':=by
   rw[Hd]at qQ
   simpa using qQ y hy
  have e1:V' y=some (b,c'):=by rw[(i'.ref y hy).1];exact TO
  exact(hnb ⟨y,c',hy',e1⟩).elim):=h
def uk(h:p:=by
 apply eX J
 refine⟨j+1,O,O,?_⟩
 exact Qa J [] rfl ⟨bQ,bQ,⟨rfl,cc (by rw[e];rfl)⟩,Fa⟩ Fa):=h
def ul(h:p:=by
 refine⟨i+1,⟨O,by rw[hj,h];rfl⟩,O,?_⟩
 refine Zb J Ga ⟨rQ,rQ,rQ,⟨rfl,?_⟩,rQ,oO⟩
 exact Na vI (aG O O)):=h
def um(h:p:=by
 refine Zb J Ga ⟨rQ,rQ,rQ,⟨rfl,?_⟩,rQ,oO⟩
 exact Na vI (aG O O)):=h
def uo(h:p:=by
 intro e he
 unfold o6 at he
 split at he
 ·rename_i i p hp
  obtain⟨j,hj⟩:=dd he
  rw[se]at hj
  cases hE:E[j]? with
  |none=>rw[hE]at hj;cases hj
  |some y=>
   rw[hE]at hj
   have hy:=h y (Dd hE)
   have hj:(if i=j then(y.1,y.2.1++ [t],y.2.2)else y)=e:=by simpa using hj
   split at hj
   ·subst hj;simp;omega
   ·subst hj;omega
 ·rcases ic.1 he with he|he
  ·have:=h e he;omega
  ·rw[Ib.1 he];simp):=h
def uq(h:p:=by
 have h:((l.length:Int)==0)=true:=h
 have:l=[]:=by
  have:(l.length:Int)=0:=by simpa using h
  exact fh O
 subst this
 exact Fg Nd):=h
def ur(h:p:=by
 refine Zb J Ga ⟨rQ,rQ,rQ,rQ,rQ,⟨rfl,?_⟩,rQ,oO⟩
 exact Na vI (aG O O)):=h
def ut(h:p:=by
 refine Sa (Eb ?_)
 apply sX J
 apply oi Ha
 apply eX J
 apply eX J
 refine⟨i+1,O,O,?_⟩
 exact Qa J [] rfl Fa Fa):=h
def uu(h:p:=by
 intro x hx
 obtain⟨i,hi,rfl⟩:=Vj hx
 have hg:=h.gr
 unfold dX at hg
 obtain⟨_,hg⟩:=dU hg
 obtain⟨_,hg⟩:=dF dC hg
 obtain⟨_,hg⟩:=dF dC hg
 have hb:=lQ hg i (Nat.zero_le _) O
 unfold uC at hb
 obtain⟨_,hb⟩:=dF dC hb
 obtain⟨_,hb⟩:=dF dC hb
 unfold vN at hb
 obtain⟨_,hb⟩:=dF dC hb
 obtain⟨_,hb⟩:=dF dC hb
 obtain⟨hb,_⟩:=dF dC hb
 simp only[Qd]at hb
 rw[aX hi]at hb
 omega):=h
def uv(h:p:=by exact Qa J [] rfl trivial Fa):=h
def uw(h:p:=by
 cases k2:f.kind==2 with
 |true=>
  refine⟨by simp;omega,λx hx=>?_⟩
  simp only[cond_true,Ua,ic,Ib]at hx
  rcases hx with hx|rfl
  ·exact y5 x hx
  ·omega
 |false=>
  refine⟨by simp[wG];omega,λx hx=>?_⟩
  simp only[Ua,wG,ic,wb]at hx
  rcases hx with hx|rfl|hx
  ·exact y5 x (Zx hx)
  ·omega
  ·exact y5 x (ay hx)):=h
def ux(h:p:=by
 obtain⟨d,h1,h2⟩:=h.j7
 rw[hu]at h2
 cases d <;> simp only[rk]at h2 <;> first|cases h2;exact h1|cases h2):=h
def uy(h:p:=by rw[Bg,List.getElem?_eq_getElem h,aX h,iw];rfl):=h
def uz(h:p:=by
 ·have h5:¬(i:Int)<l.length:=bF h5
  have bC:i=l.length:=O
  exact Ia (by rw[hj,bC,Td];rfl)):=h
def vd(h:p:=by refine Zb J trivial Ga):=h
def ve(h:p:=by
 show aY _ (.b8 3 (fK p Y m (i+1)).length 1 (cP (fK p Y m (i+1))))
 rw[SJ]
 exact Nf (el:=λn _=>dI n) (x:=(fF p Y m i).1) (AS rfl)):=h
def vg(h:p:=by
 intro x b c hx e
 obtain⟨D2,h1⟩:=cQ x hx
 rcases i'.low x D2 b c h1 e with h|⟨y,c',hy,TO⟩
 ·exact .inl h
 ·exact .inr ⟨y,c',TO⟩):=h
def vh(h:p:=by
 apply sX J
 refine Tb (I':=⟨[(4,.s (.own 1001))],[(1001,some (.row 175 l.length 14 (pK (rG l))))]⟩) (Lb [] (by rw[J];rfl) rfl ⟨⟨rfl,Bc rfl λi j hi hj=>Wa (by unfold pK;rw[e,La hi])⟩,oO⟩ Fa) ?_
 refine Tb (Nr (e:=175) (n:=l.length) (s:=14) (f:=pK (rG l)) 4 1001 rfl rfl) ?_
 apply eX J
 exact⟨Wb (by rw[e];rfl),rfl,oO⟩):=h
def vj(h:p:=by
 try simp only
 cases hs:Nat.beq s te.size with
 |false=>rw[hs]at h;cases h
 |true=>
  rw[hs]at h
  simp only[cond_true]at*
  cases lo with
  |none=>
   simp only[gM]at h⊢
   cases hi with
   |none=>exact h
   |some y=>simp only at h⊢;rw[TZ y sM];exact h
  |some y=>
   simp only[gM]at h⊢
   rw[DR y sM]
   cases hi with
   |none=>exact h
   |some z=>simp only at h⊢;rw[TZ z sM];exact h):=h
def vl(h:p:=by refine Zb J Ga Ga):=h
def vm(h:p:=by
 refine⟨λx hx=>?_,λx b hb=>i'.box x b (qk qS hb),λx y b c c' hx hy e1 e2=>?_,λx b c hx e o=>?_⟩
 ·obtain⟨b,hb⟩:=jT hx
  rw[Hd]at kJ
  exact(i'.box x b (qk qS hb)).Qj (kJ _ hb)
 ·obtain⟨D2,h1⟩:=cQ x hx
  obtain⟨bx2,h2⟩:=cQ y hy
  exact i'.inj x y D2 bx2 b c c' h1 h2 e1 e2
 ·obtain⟨D2,h1⟩:=cQ x hx
  exact i'.apart x D2 b c h1 e o):=h
def vn(h:p:=by
 refine⟨i+1,⟨O,by rw[hj,h6];rfl⟩,O,?_⟩
 refine Zb J trivial ⟨rQ,rQ,⟨rfl,?_⟩,rQ,oO⟩
 exact Na vI (aG O O)):=h
def vo(h:p:=by
 refine⟨i+1,⟨O,by rw[he,h];rfl⟩,O,?_⟩
 refine Zb J trivial ⟨rQ,rQ,⟨rfl,?_⟩,rQ,oO⟩
 exact Na vI (aG O O)):=h
def vp(h:p:=by
 ·match j with
  |0=>exact Wa hf
  |_+1=>exactλ_ _ _=>trivial):=h
def vq(h:p:=by
 unfold wpOpIn
 rw[sO]
 simp only
 split
 ·rename_i hw
  rw[La hw]at jO
  exact MQ jO.1 (Hf next jO.2)
 ·rename_i hw
  rw[Ka hw]at jO
  exact⟨λ_ _=>trivial,next _ _ jO⟩):=h
def vr(h:p:=by
 split at h
 case h_2=>cases h
 rename_i i hi
 split at h
 case h_2=>cases h
 rename_i e hu
 cases op <;> first
  |exact h.elim
  |exact⟨_,h,λK k=>by unfold bin;simp only[hi,hu];exact k⟩):=h
def vt(h:p:=by
 intro x y hx hy e
 simp only[HO,Hd]at hi
 have:=hi x hx y hy
 simp only[Sh]at this
 rcases this with h|h
 ·exact Mb h
 ·rw[e]at h;simp at h):=h
def vu(h:p:=by
 intro x y bx zB b c c' ex ey hx hy
 obtain⟨kx,b0,g0,e0⟩:=live x bx b c ex hx
 obtain⟨ky,b1,g1,e1⟩:=live y zB b c' ey hy
 exact QY x y kx ky (i.inj _ _ b0 b1 b c c' g0 g1 e0 e1)):=h
def vw(h:p:=by exact⟨_,_,M,V',.inl a7,⟨_,_,h1,rfl⟩,h3,fb _ _,h4⟩):=h
def qe(h:p:=by
 simp only[reach,wb]at h⊢
 apply h.imp id
 cases hb:aH I.box x with
 |none=>simp
 |some y=>cases y with
  |none=>simp
  |some bc=>cases bc with
   |row e n s f=>simp
   |b8 e n s f=>simp
   |map vk l=>simp
   |smap vk l=>simp
   |dm l n=>simp
   |fresh T vs=>simp
   |iter q n t=>simp
   |cells cs=>exact lift (λc hc=>ih c m hc)):=h
def qf(h:p:=by
 apply aI<;>intro h1
 ·have h1:(fR f !=0)=true:=h1
  exact Ia (by unfold JB;rw[h1];rfl)
 have h1:(fR f !=0)=false:=h1
 repeat refine aR ?_
 apply aI<;>intro h2
 ·have h2:uM p f=true:=h2
  exact Ia (by unfold JB;rw[h1,h2];rfl)
 ·have h2:uM p f=false:=h2
  exact Ia (by unfold JB;rw[h1,h2];rfl)):=h
def qg(h:p:=by
 rintro e w' ⟨rfl,rfl⟩
 exact⟨_,M,rfl,rfl,fb _ _,hM,⟨Below.refl _ _,oO⟩⟩):=h
def qi(h:p:=by
 intro v h
 by_cases h0:0<i
 ·rw[fQ h0]at h;exact h
 ·rw[show decide ((i:Int)>0)=false by simp;omega]at h⊢;exact h):=h
def qj(h:p:=by
 rename_i e n s' f hb
 cases hc:(Nat.beq s s'&&Nat.ble (o+bl agg size) s)with
 |false=>rw[hc]at h;cases h
 |true=>
  rw[hc]at h
  cases agg with
  |true=>exact⟨_,h.2,λK k=>by unfold kH;simp only[hb,hc,cond_true];exact⟨h.1,k⟩⟩
  |false=>exact⟨_,h.2,λK k=>by unfold kH;simp only[hb,hc,cond_true];exact⟨h.1,k⟩⟩):=h
def qm(h:p:=by simp[fc,ag,dy h]):=h
def qn(h:p:=by
 have hw:=i.write (bc':=.iter m l.length (j::seen)) hb e1 (w':=setBlock w1 bb (.mapIter (some bm) l.length (j::seen).reverse.toArray l.length)) (by rw[gC,q1]) (λk hk=>by rw[fD _ _ _ hk,q1]) q2 q3 q4
  ⟨bb,c,bm,cm,e1,em,iS hh1⟩ trivial
 exact⟨_,_,h2 j hj hs,_,_,QR,⟨_,rfl,rfl,rfl,Zi _ _ _,trivial⟩,hw.1,hw.2⟩):=h
def qp(h:p:=by rw[Bj]at this;omega):=h
def qq(h:p:=by
 rw[fE]at h
 cases hk:k==e.1 with
 |true=>
  rw[hk]at h
  obtain rfl:(i,e)=p:=sc h
  exact⟨mb _,sM,(by simpa using hk:k=e.1).symm⟩
 |false=>
  rw[hk]at h
  obtain⟨h1,h2,h3⟩:=xU (i:=i+1) h
  refine⟨O,?_,h3⟩
  rw[show p.1-i=(p.1-(i+1))+1 by omega,Uq]
  exact h2):=h
def qr(h:p:=by
 by_cases DQ:x=d
 ·subst DQ
  rw[h1]at e2;cases e2
  exact(fQ _ hs).2 rfl
 ·have e1':aH I.box x=some (some bx):=by
   have e1:aH ((d,some (jK.row e r.n s r.f))::I.box) x=some (some bx):=e1
   rw[aL,Ka (λh=>DQ h.symm)]at e1;exact e1
  rw[h3 x DQ]at e2
  exact hi.names x bx b c e1' e2 (fQ _ hs).1):=h
def qt(h:p:=by
 intro b2 o u hu
 have fJ:b2≠b:=λh=>by
  subst h
  have:=rJ.apart 1001 b2 c (Ib.2 rfl) hx o
  rw[this]at hu;cases hu
 have hold:=hM b2 o u hu
 have hb2:b2<w.heap.size:=Rq w ⟨b2,o,none⟩ hold
 simp only[World.cell?]at hold⊢
 rw[aCG b2 hb2 fJ]
 exact hold):=h
def qu(h:p:=by exact Qa J [] rfl Fa Fa):=h
def qx(h:p:=by
 rename_i e n s' f hb
 cases hc:(o5 cs&&Nat.beq s s'&&Nat.ble (off+ti.size) s)with
 |false=>rw[hc]at h;cases h
 |true=>
  rw[hc]at h
  refine⟨_,_,_,h.2,λI' e ex ey C' k=>?_⟩
  unfold o7
  rw[ex,ey]
  refine hp _ (hp2 _ ?_)
  simp only[gG,nR,oU,cond_true,e,hb,hc]
  exact⟨h.1,k⟩):=h
def qy(h:p:=by
 have:=Rv (le:=λx y:bJ=>decide (x<=y)) (λa b c h1 h2=>by
  simp only[ae]at*;exact tr h1 h2) (λa b=>by
  simp only[Sh,ae];exact List.le_total a b) l
 exact this.imp λ{x y} h=>by simpa using h):=h
def qz(h:p:=by match c,hc with|0,_|1,_|2,_|3,_|4,_|5,_|6,_|7,_|8,_|9,_|10,_|11,_|12,_=>rfl):=h
def ja(h:p:=by
 repeat first|apply sk|apply st|apply sg
 apply Ia
 show vB _=vB _
 apply Na vB
 rw[Ff]
 simp[within]):=h
def jb(h:p:=by
 have hs0:h.it=some (bi,sn)/\h'.clock=h.clock:=by
  rw[<-BW]at hs⊢
  unfold eR at hs⊢
  split at hs
  ·exact⟨hs,rfl⟩
  ·rename_i hq;rw[hit hq]at hs;cases hs
 have:=hF.iter bi sn hs0.1
 rw[hs0.2,FX]
 exact(sO bi (λe=>by rw[e,hF.map]at this;cases this)).trans this):=h
def jc(h:p:=by rename_i hu;exact⟨_,h,λK k=>by unfold qL;simp only[gG,hu];exact k⟩):=h
def jd(h:p:=by
 obtain⟨e₂,a₂,w₂,⟨aa,M2,la,hq₂,i2,hM2,TX⟩,BZ⟩:=ih (μ s') (hn▸fZ) s' rfl hJ' M1 la a₁ w₁ i2
 exact⟨e₂,a₂,w₂,⟨aa,M2,la,hq₂,i2,hM.trans hM2,hk.trans TX⟩,.of_steps (StepsIn.trans nI (.one (Tl hb hr rfl) stepR_inLoop)) BZ⟩):=h
def jf(h:p:=by exact⟨undef,_,M,V,.inr ⟨a7,rfl⟩,trivial,hw.1,fb _ _,hw.2⟩):=h
def jg(h:p:=by
 refine⟨by simp;omega,λx hx=>?_⟩
 simp only[cond_true,Ua,ic,wb,Sd,Kd]at hx
 rcases hx with hx|rfl|rfl|rfl|rfl|rfl|rfl|rfl
 ·exact y5 x hx
 ·omega
 ·omega
 ·omega
 ·omega
 ·rw[wV];omega
 ·omega
 ·rw[wV];omega):=h
def jh(h:p:=by exact xA J (qA hv.1) (Xb (qY _ _ _) dC) HW hj (λaa h2=>hX aa _ (by rw[hS];exact s1) (by rw[hS];rw[Zq];exact s3.trans jL) (s4.trans hit) (by rw[hS];exact Eq.mpr (Na (λb=>HSub R _ aa _ (xM p Y M LN b i xs (j+1) _) _) s2) h2))):=h
def ji(h:p:=by
 ·rename_i hx
  split at h
  ·rename_i d hd
   cases hN:Nat.blt d N with
   |false=>rw[hN]at h;cases h
   |true=>
    rw[hN]at h
    obtain⟨r,h1,h2⟩:=mD.pt h
    exact⟨_,h1,λK' k=>by unfold a6;simp only[hg,ht,hv,hx,hd,hN,cond_true];exact h2 _ k⟩
  ·cases h):=h
def jj(h:p:=by refine Zb J trivial Ga):=h
def jk(h:p:=by exact xA J (qA hv.1) (Xb (qY _ _ _) dC) HW hj (λaa h2=>hX aa _ (by rw[hS];exact s1) (by rw[hS];rw[ed];exact s3) (s4.trans hit) (by rw[hS];exact Eq.mpr (Na (λb=>HSub R _ aa _ (xM p Y M LN b i xs (j+1) _) _) s2) h2))):=h
def jl(h:p:=by
 obtain⟨_,q1,q2,q3,q4⟩:=hJ
 rw[aIV]at q1 q2 q4 h2
 exact⟨(i+1,k2),⟨by show i+1<=p.aT.levels.length;omega,q1,q2,q3,q4.more (by show i*2412+xs.length*201<=(i+1)*2412;omega)⟩,by show p.aT.levels.length-(i+1)<p.aT.levels.length-i;omega,h2⟩):=h
def jm(h:p:=by
 rw[aL]at e
 split at e
 ·rename_i h;subst h;simp at e;exact .inl ⟨rfl,e.symm⟩
 ·rename_i h;exact .inr ⟨λk=>h k.symm,e⟩):=h
def jn(h:p:=by
 refine Zb J Ga ⟨rQ,rQ,⟨rfl,?_⟩,rQ,oO⟩
 exact Na vI (aG O O)):=h
def jo(h:p:=by
 repeat first|apply sk|apply st|apply sg
 exact db _):=h
def jp(h:p:=by
 ·split at hk
  ·rename_i d hd
   cases hN:Nat.blt d N with
   |false=>rw[hN]at hk;exact hk.elim
   |true=>
    rw[hN]at hk
    simp only[cond_true]at hk⊢
    exact mD.congr hE hrd ((mD.pt hk).elim λr hr=>hr.2 _ hr.1.2)
  ·exact hk.elim):=h
def jq(h:p:=by
 obtain⟨i,q'⟩:=p
 rw[hq]at h1
 obtain rfl:i=j:=by simpa using h1
 refine⟨?_,rfl,rfl,rfl⟩
 show eH ((cW h.l i).modify i _) _
 unfold cW
 rw[List.modify_modify_eq]
 exact ha.modify λq e _ _ ho=>⟨ho.key,ho.born,fJ,r,rfl,hr⟩):=h
def jr(h:p:=by refine Zb J Ga Ga):=h
def js(h:p:=by
 intro y bc h
 have h:aH ((x,some (.row e n s f))::I.box) y=some (some bc):=h
 rw[aL]at h
 by_cases hy:x=y
 ·subst hy
  rw[La rfl]at h
  cases h
  exact⟨b,c,cur,hx,h1,h2,h3,h4,h5,h6⟩
 ·rw[Ka hy]at h;exact i.box y bc h):=h
def jt(h:p:=by
 refine⟨i+1,⟨O,CR hi5 hj h6⟩,O,?_⟩
 exact Zb J Ga ⟨rQ,⟨rfl,Na vI (aG O O)⟩,oO⟩):=h
def ju(h:p:=by
 by_cases qT:b<w.heap.size
 ·simp[F,qT,e]
 ·have:¬isB b:=by
   rintro⟨x,c,hx,hx2⟩
   obtain⟨bc,hbc⟩:=cQ x hx
   rw[i'.apart x bc b c hbc hx2 o]at e
   cases e
  simp only[F,Ka qT,Ka this]
  exact i'.mem b o u e):=h
def jv(h:p:=by
 split at h
 case h_2=>cases h
 rename_i e' len s f hb
 cases hs:Nat.beq s te.size with
 |false=>rw[hs]at h;cases h
 |true=>rw[hs]at h;exact⟨_,h.2,λK k=>by unfold qN;simp only[gG,hu,nD,hb,hs,cond_true];exact⟨h.1,k⟩⟩):=h
def jw(h:p:=by
 have e6:(Option.map ((λx:MapEntry=>x.key)∘bO.nK) h.l[j]?).getD (.string k)=.string k:=by rw[BX];simp[bO.nK,tR]
 rw[e4,e5]
 simp[Instr.mapUpdate,Bb ht,MapKept.run_getObj_map hF.map,jL,oL,e6,HU,gE hF.map]):=h
def jx(h:p:=by
 obtain⟨_,o',sO,h⟩:=ph.1 C1
 have:all[k]? =some o':=by simpa using sO
 rw[h0]at this;cases this
 exact h):=h
def jy(h:p:=by
 intro k hk hnk
 exact lB.block k hk (by rintro⟨x,c,_,hx⟩;exact hnk x c hx)):=h
def jz(h:p:=by exact⟨rfl,Za (ab [] (by rw[J];rfl) rfl ⟨bQ,bQ,bQ,⟨rfl,cc (by rw[<-hx0];rfl)⟩,⟨rfl,cc (by rw[hpd,hpt,<-hx0];rfl)⟩,oO⟩ Fa)⟩):=h
def ka(h:p:=by exact⟨rfl,Za (ab [] (by rw[J];rfl) rfl ⟨bQ,bQ,⟨rfl,cc (by rw[<-hx0];rfl)⟩,⟨rfl,cc (by rw[hpd,hpt,<-hx0];rfl)⟩,oO⟩ Fa)⟩):=h
def kc(h:p:=by refine Zb J Ga Ga):=h
def ke(h:p:=by
 have key:∀d,(Op.equalIn (d+1) t (.slice a n c) (.slice none 0 0)).run P w=.ok a.isNone w:=by
  intro d
  cases a <;> simp[Op.equalIn,Bb h]
 simp only[binOp]
 simp[Op.equal,Op.maxDepth,key 9999]):=h
def kf(h:p:=by
 split at h
 ·rename_i d hd
  cases hN:Nat.blt d N with
  |false=>rw[hN]at h;cases h
  |true=>
   rw[hN]at h
   exact part hd (Dc hN) h (by rw[hw];cases b <;> cases nY <;> rfl)
 ·cases h):=h
def kg(h:p:=by
 intro x b k c h e
 obtain⟨h1,h2,h3⟩:=Eo (λ_ h=>h) hb x b h
 have e:=(hβ x _ e).2
 obtain⟨y,hy⟩:=i.keys _ _ e
 rw[hy]at h3
 cases y with
 |none=>exact h3.elim
 |some b0=>exact⟨h1,b0,hy,e⟩):=h
def ki(h:p:=by
 rw[hlen]at ex
 have ey:a.eval y=.int k n:=Z4 ha R N M V a w i
 exact⟨_,by simp only[execOp,ho,ex,ey,run b 0 len c.1 w h0 h1,Ic,Result.andThen,Wc];rfl,b,c,e1,by rw[hs];simp⟩):=h
def ko(h:p:=by
 intro x hx
 rw[Hd]at hr
 have:=hr x hx
 simp only[Bool.and_eq_true]at this
 have h1:x∈ks:=by simpa using this.1
 have h2:=Mb this.2
 rw[jA x h1,h2]
 exact i.ref x hx):=h
def kq(h:p:=by exact⟨rfl,Qa J [] rfl Fa Fa⟩):=h
def kr(h:p:=by exact⟨db _,rfl,oO⟩):=h
def ku(h:p:=by
 refine⟨k+1,⟨O,λj qR=>?_⟩,O,?_⟩
 ·by_cases SL:j=k
  ·rw[SL];exact h'
  ·exact hq j O
 refine Zb J Ga ⟨rQ,rQ,⟨rfl,?_⟩,rQ,oO⟩
 exact Na vI (aG O O)):=h
def kv(h:p:=by
 intro x p e
 by_cases hx:x=d
 ·subst hx;exact⟨_,by rw[aL,La rfl]⟩
 ·rw[oE x hx]at e
  obtain⟨y,hy⟩:=i.keys x p e
  exact⟨y,by rw[aL,Ka (λh=>hx h.symm)];exact hy⟩):=h
def kz(h:p:=by
 rcases hs H4 R N M V a w i with⟨v,e,hr⟩|⟨f,vs,e,hc⟩
 ·exact .inl ⟨v,e,hwr hr⟩
 ·exact .inr ⟨f,vs,e,hc.mono λe' w' ⟨v,M',h1,h2,h3⟩=>⟨v,M',h1,hwr h2,h3⟩⟩):=h
def k7(h:p:=by
 rw[run,e2]
 simp[Builtin.len_,Bb (h1.isSlice e1),goInt]):=h
def xa(h:p:=by simp only[fc,Jc h]):=h
def xb(h:p:=by
 cases n <;>
 ·simp only[dS]
  rcases xF (h x)with e|⟨e1,e2⟩
  ·rw[e]
  ·split
   ·rename_i hb;exact absurd hb (e1 _)
   ·split
    ·rename_i hb;exact absurd hb (e2 _)
    ·rfl):=h
def xc(h:p:=by
 unfold Oper.wp
 rw[a7,mr]
 apply eF.mono
 rintro e' w' ⟨v',M',V',rfl,hr,i',hg,lB⟩
 simp only[hd]
 exact⟨_,M',V',hk,i'.put (I:=⟨I.env,bx⟩) hN hr,hg,lB⟩):=h
def xd(h:p:=by
 unfold fM
 rw[Hn O,Hn O]):=h
def xf(h:p:=by
 intro x bx b c ex hx
 obtain⟨kx,b0,g0,e0⟩:=live x bx b c ex hx
 exact i.low _ b0 b c g0 e0):=h
def xg(h:p:=by
 have:(p-n+1)*te.size<=m*te.size:=Vc _ O
 rw[Bj]at this;omega):=h
def xi(h:p:=by
 ·split at h
  ·rename_i d hd
   cases hN:Nat.blt d N with
   |false=>rw[hN]at h;cases h
   |true=>
    rw[hN]at h
    exact part hd (Dc hN) h hw
  ·cases h):=h
def xj(h:p:=by
 intro y p h
 obtain⟨z,hz⟩:=i.keys y p h
 show ∃y',aH ((x,_)::I.box) y=some y'
 rw[aL]
 by_cases hy:x=y
 ·rw[La hy];exact⟨_,rfl⟩
 ·rw[Ka hy];exact⟨z,hz⟩):=h
def xk(h:p:=by
 cases h:V d with
 |none=>rfl
 |some p=>obtain⟨y,hy⟩:=i.keys d p h;rw[hd]at hy;cases hy):=h
def xl(h:p:=by simp[Lib.bytesWorld,World.freeze,World.alloc,World.drew, -World.alloc_eq, -World.drew_eq]):=h
def xm(h:p:=by
 rw[fE]at hf
 rw[dD,h.1.key,sB]
 cases hk:k==e.1 with
 |true=>
  rw[hk]at hf
  obtain rfl:(i,e)=p:=sc hf
  exact⟨q,rfl,h.1⟩
 |false=>rw[hk]at hf;exact p8 h.2 hf):=h
def xn(h:p:=by refine Zb J Ga Ga):=h
def xp(h:p:=by
 obtain⟨h1,h2,h3⟩:=tj C2
 obtain⟨k1,k2,k3⟩:=Vh xO
 exact(Hr (λd hd=>h2 d hd) (λx hx=>by rw[hy.wr]at hx;rw[hyj.wr];exact k2 x hx)).symm):=h
def xq(h:p:=by
 rcases hJ with⟨_,_,q3⟩|⟨q1,_,_⟩
 ·exact q3
 ·exfalso
  simp only at q1
  rcases q1 with q1|q1
  ·have:=h2.2;simp at this;exact q1 this
  ·rw[q1]at h2;cases h2.1):=h
def xr(h:p:=by
 have:(p+1)*te.size<=n*te.size:=Vc _ QT
 rw[Bj]at this;omega):=h
def xu(h:p:=by
 induction u with
 |nil=>rfl
 |cons p r ih=>
  obtain⟨k,b⟩:=p
  rw[We,aL,aL]
  by_cases e:k=x
  ·rw[La e,La e]
  ·rw[Ka e,Ka e];exact ih):=h
def xw(h:p:=by
 obtain⟨bc,h1,h2⟩:=jA x hx
 obtain⟨b,c,e⟩:=(i.box x bc h1).Qj h2
 exact⟨_,e⟩):=h
def xx(h:p:=by
 ·have h1:¬s.v>0:=bF h1
  have hr:=hJ.run
  simp only at hr
  rw[BD h1]at hr
  subst hr
  apply eX J
  exact⟨aD8 (Qe (dK _) λ_ _ _ _=>Ja _),rfl,oO⟩):=h
def xy(h:p:=by
 rintro e w' ⟨N,rfl,_,_,hb⟩
 refine⟨_,M,rfl,?_,fb _ _,nA hM hb,⟨hb,oO⟩⟩
 simp only[Mj,UX,ha]
 exact⟨[_,_],rfl,rfl,.inr ⟨rfl,_,_,rfl⟩,oO⟩):=h
def xz(h:p:=by
 refine⟨i+1,O,O,?_⟩
 exact Qa J [] rfl Fa ⟨Z,⟨rfl,Ra (by rw[e])⟩,⟨rfl,Ra (by rw[e])⟩,Fa⟩):=h
def zaa(h:p:=by
 rw[hv]at r0
 cases zs.contains b with
 |true=>exact Vf (Xe _) (λ_ _ h=>by cases h) (conv _ r0)
 |false=>exact Vf hM (Kf V) r0):=h
def pv(h:p:=by
 rename_i e1 e2
 exact⟨_,h,λK k=>by unfold tY;simp only[uX,htd,e1,e2];exact k⟩):=h
def gj(h:p:=by exact⟨Ta,rfl,oO⟩):=h
def zad(h:p:=by
 have:(args.map a.eval++us.toArray)=(args.toList.map a.eval++us).toArray:=by
  apply Jd;simp
 simp[execOp,ho,resolve,eu,Deferred.ofValue,invoke,this,z7]):=h
def zae(h:p:=by
 rename_i e m s' f hb
 cases hs:Nat.beq s s' with
 |false=>exact trivial
 |true=>
  have:=Mb hs
  subst this
  exact view x s lo n v r e m f hb):=h
def Jv(h:p:=by
 rw[QQ]at jJ
 cases AY with
 |nil=>exact⟨[],rfl,trivial⟩
 |cons _ _=>exact jJ.elim):=h
def zag(h:p:=by
 simp only at hk⊢
 split at hk
 ·rename_i d hd
  cases hN:Nat.blt d N with
  |false=>rw[hN]at hk;exact hk.elim
  |true=>rw[hN]at hk;exact hk.2
 ·exact hk.2):=h
def Yu(h:p:=by
 have h:((l.length:Int)==0)=true:=h
 have:(l.length:Int)=0:=by simpa using h
 omega):=h
def zai(h:p:=by
 have mL:(a.eval y).cells.size=ti.size:=by rw[<-Array.length_toList,SG];omega
 simp[execOp,ho,Instr.storeAt,Instr.sureAddr,ea,storeVar,gF.iE,mL,SG,jO]):=h
def zaj(h:p:=by
 cases hk:k==a with
 |true=>rw[hk]at h;simp only[cond_true,Je,Aj]at h;omega
 |false=>rw[hk]at h;have:=ih (i+1) p u h;omega):=h
def zak(h:p:=by
 have h4:(JL y (y.aQ.getD (lU y.aQ dN).toNat default) b.Jb (q8 y b) !=0)=true:=h4
 apply eX J
 exact vE (by unfold oS;rw[h1,h2,h3,h4];rfl) h4):=h
def zal(h:p:=by
 refine⟨i+1,⟨O,by rw[hj,h];rfl⟩,O,?_⟩
 refine Zb J Ga ⟨rQ,rQ,rQ,rQ,⟨rfl,?_⟩,rQ,oO⟩
 exact Na vI (aG O O)):=h
def zam(h:p:=by
 repeat first|apply sk|apply st|apply sg
 refine bR (cI _ _ _) ?_
 repeat first|apply sk|apply st|apply sg
 exact db _):=h
def zan(h:p:=by
 apply oi O
 refine oi (by rw[e];exact Ha) ?_
 apply Ia
 show pt (l.getD ((i:Int).tmod l.length).toNat default)=_
 rw[e];rfl):=h
def zap(h:p:=by
 by_cases qT:b<w.heap.size
 ·simp only[F,La qT]at e
  exact i'.mem b o u e
 ·simp only[F,Ka qT]at e
  split at e
  ·cases e
  ·exact e):=h
def zaq(h:p:=by
 intro y y' bx bx' b1 c1 c2 e1 e2 g1 g2
 obtain⟨_,e1⟩:=live _ _ e1
 obtain⟨_,e2⟩:=live _ _ e2
 exact i.inj y y' _ _ b1 c1 c2 e1 e2 g1 g2):=h
def zar(h:p:=by
 have h9:(!within (y.bH.getD i default).iZ 0 100000000000000)=true:=h9
 exact Ia (by rw[hE 2 dC (by unfold pF;rw[h6,h7,h8,h9];rfl)];rfl)):=h
def zas(h:p:=by ·exact Qa J [] rfl trivial Fa):=h
def zat(h:p:=by
 rintro e w' ⟨he,rfl⟩
 exact⟨.tuple #[],M,he,⟨[],rfl,oO⟩,fb _ _,hM,⟨⟨rfl,rfl,rfl,mb _,λ_ _=>rfl⟩,oO⟩⟩):=h
def zau(h:p:=by
 obtain⟨o,cur,q1,q2,q3,q4,q5⟩:=hF.rows x h1 r hr
 exact⟨o,cur,q1,q2,q3,(sO r.g (λe=>by rw[e,hF.map]at q4;cases q4)).trans q4,q5⟩):=h
def zav(h:p:=by
 repeat refine aR ?_
 apply aI<;>intro h
 ·exact Ia (by unfold A6;rw[h];rfl)
 ·exact Ia (by unfold A6;rw[h];rfl)):=h
def zaw(h:p:=by
 refine⟨u,?_,by rw[La QT];exact hr⟩
 rw[Ti,Jc O,Ni fZ]
 simpa using hu):=h
def iq(h:p:=by rename_i hb;exact absurd hb (e1 _)):=h
def zay(h:p:=by
 refine⟨_,h,λha R N M V a w i=>?_⟩
 obtain⟨b,c,e1,e2⟩:=hr ha R N M V a w i
 exact⟨_,by simp[execOp,ho,e2],b,c,e1,rfl⟩):=h
def Qt(h:p:=by simp[execOp,ho,ex,Instr.sliceAt,Instr.slice,Bb dB,T4,mS.iE]):=h
def zaA(h:p:=by
 refine⟨i+1,⟨O,by rw[hj,h6];rfl⟩,O,?_⟩
 refine Zb J Ga ⟨rQ,⟨rfl,?_⟩,rQ,oO⟩
 exact Na vI (aG O O)):=h
def zaB(h:p:=by
 rintro M u ⟨cs,e,hk,hc⟩
 refine⟨cs,e,hk,λi u hu=>h i ?_ M u (hc i u hu)⟩
 rw[<-hk]
 exact(Ue.1 hu).1):=h
def zaC(h:p:=by
 ·have h:¬(i:Int)<c.Ya.length:=bF h
  exact Ia (by unfold mU;rw[h1,h2,h3,h4,hj,show c.Ya.length-i=0 by omega];rfl)):=h
def zaD(h:p:=by
 refine⟨_,h,λha R N M V a w i=>?_⟩
 obtain⟨vs,e2,e1⟩:=hr ha R N M V a w i
 exact⟨_,by simp[execOp,ho,e2],vs,rfl,e1⟩):=h
def zaE(h:p:=by
 apply Si
 intro a
 rw[se,se]
 by_cases hja:j=a
 ·subst hja
  rw[FK];rfl
 ·simp[hja]):=h
def zaF(h:p:=by exact⟨rfl,Qa J [] rfl Fa ⟨Z,Z,Z,Z,Z,Z,⟨rfl,Ra (by unfold C4;rw[h1];rfl)⟩,Fa⟩⟩):=h
def Qq(h:p:=by
 obtain⟨b,hb⟩:=jT hx
 exact⟨b,qk qS hb⟩):=h
def fv(h:p:=by
 simp only[V']at h
 split at h
 ·exact⟨by assumption,h⟩
 ·cases h):=h
def Ku(h:p:=by exact Qa J [] rfl Fa Fa):=h
def zaJ(h:p:=by
 rw[e]at h
 split at h
 ·rename_i d hd
  cases hN:Nat.blt d N with
  |false=>rw[hN]at h;cases h
  |true=>rw[hN]at h;cases h
 ·cases h):=h
def zaK(h:p:=by
 simp only[Jl]at e4
 simp[Instr.mapUpdate,Bb dB,MapKept.run_getObj_map hh,jL,oL,e4,HU,e3,gE hh,q2]):=h
def zaL(h:p:=by
 obtain⟨rfl,hag⟩:=h
 obtain⟨ti,z,h1,h2,h3⟩:=(hT.get nD).one hag
 rw[hn]at h3
 cases h3
 simp[zeroValue,typeInfo,h1,h2,VK.val]):=h
def Ys(h:p:=by
 obtain⟨b,c,e,hh⟩:=h
 exact⟨b,c,hβ _ _ e,(hw b c e).trans hh⟩):=h
def Hu(h:p:=by rw[La e]at h;cases h;subst e;exact⟨hk k (by simp[cR]),h1,h2⟩):=h
def Nq(h:p:=by
 intro x p e
 rw[(i'.ref x (hβ x p e)).1]
 exact e):=h
def zaP(h:p:=by
 cases g with
 |none=>exact⟨_,h.2,λ_ M V u r=>r.1 h.1⟩
 |some gb=>exact⟨_,h.2,λha M V u r=>r.1 (h.1 (ha gb rfl))⟩):=h
def Yo(h:p:=by
 have:kind=0:=by simpa using a
 subst this;cases b):=h
def zaR(h:p:=by
 have h6:(!within (y.bH.getD i default).Od 1 1000000)=true:=h6
 exact Ia (by rw[hE 2 dC (by unfold pF;rw[h6];rfl)];rfl)):=h
def zaS(h:p:=by
 obtain⟨r,u,⟨he,hK⟩,h2,_⟩:=vW.pt h1
 rw[<-he]at hwr
 exact h2 I' (λn hn=>hw n (by rw[<-hwr];exact hn)) hE hrd _ hK):=h
def zaT(h:p:=by
 have hb:0<i:=by simp[rL]at hb;omega
 show 0<=aW ((i:Int)-1)/\aW ((i:Int)-1)<(p.aV.length:Int)
 rw[fQ hb];exact Ha):=h
def zaU(h:p:=by
 have hb:0<i:=by simp[rL]at hb;omega
 show 0<=aW ((i:Int)-1)/\aW ((i:Int)-1)<(b.bB.length:Int)
 rw[fQ hb];exact Ha):=h
def zaV(h:p:=by simp[execOp,ho,ex,ey,resolve,invoke,builtin,Builtin.delete_,Bb ht,MapKept.run_getObj_map hF.map,jL,oL,gE hF.map]):=h
def dt(h:p:=by
 simp only[Wx]
 exact⟨k q e rfl rfl h.1,h.2⟩):=h
def zaX(h:p:=by
 simp only[Jn]
 exact⟨h.1,eH.modify h.2 λq e hq he=>k q e (by simpa using hq) (by simpa using he)⟩):=h
def zaY(h:p:=by
 show eT (cP (nG p Y 0 i)) i 0 [.d (dI (p.aT.levels.getD i 0))] a c=dI ((nG p Y 0 (i+1)).getD a 0)
 exact MW ha hc y2.symm):=h
def zaZ(h:p:=by exact two hv (λq e=>nomatch e) (λi j k l e=>nomatch e) (λI' K' e h=>by simp only[vW,ER,cond_true,e];exact h) h):=h
def za0(h:p:=by
 ·refine⟨.inr (.inr ⟨sn,hs⟩),λe1=>?_⟩
  obtain⟨_,_,_,_,_,hg,_⟩:=gF
  rw[<-e1,hF.iter k sn hs]at hg;cases hg):=h
def Ut(h:p:=by
 have:p=n+(p-n):=O
 rw[<-Nat.add_assoc,<-Nat.add_mul,<-this]):=h
def za2(h:p:=by
 rename_i hu
 split at h
 case h_2=>cases h
 rename_i hb
 exact⟨_,h,λK k=>by unfold qL;simp only[gG,hu,hb];exact k⟩):=h
def za3(h:p:=by
 intro k o u e
 rw[World.cell?_of_block (w:=w) (w':=w') (a:=⟨k,o,none⟩) (hold k (aCJ k o u e))]
 exact i.mem k o u e):=h
def Dv(h:p:=by
 rw[aL,Ka (λh=>by subst h;rw[hd]at hb;cases hb)]
 exact hd):=h
def Lq(h:p:=by
 obtain⟨k,c,e⟩:=rJ.has x hx
 exact⟨_,e⟩):=h
def za6(h:p:=by
 have h5:decide ((y.bH.length:Int)>=200)=true:=h5
 apply eX J
 exact vE (by unfold oS;rw[h1,h2,h3,h4,h5];rfl) rfl):=h
def Nv(h:p:=by
 obtain⟨r,h3,h4⟩:=hC [] K h
 exact⟨r,h3,λK k=>h4 K k⟩):=h
def za8(h:p:=by
 unfold Lib.itoa
 split
 ·simp only[Rb];omega
 ·rename_i h0
  have:n.toNat=n.natAbs:=O
  rw[this];omega):=h
def za9(h:p:=by exact Lb [(100,1000)] (by rw[J];rfl) rfl ⟨bQ,bQ,⟨rfl,rfl⟩,oO⟩ ⟨Z,Z,⟨rfl,fg rfl⟩,Fa⟩):=h
def zba(h:p:=by exact Za (ab [] (by rw[J];rfl) rfl Fa ⟨Z,Z,Z,Z,Z,Z,Z,Z,⟨rfl,Ra ew⟩,oO⟩)):=h
def zbb(h:p:=by
 rw[fE]at hf
 rw[dD,h.1.key,sB]
 cases hk:k==e.1 with
 |true=>rw[hk]at hf;cases hf
 |false=>rw[hk]at hf;exact tV h.2 hf):=h
def zbc(h:p:=by
 obtain⟨u,hu,hr⟩:=cY k j hk hj
 exact⟨u,hF x _ b c hb e1 _ u (by simp[World.cell?,hh,hu]),lg hM hr⟩):=h
def zbd(h:p:=by
 obtain⟨r,u,h1,h2,_⟩:=vW.pt h
 exact⟨_,h1,λK' k=>h2 I (λ_ _=>rfl) (λ_ _=>rfl) (λ_ _=>rfl) _ k⟩):=h
def Gm(h:p:=by
 repeat refine aR ?_
 exact db _):=h
def zbg(h:p:=by
 ·have h5:¬(i:Int)<y.bH.length:=bF h5
  have bC:i=y.bH.length:=O
  exact Ia (by rw[hj,bC,Td];rfl)):=h
def zbh(h:p:=by
 ·have h5:¬(i:Int)<p.cU.length:=bF h5
  have bC:i=p.cU.length:=O
  exact Ia (by rw[hj,bC,Td];rfl)):=h
def zbi(h:p:=by
 ·have h5:¬(i:Int)<b.bB.length:=bF h5
  have bC:i=b.bB.length:=O
  exact Ia (by rw[hj,bC,Td];rfl)):=h
def zbj(h:p:=by
 ·have h:¬(i:Int)<l.length:=bF h
  obtain rfl:i=l.length:=O
  exact Ia (by rw[he,hj,Sg];rfl)):=h
def zbk(h:p:=by exact Za (ab [] (by rw[J];rfl) rfl Fa ⟨Z,Z,Z,Z,Z,Z,Z,Z,⟨rfl,Ra ew⟩,oO⟩)):=h
def zbl(h:p:=by ·exact Za (ab [] (by rw[J];rfl) rfl Fa ⟨Z,⟨rfl,Wb (by rw[d2];rfl)⟩,Fa⟩)):=h
def zbm(h:p:=by
 ·have h5:¬(i:Int)<s.size:=bF h5
  have bC:i=s.size:=O
  exact wc (by rw[isName,h,hj,bC,Td];rfl)):=h
def zbn(h:p:=by
 intro x b1 c1 h e o
 rw[jA x h]at e
 rw[hx]at e
 cases e
 exact rJ.apart 1001 b c (Ib.2 rfl) hx o):=h
def zbo(h:p:=by
 have h5:¬(i:Int)<y.aQ.length:=bF h5
 have bC:i=y.aQ.length:=O
 exact Ia (by rw[hj,bC,Td];rfl)):=h
def zbp(h:p:=by
 have hi:i<2:=hi
 have hj:j<2:=hj
 match i,j,hi,hj with
 |0,0,_,_=>rfl
 |0,1,_,_=>rfl
 |1,0,_,_=>rfl
 |1,1,_,_=>rfl):=h
def zbq(h:p:=by
 cases c with
 |true=>rw[pZ hg ht (hr.1 rfl)];cases b <;> cases nY <;> rfl
 |false=>exact AU hg ht (hr.2 rfl)):=h
def zbr(h:p:=by
 have:=bG hb
 show 0<=aW ((i:Int)-1)/\aW ((i:Int)-1)<_
 rw[aG (n:=(i:Int)-1) O O]
 exact Ha):=h
def Wm(h:p:=by exact aC.ib (by rw[e]) (by rw[e])):=h
def zbt(h:p:=by
 split at h <;> first
  |exact h.elim
  |exact⟨_,h,λK k=>k⟩
  |exact⟨_,h.2,λK k=>⟨h.1,k⟩⟩):=h
def zbu(h:p:=by
 have h3:(JB p (l.getD i default) !=0)=true:=h3
 exact Ia (by rw[he,hj,<-hg];unfold oH;rw[h3];rfl)):=h
def Yt(h:p:=by exact Ia (by rw[hY (by rw[this];decide),this];rfl)):=h
def zbw(h:p:=by
 obtain⟨e,h1,h2⟩:=skip h
 exact⟨e,h1,λK' k=>by unfold a6;simp only[hg,ht,hv];exact h2 K' k⟩):=h
def zbx(h:p:=by
 intro y bc h
 rw[aL]at h
 by_cases hy:x=y
 ·subst hy;exact⟨_,hb⟩
 ·rw[Ka hy]at h;exact⟨_,h⟩):=h
def zby(h:p:=by
 obtain⟨e,h1,h2⟩:=run h
 exact⟨e,h1,λK' k=>by unfold a6;simp only[hg,ht,hv];exact h2 K' k⟩):=h
def zbz(h:p:=by
 obtain⟨j',qR⟩:=dd hx
 exact hF.rows x (Dd (p6 qR C1).2) r' C1):=h
def zbA(h:p:=by
 obtain⟨d,h1,h2⟩:=h.j7
 rw[hu]at h2
 cases d <;> simp only[rk]at h2 <;> first|exact h1|cases h2):=h
def zbB(h:p:=by
 repeat first|apply sk|apply st|apply sg
 refine aD ?_
 exact Ia (by rw[yi,h];rfl)):=h
def zbC(h:p:=by exact Qa J [] rfl Fa Fa):=h
def Tp(h:p:=by
 rw[Ay]at this
 exact this):=h
def zbE(h:p:=by
 rw[e4,<-e3]
 simp[Instr.mapUpdate,Bb ht,MapKept.run_getObj_map hF.map,jL,oL,gE hF.map]):=h
def zbG(h:p:=by
 show dI ((nG p Y 0 i).getD a 0)=dI ((nG p Y 0 (i+1)).getD a 0)
 exact Na dI (PX ha y2.symm)):=h
def Ou(h:p:=by
 intro w' r h
 simp[execOp,ho,resolve,invoke,builtin,h]):=h
def zbJ(h:p:=by exact Lb [] (by rw[J];rfl) rfl Fa ⟨Z,Z,Z,⟨rfl,Ra ew⟩,oO⟩):=h
def zbK(h:p:=by
 split at h2
 case h_2=>exact h2.elim
 rename_i b k
 simp only[Z7 b (by simp[b9,reach])]
 exact h2):=h
def zbL(h:p:=by
 intro x bx b c ex hx
 obtain⟨kx,b0,g0,e0⟩:=live x bx b c ex hx
 exact i.apart _ b0 b c g0 e0):=h
def zbM(h:p:=by
 rintro a' w' ⟨I',M',V',rfl,h2,h3,h4⟩
 exact⟨_,M',V',hk,by rw[OF hd];exact h2,h3,h4⟩):=h
def zbN(h:p:=by
 by_cases qT:b<w.heap.size
 ·simp only[F,La qT]at e
  exact hg.new b o u e
 ·exact .inr O):=h
def zbO(h:p:=by
 refine⟨.inl rfl,λe1=>?_⟩
 obtain⟨_,_,_,_,_,hg,_⟩:=gF
 rw[<-e1,hF.map]at hg;cases hg):=h
def zbP(h:p:=by simp[Builtin.append_,Bb dB,sizeOf,typeInfo,EU,y8,Builtin.lenOf,hn,hf,storeCells]):=h
def zbQ(h:p:=by
 cases hq:fK p Y m p.aT.levels.length with
 |nil=>rw[hq]at TW;simp at TW;omega
 |cons _ _=>rfl):=h
def zbR(h:p:=by
 have hc:c<13:=hc
 match c,hc with|0,_|1,_|2,_|3,_|4,_|5,_|6,_|7,_|8,_|9,_|10,_|11,_|12,_=>rfl):=h
def zbS(h:p:=by
 simp only[nv]at hk
 split at hk
 ·rename_i ts uX;exact fin ts uX hk.1 hk.2
 ·exact hk.elim):=h
def Vu(h:p:=by exact Qa J [] rfl trivial Fa):=h
def zbU(h:p:=by
 rw[hk,k0']
 unfold cK
 revert g1
 cases within f.a8 0 2 <;> cases within f.month 0 24 <;> simp):=h
def zbV(h:p:=by
 simp only[MF]at hk
 split at hk
 ·rename_i ts uX;exact fin ts uX hk.1 hk.2
 ·exact hk.elim):=h
def zbW(h:p:=by
 simp only[VL]at hk
 split at hk
 ·rename_i ts uX;exact fin ts uX hk.1 hk.2
 ·exact hk.elim):=h
def zbX(h:p:=by
 show w.heap[h.bm]? =some (.map ((cW h.l j).map bO.nK).toArray h.clock)
 rw[KL];exact hF.map):=h
def zbZ(h:p:=by
 rw[hk,k2']
 unfold cK
 revert g1 g4
 cases within f.month 1 24 <;> cases isName f.eS <;> simp):=h
def tm(h:p:=by rw[La e];exact⟨_,rfl⟩):=h
def zb1(h:p:=by
 have:i=0:=by have:i<1:=hi;omega
 have:j=0:=by have:j<1:=hj;omega
 subst i j;exact Ja _):=h
def zb2(h:p:=by
 have h2:decide ((l.length:Int)>200)=true:=h2
 exact Ia (by unfold iI;rw[h1,h2];rfl)):=h
def zb3(h:p:=by exact Xw (λy hy=>he y (by simp[Op.operands,Call.operands];simpa using hy)) h):=h
def zb4(h:p:=by
 show(y.bH++_).length<=_
 rw[ed];simp only[List.length_singleton];omega):=h
def zb5(h:p:=by
 refine⟨r,h1,λK k=>?_⟩
 unfold lD
 simp only[gG,hu,nD,hs,cond_true]
 exact h2 K k):=h
def zb6(h:p:=by
 simp only[names,wb]at hz
 rcases hz with rfl|hz
 ·exact h
 ·exact h1 z hz):=h
def zb7(h:p:=by
 refine Yc λi j hi hj=>?_
 have:j=0:=O
 have:i=0:=O
 subst i j
 exact Wa h0):=h
def zb8(h:p:=by exact Qa J [] rfl Fa Fa):=h
def zb9(h:p:=by exact⟨rfl,Qa J [] rfl Fa Fa⟩):=h
def zca(h:p:=by
 simp only[XP]at hk
 split at hk
 ·rename_i ts uX;exact fin ts uX hk
 ·exact hk.elim):=h
def zcb(h:p:=by simp[Instr.mapUpdate,Bb dB,MapKept.run_getObj_map hh,jL,oL,e3,gE hh,q2]):=h
def zcc(h:p:=by simp only[fc,List.getElem?_concat_length,Nn]):=h
def gu(h:p:=by exact Ia (by unfold pC;rw[h1,h2,h3];rfl)):=h
def Hv(h:p:=by exact Ia (by unfold mU;rw[h1,h2,h3];rfl)):=h
def zcg(h:p:=by
 intro y bx b1 c1 e1 g1
 obtain⟨_,e1⟩:=live _ _ e1
 exact i.apart y _ b1 c1 e1 g1):=h
def zch(h:p:=by
 unfold iL
 rw[show((fF p Y ((0:Nat):Int) i).1==30000)=false by simpa using h3];rfl):=h
def zci(h:p:=by
 simp only[dS]
 split
 ·rename_i e n s f hb
  exact b8 z x v r e n s f hb
 ·trivial):=h
def zcj(h:p:=by exact⟨_,M',V',hk,by rw[UY hd];exact hi.put (I:=⟨I.env,_⟩) hN hr,hg,lB⟩):=h
def zck(h:p:=by
 refine Zb J trivial ⟨rQ,⟨rfl,?_⟩,rQ,oO⟩
 exact Na vI (aG O O)):=h
def zcl(h:p:=by
 unfold iL
 rw[show((fF p Y ((0:Nat):Int) i).1==30000)=true by simpa using h3];rfl):=h
def Mv(h:p:=by exact Ia (by unfold dX;rw[h,h',h2];rfl)):=h
def zcn(h:p:=by
 simp only[dS]
 split
 ·rename_i e n s f hb
  exact row x v r e n s f hb
 ·trivial):=h
def zco(h:p:=by
 intro y bx b1 c1 e1 g1
 obtain⟨_,e1⟩:=live _ _ e1
 exact i.low y _ b1 c1 e1 g1):=h
def zcp(h:p:=by exact⟨_,M',V',hk,hi.put (I:=⟨(CB zs I).env,bx⟩) hN hr,g1.trans hg,lB⟩):=h
def zcq(h:p:=by
 rw[La h]
 simp only[fc,Jc h]):=h
def zcr(h:p:=by
 have h:qG p i=2:=by unfold qG;rw[h6,h7,h8];rfl
 exact Ia (by rw[hj,h];rfl)):=h
def zcs(h:p:=by
 rcases jO with e|⟨_,_,e,_⟩|⟨_,_,e,_⟩
 ·cases e;rfl
 ·cases e
 ·cases e):=h
def zct(h:p:=by
 cases vk with
 |int=>cases h
 |bool=>cases h;exact(show u=_ from r).trans (hb _)):=h
def zcu(h:p:=by exact⟨by decide+kernel,by decide+kernel,by decide+kernel,by decide+kernel⟩):=h
def zcv(h:p:=by exact WX dB c2 c3 EU y8 QZ SM JU run hd hb mT oW i e1 ex hh mL hn I9 cY ey hy):=h
def ct(h:p:=by simp only[Ua,cond_true];rw[DT];rfl):=h
def zcy(h:p:=by
 refine⟨_,w,M,V,.inl (run _ _ a7),?_,hw.1,fb _ _,hw.2⟩
 rw[h0];rfl):=h
def zcz(h:p:=by
 have h:qG p i=5:=by unfold qG;rw[h6,h7];rfl
 exact Ia (by rw[hj,h];rfl)):=h
def zcA(h:p:=by
 have h:wD l i=5:=by unfold wD;rw[h6,h7];rfl
 exact Ia (by rw[hj,h];rfl)):=h
def zcB(h:p:=by exact Qa J [] rfl trivial Fa):=h
def Lt(h:p:=by exact Zb J Ga Ga):=h
def fu(h:p:=by exact Ia (by unfold nN;rw[hj,h];rfl)):=h
def ou(h:p:=by exact Ia (by unfold mO;rw[h,h'];rfl)):=h
def zcG(h:p:=by
 have h:D1 y i=19:=by unfold D1;rw[h6];rfl
 exact Ia (by rw[hj,h];rfl)):=h
def zcI(h:p:=by exact Qa J [] rfl Fa Fa):=h
def zcJ(h:p:=by
 have h:qG p i=6:=by unfold qG;rw[h6];rfl
 exact Ia (by rw[hj,h];rfl)):=h
def zcK(h:p:=by
 have h:wD l i=4:=by unfold wD;rw[h6];rfl
 exact Ia (by rw[hj,h];rfl)):=h
def zcL(h:p:=by
 rw[Ec]at k2
 refine⟨j,k1,?_,k2⟩
 rw[k2]at hs
 simpa using hs):=h
def zcM(h:p:=by
 rw[run,e2,hlen]
 simp[Builtin.len_,Bb (h1.isSlice e1),goInt]):=h
def zcN(h:p:=by
 rename_i hs
 exact⟨_,h,λK k=>by unfold J3;simp only[hs];exact k⟩):=h
def zcO(h:p:=by
 rw[hk,k1']
 unfold cK
 revert g1
 cases within f.number 1 1000000 <;> simp):=h
def zcQ(h:p:=by
 obtain⟨h,_⟩:=dF dC h
 simp only[Qd]at h
 omega):=h
def zcS(h:p:=by
 intro l
 induction l with
 |nil=>rfl
 |cons v r ih=>cases v <;> exact ih):=h
def zcT(h:p:=by
 have hh:=h x (by simp[b9,reach])
 cases u <;> first|rfl|simp only[hh]):=h
def zcU(h:p:=by
 refine aB (D6 f.month O O) ?_
 refine aD ?_
 exact⟨Ta,rfl,oO⟩):=h
def zcV(h:p:=by
 have h1:(iG p !=0)=true:=h1
 exact Ia (by unfold iI;rw[h1];rfl)):=h
def Iv(h:p:=by
 intro x p e
 exact Yl (hβ x p e).1):=h
def Gt(h:p:=by exact Zb J trivial Ga):=h
def zcY(h:p:=by
 show aK (jM e.2.1.length F _ a c) _
 rw[WU hae]
 exact hFF a c hae hc):=h
def zcZ(h:p:=by
 by_cases h1:a<i
 ·rw[La h1,La O]
 ·rw[Ka h1,Ka O]):=h
def zc0(h:p:=by
 by_cases fZ:k<i
 ·rw[La fZ,La O]
 ·rw[Ka fZ,Ka O]):=h
def zc1(h:p:=by exact Ia (by rw[hE 6 dC (by unfold pF;rw[h6,h7,h8];rfl)];rfl)):=h
def zc3(h:p:=by
 rw[hs,decDigits_length]
 exact oD n.natAbs n.natAbs (mb _)):=h
def zc4(h:p:=by simp only[fc,Ni h1]):=h
def zc5(h:p:=by
 unfold j8
 rw[A5]
 exact Xb (Mh _ _) hl):=h
def yv(h:p:=by rw[Sl true SL]at V9;exact V9):=h
def zc7(h:p:=by exact Ia (by rw[hE 5 dC (by unfold pF;rw[h6,h7];rfl)];rfl)):=h
def lq(h:p:=by simp[execOp,ho,ex,ey,hv,hm]):=h
def zc9(h:p:=by exact⟨_,M',V',hk,hi.put (I:=⟨I.env,bx⟩) hN hr,hg,lB⟩):=h
def zda(h:p:=by
 match i,hi with
 |0,_=>exact Wa h0
 |1,_=>exact Wa h1):=h
def Nu(h:p:=by exact⟨Ta,rfl,rfl,rfl,rfl,oO⟩):=h
def zdc(h:p:=by
 apply eX J
 exact aC.mo):=h
def zdd(h:p:=by
 by_cases hx:x=d
 ·subst hx;rw[HX]at e;cases e
 ·simp[V',hx,e]):=h
def zde(h:p:=by exact⟨_,h,λ_ R N M V a w i=>key _ hs R N M V a w i⟩):=h
def zdf(h:p:=by exact Ia (by unfold iG;rw[h1,h2,h3,h4,h5,h8,ht,h10];rfl)):=h
def zdg(h:p:=by cases ad <;> simp[Builtin.firstCells,loadCells,loadCellsFrom]):=h
def zdh(h:p:=by exact⟨r,h1,λK k=>by simp only[mD,hx,ht];exact h2 K k⟩):=h
def zdj(h:p:=by obtain⟨r,h1,h2⟩:=cg h;exact⟨r,h1,λK k=>h2 K k⟩):=h
def zdk(h:p:=by obtain⟨r,h1,h2⟩:=lR.pt h;exact⟨r,h1,λK k=>h2 K k⟩):=h
def zdl(h:p:=by
 rw[L4 f bC]
 exact aAD (L5 (AP f i)) (by unfold yJ;rw[g];rfl)):=h
def zdm(h:p:=by
 cases h:k==a with
 |true=>simp[gW,nS,h]
 |false=>simp[gW,nS,h]):=h
def zdn(h:p:=by
 intro x b1 c1 h e
 rw[jA x h]at e
 exact .inr ⟨1001,c1,e⟩):=h
def zdo(h:p:=by
 obtain⟨x,hx⟩:=Ez.1 h'
 rw[hx];rfl):=h
def zdp(h:p:=by exact Ia (by unfold iG;rw[h1,h2,h3,h4,h5,h6,h7];rfl)):=h
def zdq(h:p:=by refine Zb J Ga Ga):=h
def zdr(h:p:=by
 rw[Ec]at k2
 rw[<-k2]
 exact Ce fZ):=h
def zds(h:p:=by
 subst this
 show Value.bool _=Value.bool _
 cases b <;> rfl):=h
def zdt(h:p:=by ·simp only[JR];exact h2 I rfl rfl rfl _ ⟨rfl,rfl⟩):=h
def zdu(h:p:=by
 split at h
 ·cases h;exact r
 ·cases h;exact r
 ·cases h):=h
def zdv(h:p:=by
 apply eX J
 exact⟨Ta,rfl,rfl,rfl,rfl,rfl,oO⟩):=h
def zdw(h:p:=by
 ·have h1:(fF p Y m i).2=false:=h1
  rw[h]at h1;cases h1):=h
def zdx(h:p:=by
 simp only[List.getElem?_eq_getElem fZ]
 exact ih _ _ FJ):=h
def Tt(h:p:=by exact gh _ hm):=h
def zdz(h:p:=by
 rw[<-BW]at hs
 unfold eR at hs
 split at hs <;> exact hs):=h
def zdA(h:p:=by exact Ia (by unfold mU;rw[h1,h2,h3,h4,hj,h5];rfl)):=h
def zdB(h:p:=by
 rw[mL,<-Nat.succ_mul]
 exact Vc _ O):=h
def Pq(h:p:=by rw[La e]at h;cases h):=h
def Dq(h:p:=by
 rw[TT]at this
 cases this):=h
def zdE(h:p:=by exact⟨_,M,V,_,hK,hw.1,Xl,fb _ _,hw.2⟩):=h
def Jt(h:p:=by rw[<-qO];simp[execOp,ho,ex,a7]):=h
def zdJ(h:p:=by unfold a6 xD;cases decide (s.lo<s.cur.length) <;> rfl):=h
def zdK(h:p:=by
 intro x y b1 c1 c2 hx1 hy1 _ _
 rw[jA x hx1,jA y hy1]):=h
def zdL(h:p:=by
 have h1:(fF p Y m i).2=true:=h1
 rw[h]at h1;cases h1):=h
def zdN(h:p:=by exact Ia (by unfold iG;rw[h1,h2,h3,h4,h5];rfl)):=h
def zdO(h:p:=by exact Ia (by unfold jS;rw[h1,h2,h3,hb,h8];rfl)):=h
def zdP(h:p:=by exact⟨_,M',V',hk,by rw[aDW hd];exact hi,hg,lB⟩):=h
def zdQ(h:p:=by
 by_cases hmk:m=k
 ·rw[hmk];exact EW
 ·exact hm m O):=h
def zdS(h:p:=by simp[World.setCell,Vq,Ne.symm h]):=h
def zdT(h:p:=by subst y7;exact .inr ⟨hil,oi,ei,fi,hi,hfi,hy,H⟩):=h
def zdU(h:p:=by rw[show(M:Int).toNat=M from rfl,mK O];exact uS bC):=h
def zdV(h:p:=by exact Ia (by unfold mU;rw[h1,h2,h3,h4];rfl)):=h
def zdW(h:p:=by
 ·have g:¬(j:Int)<xs.length:=bF g
  exact hE O _):=h
def zdY(h:p:=by exact Ia (by unfold iG;rw[h1,h2,h3,h4];rfl)):=h
def zdZ(h:p:=by exact Ia (by unfold jS;rw[h1,h2,h3,h4];rfl)):=h
def zd0(h:p:=by
 split at h
 ·exact⟨_,h,λK k=>k⟩
 ·cases h):=h
def zd1(h:p:=by exact Qa J [] rfl Fa Fa):=h
def zd2(h:p:=by
 have:kind=1:=by simpa using a
 subst this;cases b):=h
def zd4(h:p:=by
 unfold nW at h
 split at h
 ·rfl
 ·rfl
 ·cases h):=h
def Ss(h:p:=by
 rw[de]at this
 omega):=h
def Ps(h:p:=by
 simp only[Ua]
 omega):=h
def zd7(h:p:=by
 repeat refine aR ?_
 exact⟨db _,rfl,oO⟩):=h
def nu(h:p:=by
 refine aD ?_
 exact db _):=h
def Ht(h:p:=by
 simp only[fH,cond_true]
 rfl):=h
def zea(h:p:=by
 refine⟨by simp;omega,?_⟩
 rw[h2]
 simp
 omega):=h
def zeb(h:p:=by exact Ia (by unfold mU;rw[h1,h2,EW];rfl)):=h
def zec(h:p:=by exact⟨a1.trans b1,a2.trans b2,a3.trans b3⟩):=h
def zed(h:p:=by exact Ia (by unfold R6;rw[h1,h2,h3];rfl)):=h
def zee(h:p:=by exact Ia (by unfold qI;rw[h1,h2,h3];rfl)):=h
def zef(h:p:=by exact Ia (by unfold iG;rw[h1,h2,h3];rfl)):=h
def zeg(h:p:=by exact Ia (by unfold jS;rw[h1,h2,h3];rfl)):=h
def zeh(h:p:=by exact Ia (by unfold vN;rw[h1,h2,h3];rfl)):=h
def zei(h:p:=by exact hF.II j1 j2 x1 x2 r1 r2 q1 q2 hr1 YL eg):=h
def Xs(h:p:=by simp[execOp,ho,run_makeMap]):=h
def zek(h:p:=by exact⟨u,by rw[De];exact hu,FJ⟩):=h
def Qu(h:p:=by simp[execOp,ho,ex,Op.unary]):=h
def zem(h:p:=by exact Ia (by rw[kC,he,h4,h5,h6,h7];rfl)):=h
def zen(h:p:=by rw[Wq];rintro rfl;simp at hb):=h
def zeo(h:p:=by
 rw[e,e2]
 exact Re ⟨Nd,Ja _,oO⟩):=h
def np(h:p:=by exact⟨rfl,rfl,oO⟩):=h
def cv(h:p:=by
 simp only[cond_true]
 omega):=h
def zer(h:p:=by
 have:f.kind=1:=by simpa using h2
 rw[this];rfl):=h
def zes(h:p:=by exact wpIn_region_list (by simpa using this)):=h
def zet(h:p:=by ·simp only[hk,Dw,Ua]at h):=h
def zeu(h:p:=by
 rw[Tg]at a
 simpa using a n hn):=h
def zev(h:p:=by
 rintro⟨k,s⟩ hJ
 have aI0:=hJ.lo
 have hlen:=hJ.len
 have T0:=hJ.Hi
 have hvb:=hJ.v
 simp only at aI0 hlen T0 hvb
 refine Sa (sX J ?_)
 apply Cb
 refine aI (λh1=>Qb ?_) (λh1=>Ld ?_)
 ·exact za
 exact xx):=h
def lb(h:p:=by rw[J];rfl):=h
def zey(h:p:=by show HSub _ _ _ _ ⟨[(7,.s (.own 100)),(1,vI M),(2,.s (.d (cZ (dA p Y LN)))),(3,.s (.ptr 3 0)),(8,dQ k.bm),(9,.s (.ptr 9 0)),(11,vI (dH p)),(12,vI i),(23,iD (cH (bN p M i x) 0 []).out),(51,vI p.aT.levels.length),(52,vI i),(97,iC xs),(98,vI xs.length),(99,vI j)],[(3,some (.cells (l0 p Y))),(9,some (.cells (kQ p))),(100,some (.row 82 (py::po).length 7 (eJ (py::po))))]⟩ _;exact Za (ab [] (by rw[J];rfl) rfl Fa Fa)):=h
def zez(h:p:=by show HSub _ _ _ _ ⟨[(7,.s (.d eO)),(1,vI M),(2,.s (.d (cZ (dA p Y LN)))),(3,.s (.ptr 3 0)),(8,dQ k.bm),(9,.s (.ptr 9 0)),(11,vI (dH p)),(12,vI i),(23,iD (cH (bN p M i x) 0 []).out),(51,vI p.aT.levels.length),(52,vI i),(97,iC xs),(98,vI xs.length),(99,vI j)],[(3,some (.cells (l0 p Y))),(9,some (.cells (kQ p)))]⟩ _;exact Za (ab [] (by rw[J];rfl) rfl Fa Fa)):=h
def Ad(h:p:=by simp[Op.operands]):=h
def yg(h:p:=by simp[Op.operands,Call.operands]):=h
def re(h:p:=by simp;omega):=h
def Lg(h:p:=by simpa[LA]using hi):=h
def zeE(h:p:=by decide):=h
def Bh(h:p:=by rw[ho]at hc;cases hc):=h
def tl(h:p:=by show(i:Int).toNat<y.aQ.length;omega):=h
def Yk(h:p:=by rw[show j=0 by omega];exact hf):=h
def ai(h:p:=by simpa using h):=h
def zeJ(h:p:=by rw[fc,List.getElem?_eq_getElem bC];exact Ce _):=h
def Us(h:p:=by show jK.smap .int _=jK.smap .int (kL l (i+1));rw[hG2]):=h
def Dh(h:p:=by simp[names]):=h
def Gq(h:p:=by rw[Oh];exact hz):=h
def mi(h:p:=by rw[<-hw];rfl):=h
def Wo(h:p:=by rw[show j=0 by omega];exact hg):=h
def tn(h:p:=by simp[Region.wanted,hg]):=h
def zeQ(h:p:=by simp[Op.operands,Call.operands];exact .inr (by simpa using hy)):=h
def zeR(h:p:=by simp only[reach,hb];exact oc _ (iT hc hm)):=h
def zeS(h:p:=by rw[dK];show(((l.take i).map FH).length+1)*8<=_;rw[hlen];omega):=h
def zeT(h:p:=by show 0<=aW ((k:Int)+1)/\aW ((k:Int)+1)<_;rw[e];exact Ha):=h
def Lm(h:p:=by unfold maxLen;omega):=h
def zeV(h:p:=by rw[dK];show((fK p Y m i).length+1)*8<=_;rw[TW];omega):=h
def Jj(h:p:=by simp[reach]):=h
def tq(h:p:=by unfold vZ R5;rw[h];rfl):=h
def Sm(h:p:=by rw[y8];exact hl):=h
def Bq(h:p:=by rw[h]at hr;cases hr):=h
def Nt(h:p:=by simpa using hy):=h
def yu(h:p:=by simpa using hi):=h
def ze5(h:p:=by rw[hc,hb];exact Lc.2 ⟨e',DT,rfl⟩):=h
def ze6(h:p:=by cases gY p Y m p.aT.levels.length <;> rfl):=h
def ze7(h:p:=by rw[show i+1+q=i+(q+1) by omega];exact h):=h
def ze8(h:p:=by rw[Hd]at h1;exact h1 x hx):=h
def ze9(h:p:=by rw[hg];exact hf _ (Ce bC)):=h
def Uk(h:p:=by rw[h];rfl):=h
def Kp(h:p:=by cases h):=h
def zfc(h:p:=by simp only[Int.natCast_zero]at*;omega):=h
def Bm(h:p:=by rw[hg];simp):=h
def Mt(h:p:=by rw[<-hw];exact trivial):=h
def Vp(h:p:=by simp[b9,reach]):=h
def Zp(h:p:=by simpa using hj):=h
def To(h:p:=by rw[h1];rfl):=h
def rm(h:p:=by rw[h6];rfl):=h
def mv(h:p:=by rw[eq_of_beq e];simp):=h
def Wu(h:p:=by rw[<-h.box];exact e):=h
def Ev(h:p:=by rw[<-hb];exact e):=h
end
end Go.Ax
namespace Go
def O{p:Prop}(h:p:=by omega):p:=h
def Ha{p q:Prop}(h:p:=by omega)(k:q:=by omega):p/\q:=⟨h,k⟩
def kR{p:Prop}(h:p:=by kernel_rfl):p:=h
def dC{p:Prop}(h:p:=by decide):p:=h
def sM{p:Prop}(h:p:=by simp):p:=h
end Go
namespace Go.Ax
open Go
end Go.Ax
namespace Go.Ax
open Go.RowKit
abbrev Mem:=Nat->Nat->Da wa
abbrev Nm:=Nat->Da (Nat×(Nat×Nat))
inductive DV where
 |val (v:wa)
 |lit (b:Bool)
 |rp (m:Nat) (f:Nat->DV)
 |fU (n s:Nat) (f:Nat->Nat->DV)
 |dZ (f:FuncId) (k:Nat) (c:Nat->DV)
 |Xg (f:FuncId) (n:Nat) (c:Nat->DV)
 |err (b:Bool)
 |bL
def DV.bI(M:Mem):DV->wa->Prop
 |.val u,v=>v=u
 |.lit b,v=>v=.bool b
 |.rp m f,v=>∃b o,v=.pointer (some ⟨b,o,none⟩)/\∀j,j<m->∃u,M b (o+j)=some u/\(f j).bI M u
 |.fU n s f,v=>∃a cap,v=.slice a n cap/\n<=cap/\(n=0\/∃b o,a=some ⟨b,o,none⟩/\∀i j,i<n->j<s->∃u,M b (o+i*s+j)=some u/\(f i j).bI M u)
 |.dZ f k c,v=>∃cs:List wa,v=.func (.func f) #[] cs.toArray/\cs.length=k/\∀i u,cs[i]? =some u->(c i).bI M u
 |.Xg f k c,v=>∃cs:List wa,v=.func (.func f) #[.agg cs.toArray] #[]/\cs.length=k/\∀i u,cs[i]? =some u->(c i).bI M u
 |.err b,v=>(b=false/\v=.nilIface)\/(b=true/\∃t u,v=.iface t u)
 |.bL,_=>True
def Mem.le(M M':Mem):Prop:=∀b o u,M b o=some u->M' b o=some u
def Mem.le_refl(M:Mem):Mem.le M M:=λ_ _ _ h=>h
def Xe:=@Mem.le_refl
def Mem.le_trans{A B C:Mem}(h:Mem.le A B)(k:Mem.le B C):Mem.le A C:=λb o u x=>k b o u (h b o u x)
def DV.bI.mono{M M':Mem}(h:Mem.le M M'):∀{x:DV} {v:wa},x.bI M v->x.bI M' v:=by
 intro x;induction x with
 |val u=>exactλr=>r
 |lit b=>exactλr=>r
 |rp m f ih=>rintro v ⟨b,o,e,hc⟩;exact⟨b,o,e,λj hj=>let⟨u,hu,hr⟩:=hc j hj;⟨u,h _ _ _ hu,ih j hr⟩⟩
 |fU n s f ih=>rintro v ⟨a,cap,e,hn,hc⟩;refine⟨a,cap,e,hn,hc.imp id ?_⟩;rintro⟨b,o,ea,hc⟩;exact⟨b,o,ea,λi j hi hj=>let⟨u,hu,hr⟩:=hc i j hi hj;⟨u,h _ _ _ hu,ih i j hr⟩⟩
 |dZ f k c ih=>rintro v ⟨cs,e,hk,hc⟩;exact⟨cs,e,hk,λi u hu=>ih i (hc i u hu)⟩
 |Xg f k c ih=>rintro v ⟨cs,e,hk,hc⟩;exact⟨cs,e,hk,λi u hu=>ih i (hc i u hu)⟩
 |err b=>exactλr=>r
 |bL=>exactλ_=>trivial
def lg:=@DV.bI.mono
inductive CV where
 |d (x:DV)
 |ptr (x off:Nat)
inductive VK where
 |int|bool
def VK.val:VK->Int->wa
 |.int,n=>.int .i64 n
 |.bool,n=>.bool (n !=0)
def VK.dv:VK->Int->DV
 |.int,n=>.val (.int .i64 n)
 |.bool,n=>.val (.bool (n !=0))
def iN(vk:VK):List (Int×Int)->Nat->List MapEntry
 |[],_=>[]
 |(k,v)::r,i=>{key:=.int .i64 k,val:=vk.val v,born:=i}::iN vk r (i+1)
def eL(vk:VK):List (ta×Int)->Nat->List MapEntry
 |[],_=>[]
 |(k,v)::r,i=>{key:=.string k,val:=vk.val v,born:=i}::eL vk r (i+1)
inductive SV where
 |d (x:DV)
 |ptr (x off:Nat)
 |own (x:Nat)
 |mo (z:Bool) (x:Nat)
 |rw(x i s o:Nat)
 |dZ (f:FuncId) (cs:List CV)
 |j0 (x s lo n:Nat)
 |mp (x:Nat)
def CV.bI(M:Mem)(V:Nm):CV->wa->Prop
 |.d x,v=>x.bI M v
 |.ptr x off,v=>∃b c,V x=some (b,c)/\v=.pointer (some ⟨b,off,none⟩)
def vO(M:Mem)(V:Nm):List CV->List wa->Prop
 |[],[]=>True
 |c::cs,v::vs=>c.bI M V v/\vO M V cs vs
 |_,_=>False
def SV.bI(M:Mem)(V:Nm):SV->wa->Prop
 |.d x,v=>x.bI M v
 |.ptr x off,v=>∃b c,V x=some (b,c)/\v=.pointer (some ⟨b,off,none⟩)
 |.own x,v=>∃b c,V x=some (b,c)/\v=.slice (some ⟨b,0,none⟩) c.2 c.1/\c.2<=c.1
 |.mo z x,v=>(z=true->v=.slice none 0 0)/\(z=false->∃b c,V x=some (b,c)/\v=.slice (some ⟨b,0,none⟩) c.2 c.1/\c.2<=c.1)
 |.rw x i s o,v=>∃b c,V x=some (b,c)/\v=.pointer (some ⟨b,i*s+o,none⟩)
 |.dZ f cs,v=>∃vs:List wa,v=.func (.func f) #[] vs.toArray/\vO M V cs vs
 |.j0 x s lo n,v=>∃b c o,V x=some (b,c)/\v=.slice (some ⟨b,o,none⟩) n (c.1-lo)/\(lo<c.1->o=lo*s)/\lo+n<=c.2/\c.2<=c.1
 |.mp x,v=>∃b c,V x=some (b,c)/\v=.map (some b)
def cV(M:Mem)(V:Nm):List SV->List wa->Prop
 |[],[]=>True
 |c::cs,v::vs=>c.bI M V v/\cV M V cs vs
 |_,_=>False
inductive TV where
 |s (x:SV)
 |g (cs:List SV)
def TV.bI(M:Mem)(V:Nm):TV->wa->Prop
 |.s x,v=>x.bI M V v
 |.g cs,v=>∃vs:List wa,v=.agg vs.toArray/\cV M V cs vs
def rF(M:Mem)(V:Nm):List TV->List wa->Prop
 |[],[]=>True
 |c::cs,v::vs=>c.bI M V v/\rF M V cs vs
 |_,_=>False
inductive AV where
 |s (x:SV)
 |g (cs:List SV)
 |ib (b:Bool) (x:SV)
 |ig (b:Bool) (cs:List SV)
 |t (ts:List TV)
def AV.bI(M:Mem)(V:Nm):AV->wa->Prop
 |.s x,v=>x.bI M V v
 |.g cs,v=>∃vs:List wa,v=.agg vs.toArray/\cV M V cs vs
 |.ib b x,v=>(b=true->x.bI M V v)/\(b=false->v=undef)
 |.ig b cs,v=>(b=true->∃vs:List wa,v=.agg vs.toArray/\cV M V cs vs)/\(b=false->v=undef)
 |.t ts,v=>∃vs:List wa,v=.tuple vs.toArray/\rF M V ts vs
def Nm.le(V V':Nm):Prop:=∀x p,V x=some p->V' x=some p
def Nm.le_refl(V:Nm):Nm.le V V:=λ_ _ h=>h
def Kf:=@Nm.le_refl
section mono
variable{M M':Mem}{V V':Nm}(hM:Mem.le M M')(hβ:Nm.le V V')
include hM hβ
def CV.bI.mono{x:CV}{v:wa}(r:x.bI M V v):x.bI M' V' v:=by
 cases x with
 |d x=>exact lg hM r
 |ptr x off=>obtain⟨b,c,e,hv⟩:=r;exact⟨b,c,hβ _ _ e,hv⟩
def vO.mono:∀{cs:List CV} {vs:List wa},vO M V cs vs->vO M' V' cs vs
 |[],[],_=>trivial
 |_::_,_::_,⟨h,r⟩=>⟨CV.bI.mono hM hβ h,vO.mono r⟩
 |[],_::_,h=>h.elim
 |_::_,[],h=>h.elim
def SV.bI.mono{x:SV}{v:wa}(r:x.bI M V v):x.bI M' V' v:=by
 cases x with
 |d x=>exact lg hM r
 |ptr x off=>obtain⟨b,c,e,hv⟩:=r;exact⟨b,c,hβ _ _ e,hv⟩
 |own x=>obtain⟨b,c,e,hv⟩:=r;exact⟨b,c,hβ _ _ e,hv⟩
 |mo z x=>exact⟨r.1,λh=>let⟨b,c,e,hv⟩:=r.2 h;⟨b,c,hβ _ _ e,hv⟩⟩
 |rw x i s o=>obtain⟨b,c,e,hv⟩:=r;exact⟨b,c,hβ _ _ e,hv⟩
 |dZ f cs=>obtain⟨vs,e,hv⟩:=r;exact⟨vs,e,vO.mono hM hβ hv⟩
 |j0 x s lo n=>obtain⟨b,c,o,e,hv⟩:=r;exact⟨b,c,o,hβ _ _ e,hv⟩
 |mp x=>obtain⟨b,c,e,hv⟩:=r;exact⟨b,c,hβ _ _ e,hv⟩
def km:=@SV.bI.mono
def cV.mono:∀{cs:List SV} {vs:List wa},cV M V cs vs->cV M' V' cs vs
 |[],[],_=>trivial
 |_::_,_::_,⟨h,r⟩=>⟨km hM hβ h,cV.mono r⟩
 |[],_::_,h=>h.elim
 |_::_,[],h=>h.elim
def gk:=@cV.mono
def TV.bI.mono{x:TV}{v:wa}(r:x.bI M V v):x.bI M' V' v:=by
 cases x with
 |s x=>exact km hM hβ r
 |g cs=>obtain⟨vs,e,hv⟩:=r;exact⟨vs,e,gk hM hβ hv⟩
def rF.mono:∀{cs:List TV} {vs:List wa},rF M V cs vs->rF M' V' cs vs
 |[],[],_=>trivial
 |_::_,_::_,⟨h,r⟩=>⟨TV.bI.mono hM hβ h,rF.mono r⟩
 |[],_::_,h=>h.elim
 |_::_,[],h=>h.elim
def AV.bI.mono{x:AV}{v:wa}(r:x.bI M V v):x.bI M' V' v:=by
 cases x with
 |s x=>exact km hM hβ r
 |g cs=>obtain⟨vs,e,hv⟩:=r;exact⟨vs,e,gk hM hβ hv⟩
 |ib b x=>exact⟨λhb=>km hM hβ (r.1 hb),r.2⟩
 |ig b cs=>exact⟨λhb=>let⟨vs,e,hv⟩:=r.1 hb;⟨vs,e,gk hM hβ hv⟩,r.2⟩
 |t ts=>obtain⟨vs,e,hv⟩:=r;exact⟨vs,e,rF.mono hM hβ hv⟩
def Vf:=@AV.bI.mono
end mono
def cV.length:∀{M V} {cs:List SV} {vs:List wa},cV M V cs vs->vs.length=cs.length
 |_,_,[],[],_=>rfl
 |_,_,_::_,_::_,⟨_,r⟩=>by simp[cV.length r]
 |_,_,[],_::_,h=>h.elim
 |_,_,_::_,[],h=>h.elim
def cV.get:∀{M V} {cs:List SV} {vs:List wa} {j:Nat} {c:SV},cV M V cs vs->cs[j]? =some c->∃v,vs[j]? =some v/\c.bI M V v
 |_,_,[],[],j,c,_,h=>by simp at h
 |_,_,_::_,v::_,0,c,⟨hv,_⟩,h=>⟨v,rfl,by simp at h;exact h▸hv⟩
 |_,_,_::_,_::_,j+1,c,⟨_,r⟩,h=>by have:=cV.get (j:=j) r ai;simpa using this
 |_,_,[],_::_,_,_,h,_=>h.elim
 |_,_,_::_,[],_,_,h,_=>h.elim
def rF.get:∀{M V} {cs:List TV} {vs:List wa} {j:Nat} {c:TV},rF M V cs vs->cs[j]? =some c->∃v,vs[j]? =some v/\c.bI M V v
 |_,_,[],[],j,c,_,h=>by simp at h
 |_,_,_::_,v::_,0,c,⟨hv,_⟩,h=>⟨v,rfl,by simp at h;exact h▸hv⟩
 |_,_,_::_,_::_,j+1,c,⟨_,r⟩,h=>by have:=rF.get (j:=j) r ai;simpa using this
 |_,_,[],_::_,_,_,h,_=>h.elim
 |_,_,_::_,[],_,_,h,_=>h.elim
def cV.append:∀{M V} {cs ds:List SV} {vs us:List wa},cV M V cs vs->cV M V ds us->cV M V (cs++ds) (vs++us)
 |_,_,[],_,[],_,_,h=>h
 |_,_,_::_,_,_::_,_,⟨h,r⟩,k=>⟨h,cV.append r k⟩
 |_,_,[],_,_::_,_,h,_=>h.elim
 |_,_,_::_,_,[],_,h,_=>h.elim
def cV.take:∀{M V} {cs:List SV} {vs:List wa} (n:Nat),cV M V cs vs->cV M V (cs.take n) (vs.take n)
 |_,_,[],[],n,_=>by simp[cV]
 |_,_,_::_,_::_,0,_=>trivial
 |_,_,_::_,_::_,n+1,⟨h,r⟩=>⟨h,cV.take n r⟩
 |_,_,[],_::_,_,h=>h.elim
 |_,_,_::_,[],_,h=>h.elim
def Mr:=@cV.take
def cV.drop:∀{M V} {cs:List SV} {vs:List wa} (n:Nat),cV M V cs vs->cV M V (cs.drop n) (vs.drop n)
 |_,_,[],[],n,_=>by simp[cV]
 |_,_,_::_,_::_,0,h=>h
 |_,_,_::_,_::_,n+1,⟨_,r⟩=>cV.drop n r
 |_,_,[],_::_,_,h=>h.elim
 |_,_,_::_,[],_,h=>h.elim
def Bs:=@cV.drop
def DV.one:DV->Bool
 |.val v=>v.oneCell'
 |.bL=>false
 |_=>true
def SV.one:SV->Bool
 |.d x=>x.one
 |_=>true
def DV.bI.k8{M:Mem}{x:DV}{v:wa}(r:x.bI M v)(h:x.one=true):v.oneCell'=true:=by
 cases x with
 |val u=>cases r;exact h
 |lit b=>cases r;rfl
 |rp m f=>obtain⟨b,o,rfl,_⟩:=r;rfl
 |fU n s f=>obtain⟨a,cap,rfl,_⟩:=r;rfl
 |dZ f k c=>obtain⟨cs,rfl,_⟩:=r;rfl
 |Xg f k c=>obtain⟨cs,rfl,_⟩:=r;rfl
 |err b=>rcases r with⟨_,rfl⟩|⟨_,t,u,rfl⟩ <;> rfl
 |bL=>cases h
def gm:=@DV.bI.k8
def SV.bI.k8{M:Mem}{V:Nm}{x:SV}{v:wa}(r:x.bI M V v)(h:x.one=true):v.oneCell'=true:=by
 cases x with
 |d x=>exact gm r h
 |ptr x off=>obtain⟨b,c,_,rfl⟩:=r;rfl
 |own x=>obtain⟨b,c,_,rfl,_⟩:=r;rfl
 |mo z x=>
  cases z with
  |true=>rw[r.1 rfl];rfl
  |false=>obtain⟨b,c,_,rfl,_⟩:=r.2 rfl;rfl
 |rw x i s o=>obtain⟨b,c,_,rfl⟩:=r;rfl
 |dZ f cs=>obtain⟨vs,rfl,_⟩:=r;rfl
 |j0 x s lo n=>obtain⟨b,c,o,_,rfl,_⟩:=r;rfl
 |mp x=>obtain⟨b,c,_,rfl⟩:=r;rfl
def l9:List SV->Bool
 |[]=>true
 |x::r=>x.one&&l9 r
def cV.k8:∀{M V} {cs:List SV} {vs:List wa},cV M V cs vs->l9 cs=true->∀v∈vs,v.oneCell'=true
 |_,_,[],[],_,_,v,hv=>by cases hv
 |_,_,_::_,_::_,⟨h,r⟩,ha,v,hv=>by
  simp only[l9,Bool.and_eq_true]at ha
  cases hv with
  |head=>exact h.k8 ha.1
  |tail _ hv=>exact cV.k8 r ha.2 v hv
 |_,_,[],_::_,h,_,_,_=>h.elim
 |_,_,_::_,[],h,_,_,_=>h.elim
inductive jK where
 |cells (cs:List SV)
 |row (e:Ea) (n s:Nat) (f:Nat->Nat->DV)
 |b8 (e:Ea) (n s:Nat) (f:Nat->Nat->DV)
 |map (vk:VK) (l:List (Int×Int))
 |smap (vk:VK) (l:List (ta×Int))
 |dm (l:List (ta×Nat×DV)) (n:Nat)
 |fresh (T:Ea) (vs:List wa)
 |iter (m n:Nat) (seen:List Nat)
structure St where
 env:List (Nat×AV)
 box:List (Nat×Da jK)
def fL:List (Nat×AV)->Nat->AV
 |[],_=>.s (.d .bL)
 |(k,v)::r,t=>bif Nat.beq k t then v else fL r t
def aH:List (Nat×Da jK)->Nat->Da (Da jK)
 |[],_=>none
 |(k,v)::r,t=>bif Nat.beq k t then some v else aH r t
def UU{a b:Nat}(h:a≠b):Nat.beq a b=false:=by
 cases hb:Nat.beq a b with
 |false=>rfl
 |true=>exact absurd (Mb hb) h
def gP(k:Nat)(v:AV)(r:List (Nat×AV))(t:Nat):fL ((k,v)::r) t=if k=t then v else fL r t:=by
 by_cases h:k=t
 ·subst h;simp[fL]
 simp[fL,UU h,h]
def aL(k:Nat)(v:Da jK)(r:List (Nat×Da jK))(t:Nat):aH ((k,v)::r) t=if k=t then some v else aH r t:=by
 by_cases h:k=t
 ·subst h;simp[aH]
 simp[aH,UU h,h]
def CO{α:Type}{vs us:List α}{j:Nat}{v:α}(h:vs[j]? =some v):(vs++us)[j]? =some v:=by have:=(Ue.1 h).1;rw[Jc this];exact h
def lY:List (ta×Nat×DV)->List wa->List MapEntry
 |(k,b,_)::r,v::vs=>{key:=.string k,val:=v,born:=b}::lY r vs
 |_,_=>[]
def wO(M:Mem):List (ta×Nat×DV)->List wa->Prop
 |[],[]=>True
 |(_,_,x)::r,v::vs=>x.bI M v/\wO M r vs
 |_,_=>False
def wO.mono{M M':Mem}(h:Mem.le M M'):∀{l:List (ta×Nat×DV)} {vs:List wa},wO M l vs->wO M' l vs
 |[],[],_=>trivial
 |(_,_,_)::_,_::_,k=>⟨lg h k.1,wO.mono h k.2⟩
 |[],_::_,k=>k.elim
 |(_,_,_)::_,[],k=>k.elim
def cN(M:Mem)(V:Nm)(w:Aa)(x:Nat):jK->Prop
 |.cells cs=>∃b c vs T us,V x=some (b,c)/\w.heap[b]? =some (.cells (List.toArray (vs++us)) T (0,0))/\cV M V cs vs
 |.row e n s f=>∃b c cur,V x=some (b,c)/\w.heap[b]? =some (.cells cur e (0,0))/\c.2=n/\cur.size=c.1*s/\n<=c.1/\c.1<=maxLen/\
   ∀i j,i<n->j<s->∃u,cur[i*s+j]? =some u/\(f i j).bI M u
 |.b8 e n s f=>∀b c,V x=some (b,c)->∃cur,w.heap[b]? =some (.cells cur e (0,0))/\c.2=n/\cur.size=c.1*s/\n<=c.1/\c.1<=maxLen/\
   ∀i j,i<n->j<s->∃u,cur[i*s+j]? =some u/\(f i j).bI M u
 |.map vk l=>∃b c,V x=some (b,c)/\w.heap[b]? =some (.map (iN vk l 0).toArray l.length)
 |.smap vk l=>∃b c,V x=some (b,c)/\w.heap[b]? =some (.map (eL vk l 0).toArray l.length)
 |.dm l n=>∃b c vs,V x=some (b,c)/\w.heap[b]? =some (.map (lY l vs).toArray n)/\wO M l vs
 |.fresh T vs=>∃b c,V x=some (b,c)/\w.heap[b]? =some (.cells vs.toArray T (0,0))
 |.iter m n seen=>∃b c bm cm,V x=some (b,c)/\V m=some (bm,cm)/\w.heap[b]? =some (.mapIter (some bm) n seen.reverse.toArray n)
structure Grow(B:Nat)(M M':Mem):Prop where
 le:Mem.le M M'
 new:∀b o u,M' b o=some u->M b o=some u\/B<=b
def Grow.refl(B:Nat)(M:Mem):Grow B M M:=⟨Xe M,λ_ _ _ h=>.inl h⟩
def fb:=@Grow.refl
def Grow.trans{B:Nat}{a b c:Mem}(h:Grow B a b)(k:Grow B b c):Grow B a c:=
 ⟨Mem.le_trans h.le k.le,λx o u e=>(k.new x o u e).elim (λe=>h.new x o u e) .inr⟩
structure Cx where
 B:Nat
 ref:List Nat
 ma:Nm
 rd:Da Nat:=none
 df:List Deferred:=[]
def FW(r:Da Nat):Fence:={Fence.wide with round:=r}
def Cx.xC(R:Cx)(k:Nat):Prop:=∃x c,x∈R.ref/\R.ma x=some (k,c)
def Dr(_ _:Aa):Prop:=True
structure cE(R:Cx)(w w':Aa):Prop where
 os:w'.os=w.os
 tape:w'.tape=w.tape
 output:w'.output=w.output
 size:w.heap.size<=w'.heap.size
 block:∀k,k<R.B->¬R.xC k->w'.heap[k]? =w.heap[k]?
 drawn:Dr w w'
def cE.refl(R:Cx)(w:Aa):cE R w w:=⟨rfl,rfl,rfl,mb _,λ_ _ _=>rfl,trivial⟩
def lc:=@cE.refl
def cE.trans{R:Cx}{a b c:Aa}(h:cE R a b)(k:cE R b c):cE R a c:=
 ⟨k.os.trans h.os,k.tape.trans h.tape,k.output.trans h.output,Xb h.size k.size,λi hi hm=>(k.block i hi hm).trans (h.block i hi hm),trivial⟩
def CU(bs:Km)(w:Aa):Prop:=∀g t,(g,t)∈tE bs->∃e fr,w.heap[g]? =some (.cells t e fr)
def Up(w:Aa):Prop:=∃bs,CU bs w
def CU.lt{bs:Km}{w:Aa}(h:CU bs w){g:Nat}{t:Array wa}(m:(g,t)∈tE bs):g<w.heap.size:=by obtain⟨e,fr,c⟩:=h g t m;exact(Lh.1 c).1
structure Hp(R:Cx)(w:Aa):Prop where
 le:R.B<=w.heap.size
 tab:∃bs,CU bs w/\∀g t,(g,t)∈tE bs->g<R.B/\¬R.xC g
def Hp.Kq{R:Cx}{w:Aa}(h:Hp R w):Up w:=let⟨bs,h,_⟩:=h.tab;⟨bs,h⟩
def Hp.keep{R:Cx}{w w':Aa}(h:Hp R w)(k:cE R w w'):Hp R w':=
 ⟨Xb h.le k.size,by obtain⟨bs,h1,h2⟩:=h.tab;refine⟨bs,λg t m=>?_,h2⟩;obtain⟨e,fr,c⟩:=h1 g t m;obtain⟨a,b⟩:=h2 g t m;exact⟨e,fr,(k.block g a b).trans c⟩⟩
structure Inv(R:Cx)(N:Nat)(M:Mem)(V:Nm)(I:St)(a:Act)(w:Aa):Prop where
 defers:a.defers=R.df
 tmps:a.tmps.size=N
 heap:Hp R w
 env:∀t,(fL I.env t).bI M V (a.tmps.getD t undef)
 mem:∀b o u,M b o=some u->w.cell? ⟨b,o,none⟩=some u
 keys:∀x p,V x=some p->∃y,aH I.box x=some y
 box:∀x bc,aH I.box x=some (some bc)->cN M V w x bc
 inj:∀x y bx zB b c c',aH I.box x=some (some bx)->aH I.box y=some (some zB)->V x=some (b,c)->V y=some (b,c')->x=y
 apart:∀x bc b c,aH I.box x=some (some bc)->V x=some (b,c)->∀o,M b o=none
 low:∀x bc b c,aH I.box x=some (some bc)->V x=some (b,c)->R.B<=b\/R.xC b
 ref:∀x,x∈R.ref->V x=R.ma x/\∃p,V x=some p
def AW(P:Ba)(R:Cx)(N:Nat)(c:Code)(I:St)(K:Exit->St->Prop):Prop:=
 ∀M V a w,Inv R N M V I a w->
  c.wpIn (FW R.rd) 0 P (λe a' w'=>∃I' M' V',K e I'/\Inv R N M' V' I' a' w'/\Grow R.B M M'/\cE R w w') a w
section rules
variable{P:Ba}{R:Cx}{N:Nat}{I:St}{K:Exit->St->Prop}
def AW.mono{c:Code}{K':Exit->St->Prop}(h:AW P R N c I K)(hk:∀e s,K e s->K' e s):AW P R N c I K':=
 λM V a w i=>Dg (h M V a w i) λ_ _ _ ⟨s,M',V',k,r⟩=>⟨s,M',V',hk _ _ k,r⟩
def Rr:=@AW.mono
def AW.skip(h:K .normal I):AW P R N .skip I K:=λM V _ _ i=>wpIn_skip ⟨I,M,V,h,i,fb _ _,lc _ _⟩
def Qb:=@AW.skip
def AW.ret(h:K .ret I):AW P R N .ret I K:=λM V _ _ i=>wpIn_ret ⟨I,M,V,h,i,fb _ _,lc _ _⟩
def AW.exit{id:Nat}(h:K (.exit id) I):AW P R N (.exit id) I K:=λM V _ _ i=>wpIn_exit ⟨I,M,V,h,i,fb _ _,lc _ _⟩
def Ld:=@AW.exit
def OV(next:St->Prop)(K:Exit->St->Prop):Exit->St->Prop
 |.normal,s=>next s
 |e,s=>K e s
def AW.seq{x y:Code}(h:AW P R N x I (OV (λs=>AW P R N y s K) K)):AW P R N (.seq x y) I K:=by
 intro M V a w i;refine wpIn_seq (Dg (h M V a w i) ?_);rintro e a' w' ⟨s,M',V',k,i',hM,hk⟩
 cases e with
 |normal=>refine Dg (k M' V' a' w' i') ?_;rintro e2 a2 w2 ⟨s2,M2,la,k2,i2,hM2,TX⟩;exact⟨s2,M2,la,k2,i2,hM.trans hM2,hk.trans TX⟩
 |exit id=>exact⟨s,M',V',k,i',hM,hk⟩
 |goto l=>exact⟨s,M',V',k,i',hM,hk⟩
 |ret=>exact⟨s,M',V',k,i',hM,hk⟩
 |panic ch=>exact⟨s,M',V',k,i',hM,hk⟩
 |outgrown=>exact⟨s,M',V',k,i',hM,hk⟩
def Sa:=@AW.seq
def OB(id:Nat)(K:Exit->St->Prop):Exit->St->Prop
 |.exit id',s=>bif Nat.beq id' id then K .normal s else K (.exit id') s
 |e,s=>K e s
def AW.block{id:Nat}{c:Code}(h:AW P R N c I (OB id K)):AW P R N (.block id c) I K:=by
 intro M V a w i;refine wpIn_block (Dg (h M V a w i) ?_);rintro e a' w' ⟨s,M',V',k,i',r⟩
 cases e with
 |exit id'=>
  by_cases hid:id'=id
  ·subst hid;simp only[Exit.inBlock,Xi];simp only[OB,Ar,cond_true]at k;exact⟨s,M',V',k,i',r⟩
  simp only[Exit.inBlock,hid,rh];simp only[OB,UU hid,Ua]at k;exact⟨s,M',V',k,i',r⟩
 |_=>exact⟨s,M',V',k,i',r⟩
def Eb:=@AW.block
structure Sub(R:Cx)(I I':St):Prop where
 env:∀(M:Mem) (V V':Nm),(∀x p,V x=some p->(∃y,aH I'.box x=some y)->V' x=some p)->∀t v,(fL I.env t).bI M V v->(fL I'.env t).bI M V' v
 box:∀(M:Mem) (V V':Nm) (w:Aa),(∀x p,V x=some p->(∃y,aH I'.box x=some y)->V' x=some p)->∀x bc',aH I'.box x=some (some bc')->∃bc,aH I.box x=some (some bc)/\(cN M V w x bc->cN M V' w x bc')
 ref:∀x,x∈R.ref->∃y,aH I'.box x=some y
def Inv.sub{I':St}{M:Mem}{V:Nm}{a:Act}{w:Aa}(i:Inv R N M V I a w)(h:Sub R I I'):
  ∃V',Inv R N M V' I' a w:=by
 classical
 let V':Nm:=λx=>if ∃y,aH I'.box x=some y then V x else none
 have hb:∀x p,V' x=some p->V x=some p:=λx p h=>by
  simp only[V']at h;split at h
  ·exact h
  cases h
 have Z7:∀x p,V x=some p->(∃y,aH I'.box x=some y)->V' x=some p:=λx p e k=>by simp only[V',La k];exact e
 refine⟨V',i.defers,i.tmps,i.heap,λt=>h.env M V V' Z7 t _ (i.env t),i.mem,?_,?_,?_,?_,?_,?_⟩
 ·intro x p e;simp only[V']at e;split at e
  ·assumption
  cases e
 ·intro x bc' e;obtain⟨bc,e1,hr⟩:=h.box M V V' w Z7 x bc' e;exact hr (i.box x bc e1)
 ·intro x y bx zB b c c' ex ey hx hy;obtain⟨bx',ex',_⟩:=h.box M V V' w Z7 x bx ex;obtain⟨by',Z8,_⟩:=h.box M V V' w Z7 y zB ey;exact i.inj x y bx' by' b c c' ex' Z8 (hb _ _ hx) (hb _ _ hy)
 ·intro x bc b c ex hx;obtain⟨bx',ex',_⟩:=h.box M V V' w Z7 x bc ex;exact i.apart x bx' b c ex' (hb _ _ hx)
 ·intro x bc b c ex hx;obtain⟨bx',ex',_⟩:=h.box M V V' w Z7 x bc ex;exact i.low x bx' b c ex' (hb _ _ hx)
 ·intro x hx;obtain⟨y,hy⟩:=h.ref x hx;have:V' x=V x:=by simp only[V',hy];simp
  rw[this];exact i.ref x hx
def AW.loop{S:Type}{c:Code}(UZ:S->St)(oa:S->Prop)(μ:S->Nat)(s0:S)(hJ:oa s0)(hs:Sub R I (UZ s0))
  (body:∀s,oa s->AW P R N c (UZ s) (OV (λI'=>∃s',oa s'/\μ s'<μ s/\Sub R I' (UZ s')) K)):AW P R N (.loop c) I K:=by
 intro M V a w i
 obtain⟨na,i1⟩:=i.sub hs
 intro b k cs hro hb hr
 have key:∀n s,μ s=n->oa s->∀M V a w,Inv R N M V (UZ s) a w->
   ∃e a' w',(∃I' M' V',K e I'/\Inv R N M' V' I' a' w'/\Grow R.B M M'/\cE R w w')/\ArrivesIn (Machine.fenced P (FW R.rd)) P (lone (b.atR a (.code c::.inLoop c::k)) cs w) b k cs e a' w':=by
  intro n
  induction n using Nat.strongRecOn with
  |_ n ih=>
   intro s hn hJ M V a w i;obtain⟨e,a₁,w₁,⟨I',M1,na,hq,i1,hM,hk⟩,nI⟩:=body s hJ M V a w i b (.inLoop c::k) cs hro hb hr
   cases e with
   |normal=>obtain⟨s',hJ',fZ,fQ⟩:=hq;obtain⟨la,i2⟩:=i1.sub fQ;exact jd
   |exit id=>exact⟨_,a₁,w₁,⟨I',M1,na,hq,i1,hM,hk⟩,.pass (x:=.inLoop c) rfl (λ_ _=>.inl sM) nI⟩
   |goto l=>exact⟨_,a₁,w₁,⟨I',M1,na,hq,i1,hM,hk⟩,.pass (x:=.inLoop c) rfl (λ_ _=>.inl sM) nI⟩
   |ret=>exact⟨_,a₁,w₁,⟨I',M1,na,hq,i1,hM,hk⟩,.pass (x:=.inLoop c) rfl (λ_ _=>.inl sM) nI⟩
   |panic ch=>exact⟨_,a₁,w₁,⟨I',M1,na,hq,i1,hM,hk⟩,.pass (x:=.inLoop c) rfl (λ_ _=>.inl sM) nI⟩
   |outgrown=>exact⟨_,a₁,w₁,⟨I',M1,na,hq,i1,hM,hk⟩,.pass (x:=.inLoop c) rfl (λ_ _=>.inl sM) nI⟩
 obtain⟨e,a',w',hq,nI⟩:=key _ s0 rfl hJ M na a w i1
 exact⟨e,a',w',hq,.of_steps (.one (Tl hb hr rfl) stepR_loop) nI⟩
def Hb:=@AW.loop
end rules
inductive SP where
 |bool|string|struct|func|pointer|iface|other
 |int (k:IntKind)|float (k:FloatKind)
 |slice (e:Ea)|array (n:Nat) (e:Ea)|map (k e:Ea)
def rk:TypeDesc->SP
 |.bool=>.bool
 |.int k=>.int k
 |.float k=>.float k
 |.string=>.string
 |.slice e=>.slice e
 |.array n e=>.array n e
 |.map k e=>.map k e
 |.struct _=>.struct
 |.func _ _ _=>.func
 |.pointer _=>.pointer
 |.interface _=>.iface
 |_=>.other
structure bV where
 j7:SP
 size:Nat
 bytes:Nat
 agg:Bool
 zero:List wa
 wJ:List (Nat×Nat)
 ints:Bool
def xL:SV->Da (IntKind×Int)
 |.d (.val (.int k a))=>some (k,a)
 |_=>none
def wC:SV->Da ta
 |.d (.val (.string s))=>some s
 |_=>none
def nW:SV->Da Bool
 |.d (.lit b)=>some b
 |.d (.val (.bool b))=>some b
 |_=>none
def uG:List SV->List SV->Da Bool
 |[],[]=>some true
 |x::r,y::s=>
  match xL x,xL y,uG r s with
  |some (k,a),some (k',b),some c=>bif decide (k=k')then some (a==b&&c)else none
  |_,_,some c=>match wC x,wC y with
   |some a,some b=>some (a.toList==b.toList&&c)
   |_,_=>match nW x,nW y with
    |some a,some b=>some (a==b&&c)
    |_,_=>none
  |_,_,none=>none
 |_,_=>none
def lj:wa->SV->Bool
 |.int _ _,x=>(xL x).isSome
 |.string _,x=>(wC x).isSome
 |.bool _,x=>(nW x).isSome
 |_,_=>false
def gT:List wa->List SV->Bool
 |[],[]=>true
 |z::zs,x::xs=>lj z x&&gT zs xs
 |_,_=>false
def sY(P:Ba):List Field->List (Nat×Nat)->Prop
 |[],[]=>True
 |f::Y,(o,z)::r=>f.offset=o/\(∃ti,P.info? f.type=some ti/\ti.size=z)/\sY P Y r
 |_,_=>False
structure b6(P:Ba)(t:Ea)(i:bV):Prop where
 j7:∃d,P.underlying t=some d/\rk d=i.j7
 Iq:∃ti,P.info? t=some ti/\ti.size=i.size/\ti.bytes=i.bytes/\∃z,ti.zero=some z/\z.cells.toList=i.zero
 agg:(match i.j7 with|.struct|.array _ _=>true|_=>false)=i.agg
 wJ:∀Y,P.underlying t=some (.struct Y)->sY P Y.toList i.wJ
 one:i.agg=false->∃ti z,P.info? t=some ti/\ti.zero=some z/\i.zero=[z]
 eqg:i.ints=true->P.eqGuardType P.depth t=false
 ints:i.ints=true->∀(w:Aa) (xs ys:List SV) (vs us:List wa) (b:Bool),gT i.zero xs=true->gT i.zero ys=true->uG xs ys=some b->cV (λ_ _=>none) (λ_=>none) xs vs->cV (λ_ _=>none) (λ_=>none) ys us->
  (Op.equal t (.agg vs.toArray) (.agg us.toArray)).run P w=.ok b w
def dE:List (Nat×bV)->Nat->Da bV
 |[],_=>none
 |(k,v)::r,t=>bif Nat.beq k t then some v else dE r t
def cD(P:Ba):List (Nat×bV)->Prop
 |[]=>True
 |(k,v)::r=>b6 P k v/\cD P r
def cD.get{P:Ba}:∀{T:List (Nat×bV)} {t:Nat} {i:bV},cD P T->dE T t=some i->b6 P t i
 |[],_,_,_,h=>by cases h
 |(k,v)::r,t,i,⟨h,hr⟩,e=>by
  by_cases hk:k=t
  ·subst hk;simp only[dE,Ar,cond_true]at e
   cases e;exact h
  simp only[dE,UU hk,Ua]at e;exact cD.get hr e
section aN7
variable{P:Ba}{t:Ea}{i:bV}(h:b6 P t i)
include h
def b6.isSlice{e:Ea}(hu:i.j7=.slice e):P.underlying t=some (.slice e):=ux
def b6.FV{n:Nat}{e:Ea}(hu:i.j7=.array n e):P.underlying t=some (.array n e):=ux
def b6.EM{k e:Ea}(hu:i.j7=.map k e):P.underlying t=some (.map k e):=ux
def b6.isInt{k:IntKind}(hu:i.j7=.int k):P.underlying t=some (.int k):=ux
def b6.V3{k:FloatKind}(hu:i.j7=.float k):P.underlying t=some (.float k):=ux
def b6.isBool(hu:i.j7=.bool):P.underlying t=some .bool:=zbA
def b6.xI{e:Ea}(hu:i.j7=.slice e):P.underlying t=some (.slice e):=by
 obtain⟨d,h1,h2⟩:=h.j7;rw[hu]at h2
 cases d <;> simp only[rk]at h2 <;> first|(cases h2;exact h1)|cases h2
def b6.isString(hu:i.j7=.string):P.underlying t=some .string:=zbA
def b6.QJ(hu:i.j7=.struct):∃Y,P.underlying t=some (.struct Y):=by
 obtain⟨d,h1,h2⟩:=h.j7;rw[hu]at h2
 cases d <;> simp only[rk]at h2 <;> first|exact⟨_,h1⟩|cases h2
def b6.iE(w:Aa):(sizeOf t).run P w=.ok i.size w:=by obtain⟨ti,e,hs,_⟩:=h.Iq;simp[sizeOf,typeInfo,e,hs]
def b6.BC(w:Aa):(isAgg t).run P w=.ok i.agg w:=by
 have:=h.agg;obtain⟨d,h1,h2⟩:=h.j7;simp only[isAgg,Ic,Bb h1,Result.andThen];rw[<-this,<-h2]
 cases d <;> rfl
def b6.w6(w:Aa):∃z:wa,(zeroValue t).run P w=.ok z w/\z.cells.toList=i.zero:=by obtain⟨ti,e,_,_,z,hz,hc⟩:=h.Iq;exact⟨z,by simp[zeroValue,typeInfo,e,hz],hc⟩
end aN7
def act(g:Da Bool):Prop:=∀b,g=some b->b=true
def imp(g:Da Bool)(p:Prop):Prop:=match g with|none=>p|some b=>b=true->p
def imp.get{g:Da Bool}{p:Prop}(h:imp g p)(ha:act g):p:=by
 cases g with
 |none=>exact h
 |some b=>exact h (ha b rfl)
def fe(g:Da Bool)(v:AV)(K:AV->Prop):Prop:=
 match v with
 |.ib b x=>match g with|none=>b=true/\K (.s x)|some gb=>(gb=true->b=true)/\K (.s x)
 |.ig b cs=>match g with|none=>b=true/\K (.g cs)|some gb=>(gb=true->b=true)/\K (.g cs)
 |.s x=>K (.s x)
 |.g cs=>K (.g cs)
 |.t ts=>K (.t ts)
def fe.spec{g:Da Bool}{v:AV}{K:AV->Prop}(h:fe g v K):
  ∃r,K r/\(act g->∀M V u,v.bI M V u->r.bI M V u):=by
 cases v with
 |s x=>exact⟨_,h,λ_ _ _ _ r=>r⟩
 |g cs=>exact⟨_,h,λ_ _ _ _ r=>r⟩
 |t ts=>exact⟨_,h,λ_ _ _ _ r=>r⟩
 |ib b x=>exact zaP
 |ig b cs=>exact zaP
def Jq(v:wa):AV:=
 match v with
 |.bool b=>.s (.d (.lit b))
 |.agg _=>.s (.d .bL)
 |.tuple _=>.s (.d .bL)
 |v=>.s (.d (.val v))
def ev(I:St):Ca->AV
 |.tmp t=>fL I.env t
 |.const v=>Jq v
 |.func f=>.s (.dZ f [])
 |.global _=>.s (.d .bL)
def Jq.rep(M:Mem)(V:Nm)(v:wa):(Jq v).bI M V v:=by cases v <;> first|exact rfl|exact trivial
def ev.rep{R:Cx}{N:Nat}{M:Mem}{V:Nm}{I:St}{a:Act}{w:Aa}(i:Inv R N M V I a w)(x:Ca):
  (ev I x).bI M V (a.eval x):=by
 cases x with
 |tmp t=>exact i.env t
 |const v=>exact Jq.rep M V v
 |func f=>exact⟨[],rfl,trivial⟩
 |global g=>exact trivial
def Yb:=@ev.rep
abbrev rH(k:IntKind)(n:Int):AV:=.s (.d (.val (.int k n)))
abbrev kY(b:Bool):AV:=.s (.d (.val (.bool b)))
def si:AV->Da Bool
 |.s (.d (.lit b))=>some b
 |.s (.d (.val (.bool b)))=>some b
 |_=>none
def Mo{v:AV}{b:Bool}{M:Mem}{V:Nm}{u:wa}(h:si v=some b)(r:v.bI M V u):u=.bool b:=by unfold si at h;exact zdu
def ZO(k:IntKind)(x y:Int):Int:=k.wrap (BitVec.ofInt k.bits x&&&BitVec.ofInt k.bits y).toNat
def wm(k:IntKind)(x y:Int):Int:=x.fdiv (2^(min y.toNat k.bits))
def KD(op:BinOp)(k:IntKind)(g:Da Bool)(x y:Int)(K:AV->Prop):Prop:=
 match op with
 |.add=>K (rH k (k.wrap (x+y)))
 |.sub=>K (rH k (k.wrap (x-y)))
 |.mul=>K (rH k (k.wrap (x*y)))
 |.quo=>imp g (y≠0)/\K (rH k (k.wrap (x.tdiv y)))
 |.rem=>imp g (y≠0)/\K (rH k (x.tmod y))
 |.eql=>K (kY (x==y))
 |.neq=>K (kY (x !=y))
 |.lss=>K (kY (decide (x<y)))
 |.leq=>K (kY (decide (x<=y)))
 |.gtr=>K (kY (decide (x>y)))
 |.geq=>K (kY (decide (x>=y)))
 |.and=>K (rH k (ZO k x y))
 |.shr=>imp g (0<=y)/\K (rH k (wm k x y))
 |_=>False
def KD.spec{P:Ba}{op:BinOp}{k:IntKind}{g:Da Bool}{x y:Int}{K:AV->Prop}(h:KD op k g x y K):
  ∃r,K r/\(act g->∀(t:Ea) (w:Aa),∃v,(binOp op t (.int k x) (.int k y)).run P w=.ok v w/\∀M V,r.bI M V v):=by
 unfold KD at h
 split at h
 case h_1=>exact⟨_,h,λ_ t w=>⟨_,by simp[binOp,Op.intArith],λ_ _=>rfl⟩⟩
 case h_2=>exact⟨_,h,λ_ t w=>⟨_,by simp[binOp,Op.intArith],λ_ _=>rfl⟩⟩
 case h_3=>exact⟨_,h,λ_ t w=>⟨_,by simp[binOp,Op.intArith],λ_ _=>rfl⟩⟩
 case h_4=>exact⟨_,h.2,λha t w=>⟨_,by simp[binOp,Op.intDiv,h.1.get ha],λ_ _=>rfl⟩⟩
 case h_5=>exact⟨_,h.2,λha t w=>⟨_,by simp[binOp,Op.intDiv,h.1.get ha],λ_ _=>rfl⟩⟩
 case h_6=>exact⟨_,h,λ_ t w=>⟨_,by simp[binOp,Op.intCmp],λ_ _=>rfl⟩⟩
 case h_7=>exact⟨_,h,λ_ t w=>⟨_,by simp[binOp,Op.intCmp],λ_ _=>rfl⟩⟩
 case h_8=>exact⟨_,h,λ_ t w=>⟨_,by simp[binOp,Op.intCmp],λ_ _=>rfl⟩⟩
 case h_9=>exact⟨_,h,λ_ t w=>⟨_,by simp[binOp,Op.intCmp],λ_ _=>rfl⟩⟩
 case h_10=>exact⟨_,h,λ_ t w=>⟨_,by simp[binOp,Op.intCmp],λ_ _=>rfl⟩⟩
 case h_11=>exact⟨_,h,λ_ t w=>⟨_,by simp[binOp,Op.intCmp],λ_ _=>rfl⟩⟩
 case h_12=>exact⟨_,h,λ_ t w=>⟨.int k (ZO k x y),by simp only[binOp,Ka (λh:k≠k=>h rfl)];rfl,λ_ _=>rfl⟩⟩
 case h_13=>
  refine⟨_,h.2,λha t w=>⟨.int k (wm k x y),?_,λ_ _=>rfl⟩⟩;have hy:¬y<0:=by have:=h.1.get ha;omega
  simp only[binOp,Op.shift,Ka hy];rfl
 case h_14=>cases h
def KC(op:BinOp)(g:Da Bool)(x y:ta)(K:AV->Prop):Prop:=
 match op with
 |.eql=>K (kY (x.toList==y.toList))
 |.neq=>K (kY (!(x.toList==y.toList)))
 |.lss=>K (kY (Op.bytesLess x.toList y.toList))
 |.gtr=>K (kY (!(Op.bytesLess x.toList y.toList||x.toList==y.toList)))
 |.add=>imp g (x.size+y.size<=9223372036854775807)/\K (.s (.d (.val (.string (x++y)))))
 |_=>False
def KC.spec{P:Ba}{op:BinOp}{g:Da Bool}{x y:ta}{K:AV->Prop}(h:KC op g x y K):
  ∃r,K r/\(act g->∀(t:Ea) (w:Aa),∃v,(binOp op t (.string x) (.string y)).run P w=.ok v w/\∀M V,r.bI M V v):=by
 unfold KC at h
 split at h
 case h_1=>exact⟨_,h,λ_ t w=>⟨_,by simp[binOp,Op.stringOp],λ_ _=>rfl⟩⟩
 case h_2=>exact⟨_,h,λ_ t w=>⟨_,by simp[binOp,Op.stringOp],λ_ _=>rfl⟩⟩
 case h_3=>exact⟨_,h,λ_ t w=>⟨_,by simp[binOp,Op.stringOp],λ_ _=>rfl⟩⟩
 case h_4=>exact⟨_,h,λ_ t w=>⟨_,by simp[binOp,Op.stringOp],λ_ _=>rfl⟩⟩
 case h_5=>
  refine⟨_,h.2,λha t w=>⟨_,?_,λ_ _=>rfl⟩⟩;have hb:=h.1.get ha;have:¬((x.size:Int)+(y.size:Int)>IntKind.i64.max):=by have:IntKind.i64.max=9223372036854775807:=dC;rw[this];omega
  simp[binOp,Op.stringOp];omega
 case h_6=>cases h
def FF{P:Ba}(w:Aa)(d:Nat){t e:Ea}(h:P.underlying t=some (.slice e)):(Op.equalIn (d+1) t (.slice none 0 0) (.slice none 0 0)).run P w=.ok true w:=by simp[Op.equalIn,Bb h]
def PB{P:Ba}(w:Aa){t e:Ea}(h:P.underlying t=some (.slice e)):(binOp .eql t (.slice none 0 0) (.slice none 0 0)).run P w=.ok (.bool true) w:=by simp only[binOp];simp[Op.equal,Op.maxDepth,FF w 9999 h]
def eK{P:Ba}(op:BinOp)(t:Ea)(x y:Ca)(a b:wa)(w:Aa)(h:a≠.nilIface)(ha:∀cs,a≠.agg cs):
  (eqGuard op t x y a b).run P w=.ok () w:=by
 unfold eqGuard
 cases a <;> first
  |exact absurd rfl h
  |exact absurd rfl (ha _)
  |(cases op <;> rfl)
def zV{P:Ba}(w:Aa){t e:Ea}{a:Da Addr}{n c:Nat}(h:P.underlying t=some (.slice e)):(binOp .eql t (.slice a n c) (.slice none 0 0)).run P w=.ok (.bool a.isNone) w:=ke
def w7{P:Ba}(w:Aa){t e:Ea}{a:Da Addr}{n c:Nat}(h:P.underlying t=some (.slice e)):(binOp .neq t (.slice a n c) (.slice none 0 0)).run P w=.ok (.bool (!a.isNone)) w:=ke
def bin(T:List (Nat×bV))(op:BinOp)(t:Ea)(g:Da Bool)(x y:AV)(K:AV->Prop):Prop:=
 match x,y with
 |.s (.d (.val (.int k a))),.s (.d (.val (.int k' b)))=>bif decide (k=k')then KD op k g a b K else False
 |.s (.d (.val (.string a))),.s (.d (.val (.string b)))=>KC op g a b K
 |.s (.d (.val (.slice none 0 0))),.s (.d (.val (.slice none 0 0)))=>
  match dE T t with
  |some i=>match i.j7 with
   |.slice _=>match op with
    |.eql=>K (kY true)
    |_=>False
   |_=>False
  |none=>False
 |.g xs,.g ys=>
  match dE T t with
  |some i=>bif i.ints&&(gT i.zero xs&&gT i.zero ys)then
    match uG xs ys with
    |some b=>match op with
     |.eql=>K (kY b)
     |.neq=>K (kY (!b))
     |_=>False
    |none=>False
   else False
  |none=>False
 |.s (.own _),.s (.d (.val (.slice none 0 0)))=>
  match dE T t with
  |some i=>match i.j7 with
   |.slice _=>match op with
    |.eql=>K (match g with|none=>.s (.d (.lit false))|some _=>kY false)
    |.neq=>K (match g with|none=>.s (.d (.lit true))|some _=>kY true)
    |_=>False
   |_=>False
  |none=>False
 |.s (.mo z _),.s (.d (.val (.slice none 0 0)))=>
  match dE T t with
  |some i=>match i.j7 with
   |.slice _=>match op with
    |.eql=>K (kY z)
    |.neq=>K (kY (!z))
    |_=>False
   |_=>False
  |none=>False
 |x,y=>match si x,si y with
  |some a,some b=>match dE T t with
   |some i=>match i.j7 with
    |.bool=>match op with
     |.eql=>K (kY (a==b))
     |.neq=>K (kY (!(a==b)))
     |_=>False
    |_=>False
   |none=>False
  |_,_=>False
def Zw{x:SV}{a:IntKind×Int}{M:Mem}{V:Nm}{v:wa}(h:xL x=some a)(r:x.bI M V v):x.bI (λ_ _=>none) (λ_=>none) v:=by
 unfold xL at h;split at h
 ·exact r
 cases h
def Gx{x:SV}{a:ta}{M M':Mem}{V V':Nm}{v:wa}(h:wC x=some a)(r:x.bI M V v):x.bI M' V' v:=by
 unfold wC at h;split at h
 ·exact r
 cases h
def Kw{x:SV}{a:Bool}{M M':Mem}{V V':Nm}{v:wa}(h:nW x=some a)(r:x.bI M V v):x.bI M' V' v:=by
 unfold nW at h;split at h
 ·exact r
 ·exact r
 cases h
def wC.val{x:SV}{a:ta}{M:Mem}{V:Nm}{v:wa}(h:wC x=some a)(r:x.bI M V v):v=.string a:=by
 unfold wC at h;split at h
 ·cases h;exact r
 cases h
def nW.val{x:SV}{a:Bool}{M:Mem}{V:Nm}{v:wa}(h:nW x=some a)(r:x.bI M V v):v=.bool a:=by unfold nW at h;exact zdu
def Es:∀{xs ys:List SV} {b:Bool} {M:Mem} {V:Nm} {vs us:List wa},uG xs ys=some b->cV M V xs vs->cV M V ys us->
  cV (λ_ _=>none) (λ_=>none) xs vs/\cV (λ_ _=>none) (λ_=>none) ys us
 |[],[],_,_,_,[],[],_,_,_=>⟨trivial,trivial⟩
 |x::r,y::s,b,M,V,v::vs,u::us,e,h,k=>by
  simp only[uG]at e;split at e
  ·rename_i k1 a k2 b c ha hb hc;obtain⟨i1,i2⟩:=Es hc h.2 k.2;exact⟨⟨Zw ha h.1,i1⟩,⟨Zw hb k.1,i2⟩⟩
  ·rename_i c hc _;obtain⟨i1,i2⟩:=Es hc h.2 k.2;split at e
   ·rename_i ha hb;exact⟨⟨Gx ha h.1,i1⟩,⟨Gx hb k.1,i2⟩⟩
   split at e
   ·rename_i ha hb;exact⟨⟨Kw ha h.1,i1⟩,⟨Kw hb k.1,i2⟩⟩
   cases e
  cases e
 |[],_::_,_,_,_,_,_,e,_,_=>by cases e
 |_::_,[],_,_,_,_,_,e,_,_=>by cases e
 |[],[],_,_,_,_::_,_,_,h,_=>h.elim
 |[],[],_,_,_,[],_::_,_,_,h=>h.elim
 |_::_,_::_,_,_,_,[],_,_,h,_=>h.elim
 |_::_,_::_,_,_,_,_::_,[],_,_,h=>h.elim
def bin.spec{P:Ba}{T:List (Nat×bV)}(hT:cD P T){o:Oper}{op:BinOp}{t ty:Ea}{x y:Ca}{g:Da Bool}{va vb:AV}{K:AV->Prop}
  (ho:o.op=.binOp op t x y ty) (h:bin T op t g va vb K):
  ∃r,K r/\(act g->∀(M:Mem) (V:Nm) (a:Act) (w:Aa),va.bI M V (a.eval x)->vb.bI M V (a.eval y)->∃v,(execOp a.eval o).run P w=.ok (.value v) w/\r.bI M V v):=by
 unfold bin at h
 split at h
 ·rename_i k a k' b;by_cases hk:k=k'
  ·subst hk;simp only[Ul,cond_true]at h;obtain⟨r,hr,hs⟩:=KD.spec (P:=P) h;refine⟨r,hr,λha M V a' w rx ry=>?_⟩;obtain⟨v,e,rr⟩:=hs ha t w;have ex:a'.eval x=.int k a:=rx;have ey:a'.eval y=.int k b:=ry;refine⟨v,?_,rr M V⟩;simp only[execOp,ho,ex,ey,Ic,eK op t x y (.int k a) (.int k b) w sM sM,Result.andThen,e,Wc]
  exact zet
 ·rename_i a b;obtain⟨r,hr,hs⟩:=KC.spec (P:=P) h;refine⟨r,hr,λha M V a' w rx ry=>?_⟩;obtain⟨v,e,rr⟩:=hs ha t w;have ex:a'.eval x=.string a:=rx;have ey:a'.eval y=.string b:=ry;refine⟨v,?_,rr M V⟩;simp only[execOp,ho,ex,ey,Ic,eK op t x y (.string a) (.string b) w sM sM,Result.andThen,e,Wc]
 ·split at h
  ·rename_i i hi;have gF:=hT.get hi;split at h
   ·rename_i e hu;have WA:=gF.xI hu
    cases op <;> first|exact h.elim|skip
    refine⟨_,h,λha M V a' w rx ry=>?_⟩;have ex:a'.eval x=.slice none 0 0:=rx;have ey:a'.eval y=.slice none 0 0:=ry;refine⟨.bool true,?_,rfl⟩;simp only[execOp,ho,ex,ey,Ic,eK BinOp.eql t x y (.slice none 0 0) (.slice none 0 0) w sM sM,Result.andThen,PB w WA,Wc]
   cases h
  cases h
 ·rename_i xs ys;split at h
  ·rename_i i hi;have gF:=hT.get hi
   cases hc:(i.ints&&(gT i.zero xs&&gT i.zero ys))with
   |true=>
    rw[hc]at h;simp only[cond_true]at h;simp only[Bool.and_eq_true]at hc;split at h
    ·rename_i b hb;have key:∀(M:Mem) (V:Nm) (a':Act) (w:Aa),(AV.g xs).bI M V (a'.eval x)->(AV.g ys).bI M V (a'.eval y)->
       ∃vs us:List wa,a'.eval x=.agg vs.toArray/\a'.eval y=.agg us.toArray/\(Op.equal t (.agg vs.toArray) (.agg us.toArray)).run P w=.ok b w:=by
      rintro M V a' w ⟨vs,ex,rx⟩ ⟨us,ey,ry⟩
      obtain⟨c1,c2⟩:=Es hb rx ry
      exact⟨vs,us,ex,ey,gF.ints hc.1 w xs ys vs us b hc.2.1 hc.2.2 hb c1 c2⟩
     have hq:=gF.eqg hc.1
     cases op <;> first|exact h.elim|skip
     ·refine⟨_,h,λha M V a' w rx ry=>?_⟩;obtain⟨vs,us,ex,ey,e⟩:=key M V a' w rx ry;refine⟨.bool b,?_,rfl⟩;simp only[execOp,ho,ex,ey,Ic,run_eqGuard_agg (w:=w) .eql t x y vs.toArray us.toArray hq,Result.andThen,Wc,binOp,e]
     refine⟨_,h,λha M V a' w rx ry=>?_⟩;obtain⟨vs,us,ex,ey,e⟩:=key M V a' w rx ry;refine⟨.bool (!b),?_,rfl⟩;simp only[execOp,ho,ex,ey,Ic,run_eqGuard_agg (w:=w) .neq t x y vs.toArray us.toArray hq,Result.andThen,Wc,binOp,e]
    cases h
   |false=>
    rw[hc]at h
    cases h
  cases h
 ·rename_i xo;split at h
  case h_2=>cases h
  rename_i i hi;have gF:=hT.get hi;split at h
  case h_2=>cases h
  rename_i e hu;have WA:=gF.xI hu
  cases op <;> first|exact h.elim|skip
  ·refine⟨_,h,λha M V a' w rx ry=>?_⟩;obtain⟨b,c,_,ex,_⟩:=rx;have ey:a'.eval y=.slice none 0 0:=ry;refine⟨.bool false,?_,by cases g <;> rfl⟩;simp only[execOp,ho,ex,ey,Ic,eK BinOp.eql t x y (.slice (some ⟨b,0,none⟩) c.2 c.1) (.slice none 0 0) w sM sM,Result.andThen,zV w WA,Wc,Option.isNone_some]
  refine⟨_,h,λha M V a' w rx ry=>?_⟩;obtain⟨b,c,_,ex,_⟩:=rx;have ey:a'.eval y=.slice none 0 0:=ry;refine⟨.bool true,?_,by cases g <;> rfl⟩;simp only[execOp,ho,ex,ey,Ic,eK BinOp.neq t x y (.slice (some ⟨b,0,none⟩) c.2 c.1) (.slice none 0 0) w sM sM,Result.andThen,w7 w WA,Wc,Option.isNone_some,Sy]
 ·rename_i z xo;split at h
  case h_2=>cases h
  rename_i i hi;have gF:=hT.get hi;split at h
  case h_2=>cases h
  rename_i e hu;have WA:=gF.xI hu;have key:∀(M:Mem) (V:Nm) (v:wa),(SV.mo z xo).bI M V v->∃a n c,v=.slice a n c/\a.isNone=z:=by
   intro M V v r
   cases z with
   |true=>exact⟨none,0,0,r.1 rfl,rfl⟩
   |false=>obtain⟨b,c,_,ex,_⟩:=r.2 rfl;exact⟨_,_,_,ex,rfl⟩
  cases op <;> first|exact h.elim|skip
  ·refine⟨_,h,λha M V a' w rx ry=>?_⟩;obtain⟨ad,n,c,ex,hz⟩:=key M V _ rx;have ey:a'.eval y=.slice none 0 0:=ry;refine⟨.bool z,?_,rfl⟩;simp only[execOp,ho,ex,ey,Ic,eK BinOp.eql t x y (.slice ad n c) (.slice none 0 0) w sM sM,Result.andThen,zV w WA,Wc,hz]
  refine⟨_,h,λha M V a' w rx ry=>?_⟩;obtain⟨ad,n,c,ex,hz⟩:=key M V _ rx;have ey:a'.eval y=.slice none 0 0:=ry;refine⟨.bool (!z),?_,rfl⟩;simp only[execOp,ho,ex,ey,Ic,eK BinOp.neq t x y (.slice ad n c) (.slice none 0 0) w sM sM,Result.andThen,w7 w WA,Wc,hz]
 ·split at h
  ·rename_i a b ha hb;split at h
   ·rename_i i hi;have gF:=hT.get hi;split at h
    ·rename_i hu;have WA:P.underlying t=some .bool:=gF.isBool hu
     cases op <;> first|exact h.elim|skip
     ·refine⟨_,h,λ_ M V a' w rx ry=>?_⟩;have ex:=Mo ha rx;have ey:=Mo hb ry;refine⟨.bool (a==b),?_,rfl⟩;simp only[execOp,ho,ex,ey,Ic,eK BinOp.eql t x y (.bool a) (.bool b) w sM sM,Result.andThen,run_eql_bool (w:=w) t a b WA,Wc]
     refine⟨_,h,λ_ M V a' w rx ry=>?_⟩;have ex:=Mo ha rx;have ey:=Mo hb ry;refine⟨.bool (!(a==b)),?_,rfl⟩;simp only[execOp,ho,ex,ey,Ic,eK BinOp.neq t x y (.bool a) (.bool b) w sM sM,Result.andThen,run_neq_bool (w:=w) t a b WA,Wc]
    cases h
   cases h
  cases h
def gen:Nat->Nat->(Nat->DV)->List SV
 |0,_,_=>[]
 |k+1,j,f=>.d (f j)::gen k (j+1) f
def jV{b o j:Nat}:(⟨b,o,none⟩:Addr).add j=⟨b,o+j,none⟩:=by unfold Addr.add;split <;> simp_all
def gen.rep{M:Mem}{V:Nm}{C:Nat->wa->Prop}{f:Nat->DV}:∀(k j:Nat),(∀i,j<=i->i<j+k->∃u,C i u/\(f i).bI M u)->
  ∃vs:List wa,vs.length=k/\cV M V (gen k j f) vs/\∀i v,vs[i]? =some v->C (j+i) v
 |0,_,_=>⟨[],rfl,trivial,sM⟩
 |k+1,j,h=>by
  obtain⟨u,hu,hr⟩:=h j (mb _) O;obtain⟨vs,hl,YL,hm⟩:=gen.rep (M:=M) (V:=V) (C:=C) (f:=f) k (j+1) (λi h1 h2=>h i O O);refine⟨u::vs,by simp[hl],⟨hr,YL⟩,?_⟩;intro i v hv
  cases i with
  |zero=>simp at hv;subst hv;exact hu
  |succ i=>have:=hm i v (by simpa using hv);rw[show j+(i+1)=j+1+i by omega];exact this
def Jr:=@gen.rep
def bl(agg:Bool)(size:Nat):Nat:=match agg with|true=>size|false=>1
def kH(I:St)(agg:Bool)(size:Nat)(g:Da Bool)(va:AV)(K:AV->Prop):Prop:=
 match va with
 |.s (.ptr x off)=>
  match aH I.box x with
  |some (some (.cells cs))=>
   match agg with
   |true=>bif Nat.ble (off+size) cs.length then K (.g ((cs.drop off).take size))else False
   |false=>match cs[off]? with
    |some c=>K (.s c)
    |none=>False
  |_=>False
 |.s (.rw x i s o)=>
  match aH I.box x with
  |some (some (.row _ n s' f))=>
   bif Nat.beq s s'&&Nat.ble (o+bl agg size) s then
    imp g (i<n)/\(match agg with
    |true=>K (.g (gen size 0 λj=>f i (o+j)))
    |false=>K (.s (.d (f i o))))
   else False
  |some (some (.b8 _ n s' f))=>
   bif Nat.beq s s'&&Nat.ble (o+bl agg size) s then
    imp g (i<n)/\(match agg with
    |true=>K (.g (gen size 0 λj=>f i (o+j)))
    |false=>K (.s (.d (f i o))))
   else False
  |_=>False
 |.s (.d (.rp m f))=>
  match agg with
  |true=>bif Nat.ble size m then K (.g (gen size 0 f))else False
  |false=>bif Nat.ble 1 m then K (.s (.d (f 0)))else False
 |_=>False
section
variable{P:Ba}{R:Cx}{N:Nat}{M:Mem}{V:Nm}{I:St}{a:Act}{w:Aa}
def kH.spec{agg:Bool}{size:Nat}{g:Da Bool}{va:AV}{K:AV->Prop}(h:kH I agg size g va K):
  ∃r,K r/\(act g->∀(R:Cx) N M V a w,Inv R N M V I a w->∀(t:Ea) (u:wa),va.bI M V u->(∀w,(isAgg t).run P w=.ok agg w)->(∀w,(sizeOf t).run P w=.ok size w)->
   ∃v,(Instr.loadAt t u).run P w=.ok v w/\r.bI M V v):=by
 have many:∀(w:Aa) (t:Ea) (b o:Nat) (vs:List wa),(∀w,(isAgg t).run P w=.ok true w)->(∀w,(sizeOf t).run P w=.ok vs.length w)->(∀j v,vs[j]? =some v->w.cell? ⟨b,o+j,none⟩=some v)->
   (Instr.loadAt t (.pointer (some ⟨b,o,none⟩))).run P w=.ok (.agg vs.toArray) w:=by
  intro w t b o vs ha hs hc
  have:=Zv (P:=P) w ⟨b,o,none⟩ vs (λj v hv=>by rw[jV];exact hc j v hv)
  simp[Instr.loadAt,Instr.sureAddr,loadVar,ha,hs,this]
 have one:∀(w:Aa) (t:Ea) (b o:Nat) (v:wa),(∀w,(isAgg t).run P w=.ok false w)->w.cell? ⟨b,o,none⟩=some v->
   (Instr.loadAt t (.pointer (some ⟨b,o,none⟩))).run P w=.ok v w:=by
  intro w t b o v ha hc
  simp[Instr.loadAt,Instr.sureAddr,loadVar,ha,hc,run_load]
 unfold kH at h
 split at h
 ·rename_i x off;split at h
  ·rename_i cs hb;split at h
   ·cases hle:Nat.ble (off+size) cs.length with
    |false=>rw[hle]at h;cases h
    |true=>
     rw[hle]at h;have hle:=Dc hle;refine⟨_,h,λ_ R N M V a w i t u ru ha hs=>?_⟩;obtain⟨b,c,e1,rfl⟩:=ru;obtain⟨b',c',vs,T,us,e2,zJ,hr⟩:=i.box x _ hb;rw[e1]at e2;cases e2;have hlen:=hr.length;refine⟨_,many w t b off ((vs.drop off).take size) ha ?_ ?_,_,rfl,(hr.drop off).take size⟩
     ·intro w;rw[hs];simp;omega
     intro j v hv;rw[iy]at hv;split at hv
     ·simp only[World.cell?,zJ];rw[Ri]at hv;have:=CO (us:=us) hv;simpa using this
     cases hv
   split at h
   ·rename_i c hc;refine⟨_,h,λ_ R N M V a w i t u ru ha hs=>?_⟩;obtain⟨b,c',e1,rfl⟩:=ru;obtain⟨b',c'',vs,T,us,e2,zJ,hr⟩:=i.box x _ hb;rw[e1]at e2;cases e2;obtain⟨v,hv,TQ⟩:=hr.get hc;exact⟨v,one w t b off v ha (by have:=CO (us:=us) hv;simpa[World.cell?,zJ]using this),TQ⟩
   cases h
  cases h
 ·rename_i x i s o;split at h
  ·rename_i e n s' f hb;have row:∀(R:Cx) N M V a w,Inv R N M V I a w->s=s'->i<n->∀u,(AV.s (.rw x i s o)).bI M V u->
     ∃b,u=.pointer (some ⟨b,i*s+o,none⟩)/\∀j,o+j<s->∃v,w.cell? ⟨b,i*s+o+j,none⟩=some v/\(f i (o+j)).bI M v:=by
    rintro R N M V a w iv rfl hi u ⟨b,c,e1,rfl⟩
    obtain⟨b',c',cur,e2,zJ,_,mL,hn,I9,hc⟩:=iv.box x _ hb
    rw[e1]at e2;cases e2
    refine⟨b,rfl,λj hj=>?_⟩
    obtain⟨v,hv,hr⟩:=hc i (o+j) hi hj
    exact⟨v,by simp[World.cell?,zJ];rw[De];exact hv,hr⟩
   exact zp
  ·rename_i e n s' f hb;have row:∀(R:Cx) N M V a w,Inv R N M V I a w->s=s'->i<n->∀u,(AV.s (.rw x i s o)).bI M V u->
     ∃b,u=.pointer (some ⟨b,i*s+o,none⟩)/\∀j,o+j<s->∃v,w.cell? ⟨b,i*s+o+j,none⟩=some v/\(f i (o+j)).bI M v:=by
    rintro R N M V a w iv rfl hi u ⟨b,c,e1,rfl⟩
    obtain⟨cur,zJ,_,mL,hn,I9,hc⟩:=iv.box x _ hb b c e1
    refine⟨b,rfl,λj hj=>?_⟩
    obtain⟨v,hv,hr⟩:=hc i (o+j) hi hj
    exact⟨v,by simp[World.cell?,zJ];rw[De];exact hv,hr⟩
   exact zp
  cases h
 ·rename_i m f;split at h
  ·cases hle:Nat.ble size m with
   |false=>rw[hle]at h;cases h
   |true=>rw[hle]at h;have hle:=Dc hle;refine⟨_,h,λ_ R N M V a w i t u ru ha hs=>?_⟩;obtain⟨b,o,rfl,hc⟩:=ru;obtain⟨vs,hl,hr,hm⟩:=Jr (M:=M) (V:=V) (C:=λj v=>M b (o+j)=some v) (f:=f) size 0 (λj _ hj=>hc j O);exact⟨_,many w t b o vs ha (by intro w;rw[hs,hl]) (λj v hv=>i.mem _ _ _ (by have:=hm j v hv;rwa [Ec]at this)),vs,rfl,hr⟩
  cases hle:Nat.ble 1 m with
  |false=>rw[hle]at h;cases h
  |true=>rw[hle]at h;have hle:=Dc hle;refine⟨_,h,λ_ R N M V a w i t u ru ha hs=>?_⟩;obtain⟨b,o,rfl,hc⟩:=ru;obtain⟨v,hv,hr⟩:=hc 0 O;exact⟨v,one w t b o v ha (i.mem _ _ _ hv),hr⟩
 ·cases h
end
def jW(P:Ba)(o:Oper)(I:St)(g:Da Bool)(r:AV):Prop:=
 act g->∀R N M V a w,Inv R N M V I a w->∃v,(execOp a.eval o).run P w=.ok (.value v) w/\r.bI M V v
section
variable{P:Ba}{I:St}{g:Da Bool}{K:AV->Prop}{o:Oper}
def fe.ev{x:Ca}(h:fe g (ev I x) K):
  ∃r,K r/\(act g->∀R N M V a w,Inv R N M V I a w->r.bI M V (a.eval x)):=by
 obtain⟨r,hk,hr⟩:=fe.spec h
 exact⟨r,hk,λha R N M V a w i=>hr ha M V _ (Go.Ax.ev.rep i x)⟩
def Db:=@fe.ev
def Ex{x:Ca}(ho:o.op=.move x\/o.op=.assign x)(h:fe g (ev I x) K):∃r,K r/\jW P o I g r:=by obtain⟨r,hk,hr⟩:=Db h;refine⟨r,hk,λha R N M V a w i=>⟨a.eval x,?_,hr ha R N M V a w i⟩⟩;rcases ho with ho|ho <;> simp[execOp,ho]
def load.spec{T:List (Nat×bV)}(hT:cD P T){t:Ea}{x:Ca}(ho:o.op=.load t x)
  (h:fe g (ev I x) λva=>match dE T t with|some ti=>kH I ti.agg ti.size g va K|none=>False):∃r,K r/\jW P o I g r:=by
 replace h:=Db h
 obtain⟨va,h,hr⟩:=h
 split at h
 ·rename_i ti gG;have gF:=hT.get gG;obtain⟨r,hk,hs⟩:=kH.spec (P:=P) h;refine⟨r,hk,λha R N M V a w i=>?_⟩;obtain⟨v,e,rv⟩:=hs ha R N M V a w i t (a.eval x) (hr ha R N M V a w i) gF.BC gF.iE;exact⟨v,by simp[execOp,ho,e],rv⟩
 ·cases h
def sP(T:List (Nat×bV))(s f:Nat)(va:AV)(K:AV->Prop):Prop:=
 match dE T s with
 |some ti=>match ti.wJ[f]? with
  |some (off,sz)=>match ti.j7 with
   |.struct=>bif Nat.beq sz 0 then False else
    match va with
    |.s (.ptr x o)=>K (.s (.ptr x (o+off)))
    |.s (.rw x i s' o)=>K (.s (.rw x i s' (o+off)))
    |.s (.d (.rp m f))=>K (.s (.d (.rp (m-off) λj=>f (off+j))))
    |_=>False
   |_=>False
  |none=>False
 |none=>False
def sY.get:∀{Y:List Field} {l:List (Nat×Nat)} {k:Nat} {off sz:Nat},sY P Y l->l[k]? =some (off,sz)->
  ∃f,Y[k]? =some f/\f.offset=off/\∃ti,P.info? f.type=some ti/\ti.size=sz
 |[],[],_,_,_,_,h=>by simp at h
 |f::Y,(o,z)::r,0,off,sz,⟨h1,h2,_⟩,h=>by simp at h;obtain⟨rfl,rfl⟩:=h;exact⟨f,rfl,h1,h2⟩
 |f::Y,(o,z)::r,k+1,off,sz,⟨_,_,h3⟩,h=>by have:=sY.get (k:=k) h3 ai;simpa using this
 |[],_::_,_,_,_,h,_=>h.elim
 |_::_,[],_,_,_,h,_=>h.elim
def field.spec{T:List (Nat×bV)}(hT:cD P T){s f:Nat}{x:Ca}(ho:o.op=.fieldAddr s x f)
  (h:fe g (ev I x) λva=>sP T s f va K):∃r,K r/\jW P o I g r:=by
 replace h:=Db h
 obtain⟨va,h,hr⟩:=h
 unfold sP at h
 split at h
 ·rename_i ti gG;have gF:=hT.get gG;split at h
  ·rename_i off sz hf;split at h
   ·rename_i hu;obtain⟨Y,dB⟩:=gF.QJ hu
    cases hz:Nat.beq sz 0 with
    |true=>rw[hz]at h;cases h
    |false=>
     rw[hz]at h;have hz:sz≠0:=λe=>by subst e;cases hz
     obtain⟨fl,hfl,aPG,ti2,hi2,mL⟩:=(gF.wJ Y dB).get hf;have run:∀(b o:Nat) (w:Aa),(Instr.fieldAt s (.pointer (some ⟨b,o,none⟩)) f).run P w=.ok (.pointer (some ⟨b,o+off,none⟩)) w:=by
      intro b o w;have aPN:Y[f]? =some fl:=by simpa using hfl
      have:(underlying s).run P w=.ok (.struct Y) w:=by simp[underlying,dB]
      have hz':¬ti2.size=0:=by rw[mL];exact hz
      simp[Instr.fieldAt,this,aPN,Instr.sureAddr,fieldPlace,sizeOf,typeInfo,hi2,hz',jV,aPG]
     split at h
     ·refine⟨_,h,λha R N M V a w i=>?_⟩;obtain⟨b,c,e1,e2⟩:=hr ha R N M V a w i;exact⟨_,by simp[execOp,ho,e2,run],b,c,e1,rfl⟩
     ·refine⟨_,h,λha R N M V a w i=>?_⟩;obtain⟨b,c,e1,e2⟩:=hr ha R N M V a w i;exact⟨_,by simp[execOp,ho,e2,run];rfl,b,c,e1,by rw[De]⟩
     ·rename_i m fn;refine⟨_,h,λha R N M V a w i=>?_⟩;obtain⟨b,o',e2,hc⟩:=hr ha R N M V a w i;refine⟨_,by simp[execOp,ho,e2,run],b,o'+off,rfl,λj hj=>?_⟩;obtain⟨u,hu,FJ⟩:=hc (off+j) O;exact zek
     cases h
   cases h
  cases h
 ·cases h
def qN(T:List (Nat×bV))(I:St)(t:Nat)(g:Da Bool)(va vi:AV)(K:AV->Prop):Prop:=
 match dE T t with
 |some ti=>match ti.j7 with
  |.slice e=>match dE T e with
   |some te=>match vi with
    |.s (.d (.val (.int _ n)))=>match va with
     |.s (.d (.fU len s f))=>bif Nat.beq s te.size then imp g (0<=n/\n<(len:Int))/\K (.s (.d (.rp s (f n.toNat))))else False
     |.s (.own x)=>match aH I.box x with
      |some (some (.row _ len s _))=>bif Nat.beq s te.size then imp g (0<=n/\n<(len:Int))/\K (.s (.rw x n.toNat s 0))else False
      |_=>False
     |.s (.mo z x)=>match aH I.box x with
      |some (some (.b8 _ len s _))=>bif Nat.beq s te.size then imp g (0<=n/\n<((bif z then 0 else len:Nat):Int))/\K (.s (.rw x n.toNat s 0))else False
      |_=>False
     |.s (.j0 x s lo m)=>match aH I.box x with
      |some (some (.cells _))=>bif Nat.beq s te.size then imp g (0<=n/\n<(m:Int))/\K (.s (.ptr x ((lo+n.toNat)*s)))else False
      |_=>bif Nat.beq s te.size then imp g (0<=n/\n<(m:Int))/\K (.s (.rw x (lo+n.toNat) s 0))else False
     |_=>False
    |_=>False
   |none=>False
  |.array len e=>match dE T e with
   |some te=>match vi with
    |.s (.d (.val (.int _ n)))=>match va with
     |.s (.ptr x off)=>imp g (0<=n/\n<(len:Int))/\K (.s (.ptr x (off+n.toNat*te.size)))
     |.s (.rw x i s' off)=>imp g (0<=n/\n<(len:Int))/\K (.s (.rw x i s' (off+n.toNat*te.size)))
     |.s (.d (.rp m f))=>imp g (0<=n/\n<(len:Int))/\K (.s (.d (.rp (m-n.toNat*te.size) λj=>f (n.toNat*te.size+j))))
     |_=>False
    |_=>False
   |none=>False
  |_=>False
 |none=>False
def idx.spec{T:List (Nat×bV)}(hT:cD P T){t:Nat}{x y:Ca}(ho:o.op=.indexAddr t x y)
  (h:fe g (ev I x) λva=>fe g (ev I y) λvi=>qN T I t g va vi K):∃r,K r/\jW P o I g r:=by
 replace h:=Db h
 obtain⟨va,h,hr⟩:=h
 replace h:=Db h
 obtain⟨vi,h,Z4⟩:=h
 unfold qN at h
 split at h
 case h_2=>cases h
 rename_i ti gG
 have gF:=hT.get gG
 split at h
 case h_3=>cases h
 rotate_left
 ·rename_i len e hu;have dB:P.underlying t=some (.array len e):=gF.FV hu;split at h
  case h_2=>cases h
  rename_i te nD;have mS:=hT.get nD;split at h
  case h_2=>cases h
  rename_i k n;have a7:∀(b off:Nat) (w:Aa),0<=n->n<(len:Int)->(Instr.indexAt t (.pointer (some ⟨b,off,none⟩)) (.int k n)).run P w=.ok (.pointer (some ⟨b,off+n.toNat*te.size,none⟩)) w:=by
   intro b off w h0 h1;have hu1:(underlying t).run P w=.ok (.array len e) w:=by simp[underlying,dB]
   have hs:=mS.iE w;simp[Instr.indexAt,asIntOf,hu1,h0,h1,hs,jV,Instr.sureAddr]
  split at h
  ·rename_i x' off;refine⟨_,h.2,λha R N M V a w i=>?_⟩;obtain⟨h0,h1⟩:=h.1.get ha;obtain⟨b,c,e1,ex⟩:=hr ha R N M V a w i;have ey:a.eval y=.int k n:=Z4 ha R N M V a w i;exact⟨_,by simp only[execOp,ho,ex,ey,a7 b off w h0 h1,Ic,Result.andThen,Wc],b,c,e1,rfl⟩
  ·rename_i x' i' s' off;refine⟨_,h.2,λha R N M V a w i=>?_⟩;obtain⟨h0,h1⟩:=h.1.get ha;obtain⟨b,c,e1,ex⟩:=hr ha R N M V a w i;have ey:a.eval y=.int k n:=Z4 ha R N M V a w i;exact⟨_,by simp only[execOp,ho,ex,ey,a7 b _ w h0 h1,Ic,Result.andThen,Wc];rfl,b,c,e1,by rw[De]⟩
  ·rename_i m fn;refine⟨_,h.2,λha R N M V a w i=>?_⟩;obtain⟨h0,h1⟩:=h.1.get ha;obtain⟨b,o',ex,hc⟩:=hr ha R N M V a w i;have ey:a.eval y=.int k n:=Z4 ha R N M V a w i;refine⟨_,by simp only[execOp,ho,ex,ey,a7 b o' w h0 h1,Ic,Result.andThen,Wc],b,o'+n.toNat*te.size,rfl,λj hj=>?_⟩;obtain⟨u,hu,FJ⟩:=hc (n.toNat*te.size+j) O;exact zek
  cases h
 rename_i e hu
 have dB:P.underlying t=some (.slice e):=gF.isSlice hu
 split at h
 case h_2=>cases h
 rename_i te nD
 have mS:=hT.get nD
 split at h
 case h_2=>cases h
 rename_i k n
 have run:∀(b o:Nat) (len cap:Nat) (w:Aa),0<=n->n<(len:Int)->
   (Instr.indexAt t (.slice (some ⟨b,o,none⟩) len cap) (.int k n)).run P w=.ok (.pointer (some ⟨b,o+n.toNat*te.size,none⟩)) w:=by
  intro b o len cap w h0 h1
  have hu1:(underlying t).run P w=.ok (.slice e) w:=by simp[underlying,dB]
  have hs:=mS.iE w
  simp[Instr.indexAt,asIntOf,hu1,h0,h1,hs,jV]
 split at h
 ·rename_i len s f
  cases hs:Nat.beq s te.size with
  |false=>rw[hs]at h;cases h
  |true=>
   rw[hs]at h;have hs:=Mb hs;refine⟨_,h.2,λha R N M V a w i=>?_⟩;obtain⟨h0,h1⟩:=h.1.get ha;obtain⟨ad,cap,ex,wI,hc⟩:=hr ha R N M V a w i;have ey:a.eval y=.int k n:=Z4 ha R N M V a w i;rcases hc with h0'|⟨b,o',rfl,hc⟩
   ·omega
   refine⟨_,by simp only[execOp,ho,ex,ey,run b o' len cap w h0 h1,Ic,Result.andThen,Wc];rfl,b,_,rfl,λj hj=>?_⟩;obtain⟨u,hu,FJ⟩:=hc n.toNat j O hj;exact⟨u,by rw[<-hs];exact hu,FJ⟩
 ·rename_i x';split at h
  case h_2=>cases h
  rename_i e' len s f hb
  cases hs:Nat.beq s te.size with
  |false=>rw[hs]at h;cases h
  |true=>rw[hs]at h;have hs:=Mb hs;refine⟨_,h.2,λha R N M V a w i=>?_⟩;obtain⟨h0,h1⟩:=h.1.get ha;obtain⟨b,c,e1,ex,wI⟩:=hr ha R N M V a w i;obtain⟨b2,c2,cur,e2,_,hlen,_⟩:=i.box x' _ hb;rw[e1]at e2;cases e2;exact ki
 ·rename_i zz x';split at h
  case h_2=>cases h
  rename_i e' len s f hb
  cases hs:Nat.beq s te.size with
  |false=>rw[hs]at h;cases h
  |true=>
   rw[hs]at h;have hs:=Mb hs;refine⟨_,h.2,λha R N M V a w i=>?_⟩;obtain⟨h0,h1⟩:=h.1.get ha
   cases zz with
   |true=>simp only[cond_true]at h1;omega
   |false=>simp only[Ua]at h1;obtain⟨b,c,e1,ex,wI⟩:=(hr ha R N M V a w i).2 rfl;obtain⟨cur,_,hlen,_⟩:=i.box x' _ hb b c e1;exact ki
 ·rename_i x' s lo m;split at h
  ·cases hs:Nat.beq s te.size with
   |false=>rw[hs]at h;cases h
   |true=>rw[hs]at h;have hs:=Mb hs;refine⟨_,h.2,λha R N M V a w i=>?_⟩;obtain⟨h0,h1⟩:=h.1.get ha;obtain⟨b,c,o',e1,ex,hoo,hc1,JA⟩:=hr ha R N M V a w i;have ey:a.eval y=.int k n:=Z4 ha R N M V a w i;refine⟨_,by simp only[execOp,ho,ex,ey,run b o' m (c.1-lo) w h0 h1,Ic,Result.andThen,Wc];rfl,b,c,e1,?_⟩;rw[hoo O,hs,de]
  cases hs:Nat.beq s te.size with
  |false=>rw[hs]at h;cases h
  |true=>rw[hs]at h;have hs:=Mb hs;refine⟨_,h.2,λha R N M V a w i=>?_⟩;obtain⟨h0,h1⟩:=h.1.get ha;obtain⟨b,c,o',e1,ex,hoo,hc1,JA⟩:=hr ha R N M V a w i;have ey:a.eval y=.int k n:=Z4 ha R N M V a w i;refine⟨_,by simp only[execOp,ho,ex,ey,run b o' m (c.1-lo) w h0 h1,Ic,Result.andThen,Wc];rfl,b,c,e1,?_⟩;rw[hoo O,hs,de];rfl
 ·cases h
def C7(T:List (Nat×bV))(t:Nat)(g:Da Bool)(va vi:AV)(K:AV->Prop):Prop:=
 match dE T t with
 |some ti=>match ti.j7 with
  |.string=>match va,vi with
   |.s (.d (.val (.string s))),.s (.d (.val (.int _ n)))=>imp g (0<=n/\n<(s.size:Int))/\K (rH .u8 (s[n.toNat]!).toNat)
   |_,_=>False
  |.array len e=>match dE T e with
   |some te=>match va,vi with
    |.g cs,.s (.d (.val (.int _ n)))=>imp g (0<=n/\n<(len:Int))/\(match te.agg with
     |true=>bif Nat.ble (n.toNat*te.size+te.size) cs.length then K (.g ((cs.drop (n.toNat*te.size)).take te.size))else False
     |false=>match cs[n.toNat*te.size]? with
      |some c=>K (.s c)
      |none=>False)
    |_,_=>False
   |none=>False
  |_=>False
 |none=>False
def str.spec{T:List (Nat×bV)}(hT:cD P T){t:Nat}{x y:Ca}(ho:o.op=.index t x y)
  (h:fe g (ev I x) λva=>fe g (ev I y) λvi=>C7 T t g va vi K):∃r,K r/\jW P o I g r:=by
 replace h:=Db h
 obtain⟨va,h,hr⟩:=h
 replace h:=Db h
 obtain⟨vi,h,Z4⟩:=h
 unfold C7 at h
 split at h
 case h_2=>cases h
 rename_i ti gG
 have gF:=hT.get gG
 split at h
 case h_3=>cases h
 ·rename_i hu;have dB:P.underlying t=some .string:=gF.isString hu;split at h
  case h_2=>cases h
  rename_i s k n;refine⟨_,h.2,λha R N M V a w i=>?_⟩;obtain⟨h0,h1⟩:=h.1.get ha;have ex:a.eval x=.string s:=hr ha R N M V a w i;have ey:a.eval y=.int k n:=Z4 ha R N M V a w i;have hu1:(underlying t).run P w=.ok .string w:=by simp[underlying,dB]
  have fZ:n.toNat<s.size:=O;have hg:s[n.toNat]? =some s[n.toNat]! :=by rw[getElem?_pos s n.toNat fZ,Sf s n.toNat fZ]
  refine⟨_,?_,rfl⟩;simp[execOp,ho,ex,ey,Instr.index,asIntOf,hu1,h0,hg]
 ·rename_i len e hu;have dB:P.underlying t=some (.array len e):=gF.FV hu;split at h
  case h_2=>cases h
  rename_i te nD;have mS:=hT.get nD;split at h
  case h_2=>cases h
  rename_i cs k n;obtain⟨jA,h⟩:=h;split at h
  ·rename_i H2
   cases hle:Nat.ble (n.toNat*te.size+te.size) cs.length with
   |false=>rw[hle]at h;cases h
   |true=>
    rw[hle]at h;refine⟨_,h,λha R N M V a w i=>?_⟩;obtain⟨h0,h1⟩:=jA.get ha;obtain⟨vs,ex,YJ⟩:=hr ha R N M V a w i;have ey:a.eval y=.int k n:=Z4 ha R N M V a w i;have hu1:(underlying t).run P w=.ok (.array len e) w:=by simp[underlying,dB]
    have ha1:=mS.BC w;rw[H2]at ha1;refine⟨.agg ((vs.drop (n.toNat*te.size)).take te.size).toArray,?_,_,rfl,(YJ.drop _).take _⟩;simp[execOp,ho,ex,ey,Instr.index,asIntOf,hu1,h0,h1,part,ha1,mS.iE]
  rename_i H2;split at h
  case h_2=>cases h
  rename_i c hc;refine⟨_,h,λha R N M V a w i=>?_⟩;obtain⟨h0,h1⟩:=jA.get ha;obtain⟨vs,ex,YJ⟩:=hr ha R N M V a w i;have ey:a.eval y=.int k n:=Z4 ha R N M V a w i;have hu1:(underlying t).run P w=.ok (.array len e) w:=by simp[underlying,dB]
  have ha1:=mS.BC w;rw[H2]at ha1;obtain⟨v,hv,TQ⟩:=YJ.get hc;refine⟨v,?_,TQ⟩;simp[execOp,ho,ex,ey,Instr.index,asIntOf,hu1,h0,h1,part,ha1,mS.iE,hv]
def J3(k:Nat)(va:AV)(K:AV->Prop):Prop:=
 match va with
 |.t ts=>match ts[k]? with
  |some (.s x)=>K (.s x)
  |some (.g cs)=>K (.g cs)
  |none=>False
 |_=>False
def ext.spec{k:Nat}{x:Ca}(ho:o.op=.extract x k)(h:J3 k (ev I x) K):∃r,K r/\jW P o I g r:=by
 unfold J3 at h;split at h
 case h_2=>cases h
 rename_i ts uX;have key:∀tv,ts[k]? =some tv->∀R N M V a w,Inv R N M V I a w->∃v,(execOp a.eval o).run P w=.ok (.value v) w/\tv.bI M V v:=by intro tv htv R N M V a w i;have:=Yb i x;rw[uX]at this;obtain⟨vs,ex,hv⟩:=this;obtain⟨v,hv1,Z3⟩:=hv.get htv;exact⟨v,by simp[execOp,ho,ex,Instr.extract,hv1],Z3⟩
 split at h
 case h_3=>cases h
 ·rename_i s hs;exact zde
 rename_i cs hs;exact zde
def ri(op:UnOp)(va:AV)(K:AV->Prop):Prop:=
 match op,va with
 |.not,.s (.d (.lit b))=>match b with|true=>K (.s (.d (.lit false)))|false=>K (.s (.d (.lit true)))
 |.not,.s (.d (.val (.bool b)))=>K (kY (!b))
 |.neg,.s (.d (.val (.int k n)))=>K (rH k (k.wrap (0-n)))
 |_,_=>False
def un.spec{op:UnOp}{t:Nat}{x:Ca}(ho:o.op=.unOp op t x)(h:fe g (ev I x) λva=>ri op va K):∃r,K r/\jW P o I g r:=by
 replace h:=Db h;obtain⟨va,h,hr⟩:=h;unfold ri at h;split at h
 case h_4=>cases h
 ·rename_i b
  cases b with
  |true=>refine⟨_,h,λha R N M V a w i=>⟨.bool false,?_,rfl⟩⟩;have ex:a.eval x=.bool true:=hr ha R N M V a w i;exact Qu
  |false=>refine⟨_,h,λha R N M V a w i=>⟨.bool true,?_,rfl⟩⟩;have ex:a.eval x=.bool false:=hr ha R N M V a w i;exact Qu
 ·rename_i b;refine⟨_,h,λha R N M V a w i=>⟨.bool (!b),?_,rfl⟩⟩;have ex:a.eval x=.bool b:=hr ha R N M V a w i;exact Qu
 rename_i k n;refine⟨_,h,λha R N M V a w i=>⟨_,?_,rfl⟩⟩;have ex:a.eval x=.int k n:=hr ha R N M V a w i;simp[execOp,ho,ex,Op.unary,Op.intArith]
def CI:AV->Da (Bool×Da Bool)
 |.s (.d (.lit b))=>some (b,none)
 |.s (.d (.val (.bool b)))=>some (b,none)
 |.ib c (.d (.lit b))=>some (b,some c)
 |.ib c (.d (.val (.bool b)))=>some (b,some c)
 |_=>none
def Fx{v:AV}{b:Bool}{c:Da Bool}{M:Mem}{V:Nm}{u:wa}(h:CI v=some (b,c))(r:v.bI M V u)(hc:act c):u=.bool b:=by
 unfold CI at h;split at h
 ·cases h;exact r
 ·cases h;exact r
 ·cases h;exact r.1 (hc _ rfl)
 ·cases h;exact r.1 (hc _ rfl)
 cases h
def Q3(p:Prop):Da Bool->Prop
 |none=>True
 |some c=>p->c=true
def Q3.act{p:Prop}{c:Da Bool}(h:Q3 p c)(hp:p):act c:=by intro b e;subst e;exact h hp
def bh(b:Bool):AV->Bool
 |.s (.d (.lit c))=>match b,c with|true,true=>true|false,false=>true|_,_=>false
 |_=>false
def Bx{b:Bool}{v:AV}(h:bh b v=true):v=.s (.d (.lit b)):=by
 unfold bh at h;split at h
 ·rename_i c
  cases b <;> cases c <;> first|rfl|cases h
 cases h
def vV(g:Da Bool)(vc vx vy:AV)(K:AV->Prop):Prop:=
 match vc with
 |.s (.d (.lit b))=>match b with
  |true=>fe g vx K
  |false=>fe g vy K
 |.s (.d (.val (.bool b)))=>
  match CI vx,CI vy with
  |some (p,gp),some (q,gq)=>imp g (Q3 (b=true) gp)/\imp g (Q3 (b=false) gq)/\
    (bif bh false vy then K (kY (b&&p))else bif bh true vx then K (kY (b||q))else K (kY (bif b then p else q)))
  |_,_=>False
 |_=>False
def pick.spec{c x y:Ca}(ho:o.op=.pick c x y)(h:fe g (ev I c) λvc=>vV g vc (ev I x) (ev I y) K):∃r,K r/\jW P o I g r:=by
 replace h:=Db h;obtain⟨vc,h,hr⟩:=h;unfold vV at h;split at h
 case h_3=>cases h
 ·rename_i b
  cases b with
  |true=>obtain⟨r,hk,hx⟩:=Db h;refine⟨r,hk,λha R N M V a w i=>⟨a.eval x,?_,hx ha R N M V a w i⟩⟩;have ex:a.eval c=.bool true:=hr ha R N M V a w i;simp[execOp,ho,ex,asBool]
  |false=>obtain⟨r,hk,hx⟩:=Db h;refine⟨r,hk,λha R N M V a w i=>⟨a.eval y,?_,hx ha R N M V a w i⟩⟩;have ex:a.eval c=.bool false:=hr ha R N M V a w i;simp[execOp,ho,ex,asBool]
 rename_i b;split at h
 case h_2=>cases h
 rename_i p gp q gq hp hq;obtain⟨h1,h2,h⟩:=h;have key:∀R N M V a w,act g->Inv R N M V I a w->(execOp a.eval o).run P w=.ok (.value (.bool (bif b then p else q))) w:=by
  intro R N M V a w ha i;have ex:a.eval c=.bool b:=hr ha R N M V a w i
  cases b with
  |true=>have:=Fx hp (Yb i x) ((imp.get h1 ha).act rfl);simp[execOp,ho,ex,asBool,this]
  |false=>have:=Fx hq (Yb i y) ((imp.get h2 ha).act rfl);simp[execOp,ho,ex,asBool,this]
 cases e1:bh false (ev I y)with
 |true=>
  rw[e1]at h;refine⟨_,h,λha R N M V a w i=>⟨_,key R N M V a w ha i,?_⟩⟩;have:q=false:=by rw[Bx e1]at hq;simp only[CI,Je,Aj]at hq;exact hq.1.symm
  exact zds
 |false=>
  rw[e1]at h
  cases e2:bh true (ev I x)with
  |true=>
   rw[e2]at h;refine⟨_,h,λha R N M V a w i=>⟨_,key R N M V a w ha i,?_⟩⟩;have:p=true:=by rw[Bx e2]at hp;simp only[CI,Je,Aj]at hp;exact hp.1.symm
   exact zds
  |false=>rw[e2]at h;exact⟨_,h,λha R N M V a w i=>⟨_,key R N M V a w ha i,rfl⟩⟩
end
section
variable{P:Ba}{I:St}{g:Da Bool}{K:AV->Prop}{o:Oper}
def tY(T:List (Nat×bV))(src dst:Nat)(va:AV)(K:AV->Prop):Prop:=
 match dE T src,dE T dst with
 |some ts,some td=>match ts.j7,td.j7,va with
  |.int _,.int k,.s (.d (.val (.int _ n)))=>K (rH k (k.wrap n))
  |.string,.string,.s (.d (.val (.string s)))=>K (.s (.d (.val (.string s))))
  |.int _,.float k,.s (.d (.val (.int _ n)))=>K (.s (.d (.val (.float k (k.nearest n)))))
  |.float _,.int k,.s (.d (.val (.float s b)))=>∃n:Int,((s.decode b).toInt .zero=some n/\k.min<=n/\n<=k.max)/\K (rH k n)
  |_,_,_=>False
 |_,_=>False
def conv.spec{T:List (Nat×bV)}(hT:cD P T){src dst:Nat}{x:Ca}(ho:o.op=.convert src dst x)
  (h:fe g (ev I x) λva=>tY T src dst va K):∃r,K r/\jW P o I g r:=by
 replace h:=Db h
 obtain⟨va,h,hr⟩:=h
 unfold tY at h
 split at h
 case h_2=>cases h
 rename_i ts td uX htd
 have k1:=hT.get uX
 have k2:=hT.get htd
 split at h
 case h_5=>cases h
 ·rename_i k0 k kk n e1 e2;have h1:=k1.isInt e1;have h2:=k2.isInt e2;refine⟨_,h,λha R N M V a w i=>⟨_,?_,rfl⟩⟩;have ex:a.eval x=.int kk n:=hr ha R N M V a w i;simp[execOp,ho,ex,convert,Bb h1,Bb h2,Conv.intToInt]
 ·rename_i s e1 e2;have h1:=k1.isString e1;have h2:=k2.isString e2;refine⟨_,h,λha R N M V a w i=>⟨_,?_,rfl⟩⟩;have ex:a.eval x=.string s:=hr ha R N M V a w i;simp[execOp,ho,ex,convert,Bb h1,Bb h2]
 ·rename_i k0 k kk n e1 e2;have h1:=k1.isInt e1;have h2:=k2.V3 e2;refine⟨_,h,λha R N M V a w i=>⟨_,?_,rfl⟩⟩;have ex:a.eval x=.int kk n:=hr ha R N M V a w i;simp[execOp,ho,ex,convert,Bb h1,Bb h2,Conv.intToFloat]
 ·rename_i k0 k s b e1 e2;have h1:=k1.V3 e1;have h2:=k2.isInt e2;obtain⟨n,⟨hn,DR,TZ⟩,h⟩:=h;refine⟨_,h,λha R N M V a w i=>⟨_,?_,rfl⟩⟩;have ex:a.eval x=.float s b:=hr ha R N M V a w i;simp[execOp,ho,ex,convert,Bb h1,Bb h2,Conv.floatToInt,hn,DR,TZ]
def MT(va:AV)(K:AV->Prop):Prop:=
 match va with
 |.s (.ptr x o)=>K (.s (.ptr x o))
 |.s (.rw x i s o)=>K (.s (.rw x i s o))
 |.s (.d (.rp m f))=>K (.s (.d (.rp m f)))
 |.s (.dZ f cs)=>K (.s (.dZ f cs))
 |.s (.d (.dZ f k c))=>K (.s (.d (.dZ f k c)))
 |_=>False
def nil.spec{x:Ca}(ho:o.op=.nilCheck x)(h:fe g (ev I x) λva=>MT va K):∃r,K r/\jW P o I g r:=by
 replace h:=Db h;obtain⟨va,h,hr⟩:=h;unfold MT at h;split at h
 case h_6=>cases h
 ·exact zay
 ·exact zay
 ·refine⟨_,h,λha R N M V a w i=>?_⟩;obtain⟨b,c,e2,e1⟩:=hr ha R N M V a w i;exact⟨_,by simp[execOp,ho,e2],b,c,rfl,e1⟩
 ·exact zaD
 exact zaD
def aKQ:AV->Da CV
 |.s (.d x)=>some (.d x)
 |.s (.ptr x o)=>some (.ptr x o)
 |_=>none
def qC(I:St):List Ca->Da (List CV)
 |[]=>some []
 |x::r=>match aKQ (ev I x),qC I r with
  |some c,some cs=>some (c::cs)
  |_,_=>none
def qC.rep{R:Cx}{N:Nat}{M:Mem}{V:Nm}{a:Act}{w:Aa}(i:Inv R N M V I a w):∀{l:List Ca} {cs:List CV},qC I l=some cs->vO M V cs (l.map a.eval)
 |[],cs,h=>by simp[qC]at h;subst h;trivial
 |x::r,cs,h=>by
  simp only[qC]at h;split at h
  ·rename_i c cs' hc nR
   cases h
   refine⟨?_,qC.rep i nR⟩;have:=Yb i x;unfold aKQ at hc;split at hc
   ·rename_i e;cases hc;rw[e]at this;exact this
   ·rename_i e;cases hc;rw[e]at this;exact this
   cases hc
  cases h
def mkf.spec{f:FuncId}{IV:Array Ca}(ho:o.op=.makeFunc (.func f) #[] IV)
  (h:match qC I IV.toList with|some cs=>K (.s (.dZ f cs))|none=>False):∃r,K r/\jW P o I g r:=by
 split at h
 case h_2=>cases h
 rename_i cs nR
 refine⟨_,h,λha R N M V a w i=>⟨_,?_,(IV.toList.map a.eval),rfl,qC.rep i nR⟩⟩
 simp[execOp,ho,Instr.makeFunc]
 apply Jd
 simp
def J9(T:List (Nat×bV))(t:Nat)(va:AV)(K:AV->Prop):Prop:=
 match dE T t with
 |some ti=>match ti.j7,va with
  |.slice _,.s (.d (.val (.slice _ _ c)))=>K (rH .i64 c)
  |_,_=>False
 |none=>False
def cap.spec{T:List (Nat×bV)}(hT:cD P T){t:Nat}{x:Ca}(ho:o.op=.call {callee:=.builtin .cap,args:= #[x],argTypes:= #[t]})
  (h:fe g (ev I x) λva=>J9 T t va K):∃r,K r/\jW P o I g r:=by
 replace h:=Db h
 obtain⟨va,h,hr⟩:=h
 unfold J9 at h
 split at h
 case h_2=>cases h
 rename_i ti gG
 split at h
 case h_2=>cases h
 rename_i e b n c hu
 have dB:=(hT.get gG).isSlice hu
 refine⟨_,h,λha R N M V a w i=>⟨_,?_,rfl⟩⟩
 have ex:a.eval x=.slice b n c:=hr ha R N M V a w i
 simp[execOp,ho,ex,resolve,invoke,builtin,Builtin.cap_,Bb dB,goInt]
def qL(T:List (Nat×bV))(I:St)(t:Nat)(va:AV)(K:AV->Prop):Prop:=
 match dE T t with
 |some ti=>match ti.j7,va with
  |.slice _,.s (.d (.fU n _ _))=>K (rH .i64 n)
  |.slice _,.s (.own x)=>match aH I.box x with
   |some (some (.row _ n _ _))=>K (rH .i64 n)
   |_=>False
  |.slice _,.s (.mo z x)=>match aH I.box x with
   |some (some (.b8 _ n _ _))=>K (rH .i64 ((bif z then 0 else n:Nat):Int))
   |_=>False
  |.slice _,.s (.j0 _ _ _ n)=>K (rH .i64 n)
  |.slice _,.s (.d (.val (.slice _ n _)))=>K (rH .i64 n)
  |.string,.s (.d (.val (.string s)))=>K (rH .i64 s.size)
  |.array n _,_=>K (rH .i64 n)
  |_,_=>False
 |none=>False
def len.spec{T:List (Nat×bV)}(hT:cD P T){t:Nat}{x:Ca}(ho:o.op=.call {callee:=.builtin .len,args:= #[x],argTypes:= #[t]})
  (h:fe g (ev I x) λva=>qL T I t va K):∃r,K r/\jW P o I g r:=by
 replace h:=Db h
 obtain⟨va,h,hr⟩:=h
 unfold qL at h
 split at h
 case h_2=>cases h
 rename_i ti gG
 have h1:=hT.get gG
 have run:∀(a:Act) (w:Aa),(execOp a.eval o).run P w=((Builtin.len_ #[t] o.type #[a.eval x]).run P w).andThen λv w'=>.ok (.value v) w':=by intro a w;simp[execOp,ho,resolve,invoke,builtin]
 split at h
 case h_8=>cases h
 ·rename_i e1;refine⟨_,h,λha R N M V a w i=>⟨_,?_,rfl⟩⟩;obtain⟨ad,cap,e2,_⟩:=hr ha R N M V a w i;exact k7
 ·rename_i e1;split at h
  case h_2=>cases h
  rename_i hb;refine⟨_,h,λha R N M V a w i=>⟨_,?_,rfl⟩⟩;obtain⟨b,c,e0,e2,_⟩:=hr ha R N M V a w i;obtain⟨b2,c2,cur,e3,_,hlen,_⟩:=i.box _ _ hb;rw[e0]at e3;cases e3;exact zcM
 ·rename_i zz x' e1;split at h
  case h_2=>cases h
  rename_i hb;refine⟨_,h,λha R N M V a w i=>?_⟩
  cases zz with
  |true=>have e2:=(hr ha R N M V a w i).1 rfl;refine⟨_,?_,rfl⟩;exact k7
  |false=>obtain⟨b,c,e0,e2,_⟩:=(hr ha R N M V a w i).2 rfl;obtain⟨cur,_,hlen,_⟩:=i.box _ _ hb b c e0;refine⟨_,?_,rfl⟩;exact zcM
 ·rename_i e1;refine⟨_,h,λha R N M V a w i=>⟨_,?_,rfl⟩⟩;obtain⟨b,c,o',e0,e2,_⟩:=hr ha R N M V a w i;exact k7
 ·rename_i e1;refine⟨_,h,λha R N M V a w i=>⟨_,?_,rfl⟩⟩;have e2:=hr ha R N M V a w i;simp only[AV.bI,SV.bI,DV.bI]at e2;exact k7
 ·rename_i e1;refine⟨_,h,λha R N M V a w i=>⟨_,?_,rfl⟩⟩;have e2:=hr ha R N M V a w i;simp only[AV.bI,SV.bI,DV.bI]at e2;rw[run,e2];simp[Builtin.len_,Bb (h1.isString e1),goInt]
 ·rename_i e1;refine⟨_,h,λha R N M V a w i=>⟨_,?_,rfl⟩⟩;rw[run];simp[Builtin.len_,Bb (h1.FV e1),goInt]
def mm(mx:Bool)(x y:Int):Int:=match mx with|true=>if y>x then y else x|false=>if y<x then y else x
def ints(g:Da Bool)(I:St):List Ca->(List (IntKind×Int)->Prop)->Prop
 |[],K=>K []
 |x::r,K=>fe g (ev I x) λva=>match va with
  |.s (.d (.val (.int k n)))=>ints g I r λl=>K ((k,n)::l)
  |_=>False
def sx:∀{l:List Ca} {K:List (IntKind×Int)->Prop},ints g I l K->
  ∃ns,K ns/\(act g->∀R N M V a w,Inv R N M V I a w->l.map a.eval=ns.map λp=>Value.int p.1 p.2)
 |[],_,h=>⟨[],h,λ_ _ _ _ _ _ _ _=>rfl⟩
 |x::r,K,h=>by
  replace h:=Db h;obtain⟨va,h,hr⟩:=h;split at h
  case h_2=>cases h
  rename_i k n;obtain⟨ns,hk,hs⟩:=sx h;refine⟨_,hk,λha R N M V a w i=>?_⟩;have ex:a.eval x=.int k n:=hr ha R N M V a w i;simp[hs ha R N M V a w i,ex]
def Ih(mx:Bool)(k:IntKind)(x:Int):List (IntKind×Int)->AV
 |[]=>rH k x
 |(_,y)::r=>Ih mx k (mm mx x y) r
def Ix(mx:Bool)(k:IntKind):∀(l:List (IntKind×Int)) (x:Int) (w:Aa),∃v,((l.map λp=>Value.int p.1 p.2).foldlM (match mx with|true=>Builtin.max2|false=>Builtin.min2) (Value.int k x):Sem wa).run P w=.ok v w/\∀M V,(Ih mx k x l).bI M V v
 |[],x,w=>⟨_,rfl,λ_ _=>rfl⟩
 |(k',y)::r,x,w=>by
  obtain⟨v,e,hv⟩:=Ix mx k r (mm mx x y) w;refine⟨v,?_,hv⟩
  cases mx <;> simp[Builtin.max2,Builtin.min2,mm]at e⊢ <;> exact e
def Ow(mx:Bool){args:Array Ca}{wR:Array Ea}(ho:o.op=.call {callee:=.builtin (match mx with|true=>.max|false=>.min),args:=args,argTypes:=wR})
  (h:ints g I args.toList λl=>match l with|(k,n)::r=>K (Ih mx k n r)|[]=>False):∃r,K r/\jW P o I g r:=by
 replace h:=sx h
 obtain⟨ns,h,hs⟩:=h
 split at h
 case h_2=>cases h
 rename_i k n r
 refine⟨_,h,λha R N M V a w i=>?_⟩
 obtain⟨v,e,hv⟩:=Ix (P:=P) mx k r n w
 refine⟨v,?_,hv M V⟩
 have hm:=hs ha R N M V a w i
 have NC:(args.map a.eval).toList=Value.int k n::r.map λp=>Value.int p.1 p.2:=by simpa using hm
 cases mx
 ·simp only[execOp,ho,resolve,invoke,builtin,Builtin.min_,Ic,Wc,Result.andThen,NC,e]
 ·simp only[execOp,ho,resolve,invoke,builtin,Builtin.max_,Ic,Wc,Result.andThen,NC,e]
end
def PN(off:Nat):∀(l:List wa) (k:Nat) (A:Array wa),off+k+l.length<=A.size->
  (l.zipIdx k).foldl (λcs p=>cs.setIfInBounds (off+p.2) p.1) A=(A.toList.take (off+k)++l++A.toList.drop (off+k+l.length)).toArray
 |[],k,A,_=>by simp
 |v::r,k,A,h=>by
  simp only[Rb]at h;have ih:=PN off r (k+1) (A.setIfInBounds (off+k) v) re;simp only[List.zipIdx_cons,Ly];rw[ih];congr 1;have t1:(A.toList.set (off+k) v).take (off+(k+1))=A.toList.take (off+k)++ [v]:=by rw[show off+(k+1)=(off+k)+1 by omega,Gn re,List.getElem_set_self];congr 1;exact List.take_set_of_le (mb _)
  have t2:(A.toList.set (off+k) v).drop (off+(k+1)+r.length)=A.toList.drop (off+k+(r.length+1)):=by rw[List.drop_set_of_lt O];congr 1;omega
  simp only[Array.toList_setIfInBounds,t1,t2,Rb,Ti,We,wj]
def qW(place:Nat->Da (Nat×Nat))(cells:List SV):List (Nat×List SV)->Da (List SV)
 |[]=>some cells
 |(i,cs)::r=>match place i with
  |some (off,sz)=>bif Nat.beq cs.length sz&&Nat.ble (off+sz) cells.length then qW place (cells.take off++(cs++cells.drop (off+sz))) r else none
  |none=>none
def Bv(M:Mem)(V:Nm):List (Nat×List SV)->List (Nat×wa)->Prop
 |[],[]=>True
 |(i,cs)::r,(j,v)::s=>i=j/\(∃vs:List wa,v.cells.toList=vs/\cV M V cs vs)/\Bv M V r s
 |_,_=>False
def Io{M:Mem}{V:Nm}{pl pl':Nat->Da (Nat×Nat)}(hpl:∀i p,pl i=some p->pl' i=some p):∀{ps:List (Nat×List SV)} {qs:List (Nat×wa)} {cells cs':List SV} {zS:List wa},qW pl cells ps=some cs'->Bv M V ps qs->cV M V cells zS->
  ∃D8:List wa,Instr.fill pl' zS.toArray qs=some D8.toArray/\cV M V cs' D8
 |[],[],cells,cs',zS,h,_,hr=>by simp only[qW,Je]at h;subst h;exact⟨zS,rfl,hr⟩
 |(i,cs)::r,(j,v)::s,cells,cs',zS,h,hp,hr=>by
  obtain⟨rfl,⟨vs,hv,nR⟩,hp⟩:=hp;simp only[qW]at h;split at h
  ·rename_i off sz hpi
   cases hc:(Nat.beq cs.length sz&&Nat.ble (off+sz) cells.length)with
   |false=>rw[hc]at h;cases h
   |true=>
    rw[hc]at h;simp only[cond_true]at h;simp only[Bool.and_eq_true]at hc;have h1:=Mb hc.1;have h2:=Dc hc.2;have l1:=nR.length;have l2:=hr.length;have mL:v.cells.size=sz:=by rw[<-Array.length_toList,hv];omega
    have YO:cV M V (cells.take off++(cs++cells.drop (off+sz))) (zS.take off++(vs++zS.drop (off+sz))):=
     (hr.take off).append (nR.append (hr.drop (off+sz)))
    obtain⟨D8,e,C1⟩:=Io hpl h hp YO;refine⟨D8,?_,C1⟩;simp only[Instr.fill,hpl _ _ hpi];rw[Ka (by simp[mL];omega)];rw[<-e];congr 1;have:=PN off vs 0 zS.toArray re;simp only[nh]at this;rw[<-Array.foldl_toList,Array.toList_zipIdx,hv,this];apply Jd;have h3:vs.length=sz:=O;simp[h3]
  cases h
 |[],_::_,_,_,_,_,h,_=>h.elim
 |_::_,[],_,_,_,_,h,_=>h.elim
section
variable{P:Ba}{I:St}{g:Da Bool}{K:AV->Prop}{o:Oper}
def pH:AV->Da (List SV)
 |.s x=>some [x]
 |.g cs=>some cs
 |_=>none
def pH.rep{v:AV}{cs:List SV}{M:Mem}{V:Nm}{u:wa}(h:pH v=some cs)(ho:l9 cs=true)(r:v.bI M V u):∃vs:List wa,u.cells.toList=vs/\cV M V cs vs:=by
 unfold pH at h;split at h
 ·cases h
  refine⟨[u],?_,r,trivial⟩;have:u.oneCell'=true:=SV.bI.k8 r (by simpa[l9]using ho)
  cases u <;> first|rfl|cases this
 ·cases h
  obtain⟨vs,rfl,hr⟩:=r;exact⟨vs,rfl,hr⟩
 cases h
def im:=@pH.rep
def parts(g:Da Bool)(I:St):List (Nat×Ca)->(List (Nat×List SV)->Prop)->Prop
 |[],K=>K []
 |(i,x)::r,K=>fe g (ev I x) λva=>match pH va with
  |some cs=>bif l9 cs then parts g I r λl=>K ((i,cs)::l)else False
  |none=>False
def Qr:∀{l:List (Nat×Ca)} {K:List (Nat×List SV)->Prop},parts g I l K->
  ∃ps,K ps/\(act g->∀R N M V a w,Inv R N M V I a w->Bv M V ps (l.map λp=>(p.1,a.eval p.2)))
 |[],_,h=>⟨[],h,λ_ _ _ _ _ _ _ _=>trivial⟩
 |(i,x)::r,K,h=>by
  replace h:=Db h;obtain⟨va,h,hr⟩:=h;split at h
  case h_2=>cases h
  rename_i cs nR
  cases ho:l9 cs with
  |false=>rw[ho]at h;cases h
  |true=>rw[ho]at h;obtain⟨ps,hk,hs⟩:=Qr h;exact⟨_,hk,λha R N M V a w i=>⟨rfl,im nR ho (hr ha R N M V a w i),hs ha R N M V a w i⟩⟩
def zv:wa->SV
 |.bool b=>.d (.lit b)
 |v=>.d (.val v)
def iB:List wa->List SV
 |[]=>[]
 |v::r=>zv v::iB r
def iB.rep(M:Mem)(V:Nm):∀l:List wa,cV M V (iB l) l
 |[]=>trivial
 |v::r=>⟨by cases v <;> exact rfl,iB.rep M V r⟩
def Wh:=@iB.rep
def q9(T:List (Nat×bV))(t:Nat)(ps:List (Nat×List SV))(K:AV->Prop):Prop:=
 match dE T t with
 |some ti=>match ti.j7 with
  |.struct=>match qW (λi=>ti.wJ[i]?) (iB ti.zero) ps with
   |some cs=>K (.g cs)
   |none=>False
  |.array _ e=>match dE T e with
   |some te=>match qW (λi=>some (i*te.size,te.size)) (iB ti.zero) ps with
    |some cs=>K (.g cs)
    |none=>False
   |none=>False
  |_=>False
 |none=>False
def yx(w:Aa):∀{Y:List Field} {l:List (Nat×Nat)},sY P Y l->
  (Y.mapM (λf=>(do pure (f.offset,<-sizeOf f.type):Sem (Nat×Nat)))).run P w=.ok l w
 |[],[],_=>by simp
 |f::Y,(o,z)::r,⟨h1,⟨ti,h2,h3⟩,h4⟩=>by have:=yx w h4;simp[sizeOf,typeInfo,h1,h2,h3]at this⊢;simp[this]
 |[],_::_,h=>h.elim
 |_::_,[],h=>h.elim
def build.spec{T:List (Nat×bV)}(hT:cD P T){t:Nat}{pa:Array (Nat×Ca)}(ho:o.op=.build t pa)
  (h:parts g I pa.toList λps=>q9 T t ps K):∃r,K r/\jW P o I g r:=by
 replace h:=Qr h
 obtain⟨ps,h,hs⟩:=h
 unfold q9 at h
 split at h
 case h_2=>cases h
 rename_i ti gG
 have gF:=hT.get gG
 have run:∀(a:Act) (w:Aa) (r:wa),(Instr.build t (pa.map λ(i,x)=>(i,a.eval x))).run P w=.ok r w->(execOp a.eval o).run P w=.ok (.value r) w:=by intro a w r h;simp[execOp,ho,h]
 split at h
 case h_3=>cases h
 ·rename_i hu;obtain⟨Y,dB⟩:=gF.QJ hu;split at h
  case h_2=>cases h
  rename_i cs nR;refine⟨_,h,λha R N M V a w i=>?_⟩;have hp:=hs ha R N M V a w i;obtain⟨z,hz,LB⟩:=gF.w6 w;obtain⟨D8,e,hr⟩:=Io (pl':=λi=>ti.wJ.toArray[i]?) (by intro i p h;simpa using h) nR hp (Wh M V ti.zero);have hpl:=yx w (gF.wJ Y dB);refine⟨_,run a w _ ?_,D8,rfl,hr⟩;have aPE:(Y.mapM (λf=>(do pure (f.offset,<-sizeOf f.type):Sem (Nat×Nat)))).run P w=.ok ti.wJ.toArray w:=by rw[<-Array.toArray_toList (xs:=Y),yy];simp only[Sem.run_map,hpl,Result.andThen]
  have aIT:z.cells=ti.zero.toArray:=by rw[<-LB]
  simp only[Instr.build,Ic,hz,Result.andThen,Bb dB,aPE,aIT];simp only[ir,e,Wc]
 ·rename_i n e hu;split at h
  case h_2=>cases h
  rename_i te nD;split at h
  case h_2=>cases h
  rename_i cs nR;refine⟨_,h,λha R N M V a w i=>?_⟩;have hp:=hs ha R N M V a w i;obtain⟨z,hz,LB⟩:=gF.w6 w;obtain⟨D8,e',hr⟩:=Io (pl':=λi=>some (i*te.size,te.size)) (λ_ _ h=>h) nR hp (Wh M V ti.zero);have dB:P.underlying t=some (.array n e):=gF.FV hu;refine⟨_,run a w _ ?_,D8,rfl,hr⟩;have aIT:z.cells=ti.zero.toArray:=by rw[<-LB]
  simp only[Instr.build,Ic,hz,Result.andThen,Bb dB,(hT.get nD).iE,aIT];simp only[ir,e',Wc]
end
section world
variable{w:Aa}{R:Cx}{N:Nat}{M:Mem}{V:Nm}{I:St}{a:Act}
def nX{w:Aa}{b:Nat}{ob:Obj}(h:w.heap[b]? =some ob):b<w.heap.size:=(Lh.1 h).1
def Inv.HC(i:Inv R N M V I a w){b o:Nat}{u:wa}(h:M b o=some u):b<w.heap.size:=Rq w ⟨b,o,none⟩ (i.mem b o u h)
def Inv.vM(i:Inv R N M V I a w){x:Nat}{bc:jK}{b:Nat}{c:Nat×Nat}(h:aH I.box x=some (some bc))(e:V x=some (b,c)):b<w.heap.size:=by
 have:=i.box x bc h
 cases bc with
 |cells cs=>obtain⟨b',c',vs,T,us,e',hh,_⟩:=this;rw[e]at e';cases e';exact nX hh
 |row et n s f=>obtain⟨b',c',cur,e',hh,_⟩:=this;rw[e]at e';cases e';exact nX hh
 |b8 et n s f=>obtain⟨cur,hh,_⟩:=this b c e;exact nX hh
 |map vk l=>obtain⟨b',c',e',hh⟩:=this;rw[e]at e';cases e';exact nX hh
 |smap vk l=>obtain⟨b',c',e',hh⟩:=this;rw[e]at e';cases e';exact nX hh
 |dm l n=>obtain⟨b',c',vs,e',hh,_⟩:=this;rw[e]at e';cases e';exact nX hh
 |fresh T vs=>obtain⟨b',c',e',hh⟩:=this;rw[e]at e';cases e';exact nX hh
 |iter m n seen=>obtain⟨b',c',bm,cm,e',_,hh⟩:=this;rw[e]at e';cases e';exact nX hh
def jK.real:jK->Bool
 |.b8 _ _ _ _=>false
 |_=>true
def cN.Qj{x:Nat}{bc:jK}(kJ:bc.real=true)(h:cN M V w x bc):∃b c,V x=some (b,c):=by
 cases bc with
 |cells cs=>obtain⟨b',c',vs,T,us,e',_⟩:=h;exact⟨b',c',e'⟩
 |row et n s f=>obtain⟨b',c',cur,e',_⟩:=h;exact⟨b',c',e'⟩
 |b8 et n s f=>cases kJ
 |map vk l=>obtain⟨b',c',e',_⟩:=h;exact⟨b',c',e'⟩
 |smap vk l=>obtain⟨b',c',e',_⟩:=h;exact⟨b',c',e'⟩
 |dm l n=>obtain⟨b',c',_,e',_⟩:=h;exact⟨b',c',e'⟩
 |fresh T vs=>obtain⟨b',c',e',_⟩:=h;exact⟨b',c',e'⟩
 |iter m n seen=>obtain⟨b',c',bm,cm,e',_⟩:=h;exact⟨b',c',e'⟩
def cN.mono{M':Mem}{V':Nm}{w':Aa}{x:Nat}{bc:jK}(hM:Mem.le M M')(hβ:Nm.le V V')(hx:V' x=V x)(hw:∀b c,V x=some (b,c)->w'.heap[b]? =w.heap[b]?)
  (h:cN M V w x bc):cN M' V' w' x bc:=by
 cases bc with
 |cells cs=>obtain⟨b,c,vs,T,us,e,hh,hr⟩:=h;exact⟨b,c,vs,T,us,hβ _ _ e,(hw b c e).trans hh,gk hM hβ hr⟩
 |row et n s f=>obtain⟨b,c,cur,e,hh,h0,h1,h2,h3,h4⟩:=h;exact⟨b,c,cur,hβ _ _ e,(hw b c e).trans hh,h0,h1,h2,h3,λi j hi hj=>let⟨u,hu,hr⟩:=h4 i j hi hj;⟨u,hu,lg hM hr⟩⟩
 |b8 et n s f=>intro b c e;rw[hx]at e;obtain⟨cur,hh,h0,h1,h2,h3,h4⟩:=h b c e;exact⟨cur,(hw b c e).trans hh,h0,h1,h2,h3,λi j hi hj=>let⟨u,hu,hr⟩:=h4 i j hi hj;⟨u,hu,lg hM hr⟩⟩
 |map vk l=>exact Ys
 |smap vk l=>exact Ys
 |dm l n=>obtain⟨b,c,vs,e,hh,hr⟩:=h;exact⟨b,c,vs,hβ _ _ e,(hw b c e).trans hh,hr.mono hM⟩
 |fresh T vs=>exact Ys
 |iter m n seen=>obtain⟨b,c,bm,cm,e,em,hh⟩:=h;exact⟨b,c,bm,cm,hβ _ _ e,hβ _ _ em,(hw b c e).trans hh⟩
def xh:=@cN.mono
def Inv.new{d:Nat}{bc:jK}{ob:Obj}{c:Nat×Nat}(i:Inv R N M V I a w)(hd:aH I.box d=none){w':Aa}
  (hw:w'.heap=w.heap.push ob) (ho:w'.os=w.os) (ht:w'.tape=w.tape) (aCF:w'.output=w.output)
  (hb:∀V':Nm,V' d=some (w.heap.size,c)->Nm.le V V'->cN M V' w' d bc) (hdr:Dr w w':=by exact trivial):
  ∃V',V' d=some (w.heap.size,c)/\Nm.le V V'/\Inv R N M V' ⟨I.env,(d,some bc)::I.box⟩ a w'/\cE R w w':=by
 have HX:V d=none:=xk
 let V':Nm:=λx=>if x=d then some (w.heap.size,c)else V x
 have iX:V' d=some (w.heap.size,c):=by simp[V']
 have hβ:Nm.le V V':=λx p e=>by exact zdd
 have oE:∀x,x≠d->V' x=V x:=λx hx=>by simp[V',hx]
 have hold:∀k,k<w.heap.size->w'.heap[k]? =w.heap[k]? :=λk hk=>by rw[hw,Array.getElem?_push,Ka O]
 have mL:w.heap.size<=w'.heap.size:=by rw[hw];simp
 have kK:∀b o u,M b o=some u->w'.cell? ⟨b,o,none⟩=some u:=λb o u e=>by rw[World.cell?_of_block (w:=w) (w':=w') (a:=⟨b,o,none⟩) (hold b (i.HC e))];exact i.mem b o u e
 have cQ:∀x bx,aH ((d,some bc)::I.box) x=some (some bx)->(x=d/\bx=bc)\/(x≠d/\aH I.box x=some (some bx)):=λx bx e=>by exact jm
 have hblk:∀x bx b c',aH I.box x=some (some bx)->V x=some (b,c')->b<w.heap.size:=λx bx b c' e1 e2=>i.vM e1 e2
 have kp:cE R w w':=⟨ho,ht,aCF,mL,λk hk _=>hold k (aw hk i.heap.le),hdr⟩
 refine⟨V',iX,hβ,⟨i.defers,i.tmps,i.heap.keep kp,λt=>Vf (Xe M) hβ (i.env t),kK,?_,?_,?_,?_,?_,?_⟩,kp⟩
 ·exact kv
 ·intro x bx e;rcases cQ x bx e with⟨rfl,rfl⟩|⟨hx,e⟩
  ·exact hb V' iX hβ
  have hr:=i.box x bx e;exact xh (Xe M) hβ (oE x hx) (λb c' e'=>hold b (hblk x bx b c' e e')) hr
 ·intro x y bx zB b c1 c2 ex ey hx hy;by_cases DQ:x=d
  ·by_cases EO:y=d
   ·rw[DQ,EO]
   rcases cQ y zB ey with⟨h,_⟩|⟨_,Z8⟩
   ·exact absurd h EO
   rw[DQ,iX]at hx;cases hx;rw[oE y EO]at hy;have:=hblk y zB _ _ Z8 hy;omega
  rcases cQ x bx ex with⟨h,_⟩|⟨_,ex'⟩
  ·exact absurd h DQ
  rw[oE x DQ]at hx;by_cases EO:y=d
  ·rw[EO,iX]at hy;cases hy;have:=hblk x bx _ _ ex' hx;omega
  rcases cQ y zB ey with⟨h,_⟩|⟨_,Z8⟩
  ·exact absurd h EO
  rw[oE y EO]at hy;exact i.inj x y bx zB b c1 c2 ex' Z8 hx hy
 ·intro x bx b c1 ex hx o;rcases cQ x bx ex with⟨rfl,rfl⟩|⟨DQ,ex⟩
  ·rw[iX]at hx;cases hx
   cases h:M w.heap.size o with
   |none=>rfl
   |some u=>have:=i.HC h;omega
  rw[oE x DQ]at hx;exact i.apart x bx b c1 ex hx o
 ·intro x bx b c1 ex hx;rcases cQ x bx ex with⟨rfl,rfl⟩|⟨DQ,ex⟩
  ·rw[iX]at hx;cases hx;exact .inl i.heap.le
  rw[oE x DQ]at hx;exact i.low x bx b c1 ex hx
 ·intro x hx;obtain⟨h1,p,h2⟩:=i.ref x hx;by_cases DQ:x=d
  ·subst DQ;rw[HX]at h2;cases h2
  rw[oE x DQ];exact⟨h1,p,h2⟩
def Inv.write{x:Nat}{bc bc':jK}{b:Nat}{c:Nat×Nat}(i:Inv R N M V I a w)(hx:aH I.box x=some (some bc))(hβ:V x=some (b,c)){w':Aa}
  (mL:w'.heap.size=w.heap.size) (hold:∀k,k≠b->w'.heap[k]? =w.heap[k]?) (ho:w'.os=w.os) (ht:w'.tape=w.tape) (aCF:w'.output=w.output)
  (hb:cN M V w' x bc') (hdr:Dr w w':=by exact trivial):Inv R N M V ⟨I.env,(x,some bc')::I.box⟩ a w'/\cE R w w':=by
 have cQ:∀y bx,aH ((x,some bc')::I.box) y=some (some bx)->(y=x/\bx=bc')\/(y≠x/\aH I.box y=some (some bx)):=λy bx e=>by exact jm
 have C2:=i.apart x bc b c hx hβ
 have aCJ:∀k o u,M k o=some u->k≠b:=λk o u e h=>by subst h;rw[C2 o]at e;cases e
 have hl:∀y bx,aH ((x,some bc')::I.box) y=some (some bx)->∃bx',aH I.box y=some (some bx'):=λy bx e=>by
  rcases cQ y bx e with⟨rfl,_⟩|⟨_,e⟩
  ·exact⟨_,hx⟩
  exact⟨_,e⟩
 have kp:cE R w w':=⟨ho,ht,aCF,O,λk hk hm=>by
   refine hold k (λh=>?_);subst h;rcases i.low x bc k c hx hβ with h|h
   ·omega
   exact hm h,hdr⟩
 refine⟨⟨i.defers,i.tmps,i.heap.keep kp,i.env,?_,?_,?_,?_,?_,?_,i.ref⟩,kp⟩
 ·exact za3
 ·intro y p e;obtain⟨z,hz⟩:=i.keys y p e;by_cases hy:x=y
  ·exact⟨_,by rw[aL,La hy]⟩
  exact⟨z,by rw[aL,Ka hy];exact hz⟩
 ·intro y bx e;rcases cQ y bx e with⟨rfl,rfl⟩|⟨hy,e⟩
  ·exact hb
  have hr:=i.box y bx e;have fJ:∀b' c',V y=some (b',c')->b'≠b:=λb' c' e' h=>by subst h;exact hy (i.inj y x bx bc b' c' c e hx e' hβ)
  exact xh (Xe M) (Kf V) rfl (λb' c' e'=>hold b' (fJ b' c' e')) hr
 ·intro y z bx bz b1 c1 c2 ey ez hy hz;obtain⟨_,ey⟩:=hl y bx ey;obtain⟨_,ez⟩:=hl z bz ez;exact i.inj y z _ _ b1 c1 c2 ey ez hy hz
 ·intro y bx b1 c1 ey hy;obtain⟨_,ey⟩:=hl y bx ey;exact i.apart y _ b1 c1 ey hy
 ·intro y bx b1 c1 ey hy;obtain⟨_,ey⟩:=hl y bx ey;exact i.low y _ b1 c1 ey hy
end world
def nb:Nm:=λ_=>none
def full(w:Aa):Mem:=λb o=>w.cell? ⟨b,o,none⟩
def lA(M:Mem)(w:Aa):Prop:=∀b o u,M b o=some u->w.cell? ⟨b,o,none⟩=some u
def dS:Nat->St->SV->DV
 |_,_,.d x=>x
 |n+1,I,.ptr x off=>match aH I.box x with
  |some (some (.cells cs))=>.rp (cs.length-off) λj=>match cs[off+j]? with
   |some c=>dS n I c
   |none=>.bL
  |_=>.bL
 |_,I,.own x=>match aH I.box x with
  |some (some (.row _ n s f))=>.fU n s f
  |_=>.bL
 |_,I,.mo z x=>match aH I.box x with
  |some (some (.b8 _ n s f))=>.fU (bif z then 0 else n) s f
  |_=>.bL
 |0,I,.j0 x s lo n=>match aH I.box x with
  |some (some (.row _ _ s' f))=>bif Nat.beq s s' then .fU n s (λi=>f (lo+i))else .bL
  |_=>.bL
 |m+1,I,.j0 x s lo n=>match aH I.box x with
  |some (some (.row _ _ s' f))=>bif Nat.beq s s' then .fU n s (λi=>f (lo+i))else .bL
  |some (some (.cells cs))=>bif Nat.ble ((lo+n)*s) cs.length then .fU n s (λi j=>match cs[(lo+i)*s+j]? with
   |some c=>dS m I c
   |none=>.bL)else .bL
  |_=>.bL
 |n+1,I,.dZ f cs=>.dZ f cs.length λi=>match cs[i]? with
  |some (.d x)=>x
  |some (.ptr x off)=>dS n I (.ptr x off)
  |none=>.bL
 |_,_,_=>.bL
def vO.get:∀{M V} {cs:List CV} {vs:List wa} {j:Nat} {v:wa},vO M V cs vs->vs[j]? =some v->∃c,cs[j]? =some c/\c.bI M V v
 |_,_,[],[],j,c,_,h=>by simp at h
 |_,_,c::_,_::_,0,v,⟨hv,_⟩,h=>⟨c,rfl,by simp at h;exact h▸hv⟩
 |_,_,_::_,_::_,j+1,c,⟨_,r⟩,h=>by have:=vO.get (j:=j) r ai;simpa using this
 |_,_,[],_::_,_,_,h,_=>h.elim
 |_,_,_::_,[],_,_,h,_=>h.elim
def vO.length:∀{M V} {cs:List CV} {vs:List wa},vO M V cs vs->vs.length=cs.length
 |_,_,[],[],_=>rfl
 |_,_,_::_,_::_,⟨_,r⟩=>by simp[vO.length r]
 |_,_,[],_::_,h=>h.elim
 |_,_,_::_,[],h=>h.elim
def dS.rep{R:Cx}{N:Nat}{M F:Mem}{V:Nm}{I:St}{a:Act}{w:Aa}(i:Inv R N M V I a w)(hM:Mem.le M F)
  (hF:∀x bc b c,aH I.box x=some (some bc)->V x=some (b,c)->∀o u,w.cell? ⟨b,o,none⟩=some u->F b o=some u):∀(n:Nat) (x:SV) (v:wa),x.bI M V v->(dS n I x).bI F v:=by
 have row:∀(x:Nat) (v:wa),(SV.own x).bI M V v->∀e n s f,aH I.box x=some (some (.row e n s f))->(DV.fU n s f).bI F v:=by intro x v r e n s f hb;obtain⟨b,c,e1,rfl,hc⟩:=r;obtain⟨b',c',cur,e2,hh,hl,mL,hn,_,cY⟩:=i.box x _ hb;rw[e1]at e2;cases e2;refine⟨some ⟨b,0,none⟩,c.1,by rw[hl],hn,.inr ⟨b,0,rfl,λk j hk hj=>?_⟩⟩;exact zbc
 have b8:∀(z:Bool) (x:Nat) (v:wa),(SV.mo z x).bI M V v->∀e n s f,aH I.box x=some (some (.b8 e n s f))->(DV.fU (bif z then 0 else n) s f).bI F v:=by
  intro z x v r e n s f hb
  cases z with
  |true=>exact⟨none,0,r.1 rfl,mb _,.inl rfl⟩
  |false=>obtain⟨b,c,e1,rfl,hc⟩:=r.2 rfl;obtain⟨cur,hh,hl,mL,hn,_,cY⟩:=i.box x _ hb b c e1;refine⟨some ⟨b,0,none⟩,c.1,by rw[hl];rfl,hn,.inr ⟨b,0,rfl,λk j hk hj=>?_⟩⟩;exact zbc
 have view:∀(x s lo n:Nat) (v:wa),(SV.j0 x s lo n).bI M V v->∀e m f,aH I.box x=some (some (.row e m s f))->(DV.fU n s λi=>f (lo+i)).bI F v:=by
  intro x s lo n v r e m f hb;obtain⟨b,c,o,e1,rfl,ho,hc1,JA⟩:=r;obtain⟨b',c',cur,e2,hh,hl,mL,hn,_,cY⟩:=i.box x _ hb;rw[e1]at e2;cases e2;refine⟨some ⟨b,o,none⟩,c.1-lo,rfl,O,?_⟩;by_cases h0:n=0
  ·exact .inl h0
  refine .inr ⟨b,o,rfl,λk j hk hj=>?_⟩;obtain⟨u,hu,hr⟩:=cY (lo+k) j O hj;refine⟨u,hF x _ b c hb e1 _ u ?_,lg hM hr⟩;rw[ho O,show lo*s+k*s+j=(lo+k)*s+j by rw[de]];simp[World.cell?,hh,hu]
 intro n
 induction n with
 |zero=>
  intro x v r
  cases x with
  |d x=>exact lg hM r
  |j0 x s lo n=>
   simp only[dS];split
   ·exact zae
   trivial
  |own x=>exact zcn
  |mo z x=>exact zci
  |_=>exact trivial
 |succ n ih=>
  intro x v r
  cases x with
  |d x=>exact lg hM r
  |ptr x off=>
   simp only[dS];split
   ·rename_i cs hb;obtain⟨b,c,e1,rfl⟩:=r;obtain⟨b',c',vs,T,us,e2,hh,hr⟩:=i.box x _ hb;rw[e1]at e2;cases e2;refine⟨b,off,rfl,λj hj=>?_⟩;have fZ:off+j<cs.length:=O;obtain⟨u,hu,FJ⟩:=hr.get (List.getElem?_eq_getElem fZ);refine⟨u,hF x _ b c hb e1 _ u (by have:=CO (us:=us) hu;simpa[World.cell?,hh]using this),?_⟩;exact zdx
   trivial
  |own x=>exact zcn
  |mo z x=>exact zci
  |rw x i s o=>exact trivial
  |mp x=>exact trivial
  |j0 x s lo n=>
   simp only[dS];split
   ·exact zae
   ·rename_i cs hb
    cases hle:Nat.ble ((lo+n)*s) cs.length with
    |false=>exact trivial
    |true=>
     have hle:=Dc hle;obtain⟨b,c,o,e1,rfl,ho,hc1,JA⟩:=r;obtain⟨b',c',vs,T,us,e2,hh,hr⟩:=i.box x _ hb;rw[e1]at e2;cases e2;refine⟨some ⟨b,o,none⟩,c.1-lo,rfl,O,?_⟩;by_cases h0:n=0
     ·exact .inl h0
     have ho:=ho O;refine .inr ⟨b,o,rfl,λk j hk hj=>?_⟩;have fZ:(lo+k)*s+j<cs.length:=by have:(lo+k+1)*s<=(lo+n)*s:=Vc _ O;rw[de _ 1]at this;omega
     obtain⟨u,hu,FJ⟩:=hr.get (List.getElem?_eq_getElem fZ);have he:o+k*s+j=(lo+k)*s+j:=by rw[ho,de]
     refine⟨u,hF x _ b c hb e1 _ u (by have:=CO (us:=us) hu;rw[he];simpa[World.cell?,hh]using this),?_⟩;exact zdx
   trivial
  |dZ f cs=>
   obtain⟨vs,rfl,hv⟩:=r;refine⟨vs,rfl,hv.length,λk u hu=>?_⟩;obtain⟨c,hc,hr⟩:=hv.get hu;simp only[hc]
   cases c with
   |d x=>exact lg hM hr
   |ptr x off=>exact ih (.ptr x off) u hr
def Fo:=@dS.rep
def vX(I:St)(x:SV):SV:=.d (dS 3 I x)
def kW(I:St):List SV->List SV
 |[]=>[]
 |x::r=>vX I x::kW I r
def pO(I:St):AV->AV
 |.s x=>.s (vX I x)
 |.g cs=>.g (kW I cs)
 |_=>.s (.d .bL)
def jD(I:St):List AV->List AV
 |[]=>[]
 |x::r=>pO I x::jD I r
def aKY:SV->Bool
 |.d _=>false
 |_=>true
def GS:List SV->Bool
 |[]=>false
 |x::r=>aKY x||GS r
def aOC:AV->Bool
 |.s x=>aKY x
 |.g cs=>GS cs
 |_=>true
def tI:List AV->Bool
 |[]=>false
 |x::r=>aOC x||tI r
def gZ(M:Mem)(V:Nm):List AV->List wa->Prop
 |[],[]=>True
 |c::cs,v::vs=>c.bI M V v/\gZ M V cs vs
 |_,_=>False
section
variable{R:Cx}{N:Nat}{M F:Mem}{V:Nm}{I:St}{a:Act}{w:Aa}(i:Inv R N M V I a w)(hM:Mem.le M F)
  (hF:∀x bc b c,aH I.box x=some (some bc)->V x=some (b,c)->∀o u,w.cell? ⟨b,o,none⟩=some u->F b o=some u)
include i hM hF
def kW.rep:∀{cs:List SV} {vs:List wa},cV M V cs vs->cV F nb (kW I cs) vs
 |[],[],_=>trivial
 |_::_,_::_,⟨h,r⟩=>⟨Fo i hM hF 3 _ _ h,kW.rep r⟩
 |[],_::_,h=>h.elim
 |_::_,[],h=>h.elim
def pO.rep{x:AV}{v:wa}(r:x.bI M V v):(pO I x).bI F nb v:=by
 cases x with
 |s x=>exact Fo i hM hF 3 _ _ r
 |g cs=>obtain⟨vs,rfl,hr⟩:=r;exact⟨vs,rfl,kW.rep i hM hF hr⟩
 |_=>exact trivial
def jD.rep:∀{cs:List AV} {vs:List wa},gZ M V cs vs->gZ F nb (jD I cs) vs
 |[],[],_=>trivial
 |_::_,_::_,⟨h,r⟩=>⟨pO.rep i hM hF h,jD.rep r⟩
 |[],_::_,h=>h.elim
 |_::_,[],h=>h.elim
end
def GS.rep{M:Mem}{V:Nm}{I:St}:∀{cs:List SV} {vs:List wa},GS cs=false->cV M V cs vs->cV M nb (kW I cs) vs
 |[],[],_,_=>trivial
 |c::_,_::_,h,⟨hc,r⟩=>by
  simp only[GS,Ed]at h;refine⟨?_,GS.rep h.2 r⟩
  cases c <;> first|exact hc|cases h.1
 |[],_::_,_,h=>h.elim
 |_::_,[],_,h=>h.elim
def tI.rep{M:Mem}{V:Nm}{I:St}:∀{cs:List AV} {vs:List wa},tI cs=false->gZ M V cs vs->gZ M nb (jD I cs) vs
 |[],[],_,_=>trivial
 |c::_,_::_,h,⟨hc,r⟩=>by
  simp only[tI,Ed]at h;refine⟨?_,tI.rep h.2 r⟩
  cases c with
  |s x=>cases x <;> first|exact hc|cases h.1
  |g cs=>obtain⟨vs,rfl,hr⟩:=hc;exact⟨vs,rfl,GS.rep h.1 hr⟩
  |_=>exact trivial
 |[],_::_,_,h=>h.elim
 |_::_,[],_,h=>h.elim
def xR:SV->Bool
 |.d (.val _)=>true
 |.d (.lit _)=>true
 |.d .bL=>true
 |_=>false
def oG:List SV->Bool
 |[]=>true
 |x::r=>xR x&&oG r
def WE:TV->Bool
 |.s x=>xR x
 |.g cs=>oG cs
def qV:List TV->Bool
 |[]=>true
 |x::r=>WE x&&qV r
def B4:AV->Bool
 |.s x=>xR x
 |.g cs=>oG cs
 |.t ts=>qV ts
 |_=>false
def xR.rep{M M':Mem}{V V':Nm}{x:SV}{v:wa}(h:xR x=true)(r:x.bI M V v):x.bI M' V' v:=by unfold xR at h;split at h <;> first|exact r|cases h
def oG.rep{M M':Mem}{V V':Nm}:∀{cs:List SV} {vs:List wa},oG cs=true->cV M V cs vs->cV M' V' cs vs
 |[],[],_,_=>trivial
 |_::_,_::_,h,⟨a,r⟩=>by simp only[oG,Bool.and_eq_true]at h;exact⟨xR.rep h.1 a,oG.rep h.2 r⟩
 |[],_::_,_,h=>h.elim
 |_::_,[],_,h=>h.elim
def WE.rep{M M':Mem}{V V':Nm}{x:TV}{v:wa}(h:WE x=true)(r:x.bI M V v):x.bI M' V' v:=by
 cases x with
 |s x=>exact xR.rep h r
 |g cs=>obtain⟨vs,e,hr⟩:=r;exact⟨vs,e,oG.rep h hr⟩
def qV.rep{M M':Mem}{V V':Nm}:∀{cs:List TV} {vs:List wa},qV cs=true->rF M V cs vs->rF M' V' cs vs
 |[],[],_,_=>trivial
 |_::_,_::_,h,⟨a,r⟩=>by simp only[qV,Bool.and_eq_true]at h;exact⟨WE.rep h.1 a,qV.rep h.2 r⟩
 |[],_::_,_,h=>h.elim
 |_::_,[],_,h=>h.elim
def B4.rep{M M':Mem}{V V':Nm}{x:AV}{v:wa}(h:B4 x=true)(r:x.bI M V v):x.bI M' V' v:=by
 cases x with
 |s x=>exact xR.rep h r
 |g cs=>obtain⟨vs,e,hr⟩:=r;exact⟨vs,e,oG.rep h hr⟩
 |t ts=>obtain⟨vs,e,hr⟩:=r;exact⟨vs,e,qV.rep h hr⟩
 |_=>cases h
structure yl(w w':Aa):Prop where
 below:Below w.heap.size w w'
 drawn:Dr w w'
def aF(P:Ba)(f:FuncId)(args:List AV)(r:AV):Prop:=
 (∀vs w,(callFunc f vs).run P w=.ok (.enter f vs) w)/\
 ∀(M:Mem) (w:Aa) (vs:List wa),Up w->gZ M nb args vs->lA M w->
  Calls P f vs.toArray w λe w'=>∃v M',e=.returned v/\r.bI M' nb v/\Grow w.heap.size M M'/\lA M' w'/\yl w w'
def Inv.after{R:Cx}{N:Nat}{M M':Mem}{V:Nm}{I:St}{a:Act}{w w':Aa}(i:Inv R N M V I a w)(T4:yl w w')(hg:Grow w.heap.size M M')(hm:lA M' w'):
  Inv R N M' V I a w'/\Grow R.B M M'/\cE R w w':=by
 have hb:=T4.below
 have hi:=i.heap.le
 have kp:cE R w w':=⟨hb.os,hb.tape,hb.output,hb.size,λk hk _=>hb.block k O,T4.drawn⟩
 refine⟨⟨i.defers,i.tmps,i.heap.keep kp,λt=>Vf hg.le (Kf V) (i.env t),hm,i.keys,?_,i.inj,?_,i.low,i.ref⟩,⟨hg.le,λb o u e=>(hg.new b o u e).imp id (λh=>Xb hi h)⟩,kp⟩
 ·intro x bc e;have hr:=i.box x bc e;exact xh hg.le (Kf V) rfl (λb c e'=>hb.block b (i.vM e e')) hr
 ·intro x bc b c e e' o
  cases h:M' b o with
  |none=>rfl
  |some u=>
   rcases hg.new b o u h with h1|h1
   ·rw[i.apart x bc b c e e' o]at h1;cases h1
   have:=i.vM e e';omega
section
variable{P:Ba}{I:St}{g:Da Bool}{K:AV->Prop}{o:Oper}
def dY(g:Da Bool)(I:St):List Ca->(List AV->Prop)->Prop
 |[],K=>K []
 |x::r,K=>fe g (ev I x) λva=>dY g I r λl=>K (va::l)
def lk:∀{l:List Ca} {K:List AV->Prop},dY g I l K->
  ∃ars,K ars/\(act g->∀R N M V a w,Inv R N M V I a w->gZ M V ars (l.map a.eval))
 |[],_,h=>⟨[],h,λ_ _ _ _ _ _ _ _=>trivial⟩
 |x::r,K,h=>by replace h:=Db h;obtain⟨va,h,hr⟩:=h;obtain⟨ns,hk,hs⟩:=lk h;exact⟨_,hk,λha R N M V a w i=>⟨hr ha R N M V a w i,hs ha R N M V a w i⟩⟩
def wM:List CV->List AV
 |[]=>[]
 |.d x::r=>.s (.d x)::wM r
 |.ptr x off::r=>.s (.ptr x off)::wM r
def wM.rep{M:Mem}{V:Nm}:∀{cs:List CV} {vs:List wa},vO M V cs vs->gZ M V (wM cs) vs
 |[],[],_=>trivial
 |.d _::_,_::_,⟨h,r⟩=>⟨h,wM.rep r⟩
 |.ptr _ _::_,_::_,⟨h,r⟩=>⟨h,wM.rep r⟩
 |[],_::_,h=>h.elim
 |_::_,[],h=>h.elim
def pk:=@wM.rep
def jF(c:Nat->DV):Nat->Nat->List AV
 |0,_=>[]
 |k+1,j=>.s (.d (c j))::jF c k (j+1)
def jF.rep{M:Mem}{V:Nm}{c:Nat->DV}:∀{vs:List wa} {j:Nat},(∀i u,vs[i]? =some u->(c (j+i)).bI M u)->gZ M V (jF c vs.length j) vs
 |[],_,_=>trivial
 |v::r,j,h=>⟨h 0 v rfl,jF.rep (λi u hu=>by have:=h (i+1) u (by simpa using hu);rwa [show j+(i+1)=j+1+i by omega]at this)⟩
def gZ.append:∀{M V} {cs ds:List AV} {vs us:List wa},gZ M V cs vs->gZ M V ds us->gZ M V (cs++ds) (vs++us)
 |_,_,[],_,[],_,_,h=>h
 |_,_,_::_,_,_::_,_,⟨h,r⟩,k=>⟨h,gZ.append r k⟩
 |_,_,[],_,_::_,_,h,_=>h.elim
 |_,_,_::_,_,[],_,h,_=>h.elim
def gD(c:Nat->DV):Nat->Nat->List SV
 |0,_=>[]
 |k+1,j=>.d (c j)::gD c k (j+1)
def gD.rep{M:Mem}{V:Nm}{c:Nat->DV}:∀{vs:List wa} {j:Nat},(∀i u,vs[i]? =some u->(c (j+i)).bI M u)->cV M V (gD c vs.length j) vs
 |[],_,_=>trivial
 |v::r,j,h=>⟨h 0 v rfl,gD.rep (λi u hu=>by have:=h (i+1) u (by simpa using hu);rwa [show j+(i+1)=j+1+i by omega]at this)⟩
def mV(P:Ba)(I:St)(g:Da Bool)(f:FuncId)(args:List AV)(K:AV->Prop):Prop:=
 ∃r,imp g (aF P f (jD I args) r)/\(bif !B4 r&&tI args then False else K r)
def Ds{fo:Ca}{args:Array Ca}{wR:Array Ea}(ho:o.op=.call {callee:=.value fo,args:=args,argTypes:=wR}){ars:List AV}
  (has:act g->∀R N M V a w,Inv R N M V I a w->gZ M V ars (args.toList.map a.eval)):∀{f:FuncId} {pre extra:List AV},mV P I g f (pre++(ars++extra)) K->
   (act g->∀R N M V a w,Inv R N M V I a w->∃ps us:List wa,a.eval fo=.func (.func f) ps.toArray us.toArray/\gZ M V pre ps/\gZ M V extra us)->
   ∃r,K r/\(act g->∀R N M V a w,Inv R N M V I a w->∃f vs,(execOp a.eval o).run P w=.ok (.enter f vs) w/\
   Calls P f vs w λe w'=>∃v M',e=.returned v/\r.bI M' V v/\Inv R N M' V I a w'/\Grow R.B M M'/\cE R w w'):=by
 intro f pre extra ⟨r,hc,hk⟩ hx
 cases hb:(!B4 r&&tI (pre++(ars++extra)))with
 |true=>rw[hb]at hk;exact hk.elim
 |false=>
  rw[hb]at hk;refine⟨r,hk,λha R N M V a w i=>?_⟩;obtain⟨ps,us,eu,hps,SG⟩:=hx ha R N M V a w i;have xP:=hps.append ((has ha R N M V a w i).append SG);obtain⟨z7,eF⟩:=hc.get ha;refine⟨f,(ps++(args.toList.map a.eval++us)).toArray,?_,?_⟩
  ·have:(ps.toArray++(args.map a.eval++us.toArray))=(ps++(args.toList.map a.eval++us)).toArray:=by apply Jd;simp
   simp[execOp,ho,resolve,eu,Deferred.ofValue,invoke,this,z7]
  by_cases hr:tI (pre++(ars++extra))=true
  ·have hfl:B4 r=true:=by rw[hr]at hb;simpa using hb
   refine(eF (full w) w _ i.heap.Kq (jD.rep i i.mem (λ_ _ _ _ _ _ _ _ h=>h) xP) (λ_ _ _ h=>h)).mono ?_;rintro e w' ⟨v,M',rfl,TQ,hg,hm,Q2⟩;have:=i.after Q2 (fb _ M) (λb o u h=>by rw[Q2.below.cell (p:=⟨b,o,none⟩) (i.HC h)];exact i.mem b o u h);exact⟨v,M,rfl,B4.rep hfl TQ,this⟩
  have hr:tI (pre++(ars++extra))=false:=by simpa using hr
  refine(eF M w _ i.heap.Kq (tI.rep hr xP) i.mem).mono ?_;rintro e w' ⟨v,M',rfl,TQ,hg,hm,Q2⟩;exact⟨v,M',rfl,Vf (Xe _) (λ_ _ h=>by cases h) TQ,i.after Q2 hg hm⟩
def call.key{fo:Ca}{args:Array Ca}{wR:Array Ea}(ho:o.op=.call {callee:=.value fo,args:=args,argTypes:=wR}){ars:List AV}
  (has:act g->∀R N M V a w,Inv R N M V I a w->gZ M V ars (args.toList.map a.eval)):∀{f:FuncId} {extra:List AV},mV P I g f (ars++extra) K->
   (act g->∀R N M V a w,Inv R N M V I a w->∃us:List wa,a.eval fo=.func (.func f) #[] us.toArray/\gZ M V extra us)->
   ∃r,K r/\(act g->∀R N M V a w,Inv R N M V I a w->∃f vs,(execOp a.eval o).run P w=.ok (.enter f vs) w/\
   Calls P f vs w λe w'=>∃v M',e=.returned v/\r.bI M' V v/\Inv R N M' V I a w'/\Grow R.B M M'/\cE R w w'):=by
 intro f extra hd hx
 exact Ds (pre:=[]) ho has hd λha R N M V a w i=>by obtain⟨us,e,h⟩:=hx ha R N M V a w i;exact⟨[],us,e,trivial,h⟩
end
abbrev aP:=List (Nat×Da jK)
def KI(P:Ba)(o:Oper)(I:St)(r:AV)(bx:aP):Prop:=
 ∀R N M V a w,Inv R N M V I a w->∃v w' M' V',
  ((execOp a.eval o).run P w=.ok (.value v) w'\/((execOp a.eval o).run P w=.ok .skip w'/\v=undef))/\
  r.bI M' V' v/\Inv R N M' V' ⟨I.env,bx⟩ a w'/\Grow R.B M M'/\cE R w w'
section
variable{P:Ba}{I:St}{K:AV->aP->Prop}{o:Oper}
def x9(T:List (Nat×bV))(I:St)(d t:Nat)(K:AV->aP->Prop):Prop:=
 match dE T t with
 |some ti=>match aH I.box d with
  |none=>K (.s (.ptr d 0)) ((d,some (bif L7.contains t then .fresh t ti.zero else .cells (iB ti.zero)))::I.box)
  |some _=>False
 |none=>False
def alloc.spec{T:List (Nat×bV)}(hT:cD P T){d t:Nat}(ho:o.op=.alloc t)(h:x9 T I d t K):∃r bx,K r bx/\KI P o I r bx:=by
 unfold x9 at h;split at h
 case h_2=>cases h
 rename_i ti gG;have gF:=hT.get gG;split at h
 case h_2=>cases h
 rename_i hd;refine⟨_,_,h,λR N M V a w i=>?_⟩;obtain⟨z,hz,LB⟩:=gF.w6 w;have a7:(execOp a.eval o).run P w=.ok (.value (.pointer (some ⟨w.heap.size,0,none⟩))) (w.alloc (.cells z.cells t)):=by simp[execOp,ho,Instr.alloc,hz,newVar,newRow]
 obtain⟨V',h1,h2,h3,h4⟩:=i.new (w':=(w.alloc (.cells z.cells t))) (c:=(0,0)) hd (ob:=.cells z.cells t) rfl rfl rfl rfl (bc:=bif L7.contains t then .fresh t ti.zero else .cells (iB ti.zero)) (by
  intro V' e _;have:z.cells=ti.zero.toArray:=by rw[<-LB]
  cases L7.contains t with
  |true=>exact⟨_,_,e,by rw[this];exact Ke w _⟩
  |false=>refine⟨_,_,ti.zero,t,[],e,?_,Wh M V' _⟩;rw[this,mh];exact Ke w _)
 exact vw
def KB(I:St)(d:Nat)(x:Ca)(K:AV->aP->Prop):Prop:=
 fe none (ev I x) λva=>match pH va with
  |some cs=>bif l9 cs then match aH I.box d with
   |none=>K (.s (.ptr d 0)) ((d,some (.cells cs))::I.box)
   |some _=>False
   else False
  |none=>False
def iY:act none:=λ_ h=>by cases h
def box.spec{d t:Nat}{x:Ca}(ho:o.op=.box t x)(h:KB I d x K):∃r bx,K r bx/\KI P o I r bx:=by
 unfold KB at h;replace h:=Db h;obtain⟨va,h,hr⟩:=h;split at h
 case h_2=>cases h
 rename_i cs nR
 cases oU:l9 cs with
 |false=>rw[oU]at h;cases h
 |true=>
  rw[oU]at h;simp only[cond_true]at h;split at h
  case h_2=>cases h
  rename_i hd;refine⟨_,_,h,λR N M V a w i=>?_⟩;obtain⟨vs,hvs,eD⟩:=im nR oU (hr iY R N M V a w i);have a7:(execOp a.eval o).run P w=.ok (.value (.pointer (some ⟨w.heap.size,0,none⟩))) (w.alloc (.cells (a.eval x).cells t)):=by simp[execOp,ho,Instr.box,newVar,newRow]
  obtain⟨V',h1,h2,h3,h4⟩:=i.new (w':=(w.alloc (.cells (a.eval x).cells t))) (c:=(0,0)) hd (ob:=.cells (a.eval x).cells t) rfl rfl rfl rfl (bc:=.cells cs) (by
   intro V' e hle;refine⟨_,_,vs,t,[],e,?_,gk (Xe _) hle eD⟩;have:(a.eval x).cells=vs.toArray:=by rw[<-hvs]
   rw[this,mh];exact Ke w _)
  exact vw
def OP:SV->DV
 |.d x=>x
 |_=>.bL
def o5:List SV->Bool
 |[]=>true
 |.d _::r=>o5 r
 |_::_=>false
def Ek:∀{cs:List SV} {j:Nat} {c:SV},o5 cs=true->cs[j]? =some c->c=.d (OP c)
 |[],_,_,_,h=>by simp at h
 |.d x::r,0,c,_,h=>by simp at h;subst h;rfl
 |.d x::r,j+1,c,ha,h=>Ek (cs:=r) ha ai
 |.ptr _ _::_,_,_,h,_=>by cases h
 |.own _::_,_,_,h,_=>by cases h
 |.rw _ _ _ _::_,_,_,h,_=>by cases h
 |.j0 _ _ _ _::_,_,_,h,_=>by cases h
 |.mp _::_,_,_,h,_=>by cases h
 |.dZ _ _::_,_,_,h,_=>by cases h
def eT(f:Nat->Nat->DV)(i o:Nat)(cs:List SV):Nat->Nat->DV:=λi' j=>
 if i'=i then(bif Nat.ble o j&&Nat.blt j (o+cs.length)then match cs[j-o]? with|some c=>OP c|none=>.bL else f i' j)else f i' j
def o7(T:List (Nat×bV))(I:St)(t:Nat)(x y:Ca)(K:AV->aP->Prop):Prop:=
 fe none (ev I x) λva=>fe none (ev I y) λvv=>match dE T t,pH vv with
  |some ti,some cs=>bif l9 cs&&Nat.beq cs.length ti.size then
    match va with
    |.s (.ptr b off)=>match aH I.box b with
     |some (some (.cells Z2))=>bif Nat.ble (off+ti.size) Z2.length then
       K (.s (.d .bL)) ((b,some (.cells (Z2.take off++(cs++Z2.drop (off+cs.length)))))::I.box)else False
     |_=>False
    |.s (.rw b i s off)=>match aH I.box b with
     |some (some (.row e n s' f))=>bif o5 cs&&Nat.beq s s'&&Nat.ble (off+ti.size) s then
       i<n/\K (.s (.d .bL)) ((b,some (.row e n s' (eT f i off cs)))::I.box)else False
     |some (some (.b8 e n s' f))=>bif o5 cs&&Nat.beq s s'&&Nat.ble (off+ti.size) s then
       i<n/\K (.s (.d .bL)) ((b,some (.b8 e n s' (eT f i off cs)))::I.box)else False
     |_=>False
    |_=>False
   else False
  |_,_=>False
def jB(w:Aa)(g:Nat)(cur:Array wa)(t:Ea)(o:Nat)(vs:List wa)(hg:w.heap[g]? =some (.cells cur t (0,0)))(hl:o+vs.length<=cur.size)(h1:∀v∈vs,v.oneCell'=true)(P:Ba):
  (storeCells ⟨g,o,none⟩ vs).run P w=.ok () (w.setRow g (cur.toList.take o++(vs++cur.toList.drop (o+vs.length))).toArray):=by
 have:=wy P g o t vs 0 cur w hg (by simpa using hl) h1
 simpa using this
def store.spec{T:List (Nat×bV)}(hT:cD P T){t:Nat}{x y:Ca}(ho:o.op=.store t x y)(h:o7 T I t x y K):∃r bx,K r bx/\KI P o I r bx:=by
 unfold o7 at h;replace h:=Db h;obtain⟨va,h,hr⟩:=h;replace h:=Db h;obtain⟨vv,h,TQ⟩:=h;split at h
 case h_2=>cases h
 rename_i ti cs gG nR;have gF:=hT.get gG
 cases oU:(l9 cs&&Nat.beq cs.length ti.size)with
 |false=>rw[oU]at h;cases h
 |true=>
  rw[oU]at h;simp only[Bool.and_eq_true]at oU;have hlen:=Mb oU.2;simp only[cond_true]at h;split at h
  case h_3=>cases h
  ·rename_i b off;split at h
   case h_2=>cases h
   rename_i Z2 hb
   cases hle:Nat.ble (off+ti.size) Z2.length with
   |false=>rw[hle]at h;cases h
   |true=>
    rw[hle]at h;have hle:=Dc hle;refine⟨_,_,h,λR N M V a w i=>?_⟩;obtain⟨k,c,e1,ea⟩:=hr iY R N M V a w i;obtain⟨k',c',vs,ty,zs,e2,hh,eD⟩:=i.box b _ hb;rw[e1]at e2;cases e2;obtain⟨us,SG,FJ⟩:=im nR oU.1 (TQ iY R N M V a w i);have hlu:=FJ.length;have SJ:=eD.length;have jO:=jB w k (vs++zs).toArray ty off us hh re (FJ.k8 oU.1) P;have mL:(a.eval y).cells.size=ti.size:=by rw[<-Array.length_toList,SG];omega
    have aPT:(vs++zs).toArray.toList.take off++(us++(vs++zs).toArray.toList.drop (off+us.length))=(vs.take off++(us++vs.drop (off+us.length)))++zs:=by show(vs++zs).take off++(us++(vs++zs).drop (off+us.length))=_;rw[List.take_append_of_le_length O,List.drop_append_of_le_length O];simp
    have a7:(execOp a.eval o).run P w=.ok .skip (w.setRow k ((vs.take off++(us++vs.drop (off+us.length)))++zs).toArray):=by rw[<-aPT];simp[execOp,ho,Instr.storeAt,Instr.sureAddr,ea,storeVar,gF.iE,mL,SG,jO]
    have hw:=i.write (bc':=.cells (Z2.take off++(cs++Z2.drop (off+cs.length)))) hb e1 (w':=w.setRow k ((vs.take off++(us++vs.drop (off+us.length)))++zs).toArray) sM (λj hj=>Nl w k j _ hj) rfl rfl rfl
     ⟨k,c,_,ty,zs,e1,Rl w k (vs++zs).toArray _ ty _ hh,(eD.take off).append (FJ.append (by rw[<-hlu];exact eD.drop _))⟩
    exact jf
  rename_i b ix s off;split at h
  case h_3=>cases h
  ·rename_i e n s' f hb
   cases hc:(o5 cs&&Nat.beq s s'&&Nat.ble (off+ti.size) s)with
   |false=>rw[hc]at h;cases h
   |true=>
    rw[hc]at h;simp only[Bool.and_eq_true]at hc;have hs:=Mb hc.1.2;have hle:=Dc hc.2;subst hs;obtain⟨hix,h⟩:=h;refine⟨_,_,h,λR N M V a w i=>?_⟩;obtain⟨k,c,e1,ea⟩:=hr iY R N M V a w i;obtain⟨k',c',cur,e2,hh,hl0,mL,hn,I9,cY⟩:=i.box b _ hb;rw[e1]at e2;cases e2;obtain⟨us,SG,FJ⟩:=im nR oU.1 (TQ iY R N M V a w i);have hlu:=FJ.length;have hbound:ix*s+s<=cur.size:=zdB
    have jO:=jB w k cur e (ix*s+off) us hh O (FJ.k8 oU.1) P;have a7:(execOp a.eval o).run P w=.ok .skip (w.setRow k (cur.toList.take (ix*s+off)++(us++cur.toList.drop (ix*s+off+us.length))).toArray):=zai
    have hw:=i.write (bc':=.row e n s (eT f ix off cs)) hb e1 (w':=w.setRow k (cur.toList.take (ix*s+off)++(us++cur.toList.drop (ix*s+off+us.length))).toArray) sM (λj hj=>Nl w k j _ hj) rfl rfl rfl
     ⟨k,c,_,e1,Rl w k cur _ e _ hh,hl0,by simp;omega,hn,I9,λi' j bC hj=>?_⟩
    ·exact jf
    exact zg
  rename_i e n s' f hb
  cases hc:(o5 cs&&Nat.beq s s'&&Nat.ble (off+ti.size) s)with
  |false=>rw[hc]at h;cases h
  |true=>
   rw[hc]at h;simp only[Bool.and_eq_true]at hc;have hs:=Mb hc.1.2;have hle:=Dc hc.2;subst hs;obtain⟨hix,h⟩:=h;refine⟨_,_,h,λR N M V a w i=>?_⟩;obtain⟨k,c,e1,ea⟩:=hr iY R N M V a w i;obtain⟨cur,hh,hl0,mL,hn,I9,cY⟩:=i.box b _ hb k c e1;obtain⟨us,SG,FJ⟩:=im nR oU.1 (TQ iY R N M V a w i);have hlu:=FJ.length;have hbound:ix*s+s<=cur.size:=zdB
   have jO:=jB w k cur e (ix*s+off) us hh O (FJ.k8 oU.1) P;have a7:(execOp a.eval o).run P w=.ok .skip (w.setRow k (cur.toList.take (ix*s+off)++(us++cur.toList.drop (ix*s+off+us.length))).toArray):=zai
   have hq:∀i' j,i'<n->j<s->∃u,(cur.toList.take (ix*s+off)++(us++cur.toList.drop (ix*s+off+us.length))).toArray[i'*s+j]? =some u/\(eT f ix off cs i' j).bI M u:=by intro i' j bC hj;exact zg
   have hw:=i.write (bc':=.b8 e n s (eT f ix off cs)) hb e1 (w':=w.setRow k (cur.toList.take (ix*s+off)++(us++cur.toList.drop (ix*s+off+us.length))).toArray) sM (λj hj=>Nl w k j _ hj) rfl rfl rfl
    (λb1 c1 e3=>by rw[e1]at e3;cases e3;exact⟨_,Rl w k cur _ e _ hh,hl0,by simp;omega,hn,I9,λi' j bC hj=>hq i' j bC hj⟩)
   exact jf
def S1(s:Nat)(cs:List SV):Nat->Nat->DV:=λi j=>match cs[i*s+j]? with
 |some c=>OP c
 |none=>.bL
def S3(z:List SV):Nat->List SV
 |0=>[]
 |n+1=>z++S3 z n
def KA(T:List (Nat×bV))(I:St)(d t len:Nat)(pa:List (Nat×Ca))(K:AV->aP->Prop):Prop:=
 parts none I pa λps=>match dE T t with
  |some ti=>match ti.j7 with
   |.slice e=>match dE T e with
    |some te=>match qW (λi=>some (i*te.size,te.size)) (S3 (iB te.zero) len) ps with
     |some cs=>bif o5 cs&&Nat.ble (len*te.size) 16777216&&Nat.blt 0 te.size&&Nat.beq te.zero.length te.size then match aH I.box d with
      |none=>K (.s (.own d)) ((d,some (.row e len te.size (S1 te.size cs)))::I.box)
      |some _=>False
      else False
     |none=>False
    |none=>False
   |_=>False
  |none=>False
def S3.rep{M:Mem}{V:Nm}{z:List SV}{zv:List wa}(h:cV M V z zv):∀n,∃vs:List wa,cV M V (S3 z n) vs/\vs.length=n*zv.length/\∀j,j<n*zv.length->vs[j]? =zv[j%zv.length]?
 |0=>⟨[],trivial,sM,sM⟩
 |n+1=>by
  obtain⟨vs,hr,hl,hj⟩:=S3.rep h n;refine⟨zv++vs,h.append hr,by simp[hl,Bj,Wi],λj tC=>?_⟩;by_cases h1:j<zv.length
  ·rw[Jc h1,Rh h1]
  rw[Gd O,hj _ (by rw[Bj]at tC;omega)];congr 1;rw[Nat.mod_eq_sub_mod (show j>=zv.length by omega)]
def bsl.spec{T:List (Nat×bV)}(hT:cD P T){d t len:Nat}{pa:Array (Nat×Ca)}(ho:o.op=.buildSlice t len pa)(h:KA T I d t len pa.toList K):∃r bx,K r bx/\KI P o I r bx:=by
 unfold KA at h;replace h:=Qr h;obtain⟨ps,h,hs⟩:=h;split at h
 case h_2=>cases h
 rename_i ti gG;have gF:=hT.get gG;split at h
 case h_2=>cases h
 rename_i e hu;have dB:P.underlying t=some (.slice e):=gF.isSlice hu;split at h
 case h_2=>cases h
 rename_i te nD;have mS:=hT.get nD;split at h
 case h_2=>cases h
 rename_i cs nR
 cases hc:(o5 cs&&Nat.ble (len*te.size) 16777216&&Nat.blt 0 te.size&&Nat.beq te.zero.length te.size)with
 |false=>rw[hc]at h;cases h
 |true=>
  rw[hc]at h;simp only[cond_true]at h;simp only[Bool.and_eq_true]at hc;have c2:=Dc hc.1.1.2;have c3:0<te.size:=Dc hc.1.2;have c4:=Mb hc.2;split at h
  case h_2=>cases h
  rename_i hd;refine⟨_,_,h,λR N M V a w i=>?_⟩;obtain⟨z,hz,LB⟩:=mS.w6 w;obtain⟨zs,hzr,hzl,hzj⟩:=S3.rep (Wh M V te.zero) len;obtain⟨zS,aG4,eD⟩:=Io (pl':=λi=>some (i*te.size,te.size)) (λ_ _ h=>h) nR (hs iY R N M V a w i) hzr;have hzero:(Array.range (len*te.size)).map (z.cells[· %z.cells.size]!)=zs.toArray:=by
   apply Jd;apply Si;intro j;have hzs:z.cells.size=te.size:=by rw[<-Array.length_toList,LB,c4]
   by_cases hj:j<len*te.size
   ·have h1:=hzj j (by rw[c4];exact hj);have h2:j%te.size<z.cells.size:=by rw[hzs];exact Cg _ c3
    simp only[ir,sy,ag,dy hj,lr,h1];rw[c4,<-LB,hzs,Sf z.cells _ h2];simp[h2]
   rw[Xx re,Xx (by simp[hzl,c4];omega)]
  have z6:¬len*te.size>2^24:=O;have aQM:=eD.length;have hlc:cs.length=len*te.size:=by
   have:∀{ps:List (Nat×List SV)} {cells cs:List SV},qW (λi=>some (i*te.size,te.size)) cells ps=some cs->cs.length=cells.length:=by
    intro ps;induction ps with
    |nil=>intro cells cs h;simp[qW]at h;rw[h]
    |cons p r ih=>
     intro cells cs h;obtain⟨i,c⟩:=p;simp only[qW]at h
     cases pV:(Nat.beq c.length te.size&&Nat.ble (i*te.size+te.size) cells.length)with
     |false=>rw[pV]at h;cases h
     |true=>rw[pV]at h;simp only[Bool.and_eq_true]at pV;have k1:=Mb pV.1;have k2:=Dc pV.2;rw[ih h];simp;omega
   rw[this nR];have:=hzr.length;rw[<-this,hzl,c4]
  have aL2:(Instr.buildSlice t len (pa.map λ(i,x)=>(i,a.eval x))).run P w=.ok (.slice (some ⟨w.heap.size,0,none⟩) len len) (w.alloc (.cells zS.toArray e)):=by
   by_cases h0:len*te.size=0
   ·obtain rfl:len=0:=by
     rcases fy len with h|h
     ·exact h
     exact absurd h0 (Nat.ne_of_gt (Nat.mul_pos h c3))
    have:zs=[]:=fh (by rw[hzl];simp);subst this;simp[Instr.buildSlice,Bb dB,mS.iE,newRow];have e0:∀f:Nat->wa,Array.map f (Array.range 0)= #[]:=λf=>by apply Jd;simp
    simp[e0,aG4]
   obtain⟨ie,EU,y8,_,z',hz',_⟩:=mS.Iq;have hzz:z'=z:=by simp[zeroValue,typeInfo,EU,hz']at hz;exact hz
   subst hzz;have aFS:¬len*ie.size>2^24:=by rw[y8];exact z6
   refine run_buildSlice w t e len _ zS.toArray ie z' dB EU hz' aFS (by rw[y8];exact h0) ?_;rw[y8,hzero,ir];exact aG4
  have a7:(execOp a.eval o).run P w=.ok (.value (.slice (some ⟨w.heap.size,0,none⟩) len len)) (w.alloc (.cells zS.toArray e)):=by simp[execOp,ho,aL2]
  obtain⟨V',h1,h2,h3,h4⟩:=i.new (w':=w.alloc (.cells zS.toArray e)) (c:=(len,len)) hd (ob:=.cells zS.toArray e) rfl rfl rfl rfl (bc:=.row e len te.size (S1 te.size cs)) (by
   intro V' iX hle;refine⟨_,_,zS.toArray,iX,Ke w _,rfl,by simp;omega,mb _,?_,λk j hk hj=>?_⟩
   ·have:len<=len*te.size:=Sq _ c3;unfold maxLen;omega
   have fZ:k*te.size+j<cs.length:=by rw[hlc];have:(k+1)*te.size<=len*te.size:=Vc _ hk;exact qp
   obtain⟨u,hu,hr⟩:=eD.get (List.getElem?_eq_getElem fZ);refine⟨u,by simpa using hu,?_⟩;simp only[S1,List.getElem?_eq_getElem fZ];have:=Ek hc.1.1.1 (List.getElem?_eq_getElem fZ);rw[this]at hr;exact hr)
  exact⟨_,_,M,V',.inl a7,⟨_,_,h1,rfl,mb _⟩,h3,fb _ _,h4⟩
end
section world
variable{w:Aa}{R:Cx}{N:Nat}{M:Mem}{V:Nm}{I:St}{a:Act}
def Inv.kill{x:Nat}{y:Da jK}(i:Inv R N M V I a w)(_hx:aH I.box x=some y):Inv R N M V ⟨I.env,(x,none)::I.box⟩ a w:=by
 have hl:∀z bc,aH ((x,none)::I.box) z=some (some bc)->aH I.box z=some (some bc):=λz bc e=>by
  rw[aL]at e;split at e
  ·cases e
  exact e
 refine⟨i.defers,i.tmps,i.heap,i.env,i.mem,λz p e=>?_,λz bc e=>i.box z bc (hl z bc e),λz u bz bu b c c' ez eu=>i.inj z u bz bu b c c' (hl _ _ ez) (hl _ _ eu),λz bc b c e=>i.apart z bc b c (hl _ _ e),λz bc b c e=>i.low z bc b c (hl _ _ e),i.ref⟩;obtain⟨q,hq⟩:=i.keys z p e;by_cases hz:x=z
 ·exact⟨_,by rw[aL,La hz]⟩
 exact⟨q,by rw[aL,Ka hz];exact hq⟩
def Inv.move{x d:Nat}{bc bc':jK}{b:Nat}{c c':Nat×Nat}(i:Inv R N M V I a w)(hx:aH I.box x=some (some bc))(hβ:V x=some (b,c))(hd:aH I.box d=none){w':Aa}
  (mL:w'.heap.size=w.heap.size) (hold:∀k,k≠b->w'.heap[k]? =w.heap[k]?) (ho:w'.os=w.os) (ht:w'.tape=w.tape) (aCF:w'.output=w.output)
  (hb:∀V':Nm,V' d=some (b,c')->Nm.le V V'->cN M V' w' d bc') (hdr:Dr w w':=by exact trivial):
  ∃V',V' d=some (b,c')/\Nm.le V V'/\Inv R N M V' ⟨I.env,(d,some bc')::(x,none)::I.box⟩ a w'/\cE R w w':=by
 have HX:V d=none:=xk
 have DQ:x≠d:=λh=>by subst h;rw[hd]at hx;cases hx
 let V':Nm:=λy=>if y=d then some (b,c')else V y
 have iX:V' d=some (b,c'):=by simp[V']
 have HT:Nm.le V V':=λy p e=>by
  by_cases hy:y=d
  ·subst hy;rw[HX]at e;cases e
  simp[V',hy,e]
 have oE:∀y,y≠d->V' y=V y:=λy hy=>by simp[V',hy]
 have C2:=i.apart x bc b c hx hβ
 have aCJ:∀k o u,M k o=some u->k≠b:=λk o u e h=>by subst h;rw[C2 o]at e;cases e
 have cQ:∀y bx,aH ((d,some bc')::(x,none)::I.box) y=some (some bx)->(y=d/\bx=bc')\/(y≠d/\y≠x/\aH I.box y=some (some bx)):=λy bx e=>by
  rw[aL]at e;split at e
  ·rename_i h;subst h;simp at e;exact .inl ⟨rfl,e.symm⟩
  rename_i h;rw[aL]at e;split at e
  ·cases e
  rename_i h2;exact .inr ⟨λk=>h k.symm,λk=>h2 k.symm,e⟩
 have TR:∀y bx b' c1,y≠x->aH I.box y=some (some bx)->V y=some (b',c1)->b'≠b:=λy bx b' c1 hy e e' h=>by subst h;exact hy (i.inj y x bx bc b' c1 c e hx e' hβ)
 have kp:cE R w w':=⟨ho,ht,aCF,O,λk hk hm=>by
   refine hold k (λh=>?_);subst h;rcases i.low x bc k c hx hβ with h|h
   ·omega
   exact hm h,hdr⟩
 refine⟨V',iX,HT,⟨i.defers,i.tmps,i.heap.keep kp,λt=>Vf (Xe M) HT (i.env t),?_,?_,?_,?_,?_,?_,?_⟩,kp⟩
 ·exact za3
 ·intro y p e;by_cases hy:y=d
  ·subst hy;exact⟨_,by rw[aL,La rfl]⟩
  rw[oE y hy]at e;obtain⟨z,hz⟩:=i.keys y p e;by_cases hyx:x=y
  ·exact⟨_,by rw[aL,Ka (λh=>hy h.symm),aL,La hyx]⟩
  exact⟨z,by rw[aL,Ka (λh=>hy h.symm),aL,Ka hyx];exact hz⟩
 ·intro y bx e;rcases cQ y bx e with⟨rfl,rfl⟩|⟨hy,hyx,e⟩
  ·exact hb V' iX HT
  have hr:=i.box y bx e;exact xh (Xe M) HT (oE y hy) (λb' c1 e'=>hold b' (TR y bx b' c1 hyx e e')) hr
 ·intro y z bx bz k c1 c2 ey ez hy hz;by_cases EO:y=d
  ·by_cases hzd:z=d
   ·rw[EO,hzd]
   rcases cQ z bz ez with⟨h,_⟩|⟨_,hzx,ez'⟩
   ·exact absurd h hzd
   rw[EO,iX]at hy;cases hy;rw[oE z hzd]at hz;exact absurd rfl (TR z bz _ _ hzx ez' hz)
  rcases cQ y bx ey with⟨h,_⟩|⟨_,hyx,Z8⟩
  ·exact absurd h EO
  rw[oE y EO]at hy;by_cases hzd:z=d
  ·rw[hzd,iX]at hz;cases hz;exact absurd rfl (TR y bx _ _ hyx Z8 hy)
  rcases cQ z bz ez with⟨h,_⟩|⟨_,hzx,ez'⟩
  ·exact absurd h hzd
  rw[oE z hzd]at hz;exact i.inj y z bx bz k c1 c2 Z8 ez' hy hz
 ·intro y bx k c1 ey hy o;by_cases EO:y=d
  ·rw[EO,iX]at hy;cases hy;exact C2 o
  rcases cQ y bx ey with⟨h,_⟩|⟨_,_,Z8⟩
  ·exact absurd h EO
  rw[oE y EO]at hy;exact i.apart y bx k c1 Z8 hy o
 ·intro y bx k c1 ey hy;by_cases EO:y=d
  ·rw[EO,iX]at hy;cases hy;exact i.low x bc b c hx hβ
  rcases cQ y bx ey with⟨h,_⟩|⟨_,_,Z8⟩
  ·exact absurd h EO
  rw[oE y EO]at hy;exact i.low y bx k c1 Z8 hy
 ·intro y hy;obtain⟨h1,p,h2⟩:=i.ref y hy;by_cases EO:y=d
  ·subst EO;rw[HX]at h2;cases h2
  rw[oE y EO];exact⟨h1,p,h2⟩
end world
def sF(I:St):AV->Da (Nat×Nat×(Nat->Nat->DV))
 |.s (.own y)=>match aH I.box y with
  |some (some (.row _ m s f))=>some (m,s,f)
  |_=>none
 |.s (.d (.fU m s f))=>some (m,s,f)
 |.s (.j0 y s lo n)=>match aH I.box y with
  |some (some (.row _ _ s' f))=>bif Nat.beq s s' then some (n,s,λi=>f (lo+i))else none
  |_=>none
 |_=>none
def sF.rep{R:Cx}{N:Nat}{M:Mem}{V:Nm}{I:St}{a:Act}{w:Aa}(i:Inv R N M V I a w){va:AV}{m s:Nat}{f:Nat->Nat->DV}{v:wa}(h:sF I va=some (m,s,f))(r:va.bI M V v):
  ∃ad cap,v=.slice ad m cap/\(m=0\/∃b o,ad=some ⟨b,o,none⟩/\∀k j,k<m->j<s->∃u,w.cell? ⟨b,o+k*s+j,none⟩=some u/\(f k j).bI M u):=by
 unfold sF at h
 split at h
 ·split at h
  ·rename_i hb
   cases h
   obtain⟨b,c,e1,rfl,hc⟩:=r;obtain⟨b',c',cur,e2,hh,hl,mL,hn,_,cY⟩:=i.box _ _ hb;rw[e1]at e2;cases e2;refine⟨some ⟨b,0,none⟩,c.1,by rw[hl],.inr ⟨b,0,rfl,λk j hk hj=>?_⟩⟩;obtain⟨u,hu,hr⟩:=cY k j hk hj;exact⟨u,by simp[World.cell?,hh,hu],hr⟩
  cases h
 ·cases h
  obtain⟨ad,cap,rfl,_,hc⟩:=r;refine⟨ad,cap,rfl,hc.imp id ?_⟩;rintro⟨b,o,e,hc⟩;exact⟨b,o,e,λk j hk hj=>let⟨u,hu,hr⟩:=hc k j hk hj;⟨u,i.mem _ _ _ hu,hr⟩⟩
 ·rename_i y s lo n;split at h
  ·rename_i s' f' hb
   cases hs:Nat.beq s s' with
   |false=>rw[hs]at h;cases h
   |true=>
    rw[hs]at h;have hs:=Mb hs;subst hs
    cases h
    obtain⟨b,c,o,e1,rfl,ho,h1,h2⟩:=r;obtain⟨b',c',cur,e2,hh,hl,mL,hn,_,cY⟩:=i.box _ _ hb;rw[e1]at e2;cases e2;refine⟨_,_,rfl,?_⟩;by_cases h0:m=0
    ·exact .inl h0
    refine .inr ⟨b,o,rfl,λk j hk hj=>?_⟩;obtain⟨u,hu,hr⟩:=cY (lo+k) j O hj;refine⟨u,?_,hr⟩;rw[ho O,<-Nat.add_mul];simp[World.cell?,hh,hu]
  cases h
 ·cases h
def Ak:=@sF.rep
def DV.fit:DV->Bool
 |.val v=>v.oneCell'
 |.bL=>false
 |_=>true
def jM(n:Nat)(f g:Nat->Nat->DV):Nat->Nat->DV:=λi j=>if i<n then f i j else g (i-n) j
def aAW{M:Mem}{C:Nat->Nat->wa->Prop}{f:Nat->Nat->DV}(s:Nat):∀(m:Nat),(∀k j,k<m->j<s->∃u,C k j u/\(f k j).bI M u)->
  ∃vs:List wa,vs.length=m*s/\∀k j,k<m->j<s->∃u,vs[k*s+j]? =some u/\C k j u/\(f k j).bI M u:=by
 intro m
 induction m with
 |zero=>intro _;exact⟨[],sM,λk j hk=>by omega⟩
 |succ m ih=>
  intro h;obtain⟨vs,hl,hc⟩:=ih (λk j hk hj=>h k j O hj);have last:∀t,t<=s->∃us:List wa,us.length=t/\∀j,j<t->∃u,us[j]? =some u/\C m j u/\(f m j).bI M u:=by
   intro t;induction t with
   |zero=>intro _;exact⟨[],rfl,λj hj=>by omega⟩
   |succ t iht=>
    intro ht;obtain⟨us,hul,huc⟩:=iht O;obtain⟨u,hu,hr⟩:=h m t O O;refine⟨us++ [u],by simp[hul],λj hj=>?_⟩;by_cases hjt:j<t
    ·obtain⟨v,h1,h2⟩:=huc j hjt;exact⟨v,by rw[Jc O];exact h1,h2⟩
    have:j=t:=O;subst this;exact⟨u,by rw[Gd O,hul];simp,hu,hr⟩
  obtain⟨us,hul,huc⟩:=last s (mb _);refine⟨vs++us,by simp[hl,hul,Bj],λk j hk hj=>?_⟩;by_cases hkm:k<m
  ·obtain⟨u,h1,h2⟩:=hc k j hkm hj;have fZ:k*s+j<m*s:=by have:(k+1)*s<=m*s:=Vc _ hkm;exact qp
   exact⟨u,by rw[Jc O];exact h1,h2⟩
  have:k=m:=O;subst this;obtain⟨u,h1,h2⟩:=huc j hj;exact⟨u,by rw[Gd O,hl];rw[show k*s+j-k*s=j by omega];exact h1,h2⟩
def DI{w:Aa}{M:Mem}{g:Nat->Nat->DV}{m s:Nat}{ad:Da Addr}(hs:0<s)(hm:0<m)
  (h:m=0\/∃b o,ad=some ⟨b,o,none⟩/\∀k j,k<m->j<s->∃u,w.cell? ⟨b,o+k*s+j,none⟩=some u/\(g k j).bI M u):
  ∃(b:Addr) (news:List wa),ad=some b/\news.length=m*s/\(∀j u,news[j]? =some u->w.cell? (b.add j)=some u)/\∀k j,k<m->j<s->∃u,news[k*s+j]? =some u/\(g k j).bI M u:=by
 rcases h with h|⟨b,o,rfl,hc⟩
 ·omega
 obtain⟨news,hl,hn⟩:=aAW (M:=M) (C:=λk j u=>w.cell? ⟨b,o+k*s+j,none⟩=some u) (f:=g) s m hc
 refine⟨⟨b,o,none⟩,news,rfl,hl,λj u hu=>?_,λk j hk hj=>let⟨u,h1,_,h3⟩:=hn k j hk hj;⟨u,h1,h3⟩⟩
 have hj:j<m*s:=by have:=(Ue.1 hu).1;omega
 have h1:j / s<m:=Uv (by rw[Cj];exact hj)
 have h2:j%s<s:=Cg _ hs
 obtain⟨v,hv,cY,_⟩:=hn (j / s) (j%s) h1 h2
 have e:j / s*s+j%s=j:=by rw[Cj];exact Ky j s
 rw[e,hu]at hv
 cases hv
 rw[jV]
 rw[show o+j=o+j / s*s+j%s by omega]
 exact cY
section
variable{P:Ba}{I:St}{K:AV->aP->Prop}{o:Oper}
def fitAll(m s:Nat)(g:Nat->Nat->DV):Prop:=∀k j,k<m->j<s->(g k j).fit=true
def x8(T:List (Nat×bV))(I:St)(_ref:List Nat)(d t:Nat)(x y:Ca)(K:AV->aP->Prop):Prop:=
 fe none (ev I x) λvx=>fe none (ev I y) λvy=>match dE T t with
  |some ti=>match ti.j7 with
   |.slice e=>match dE T e with
    |some te=>match aH I.box d with
     |none=>match sF I vy with
      |some (m,s',g)=>bif Nat.beq s' te.size&&Nat.blt 0 te.size&&Nat.blt 0 te.bytes&&Nat.beq te.zero.length te.size then
       match vx with
       |.s (.own b)=>match aH I.box b with
        |some (some (.row e' n s f))=>bif Nat.beq e' e&&Nat.beq s te.size then
          (n+m)*te.bytes<=140737488355328/\fitAll m s' g/\K (.s (.own d)) ((d,some (.row e (n+m) te.size (jM n f g)))::(b,none)::I.box)
          else False
        |_=>False
       |.s (.mo z b)=>match aH I.box b with
        |some (some (.b8 e' n s f))=>bif Nat.beq e' e&&Nat.beq s te.size then
          0<m/\((bif z then 0 else n)+m)*te.bytes<=140737488355328/\fitAll m s' g/\K (.s (.own d)) ((d,some (.row e ((bif z then 0 else n)+m) te.size (jM (bif z then 0 else n) f g)))::(b,none)::I.box)
          else False
        |_=>False
       |.s (.d (.val (.slice none 0 0)))=>0<m/\m*te.bytes<=140737488355328/\K (.s (.own d)) ((d,some (.row e m te.size g))::I.box)
       |_=>False
       else False
      |none=>False
     |some _=>False
    |none=>False
   |_=>False
  |none=>False
def b6.K8{P:Ba}{t:Nat}{i:bV}(h:b6 P t i):∃ti z,P.info? t=some ti/\ti.size=i.size/\ti.bytes=i.bytes/\ti.zero=some z/\z.cells.toList=i.zero:=by obtain⟨ti,h1,h2,h3,z,h4,h5⟩:=h.Iq;exact⟨ti,z,h1,h2,h3,h4,h5⟩
def OI(P:Ba)(o:Oper)(I:St)(R:Cx)(N:Nat)(M:Mem)(a:Act)(w:Aa)(r:AV)(bx:aP):Prop:=∃v w' M' V',
  ((execOp a.eval o).run P w=.ok (.value v) w'\/((execOp a.eval o).run P w=.ok .skip w'/\v=undef))/\
  r.bI M' V' v/\Inv R N M' V' ⟨I.env,bx⟩ a w'/\Grow R.B M M'/\cE R w w'
def WX{d t e':Nat}{x y:Ca}{te:bV}{ie:TypeInfo}{z:wa}{n m b k:Nat}{f g:Nat->Nat->DV}{bc:jK}{R:Cx}{N:Nat}{M:Mem}{V:Nm}{a:Act}{w:Aa}{c:Nat×Nat}{cur:Array wa}{ad:Da Addr}{cap:Nat}
  (dB:P.underlying t=some (.slice e')) (c2:0<te.size) (c3:0<te.bytes) (EU:P.info? e'=some ie) (y8:ie.size=te.size) (QZ:ie.bytes=te.bytes) (SM:ie.zero=some z) (JU:z.cells.size=te.size)
  (run:∀(a:Act) (w w':Aa) (r:wa),(Builtin.append_ #[t,t] o.type #[a.eval x,a.eval y]).run P w=.ok r w'->(execOp a.eval o).run P w=.ok (.value r) w')
  (hd:aH I.box d=none) (hb:aH I.box b=some (some bc)) (mT:(n+m)*te.bytes<=140737488355328) (oW:fitAll m te.size g) (i:Inv R N M V I a w) (e1:V b=some (k,c)) (ex:a.eval x=.slice (some ⟨k,0,none⟩) n c.1)
  (hh:w.heap[k]? =some (.cells cur e' (0,0))) (mL:cur.size=c.1*te.size) (hn:n<=c.1) (I9:c.1<=maxLen) (cY:∀i j,i<n->j<te.size->∃u,cur[i*te.size+j]? =some u/\(f i j).bI M u)
  (ey:a.eval y=.slice ad m cap) (hy:m=0\/∃b o,ad=some ⟨b,o,none⟩/\∀k j,k<m->j<te.size->∃u,w.cell? ⟨b,o+k*te.size+j,none⟩=some u/\(g k j).bI M u):
  OI P o I R N M a w (.s (.own d)) ((d,some (.row e' (n+m) te.size (jM n f g)))::(b,none)::I.box):=by
 have hnm:n+m<=140737488355328:=Xb (Sq _ c3) mT
 have aQK:n*te.size<=cur.size:=by rw[mL];exact Vc _ hn
 by_cases rY:n+m<=c.1
 ·
  have ES:∃news:List wa,(Builtin.append_ #[t,t] o.type #[a.eval x,a.eval y]).run P w=.ok (.slice (some ⟨k,0,none⟩) (n+m) c.1) (w.setRow k (cur.toList.take (n*te.size)++news++cur.toList.drop (n*te.size+news.length)).toArray)/\
    news.length=m*te.size/\∀p j,p<m->j<te.size->∃u,news[p*te.size+j]? =some u/\(g p j).bI M u:=by
   by_cases hm:m=0
   ·subst hm
    refine⟨[],?_,sM,λp j hp=>by omega⟩
    have aL1:w.setRow k (cur.toList.take (n*te.size)++ []++cur.toList.drop (n*te.size+([]:List wa).length)).toArray=w:=by
     simp[setRow_self w k cur e' (0,0) hh]
    rw[aL1,ex,ey]
    have hf:(Builtin.firstCells te.size 0 (.slice ad 0 cap)).run P w=.ok #[] w:=by
     exact zdg
    exact zbP
   ·obtain⟨bad,news,rfl,hl,kB,pL⟩:=DI c2 O hy
    refine⟨news,?_,hl,pL⟩
    have h1:∀u∈news,u.oneCell'=true:=by
     exact ui
    rw[ex,ey]
    have:=run_append_room (P:=P) w t o.type e' ie dB EU k n c.1 cur hh bad m cap news Sm kB h1 rY (by rw[y8,hl,mL,<-Nat.add_mul];exact Vc _ rY)
    rw[y8]at this
    exact this
  obtain⟨news,aCD,hnl,hnr⟩:=ES
  have TP:(cur.toList.take (n*te.size)).length=n*te.size:=by simp;omega
  have aLY:n*te.size+m*te.size<=cur.size:=by rw[mL,<-Nat.add_mul];exact Vc _ rY
  obtain⟨V',iX,HT,hinv,qQ⟩:=i.move (c':=(c.1,n+m)) (bc':=.row e' (n+m) te.size (jM n f g)) hb e1 hd
   (w':=w.setRow k (cur.toList.take (n*te.size)++news++cur.toList.drop (n*te.size+news.length)).toArray) sM (λj hj=>Nl w k j _ hj) rfl rfl rfl (by
    intro V' iX _
    refine⟨k,_,_,iX,Rl w k cur _ e' _ hh,rfl,by simp;omega,rY,I9,λp j hp hj=>?_⟩
    simp only[Jl,jM]
    by_cases QT:p<n
    ·obtain⟨u,hu,hr⟩:=cY p j QT hj
     have fZ:p*te.size+j<n*te.size:=by
      exact xr
     exact zaw
    ·obtain⟨u,hu,hr⟩:=hnr (p-n) j O hj
     refine⟨u,?_,by rw[Ka QT];exact hr⟩
     have hpe:p*te.size+j=n*te.size+((p-n)*te.size+j):=by
      exact Ut
     have fZ:(p-n)*te.size+j<m*te.size:=by
      exact xg
     rw[hpe,Ti,Gd O,TP,Tq,Jc O]
     exact hu)
  exact⟨_,_,M,V',.inl (run a w _ _ aCD),⟨_,_,iX,rfl,rY⟩,hinv,fb _ _,qQ⟩
 ·
  obtain⟨bad,news,rfl,hl,kB,pL⟩:=DI c2 O hy
  have SN:=run_append_grow (P:=P) w t o.type e' ie z dB EU SM ⟨k,0,none⟩ n c.1 (cur.toList.take (n*te.size)) (by simp[y8];omega) (by
   intro j v hv
   rw[iy]at hv
   split at hv
   ·rw[jV];simp[World.cell?,hh];simpa using hv
   ·cases hv) bad m cap news Sm kB O O (by
    rw[QZ];exact growslice_fits O mT)
  rw[<-ex,<-ey]at SN
  have FK:=Vn w (n+m) c.1 e'
  have T2:=Yq w (n+m) c.1 e' Lm
  have ik:=i.kill hb
  have hd':aH ((b,none)::I.box) d=none:=by
   exact Dv
  obtain⟨V',h1,h2,h3,h4⟩:=ik.new (I:=⟨I.env,(b,none)::I.box⟩) (c:=(grownCap w (n+m) c.1 e',n+m)) (w':=w.drew.alloc (.cells ((cur.toList.take (n*te.size)).toArray++news.toArray++Builtin.zeroCells z.cells (grownCap w (n+m) c.1 e'-(n+m))) e')) hd' rfl rfl rfl rfl (bc:=.row e' (n+m) te.size (jM n f g)) (by
   intro V' iX _
   have TP:(cur.toList.take (n*te.size)).length=n*te.size:=by simp;omega
   refine⟨_,_,_,iX,Ke w.drew _,rfl,?_,FK,T2,λp j hp hj=>?_⟩
   ·simp only[br,Ln,sr,JU,hl,TP,<-Nat.add_mul]
    congr 1;omega
   ·have nI:((cur.toList.take (n*te.size)).toArray++news.toArray++Builtin.zeroCells z.cells (grownCap w (n+m) c.1 e'-(n+m)))[p*te.size+j]? =(cur.toList.take (n*te.size)++(news++(Builtin.zeroCells z.cells (grownCap w (n+m) c.1 e'-(n+m))).toList))[p*te.size+j]? :=by
     rw[<-Array.getElem?_toList]
     simp
    rw[nI]
    simp only[jM]
    by_cases QT:p<n
    ·obtain⟨u,hu,hr⟩:=cY p j QT hj
     have fZ:p*te.size+j<n*te.size:=by
      exact xr
     refine⟨u,?_,by rw[La QT];exact hr⟩
     rw[Jc O,Ni fZ]
     simpa using hu
    ·obtain⟨u,hu,hr⟩:=pL (p-n) j O hj
     refine⟨u,?_,by rw[Ka QT];exact hr⟩
     have hpe:p*te.size+j=n*te.size+((p-n)*te.size+j):=by
      exact Ut
     have fZ:(p-n)*te.size+j<m*te.size:=by
      exact xg
     rw[hpe,Gd O,TP,Tq,Jc O]
     exact hu)
  exact⟨_,_,M,V',.inl (run a w _ _ SN),⟨_,_,h1,rfl,FK⟩,h3,fb _ _,h4⟩
def WY{d t e:Nat}{x y:Ca}{te:bV}{ie:TypeInfo}{z:wa}{m:Nat}{g:Nat->Nat->DV}{R:Cx}{N:Nat}{M:Mem}{V:Nm}{a:Act}{w:Aa}{ad:Da Addr}{cap:Nat}
  (dB:P.underlying t=some (.slice e)) (c2:0<te.size) (c3:0<te.bytes) (EU:P.info? e=some ie) (y8:ie.size=te.size) (QZ:ie.bytes=te.bytes) (SM:ie.zero=some z) (JU:z.cells.size=te.size)
  (run:∀(a:Act) (w w':Aa) (r:wa),(Builtin.append_ #[t,t] o.type #[a.eval x,a.eval y]).run P w=.ok r w'->(execOp a.eval o).run P w=.ok (.value r) w')
  (hd:aH I.box d=none) (hm:0<m) (mT:m*te.bytes<=140737488355328) (i:Inv R N M V I a w) (ex:a.eval x=.slice none 0 0)
  (ey:a.eval y=.slice ad m cap) (hy:m=0\/∃b o,ad=some ⟨b,o,none⟩/\∀k j,k<m->j<te.size->∃u,w.cell? ⟨b,o+k*te.size+j,none⟩=some u/\(g k j).bI M u):
  OI P o I R N M a w (.s (.own d)) ((d,some (.row e m te.size g))::I.box):=by
 obtain⟨bad,news,rfl,hl,kB,pL⟩:=DI c2 hm hy
 have hmb:m<=140737488355328:=Xb (Sq _ c3) mT
 have SN:=run_append_nil (P:=P) w t o.type e ie z dB EU SM bad m cap news Sm kB hm O (by rw[QZ];omega)
 rw[<-ex,<-ey]at SN
 have FK:=Vn w m 0 e
 have T2:=Yq w m 0 e Lm
 obtain⟨V',h1,h2,h3,h4⟩:=i.new (c:=(grownCap w m 0 e,m)) (w':=w.drew.alloc (.cells (news.toArray++Builtin.zeroCells z.cells (grownCap w m 0 e-m)) e)) hd rfl rfl rfl rfl (bc:=.row e m te.size g) (by
  intro V' iX _;refine⟨_,_,_,iX,Ke w.drew _,rfl,?_,FK,T2,λp j hp hj=>?_⟩
  ·simp only[br,Ln,sr,JU,hl,<-Nat.add_mul];congr 1;omega
  obtain⟨u,hu,hr⟩:=pL p j hp hj;have fZ:p*te.size+j<m*te.size:=by have:(p+1)*te.size<=m*te.size:=Vc _ hp;exact qp
  refine⟨u,?_,hr⟩;rw[<-Array.getElem?_toList];simp only[Array.toList_append];rw[Jc O];exact hu)
 exact⟨_,_,M,V',.inl (run a w _ _ SN),⟨_,_,h1,rfl,FK⟩,h3,fb _ _,h4⟩
def app.spec{T:List (Nat×bV)}(hT:cD P T){ref:List Nat}{d t:Nat}{x y:Ca}(ho:o.op=.call {callee:=.builtin .append,args:= #[x,y],argTypes:= #[t,t]})
  (h:x8 T I ref d t x y K):∃r bx,K r bx/\∀R N M V a w,R.ref=ref->Inv R N M V I a w->∃v w' M' V',
  ((execOp a.eval o).run P w=.ok (.value v) w'\/((execOp a.eval o).run P w=.ok .skip w'/\v=undef))/\
  r.bI M' V' v/\Inv R N M' V' ⟨I.env,bx⟩ a w'/\Grow R.B M M'/\cE R w w':=by
 unfold x8 at h
 replace h:=Db h
 obtain⟨vx,h,tB⟩:=h
 replace h:=Db h
 obtain⟨vy,h,JV⟩:=h
 split at h
 case h_2=>cases h
 rename_i ti gG
 have gF:=hT.get gG
 split at h
 case h_2=>cases h
 rename_i e hu
 have dB:P.underlying t=some (.slice e):=gF.isSlice hu
 split at h
 case h_2=>cases h
 rename_i te nD
 have mS:=hT.get nD
 split at h
 case h_2=>cases h
 rename_i hd
 split at h
 case h_2=>cases h
 rename_i m s' g xN
 cases hc:(Nat.beq s' te.size&&Nat.blt 0 te.size&&Nat.blt 0 te.bytes&&Nat.beq te.zero.length te.size)with
 |false=>rw[hc]at h;cases h
 |true=>
  rw[hc]at h
  simp only[cond_true]at h
  simp only[Bool.and_eq_true]at hc
  have c1:=Mb hc.1.1.1
  have c2:0<te.size:=Dc hc.1.1.2
  have c3:0<te.bytes:=Dc hc.1.2
  have c4:=Mb hc.2
  subst c1
  obtain⟨ie,z,EU,y8,QZ,SM,LB⟩:=mS.K8
  have JU:z.cells.size=te.size:=by rw[<-Array.length_toList,LB,c4]
  have run:∀(a:Act) (w w':Aa) (r:wa),(Builtin.append_ #[t,t] o.type #[a.eval x,a.eval y]).run P w=.ok r w'->(execOp a.eval o).run P w=.ok (.value r) w':=by
   intro a w w' r h
   simp[execOp,ho,resolve,invoke,builtin,h]
  split at h
  case h_4=>cases h
  ·
   rename_i b
   split at h
   case h_2=>cases h
   rename_i e' n s f hb
   cases pV:(Nat.beq e' e&&Nat.beq s te.size)with
   |false=>rw[pV]at h;cases h
   |true=>
    rw[pV]at h
    simp only[Bool.and_eq_true]at pV
    have k1:=Mb pV.1
    have k2:=Mb pV.2
    subst k1;subst k2
    obtain⟨mT,oW,h⟩:=h
    refine⟨_,_,h,λR N M V a w _ i=>?_⟩
    obtain⟨k,c,e1,ex,wI⟩:=tB iY R N M V a w i
    obtain⟨k',c',cur,e2,hh,hlen,mL,hn,I9,cY⟩:=i.box b _ hb
    rw[e1]at e2;cases e2
    rw[hlen]at ex
    obtain⟨ad,cap,ey,hy⟩:=Ak i xN (JV iY R N M V a w i)
    exact zcv
  ·
   rename_i zz b
   split at h
   case h_2=>cases h
   rename_i e' n s f hb
   cases pV:(Nat.beq e' e&&Nat.beq s te.size)with
   |false=>rw[pV]at h;cases h
   |true=>
    rw[pV]at h
    simp only[Bool.and_eq_true]at pV
    have k1:=Mb pV.1
    have k2:=Mb pV.2
    subst k1;subst k2
    obtain⟨hm,mT,oW,h⟩:=h
    refine⟨_,_,h,λR N M V a w _ i=>?_⟩
    obtain⟨ad,cap,ey,hy⟩:=Ak i xN (JV iY R N M V a w i)
    have tB:=tB iY R N M V a w i
    cases zz with
    |false=>
     obtain⟨k,c,e1,ex,wI⟩:=tB.2 rfl
     obtain⟨cur,hh,hlen,mL,hn,I9,cY⟩:=i.box b _ hb k c e1
     rw[hlen]at ex
     exact zcv
    |true=>
     have ik:=i.kill hb
     have hd':aH ((b,none)::I.box) d=none:=by
      exact Dv
     simp only[cond_true,Ec]at mT⊢
     exact WY (I:=⟨I.env,(b,none)::I.box⟩) dB c2 c3 EU y8 QZ SM JU run hd' hm mT ik (tB.1 rfl) ey hy
  ·
   obtain⟨hm,mT,h⟩:=h
   refine⟨_,_,h,λR N M V a w _ i=>?_⟩
   have ex:a.eval x=.slice none 0 0:=tB iY R N M V a w i
   obtain⟨ad,cap,ey,hy⟩:=Ak i xN (JV iY R N M V a w i)
   exact WY dB c2 c3 EU y8 QZ SM JU run hd hm mT i ex ey hy
end
section
variable{P:Ba}{I:St}{g:Da Bool}{K:AV->Prop}{o:Oper}
def gM(g:Da Bool)(I:St)(x:Da Ca)(K:Da Int->Prop):Prop:=
 match x with
 |none=>K none
 |some x=>fe g (ev I x) λva=>match va with
  |.s (.d (.val (.int _ n)))=>K (some n)
  |_=>False
def yh{x:Da Ca}{K:Da Int->Prop}(h:gM g I x K):
  ∃r,K r/\(act g->∀R N M V a w,Inv R N M V I a w->(r=none/\x.map a.eval=none)\/∃k n,r=some n/\x.map a.eval=some (.int k n)):=by
 cases x with
 |none=>exact⟨none,h,λ_ _ _ _ _ _ _ _=>.inl ⟨rfl,rfl⟩⟩
 |some x=>
  simp only[gM]at h;replace h:=Db h;obtain⟨va,h,hr⟩:=h;split at h
  case h_2=>cases h
  rename_i k n;refine⟨_,h,λha R N M V a w i=>.inr ⟨k,n,rfl,?_⟩⟩;have:a.eval x=.int k n:=hr ha R N M V a w i;simp[this]
def lD(T:List (Nat×bV))(I:St)(t:Nat)(g:Da Bool)(vx:AV)(lo hi:Da Ca)(K:AV->Prop):Prop:=
 match dE T t with
 |some ti=>match ti.j7 with
  |.slice e=>match dE T e with
   |some te=>match vx with
    |.s (.d (.fU n s f))=>bif Nat.beq s te.size then gM g I lo λl=>gM g I hi λh=>
      imp g (0<=l.getD 0/\l.getD 0<=h.getD n/\h.getD n<=n)/\
      (match l with
      |none=>K (.s (.d (.fU (h.getD n).toNat s f)))
      |some l=>K (.s (.d (.fU (h.getD n-l).toNat s λi=>f (l.toNat+i)))))
      else False
    |.s (.own x)=>match aH I.box x with
     |some (some (.row _ n s _))=>bif Nat.beq s te.size then gM g I lo λl=>gM g I hi λh=>
       imp g (0<=l.getD 0/\l.getD 0<=h.getD n/\h.getD n<=n)/\K (.s (.j0 x s (l.getD 0).toNat ((h.getD n).toNat-(l.getD 0).toNat)))else False
     |_=>False
    |.s (.j0 x s C0 n)=>bif Nat.beq s te.size then gM g I lo λl=>gM g I hi λh=>
       imp g (0<=l.getD 0/\l.getD 0<=h.getD n/\h.getD n<=n)/\K (.s (.j0 x s (C0+(l.getD 0).toNat) ((h.getD n).toNat-(l.getD 0).toNat)))else False
    |.s (.d (.val (.slice none 0 0)))=>gM g I lo λl=>gM g I hi λh=>
       imp g (l.getD 0=0/\h.getD 0=0)/\K (.s (.d (.val (.slice none 0 0))))
    |_=>False
   |none=>False
  |.string=>match vx with
   |.s (.d (.val (.string s)))=>gM g I lo λl=>gM g I hi λh=>
      imp g (0<=l.getD 0/\l.getD 0<=h.getD s.size/\h.getD s.size<=s.size)/\
      K (.s (.d (.val (.string (s.extract (l.getD 0).toNat (h.getD s.size).toNat)))))
   |_=>False
  |_=>False
 |none=>False
def lD.spec{T:List (Nat×bV)}(hT:cD P T){t:Nat}{x:Ca}{lo hi:Da Ca}(ho:o.op=.slice t x lo hi none)
  (h:fe g (ev I x) λva=>lD T I t g va lo hi K):∃r,K r/\jW P o I g r:=by
 replace h:=Db h
 obtain⟨va,h,hr⟩:=h
 unfold lD at h
 split at h
 case h_2=>cases h
 rename_i ti gG
 have gF:=hT.get gG
 have bounds:∀(Tk:Bool) (n cap:Nat) (l h:Da Int) (lv hv:Da wa) (w:Aa),n<=cap->0<=l.getD 0->l.getD 0<=h.getD n->h.getD n<=n->
   ((l=none/\lv=none)\/∃k q,l=some q/\lv=some (.int k q))->((h=none/\hv=none)\/∃k q,h=some q/\hv=some (.int k q))->
   (Instr.sliceBounds Tk n cap lv hv none).run P w=.ok ((l.getD 0).toNat,(h.getD n).toNat,cap) w:=by
  intro Tk n cap l h lv hv w hn h0 h1 h2 hl hh
  have hB:∀(code:Instr.sliceBound=Instr.sliceBound) (k:IntKind) (q:Int) (y:Nat) (c:BoundsCode),0<=q->q<=y->(Instr.sliceBound (.int k q) y c).run P w=.ok q.toNat w:=by intro _ k q y c q0 q1;simp[Instr.sliceBound,asIntOf,q0,q1]
  rcases hl with⟨rfl,rfl⟩|⟨kl,ql,rfl,rfl⟩ <;> rcases hh with⟨rfl,rfl⟩|⟨kh,qh,rfl,rfl⟩
  ·simp[Instr.sliceBounds]
  ·simp only[Nn,Cy]at h0 h1 h2⊢;simp[Instr.sliceBounds,hB rfl kh qh cap _ h1 O]
  ·simp only[Nn,Cy]at h0 h1 h2⊢;simp[Instr.sliceBounds,hB rfl kl ql n _ h0 h1]
  ·simp only[Nn]at h0 h1 h2⊢;simp[Instr.sliceBounds,hB rfl kh qh cap _ O O,hB rfl kl ql qh.toNat _ h0 O]
 split at h
 case h_3=>cases h
 ·rename_i e hu;have dB:P.underlying t=some (.slice e):=gF.isSlice hu;split at h
  case h_2=>cases h
  rename_i te nD;have mS:=hT.get nD;split at h
  case h_5=>cases h
  case h_4=>replace h:=yh h;obtain⟨l,h,hl⟩:=h;replace h:=yh h;obtain⟨hh,h,hhh⟩:=h;obtain⟨hb,h⟩:=h;refine⟨_,h,λha R N M V a w i=>⟨.slice none 0 0,?_,rfl⟩⟩;obtain⟨h0,h1⟩:=hb.get ha;have ex:a.eval x=.slice none 0 0:=hr ha R N M V a w i;have T4:=bounds true 0 0 l hh (lo.map a.eval) (hi.map a.eval) w (mb _) O zfc zfc (hl ha R N M V a w i) (hhh ha R N M V a w i);rw[h0,show hh.getD ((0:Nat):Int)=0 from h1]at T4;exact Qt
  rotate_left
  ·rename_i x';split at h
   case h_2=>cases h
   rename_i e' n s f rJ
   cases hs:Nat.beq s te.size with
   |false=>rw[hs]at h;cases h
   |true=>
    rw[hs]at h;have hs:=Mb hs;simp only[cond_true]at h;replace h:=yh h;obtain⟨l,h,hl⟩:=h;replace h:=yh h;obtain⟨hh,h,hhh⟩:=h;obtain⟨hb,h⟩:=h;refine⟨_,h,λha R N M V a w i=>?_⟩;obtain⟨h0,h1,h2⟩:=hb.get ha;obtain⟨b,c,e1,ex,pV⟩:=hr ha R N M V a w i;obtain⟨b2,c2,cur,e2,_,hlen,_⟩:=i.box x' _ rJ;rw[e1]at e2;cases e2;rw[hlen]at ex pV;have T4:=bounds true n c.1 l hh (lo.map a.eval) (hi.map a.eval) w pV h0 h1 h2 (hl ha R N M V a w i) (hhh ha R N M V a w i);refine⟨.slice (some ⟨b,(if c.1=(l.getD 0).toNat then 0 else(l.getD 0).toNat*te.size),none⟩) ((hh.getD n).toNat-(l.getD 0).toNat) (c.1-(l.getD 0).toNat),?_,b,c,_,e1,rfl,λfZ=>?_,by rw[hlen];omega,by rw[hlen];exact pV⟩
    ·have a7:(execOp a.eval o).run P w=.ok (.value (.slice (if c.1=(l.getD 0).toNat then some ⟨b,0,none⟩else(some (⟨b,0,none⟩:Addr)).map (·.add ((l.getD 0).toNat*te.size))) ((hh.getD n).toNat-(l.getD 0).toNat) (c.1-(l.getD 0).toNat))) w:=by exact Qt
     rw[a7];by_cases hq:c.1=(l.getD 0).toNat
     ·rw[La hq,La hq]
     rw[Ka hq,Ka hq];simp[jV]
    rw[Ka O,hs]
  ·rename_i x' s C0 n
   cases hs:Nat.beq s te.size with
   |false=>rw[hs]at h;cases h
   |true=>
    rw[hs]at h;have hs:=Mb hs;simp only[cond_true]at h;replace h:=yh h;obtain⟨l,h,hl⟩:=h;replace h:=yh h;obtain⟨hh,h,hhh⟩:=h;obtain⟨hb,h⟩:=h;refine⟨_,h,λha R N M V a w i=>?_⟩;obtain⟨h0,h1,h2⟩:=hb.get ha;obtain⟨b,c,o',e1,ex,hoo,hc1,JA⟩:=hr ha R N M V a w i;have T4:=bounds true n (c.1-C0) l hh (lo.map a.eval) (hi.map a.eval) w O h0 h1 h2 (hl ha R N M V a w i) (hhh ha R N M V a w i);refine⟨.slice (some ⟨b,(if c.1-C0=(l.getD 0).toNat then o' else o'+(l.getD 0).toNat*te.size),none⟩) ((hh.getD n).toNat-(l.getD 0).toNat) (c.1-C0-(l.getD 0).toNat),?_,b,c,_,e1,by rw[Nat.sub_sub],λfZ=>?_,O,JA⟩
    ·have a7:(execOp a.eval o).run P w=.ok (.value (.slice (if c.1-C0=(l.getD 0).toNat then some ⟨b,o',none⟩else(some (⟨b,o',none⟩:Addr)).map (·.add ((l.getD 0).toNat*te.size))) ((hh.getD n).toNat-(l.getD 0).toNat) (c.1-C0-(l.getD 0).toNat))) w:=by exact Qt
     rw[a7];by_cases hq:c.1-C0=(l.getD 0).toNat
     ·rw[La hq,La hq]
     rw[Ka hq,Ka hq];simp[jV]
    rw[Ka O,hoo O,hs,de]
  rename_i n s f
  cases hs:Nat.beq s te.size with
  |false=>rw[hs]at h;cases h
  |true=>
   rw[hs]at h;have hs:=Mb hs;simp only[cond_true]at h;replace h:=yh h;obtain⟨l,h,hl⟩:=h;replace h:=yh h;obtain⟨hh,h,hhh⟩:=h;obtain⟨hb,h⟩:=h;have run:∀(ha:act g) R N M V a w,Inv R N M V I a w->∃ad cap,n<=cap/\(n=0\/∃b o,ad=some ⟨b,o,none⟩/\∀i j,i<n->j<s->∃u,M b (o+i*s+j)=some u/\(f i j).bI M u)/\
     (execOp a.eval o).run P w=.ok (.value (.slice (if cap=(l.getD 0).toNat then ad else ad.map (·.add ((l.getD 0).toNat*te.size))) ((hh.getD n).toNat-(l.getD 0).toNat) (cap-(l.getD 0).toNat))) w:=by
    intro ha R N M V a w i
    obtain⟨h0,h1,h2⟩:=hb.get ha
    obtain⟨ad,cap,ex,wI,hc⟩:=hr ha R N M V a w i
    refine⟨ad,cap,wI,hc,?_⟩
    have T4:=bounds true n cap l hh (lo.map a.eval) (hi.map a.eval) w wI h0 h1 h2 (hl ha R N M V a w i) (hhh ha R N M V a w i)
    simp[execOp,ho,ex,Instr.sliceAt,Instr.slice,Bb dB,T4,mS.iE]
   cases l with
   |none=>
    refine⟨_,h,λha R N M V a w i=>?_⟩;obtain⟨ad,cap,wI,hc,a7⟩:=run ha R N M V a w i;obtain⟨h0,h1,h2⟩:=hb.get ha;have e1:(if cap=((none:Da Int).getD 0).toNat then ad else ad.map (·.add (((none:Da Int).getD 0).toNat*te.size)))=ad:=by
     cases ad with
     |none=>simp
     |some q=>simp[Addr.add]
    rw[e1]at a7;refine⟨_,a7,ad,cap,sM,O,?_⟩;by_cases hz:(hh.getD n).toNat=0
    ·exact .inl hz
    rcases hc with hc|⟨b,o',rfl,hc⟩
    ·omega
    exact .inr ⟨b,o',rfl,λi j hi hj=>hc i j O hj⟩
   |some l=>
    refine⟨_,h,λha R N M V a w i=>?_⟩;obtain⟨ad,cap,wI,hc,a7⟩:=run ha R N M V a w i;obtain⟨h0,h1,h2⟩:=hb.get ha;simp only[Nn]at h0 h1 h2 a7;have hq:(hh.getD n).toNat-l.toNat=(hh.getD n-l).toNat:=O;rw[hq]at a7;refine⟨_,a7,(if cap=l.toNat then ad else ad.map (·.add (l.toNat*te.size))),cap-l.toNat,rfl,O,?_⟩;by_cases hz:(hh.getD n-l).toNat=0
    ·exact .inl hz
    rcases hc with hc|⟨b,o',rfl,hc⟩
    ·omega
    refine .inr ⟨b,o'+l.toNat*te.size,?_,λi j hi hj=>?_⟩
    ·rw[Ka O];simp[jV]
    obtain⟨u,hu,FJ⟩:=hc (l.toNat+i) j O hj;refine⟨u,?_,FJ⟩;rw[<-hs,De o',<-Nat.add_mul];exact hu
 ·rename_i hu;have dB:P.underlying t=some .string:=gF.isString hu;split at h
  case h_2=>cases h
  rename_i s;replace h:=yh h;obtain⟨l,h,hl⟩:=h;replace h:=yh h;obtain⟨hh,h,hhh⟩:=h;obtain⟨hb,h⟩:=h;refine⟨_,h,λha R N M V a w i=>⟨_,?_,rfl⟩⟩;obtain⟨h0,h1,h2⟩:=hb.get ha;have ex:a.eval x=.string s:=hr ha R N M V a w i;have T4:=bounds false s.size s.size l hh (lo.map a.eval) (hi.map a.eval) w (mb _) h0 h1 h2 (hl ha R N M V a w i) (hhh ha R N M V a w i);simp[execOp,ho,ex,Instr.sliceAt,Instr.slice,Bb dB,T4]
end
section
variable{P:Ba}{I:St}{K:AV->aP->Prop}{o:Oper}
def Jh(T:List (Nat×bV))(I:St)(d t:Nat)(x y:Ca)(K:AV->aP->Prop):Prop:=
 fe none (ev I x) λvx=>fe none (ev I y) λvy=>match vx,vy with
  |.s (.d (.val (.int .i64 n))),.s (.d (.val (.int .i64 c)))=>match dE T t with
   |some ti=>match ti.j7 with
    |.slice e=>match dE T e with
     |some te=>bif Nat.blt 0 te.size&&Nat.blt 0 te.bytes&&Nat.beq te.zero.length te.size then match aH I.box d with
      |none=>0<=n/\n<=c/\te.bytes*c<=281474976710656/\
        K (.s (.own d)) ((d,some (.row e n.toNat te.size λ_ j=>match (iB te.zero)[j]? with|some c=>OP c|none=>.bL))::I.box)
      |some _=>False
      else False
     |none=>False
    |_=>False
   |none=>False
  |_,_=>False
def mk.spec{T:List (Nat×bV)}(hT:cD P T){d t:Nat}{x y:Ca}(ho:o.op=.makeSlice t x y)(h:Jh T I d t x y K):∃r bx,K r bx/\KI P o I r bx:=by
 unfold Jh at h;replace h:=Db h;obtain⟨vx,h,tB⟩:=h;replace h:=Db h;obtain⟨vy,h,JV⟩:=h;split at h
 case h_2=>cases h
 rename_i n c;split at h
 case h_2=>cases h
 rename_i ti gG;have gF:=hT.get gG;split at h
 case h_2=>cases h
 rename_i e hu;have dB:P.underlying t=some (.slice e):=gF.isSlice hu;split at h
 case h_2=>cases h
 rename_i te nD;have mS:=hT.get nD
 cases hc:(Nat.blt 0 te.size&&Nat.blt 0 te.bytes&&Nat.beq te.zero.length te.size)with
 |false=>rw[hc]at h;cases h
 |true=>
  rw[hc]at h;simp only[cond_true]at h;simp only[Bool.and_eq_true]at hc;have c2:0<te.size:=Dc hc.1.1;have c3:0<te.bytes:=Dc hc.1.2;have c4:=Mb hc.2;split at h
  case h_2=>cases h
  rename_i hd;obtain⟨h0,h1,h2,h⟩:=h;refine⟨_,_,h,λR N M V a w i=>?_⟩;have ex:a.eval x=.int .i64 n:=tB iY R N M V a w i;have ey:a.eval y=.int .i64 c:=JV iY R N M V a w i;obtain⟨ie,z,EU,y8,QZ,SM,LB⟩:=mS.K8;have hzs:z.cells.size=te.size:=by rw[<-Array.length_toList,LB,c4]
  have hcb:c<=(te.bytes:Int)*c:=by have:(1:Int)*c<=(te.bytes:Int)*c:=Mi O O;omega
  have V7:IntKind.i64.wrap n=n:=Aw n Ha;have V6:IntKind.i64.wrap c=c:=Aw c Ha;have ES:(Instr.makeSlice t (.int .i64 n) (.int .i64 c)).run P w=.ok (.slice (some ⟨w.heap.size,0,none⟩) n.toNat c.toNat) (w.alloc (.cells ((Array.range (c.toNat*te.size)).map (z.cells[· %z.cells.size]!)) e)):=by
   have t1:¬(c<0):=O;have t2:¬(n<0):=O;have t3:¬(n>c):=O;by_cases hz:c.toNat*te.size=0
   ·have e0:∀f:Nat->wa,Array.map f (Array.range 0)= #[]:=λf=>by apply Jd;simp
    simp[Instr.makeSlice,Bb dB,asInt,asIntOf,typeInfo,EU,QZ,V7,V6,t1,t2,t3,sizeOf,y8,hz,e0,newRow];omega
   simp[Instr.makeSlice,Bb dB,asInt,asIntOf,typeInfo,EU,QZ,V7,V6,t1,t2,t3,sizeOf,y8,hz,zeroValue,SM,newRow];omega
  have a7:(execOp a.eval o).run P w=.ok (.value (.slice (some ⟨w.heap.size,0,none⟩) n.toNat c.toNat)) (w.alloc (.cells ((Array.range (c.toNat*te.size)).map (z.cells[· %z.cells.size]!)) e)):=by simp[execOp,ho,ex,ey,ES]
  obtain⟨V',b1,b2,b3,b4⟩:=i.new (w':=w.alloc (.cells ((Array.range (c.toNat*te.size)).map (z.cells[· %z.cells.size]!)) e)) (c:=(c.toNat,n.toNat)) hd (ob:=.cells ((Array.range (c.toNat*te.size)).map (z.cells[· %z.cells.size]!)) e) rfl rfl rfl rfl
   (bc:=.row e n.toNat te.size λ_ j=>match (iB te.zero)[j]? with|some c=>OP c|none=>.bL) (by
   intro V' iX _
   refine⟨_,_,_,iX,Ke w _,rfl,sM,by show n.toNat<=c.toNat;omega,by show c.toNat<=maxLen;unfold maxLen;omega,λk j hk hj=>?_⟩
   have fZ:k*te.size+j<c.toNat*te.size:=by have:(k+1)*te.size<=c.toNat*te.size:=Vc _ O;exact qp
   have aIX:(k*te.size+j)%te.size=j:=by rw[Cj,Nat.mul_add_mod,Rh hj]
   have hjz:j<z.cells.size:=by rw[hzs];exact hj
   refine⟨z.cells[j],?_,?_⟩
   ·simp only[Array.getElem?_map,Array.getElem?_range,fZ,Xi,lr,hzs,aIX,Sf z.cells j hjz]
   ·have tC:j<te.zero.length:=by rw[c4];exact hj
    have hzj:z.cells[j]=te.zero[j]:=by
     have:z.cells.toList[j]? =te.zero[j]? :=by rw[LB]
     simpa[hjz,tC]using this
    have hlen:(iB te.zero).length=te.zero.length:=by have:=(Wh M V te.zero).length;omega
    obtain⟨u,hu,hr⟩:=(Wh M V te.zero).get (List.getElem?_eq_getElem (by rw[hlen];exact tC:j<(iB te.zero).length));rw[List.getElem?_eq_getElem tC]at hu
    cases hu
    simp only[List.getElem?_eq_getElem (by rw[hlen];exact tC:j<(iB te.zero).length)];rw[hzj];have had:∀l:List wa,o5 (iB l)=true:=zcS
    have:=Ek (had te.zero) (List.getElem?_eq_getElem (by rw[hlen];exact tC:j<(iB te.zero).length));rw[this]at hr;exact hr)
  exact⟨_,_,M,V',.inl a7,⟨_,_,b1,rfl,by show n.toNat<=c.toNat;omega⟩,b3,fb _ _,b4⟩
end
def aDJ(s:ta):Nat->Nat->DV:=λi _=>.val (.int .u8 (s[i]!).toNat)
section
variable{P:Ba}{I:St}{K:AV->aP->Prop}{o:Oper}
def wu(T:List (Nat×bV))(I:St)(src dst:Nat)(x:Ca)(K:AV->aP->Prop):Prop:=
 fe none (ev I x) λva=>match dE T src,dE T dst,va with
  |some ts,some td,.s (.d (.val (.string s)))=>match ts.j7,td.j7 with
   |.string,.slice e=>match dE T e with
    |some te=>match te.j7 with
     |.int .u8=>K (.s (.d (.fU s.size 1 (aDJ s)))) I.box
     |_=>False
    |none=>False
   |_,_=>False
  |_,_,_=>False
def byte.spec{T:List (Nat×bV)}(hT:cD P T){src dst:Nat}{x:Ca}(ho:o.op=.convert src dst x)(h:wu T I src dst x K):∃r bx,K r bx/\KI P o I r bx:=by
 unfold wu at h;replace h:=Db h;obtain⟨va,h,hr⟩:=h;split at h
 case h_2=>cases h
 rename_i ts td s uX htd;have k1:=hT.get uX;have k2:=hT.get htd;split at h
 case h_2=>cases h
 rename_i e e1 e2;split at h
 case h_2=>cases h
 rename_i te nD;split at h
 case h_2=>cases h
 rename_i e3;have h1:=k1.isString e1;have h2:=k2.isSlice e2;have h3:=(hT.get nD).isInt e3;refine⟨_,_,h,λR N M V a w i=>?_⟩;have ex:a.eval x=.string s:=hr iY R N M V a w i;have a7:(execOp a.eval o).run P w=.ok (.value (.slice (some ⟨w.heap.size,0,none⟩) s.size (grownCap w s.size 0 e))) (Lib.bytesWorld w e s):=by simp[execOp,ho,ex,Lib.run_convert_string_bytes w src dst e s h1 h2 h3]
 let M':Mem:=λb o=>if b=w.heap.size/\o<s.size then some (.int .u8 (s[o]!).toNat)else M b o
 have hM:∀b o u,M b o=some u->b<w.heap.size:=λb o u e=>i.HC e
 have hm:lA M' (Lib.bytesWorld w e s):=by
  intro b o u hu;simp only[M']at hu;split at hu
  ·rename_i hc
   cases hu
   obtain⟨rfl,fZ⟩:=hc;rw[Lib.bytesWorld_cell w e s o fZ];have hd:s.data.size=s.size:=rfl;rw[Sf s o fZ,List.getD,List.getElem?_eq_getElem (by simpa[hd]using fZ)];rfl
  rw[Lib.bytesWorld_old w e s ⟨b,o,none⟩ (hM b o u hu)];exact i.mem b o u hu
 have hg:Grow w.heap.size M M':=by
  refine⟨λb o u hu=>?_,λb o u hu=>?_⟩
  ·have:=hM b o u hu;simp only[M'];rw[Ka O];exact hu
  simp only[M']at hu;split at hu
  ·rename_i hc;exact .inr O
  exact .inl hu
 have qT:yl w (Lib.bytesWorld w e s):=by
  refine⟨⟨?_,?_,?_,?_,λk hk=>Lib.bytesWorld_at_old w e s k hk⟩,?_⟩
  ·exact xl
  ·exact xl
  ·exact xl
  ·rw[Lib.bytesWorld_size];omega
  exact trivial
 obtain⟨i',g',kp⟩:=i.after qT hg hm;refine⟨_,_,M',V,.inl a7,⟨_,_,rfl,Vn _ _ _ _,.inr ⟨_,0,rfl,λk j hk hj=>⟨_,?_,rfl⟩⟩⟩,i',g',kp⟩;have:j=0:=O;subst this;rw[show 0+k*1+0=k by omega];exact La ⟨rfl,hk⟩
def qv(f:FuncId)(cs:List SV):DV:=.Xg f cs.length λi=>match cs[i]? with|some c=>OP c|none=>.bL
def ax{M:Mem}{V:Nm}:∀{cs:List SV} {vs:List wa},cV M V cs vs->∀{i:Nat} {u:wa},vs[i]? =some u->∃c,cs[i]? =some c/\c.bI M V u
 |[],[],_,i,u,h=>by simp at h
 |c::cs,v::vs,⟨h,r⟩,0,u,e=>by simp at e;subst e;exact⟨c,rfl,h⟩
 |c::cs,v::vs,⟨h,r⟩,i+1,u,e=>ax r (by simpa using e)
 |[],_::_,h,_,_,_=>h.elim
 |_::_,[],h,_,_,_=>h.elim
def mkb.spec{g:Da Bool}{K:AV->Prop}{f:FuncId}{y:Ca}(ho:o.op=.makeFunc (.func f) #[y] #[])
  (h:fe g (ev I y) λva=>match va with|.g cs=>bif o5 cs then K (.s (.d (qv f cs)))else False|_=>False):∃r,K r/\jW P o I g r:=by
 replace h:=Db h
 obtain⟨va,h,hr⟩:=h
 split at h
 case h_2=>cases h
 rename_i cs
 cases hc:o5 cs with
 |false=>rw[hc]at h;cases h
 |true=>
  rw[hc]at h;refine⟨_,h,λha R N M V a w i=>?_⟩;obtain⟨vs,e,hv⟩:=hr ha R N M V a w i;refine⟨.func (.func f) #[.agg vs.toArray] #[],?_,vs,rfl,hv.length,λi u hu=>?_⟩
  ·simp[execOp,ho,Instr.makeFunc,e]
  obtain⟨c,h1,h2⟩:=ax hv hu;rw[Ek hc h1]at h2;simp only[h1];exact h2
end
def aNA:AV->Da (Nat×Nat×Da Nat)
 |.s (.own y)=>some (y,0,none)
 |.s (.j0 y 1 lo n)=>some (y,lo,some n)
 |_=>none
def N1(lo q:Nat)(f g:Nat->Nat->DV):Nat->Nat->DV:=λi j=>if lo<=i/\i<lo+q then g (i-lo) j else f i j
section
variable{P:Ba}{I:St}{K:AV->aP->Prop}{o:Oper}
def zN(T:List (Nat×bV))(I:St)(t:Nat)(x y:Ca)(K:AV->aP->Prop):Prop:=
 fe none (ev I x) λvx=>fe none (ev I y) λvy=>match dE T t with
 |some ti=>match ti.j7 with
  |.slice e=>match dE T e with
   |some te=>match sF I vy with
    |some (k,s',g)=>match aNA vx with
     |some (b,lo,m)=>match aH I.box b with
      |some (some (.row e' n s f))=>bif Nat.beq te.size 1&&Nat.beq s 1&&Nat.beq s' 1 then
        fitAll k 1 g/\K (rH .i64 ((Nat.min k (m.getD n):Nat):Int)) ((b,some (.row e' n s (N1 lo (Nat.min k (m.getD n)) f g)))::I.box)else False
      |_=>False
     |none=>False
    |none=>False
   |none=>False
  |_=>False
 |none=>False
def copy.spec{T:List (Nat×bV)}(hT:cD P T){t t':Nat}{x y:Ca}(ho:o.op=.call {callee:=.builtin .copy,args:= #[x,y],argTypes:= #[t,t']})
  (h:zN T I t x y K):∃r bx,K r bx/\KI P o I r bx:=by
 unfold zN at h
 replace h:=Db h
 obtain⟨vx,h,tB⟩:=h
 replace h:=Db h
 obtain⟨vy,h,JV⟩:=h
 split at h
 case h_2=>cases h
 rename_i ti gG
 have gF:=hT.get gG
 split at h
 case h_2=>cases h
 rename_i e hu
 have dB:P.underlying t=some (.slice e):=gF.isSlice hu
 split at h
 case h_2=>cases h
 rename_i te nD
 have mS:=hT.get nD
 split at h
 case h_2=>cases h
 rename_i k s' g xN
 split at h
 case h_2=>cases h
 rename_i b lo m T1
 split at h
 case h_2=>cases h
 rename_i e' n s f hb
 cases hc:(Nat.beq te.size 1&&Nat.beq s 1&&Nat.beq s' 1)with
 |false=>rw[hc]at h;cases h
 |true=>
  rw[hc]at h;simp only[cond_true]at h;simp only[Bool.and_eq_true]at hc;have c1:=Mb hc.1.1;have c2:=Mb hc.1.2;have c3:=Mb hc.2;subst c2;subst c3;obtain⟨oW,h⟩:=h;refine⟨_,_,h,λR N M V a w i=>?_⟩;obtain⟨ie,z,EU,y8,QZ,SM,LB⟩:=mS.K8;have LC:(P.info? e).map (·.size)=some 1:=by simp[EU,y8,c1]
  obtain⟨ad,cap,ey,hy⟩:=Ak i xN (JV iY R N M V a w i);obtain⟨k0,c,cur,e1,hh,hlen,mL,hn,I9,cY⟩:=i.box b _ hb;obtain⟨o',dc,ex,hoo,jA⟩:∃o' dc,a.eval x=.slice (some ⟨k0,o',none⟩) (m.getD n) dc/\(0<m.getD n->o'=lo)/\lo+m.getD n<=n:=by
   have hr:=tB iY R N M V a w i;unfold aNA at T1;split at T1
   ·cases T1
    obtain⟨b2,c2,e2,ex,_⟩:=hr;rw[e1]at e2;cases e2;exact⟨0,c.1,by rw[ex,hlen];rfl,λ_=>rfl,sM⟩
   ·cases T1
    obtain⟨b2,c2,o2,e2,ex,h1,h2,h3⟩:=hr;rw[e1]at e2;cases e2;rename_i n';refine⟨o2,_,ex,λhp=>?_,by rw[<-hlen];exact h2⟩;have:=h1 (by simp at hp;omega);omega
   cases T1
  have run:∀(w':Aa) (r:wa),(Builtin.copy_ #[t,t'] o.type #[a.eval x,a.eval y]).run P w=.ok r w'->(execOp a.eval o).run P w=.ok (.value r) w':=by exact Ou
  generalize hq:Nat.min k (m.getD n)=q;have hqk:q<=k:=hq▸Iy _ _;have hqm:q<=m.getD n:=hq▸Dy _ _;by_cases h0:q=0
  ·have a7:=run_copy_none (P:=P) w t t' o.type e (some ⟨k0,o',none⟩) ad (m.getD n) dc k cap dB LC (by rw[<-h0];exact hq);rw[<-ex,<-ey]at a7;have hw:=i.write (bc':=.row e' n 1 (N1 lo q f g)) hb e1 (w':=w) rfl (λ_ _=>rfl) rfl rfl rfl
    ⟨k0,c,cur,e1,hh,hlen,mL,hn,I9,λi' j bC hj=>by
     have:N1 lo q f g i' j=f i' j:=by unfold N1;rw[Ka O]
     rw[this];exact cY i' j bC hj⟩
   exact zcy
  have y1:0<q:=O;rcases hy with hy|⟨sb,so,rfl,hy⟩
  ·omega
  obtain⟨bad,news,NI,hl,kB,pL⟩:=DI (w:=w) (M:=M) (g:=g) (m:=q) (s:=1) (ad:=some ⟨sb,so,none⟩) O y1 (.inr ⟨sb,so,rfl,λk1 j hk hj=>hy k1 j O hj⟩)
  cases NI
  have h1:∀u∈news,u.oneCell'=true:=by
   intro u hu;obtain⟨j,hj⟩:=dd hu;have tC:j<q:=by have:=(Ue.1 hj).1;omega
   obtain⟨v,hv,hr⟩:=pL j 0 tC O;rw[show j*1+0=j by omega,hj]at hv;cases hv;have xO:=oW j 0 O O;exact gm hr (by cases hx:g j 0 <;> rw[hx]at xO <;> first|exact xO|rfl|cases xO)
  have sO:=hoo O;subst sO;have a7:=run_copy_row (P:=P) w t t' o.type e k0 o' (m.getD n) dc ⟨sb,so,none⟩ k cap cur e' news dB LC hh (by rw[hl,oh];exact hq.symm) kB (by rw[hl,mL];omega) h1;rw[<-ex,<-ey]at a7;have hw:=i.write (bc':=.row e' n 1 (N1 o' q f g)) hb e1 (w':=w.setRow k0 (cur.toList.take o'++news++cur.toList.drop (o'+news.length)).toArray) sM (λj hj=>Nl w k0 j _ hj) rfl rfl rfl
   ⟨k0,c,_,e1,Rl w k0 cur _ e' _ hh,hlen,by simp;omega,hn,I9,λi' j bC hj=>by
    have TP:(cur.toList.take o').length=o':=by simp;omega
    have hj0:j=0:=O;subst hj0;simp only[Jl];by_cases l7:o'<=i'/\i'<o'+q
    ·obtain⟨u,hu,hr⟩:=pL (i'-o') 0 O O;refine⟨u,?_,by unfold N1;rw[La l7];exact hr⟩;rw[Ti,Gd O,TP,Jc O];rw[show i'*1+0-o'=(i'-o')*1+0 by omega];exact hu
    obtain⟨u,hu,hr⟩:=cY i' 0 bC O;refine⟨u,?_,by unfold N1;rw[Ka l7];exact hr⟩;by_cases fZ:i'<o'
    ·rw[Ti,Jc O,Ni O];simpa using hu
    rw[Ti,Gd O,TP,Gd O,Ri];rw[show o'+news.length+(i'*1+0-o'-news.length)=i'*1+0 by omega];simpa using hu⟩
  refine⟨_,_,M,V,.inl (run _ _ a7),?_,hw.1,fb _ _,hw.2⟩;rw[hl,oh];rfl
def JK(w:Aa)(dT sT ty elem:Ea)(g aDD aJL:Nat)(a:Addr)(DB S0:Nat)(cur:Array wa)(t:Ea)(cs:List wa)(n sz:Nat)
  (hu:P.underlying dT=some (.slice elem)) (hs:(P.info? elem).map (·.size)=some sz)
  (hg:w.heap[g]? =some (.cells cur t (0,0))) (hm:n=Nat.min DB aDD) (hn:cs.length=n*sz)
  (xN:∀j v,cs[j]? =some v->w.cell? (a.add j)=some v) (oW:cs.length<=cur.size) (h1:∀v∈cs,v.oneCell'=true):
  (Builtin.copy_ #[dT,sT] ty #[.slice (some ⟨g,0,none⟩) aDD aJL,.slice (some a) DB S0]).run P w=
   .ok (goInt n) (w.setRow g (cs++cur.toList.drop cs.length).toArray):=by
 have hl:=Zv (P:=P) w a cs xN
 have jO:=wy P g 0 t cs 0 cur w hg (by simpa using oW) h1
 simp only[Ec,nh,List.take_zero,wj]at jO
 cases hq:P.info? elem with
 |none=>simp[hq]at hs
 |some i=>
  have hi:i.size=sz:=by simpa[hq]using hs
  simp[Builtin.copy_,Bb hu,Builtin.lenOf,Builtin.firstCells,sizeOf,typeInfo,hq,hi,<-hm,<-hn,hl,jO]
def GK(w:Aa)(dT sT ty elem:Ea)(d a:Da Addr)(aDD aJL DB S0 sz:Nat)(hu:P.underlying dT=some (.slice elem))(hs:(P.info? elem).map (·.size)=some sz)(hn:Nat.min DB aDD=0):
  (Builtin.copy_ #[dT,sT] ty #[.slice d aDD aJL,.slice a DB S0]).run P w=.ok (goInt 0) w:=by
 cases hq:P.info? elem with
 |none=>simp[hq]at hs
 |some i=>
  have hl:∀(x:Addr),(loadCells x 0).run P w=.ok #[] w:=λx=>by simpa using Zv (P:=P) w x [] sM
  cases d <;> cases a <;> simp[Builtin.copy_,Bb hu,Builtin.lenOf,Builtin.firstCells,sizeOf,typeInfo,hq,hn,storeCells,hl]
def UJ(T:List (Nat×bV))(I:St)(t:Nat)(x y:Ca)(K:AV->aP->Prop):Prop:=
 fe none (ev I x) λvx=>fe none (ev I y) λvy=>match dE T t with
 |some ti=>match ti.j7 with
  |.slice e=>match dE T e with
   |some te=>match sF I vy,vx with
    |some (k,s',g),.s (.own b)=>match aH I.box b with
     |some (some (.row e' n s f))=>bif Nat.blt 0 te.size&&Nat.beq s te.size&&Nat.beq s' te.size then
       fitAll k s g/\K (rH .i64 ((Nat.min k n:Nat):Int)) ((b,some (.row e' n s (N1 0 (Nat.min k n) f g)))::I.box)else False
     |_=>False
    |_,_=>False
   |none=>False
  |_=>False
 |none=>False
def aNE.spec{T:List (Nat×bV)}(hT:cD P T){t t':Nat}{x y:Ca}(ho:o.op=.call {callee:=.builtin .copy,args:= #[x,y],argTypes:= #[t,t']})
  (h:UJ T I t x y K):∃r bx,K r bx/\KI P o I r bx:=by
 unfold UJ at h
 replace h:=Db h
 obtain⟨vx,h,tB⟩:=h
 replace h:=Db h
 obtain⟨vy,h,JV⟩:=h
 split at h
 case h_2=>cases h
 rename_i ti gG
 have gF:=hT.get gG
 split at h
 case h_2=>cases h
 rename_i e hu
 have dB:P.underlying t=some (.slice e):=gF.isSlice hu
 split at h
 case h_2=>cases h
 rename_i te nD
 have mS:=hT.get nD
 split at h
 case h_2=>cases h
 rename_i k s' g b xN
 split at h
 case h_2=>cases h
 rename_i e' n s f hb
 cases hc:(Nat.blt 0 te.size&&Nat.beq s te.size&&Nat.beq s' te.size)with
 |false=>rw[hc]at h;cases h
 |true=>
  rw[hc]at h;simp only[cond_true]at h;simp only[Bool.and_eq_true]at hc;have c0:0<te.size:=Dc hc.1.1;have c2:=Mb hc.1.2;have c3:=Mb hc.2;subst c2;subst c3;obtain⟨oW,h⟩:=h;refine⟨_,_,h,λR N M V a w i=>?_⟩;obtain⟨ie,z,EU,y8,QZ,SM,LB⟩:=mS.K8;have LC:(P.info? e).map (·.size)=some te.size:=by simp[EU,y8]
  obtain⟨ad,cap,ey,hy⟩:=Ak i xN (JV iY R N M V a w i);obtain⟨k0,c,cur,e1,hh,hlen,mL,hn,I9,cY⟩:=i.box b _ hb;obtain⟨b2,c2,e2,ex,_⟩:=tB iY R N M V a w i;rw[e1]at e2;cases e2;rw[hlen]at ex;have run:∀(w':Aa) (r:wa),(Builtin.copy_ #[t,t'] o.type #[a.eval x,a.eval y]).run P w=.ok r w'->(execOp a.eval o).run P w=.ok (.value r) w':=by exact Ou
  generalize hq:Nat.min k n=q;have hqk:q<=k:=hq▸Iy _ _;have hqm:q<=n:=hq▸Dy _ _;by_cases h0:q=0
  ·have a7:=GK (P:=P) w t t' o.type e (some ⟨k0,0,none⟩) ad n c.1 k cap te.size dB LC (by rw[<-h0];exact hq);rw[<-ex,<-ey]at a7;have hw:=i.write (bc':=.row e' n te.size (N1 0 q f g)) hb e1 (w':=w) rfl (λ_ _=>rfl) rfl rfl rfl
    ⟨k0,c,cur,e1,hh,hlen,mL,hn,I9,λi' j bC hj=>by
     have:N1 0 q f g i' j=f i' j:=by unfold N1;rw[Ka O]
     rw[this];exact cY i' j bC hj⟩
   exact zcy
  have y1:0<q:=O;rcases hy with hy|⟨sb,so,rfl,hy⟩
  ·omega
  obtain⟨bad,news,NI,hl,kB,pL⟩:=DI (w:=w) (M:=M) (g:=g) (m:=q) (s:=te.size) (ad:=some ⟨sb,so,none⟩) c0 y1 (.inr ⟨sb,so,rfl,λk1 j hk hj=>hy k1 j O hj⟩)
  cases NI
  have h1:∀u∈news,u.oneCell'=true:=by
   intro u hu;obtain⟨j,hj⟩:=dd hu;have tC:j<q*te.size:=by have:=(Ue.1 hj).1;omega
   have hd:=Ky j te.size;have fZ:j / te.size<q:=(Vx c0).2 tC;obtain⟨v,hv,hr⟩:=pL (j / te.size) (j%te.size) fZ (Cg _ c0);rw[show j / te.size*te.size+j%te.size=j by rw[Cj];exact hd,hj]at hv;cases hv;have xO:=oW (j / te.size) (j%te.size) O (Cg _ c0);exact gm hr (by cases hx:g (j / te.size) (j%te.size) <;> rw[hx]at xO <;> first|exact xO|rfl|cases xO)
  have hnq:n*te.size<=cur.size:=by rw[mL];exact Vc _ hn
  have hqn:q*te.size<=n*te.size:=Vc _ hqm;have a7:=JK (P:=P) w t t' o.type e k0 n c.1 ⟨sb,so,none⟩ k cap cur e' news q te.size dB LC hh hq.symm hl kB O h1;rw[<-ex,<-ey]at a7;have hw:=i.write (bc':=.row e' n te.size (N1 0 q f g)) hb e1 (w':=w.setRow k0 (news++cur.toList.drop news.length).toArray) sM (λj hj=>Nl w k0 j _ hj) rfl rfl rfl
   ⟨k0,c,_,e1,Rl w k0 cur _ e' _ hh,hlen,by simp;omega,hn,I9,λi' j bC hj=>by
    simp only[Jl];by_cases l7:i'<q
    ·obtain⟨u,hu,hr⟩:=pL i' j l7 hj;refine⟨u,?_,by unfold N1;rw[La ⟨Nat.zero_le _,O⟩];exact hr⟩;have fZ:i'*te.size+j<news.length:=(Ue.1 hu).1;rw[Jc fZ];exact hu
    obtain⟨u,hu,hr⟩:=cY i' j bC hj;refine⟨u,?_,by unfold N1;rw[Ka O];exact hr⟩;have FK:q*te.size<=i'*te.size:=Vc _ O;rw[Gd O,Ri,show news.length+(i'*te.size+j-news.length)=i'*te.size+j by omega];simpa using hu⟩
  exact⟨_,_,M,V,.inl (run _ _ a7),rfl,hw.1,fb _ _,hw.2⟩
def Lu(T:List (Nat×bV))(t:Nat):Nat:=match dE T t with
 |some ti=>match ti.j7 with
  |.slice e=>match dE T e with
   |some te=>te.size
   |none=>0
  |_=>0
 |none=>0
def LX(T:List (Nat×bV))(I:St)(t:Nat)(x y:Ca)(K:AV->aP->Prop):Prop:=
 match Nat.beq (Lu T t) 1 with
 |true=>zN T I t x y K
 |false=>UJ T I t x y K
def LX.spec{T:List (Nat×bV)}(hT:cD P T){t t':Nat}{x y:Ca}(ho:o.op=.call {callee:=.builtin .copy,args:= #[x,y],argTypes:= #[t,t']})
  (h:LX T I t x y K):∃r bx,K r bx/\KI P o I r bx:=by
 unfold LX at h
 split at h
 ·exact copy.spec hT ho h
 ·exact aNE.spec hT ho h
end
end Go.Ax
namespace Go.Ax
open Go.RowKit
open Go.ChangeMaps (setBlock)
def oX:List (Int×Int)->Int->Da Int
 |[],_=>none
 |(a,v)::r,k=>bif k==a then some v else oX r k
def NJ(l:List (Int×Int))(k:Int):Bool:=(oX l k).isSome
def getM(l:List (Int×Int))(k:Int):Int:=(oX l k).getD 0
def pU:List (Int×Int)->Int->Int->List (Int×Int)
 |[],k,v=>[(k,v)]
 |(a,u)::r,k,v=>bif k==a then(a,v)::r else(a,u)::pU r k v
def aKM(T:List (Nat×bV))(e:Nat):Da VK:=match dE T e with
 |some te=>match te.j7 with
  |.int .i64=>some .int
  |.bool=>some .bool
  |_=>none
 |none=>none
def TK(T:List (Nat×bV))(k:Nat):Bool:=match dE T k with
 |some tk=>match tk.j7 with
  |.int .i64=>true
  |_=>false
 |none=>false
def Zr{P:Ba}{T:List (Nat×bV)}(hT:cD P T){k:Nat}(h:TK T k=true):P.underlying k=some (.int .i64):=by
 unfold TK at h;split at h
 ·rename_i tk hk;split at h
  ·rename_i hu;exact(hT.get hk).isInt hu
  cases h
 cases h
def UF(vk:VK):AV->Da Int
 |.s (.d (.val (.int .i64 n)))=>match vk with|.int=>some n|.bool=>none
 |.s (.d (.val (.bool b)))=>match vk with|.bool=>some (bif b then 1 else 0)|.int=>none
 |.s (.d (.lit b))=>match vk with|.bool=>some (bif b then 1 else 0)|.int=>none
 |_=>none
def Nw{vk:VK}{v:AV}{n:Int}{M:Mem}{V:Nm}{u:wa}(h:UF vk v=some n)(r:v.bI M V u):u=vk.val n:=by
 have hb:∀b:Bool,Value.bool b=VK.val .bool (bif b then 1 else 0):=λb=>by cases b <;> rfl
 unfold UF at h;split at h
 ·cases vk with
  |int=>cases h;exact r
  |bool=>cases h
 ·exact zct
 ·exact zct
 cases h
def findAt(vk:VK):List (Int×Int)->Int->Nat->Da (Nat×wa)
 |[],_,_=>none
 |(a,v)::r,k,i=>bif k==a then some (i,vk.val v)else findAt vk r k (i+1)
def B5(vk:VK)(k:Int):∀(l:List (Int×Int)) (i:Nat),Instr.findNow (.int .i64) (.int .i64 k) (iN vk l i) i=some (findAt vk l k i)
 |[],_=>rfl
 |(a,v)::r,i=>by
  simp only[iN,Instr.findNow,Instr.sameNow,Xi,findAt]
  cases h:k==a with
  |true=>rfl
  |false=>simp only[Ua];exact B5 vk k r (i+1)
def run_findKey{P:Ba}(w:Aa){kt:Ea}(hk:P.underlying kt=some (.int .i64))(vk:VK)(k:Int)(l:List (Int×Int)):
  (Instr.findKey kt (.int .i64 k) (iN vk l 0)).run P w=.ok (findAt vk l k 0) w:=by
 simp[Instr.findKey,Bb hk,B5]
def run_checkKey{P:Ba}(w:Aa){kt:Ea}(hk:P.underlying kt=some (.int .i64))(b:Bool)(k:Int)(n:Nat):(Instr.checkKey b (n+1) kt (.int .i64 k)).run P w=.ok () w:=by simp[Instr.checkKey,Bb hk]
def E3(vk:VK)(k:Int):∀(l:List (Int×Int)) (i:Nat),(findAt vk l k i).map (·.2)=(oX l k).map vk.val
 |[],_=>rfl
 |(a,v)::r,i=>by
  simp only[findAt,oX]
  cases h:k==a with
  |true=>rfl
  |false=>simp only[Ua];exact E3 vk k r (i+1)
def xV(vk:VK):∀(l:List (Int×Int)) (i:Nat),(iN vk l i).length=l.length
 |[],_=>rfl
 |(_,_)::r,i=>by simp[iN,xV vk r (i+1)]
def LQ(vk:VK):∀(l:List (Int×Int)) (i:Nat),(iN vk l i).map (·.born)=List.range' i l.length
 |[],_=>rfl
 |(_,_)::r,i=>by simp[iN,LQ vk r (i+1),List.range'_succ]
def xW(vk:VK):∀(l:List (Int×Int)) (i j:Nat) (e:MapEntry),(iN vk l i)[j]? =some e->j<l.length/\e= {key:=.int .i64 (l.getD j (0,0)).1,val:=vk.val (l.getD j (0,0)).2,born:=i+j}
 |[],_,_,_,h=>by simp[iN]at h
 |(a,v)::r,i,0,e,h=>by simp[iN]at h;exact⟨sM,by rw[<-h];rfl⟩
 |(a,v)::r,i,j+1,e,h=>by
  have h:(iN vk r (i+1))[j]? =some e:=by simpa[iN]using h
  obtain⟨h1,h2⟩:=xW vk r (i+1) j e h;exact zea
def O7(vk:VK)(k v:Int):∀(l:List (Int×Int)) (i j:Nat) (u:wa),findAt vk l k i=some (i+j,u)->(∃e,(iN vk l i)[j]? =some e/\e.key=.int .i64 k)/\
   (iN vk l i).modify j (λe=>{e with key:=.int .i64 k,val:=vk.val v})=iN vk (pU l k v) i/\(pU l k v).length=l.length
 |[],_,_,_,h=>by cases h
 |(a,b)::r,i,j,u,h=>by
  simp only[findAt]at h
  cases hk:k==a with
  |true=>
   rw[hk]at h;simp only[cond_true,Je,Aj]at h;obtain rfl:j=0:=O;have:k=a:=by simpa using hk
   subst this;simp[iN,pU]
  |false=>
   rw[hk]at h;simp only[Ua]at h;have hj:∃q,j=q+1:=by
    cases j with
    |zero=>
     exfalso;have:∀(l:List (Int×Int)) (i p:Nat) (u:wa),findAt vk l k i=some (p,u)->i<=p:=by
      intro l;induction l with
      |nil=>intro i p u h;cases h
      |cons x r ih=>intro i p u h;obtain⟨a,b⟩:=x;simp only[findAt]at h;exact zaj
     have:=this r (i+1) _ u h;omega
    |succ q=>exact⟨q,rfl⟩
   obtain⟨q,rfl⟩:=hj;obtain⟨⟨e,h1,JX⟩,h2,h3⟩:=O7 vk k v r (i+1) q u ze7;refine⟨⟨e,by simpa[iN]using h1,JX⟩,?_,by simp[pU,hk,h3]⟩;simp[iN,pU,hk,h2]
def O8(vk:VK)(k v:Int):∀(l:List (Int×Int)) (i:Nat),findAt vk l k i=none->iN vk l i++ [{key:=.int .i64 k,val:=vk.val v,born:=i+l.length}]=iN vk (pU l k v) i/\(pU l k v).length=l.length+1
 |[],i,_=>by simp[iN,pU]
 |(a,b)::r,i,h=>by
  simp only[findAt]at h
  cases hk:k==a with
  |true=>rw[hk]at h;cases h
  |false=>rw[hk]at h;obtain⟨h1,h2⟩:=O8 vk k v r (i+1) h;have e:i+(r.length+1)=i+1+r.length:=O;simp[iN,pU,hk,h2,<-h1,e]
section
variable{P:Ba}{I:St}{K:AV->aP->Prop}{o:Oper}
def TF(T:List (Nat×bV))(I:St)(d t:Nat)(K:AV->aP->Prop):Prop:=
 match dE T t with
 |some ti=>match ti.j7 with
  |.map k e=>match aKM T e with
   |some vk=>bif TK T k then match aH I.box d with
    |none=>K (.s (.mp d)) ((d,some (.map vk []))::I.box)
    |some _=>False
    else False
   |none=>False
  |_=>False
 |none=>False
def mkMap.spec{T:List (Nat×bV)}{d t:Nat}(ho:o.op=.makeMap t none)(h:TF T I d t K):∃r bx,K r bx/\KI P o I r bx:=by
 unfold TF at h;split at h
 case h_2=>cases h
 split at h
 case h_2=>cases h
 split at h
 case h_2=>cases h
 rename_i vk hvk
 cases hk:TK T _ with
 |false=>rw[hk]at h;cases h
 |true=>
  rw[hk]at h;simp only[cond_true]at h;split at h
  case h_2=>cases h
  rename_i hd;refine⟨_,_,h,λR N M V a w i=>?_⟩;have a7:(execOp a.eval o).run P w=.ok (.value (.map (some w.heap.size))) (w.alloc (.map #[] 0)):=by exact Xs
  obtain⟨V',h1,h2,h3,h4⟩:=i.new (w':=w.alloc (.map #[] 0)) (c:=(0,0)) hd (ob:=.map #[] 0) rfl rfl rfl rfl (bc:=.map vk []) (by intro V' e _;exact⟨_,_,e,Ke w _⟩);exact vw
def gE{w:Aa}{r:Nat}{es es':Array MapEntry}{c c':Nat}(hr:w.heap[r]? =some (.map es c)):(setObj r (.map es' c')).run P w=.ok () (setBlock w r (.map es' c')):=by simp[setObj,Sem.run,hr,setBlock]
def gC(w:Aa)(r:Nat)(ob:Obj):(setBlock w r ob).heap.size=w.heap.size:=by simp[setBlock]
def fD(w:Aa)(r:Nat)(ob:Obj){k:Nat}(h:k≠r):(setBlock w r ob).heap[k]? =w.heap[k]? :=by simp[setBlock,tz (Ne.symm h)]
def iS{w:Aa}{r:Nat}{ob ob':Obj}(h:w.heap[r]? =some ob):(setBlock w r ob').heap[r]? =some ob':=by have:=nX h;simp[setBlock,this]
def Fv(T:List (Nat×bV))(I:St)(t:Nat)(x y z:Ca)(K:AV->aP->Prop):Prop:=
 fe none (ev I x) λvx=>fe none (ev I y) λvy=>fe none (ev I z) λvz=>match vx,vy with
  |.s (.mp b),.s (.d (.val (.int .i64 k)))=>match aH I.box b with
   |some (some (.map vk l))=>match dE T t with
    |some ti=>match ti.j7 with
     |.map kt _=>bif TK T kt then match UF vk vz with
      |some n=>K (.s (.d .bL)) ((b,some (.map vk (pU l k n)))::I.box)
      |none=>False
      else False
     |_=>False
    |none=>False
   |_=>False
  |_,_=>False
def dh.spec{T:List (Nat×bV)}(hT:cD P T){t:Nat}{x y z:Ca}(ho:o.op=.mapUpdate t x y z)(h:Fv T I t x y z K):∃r bx,K r bx/\KI P o I r bx:=by
 unfold Fv at h;replace h:=Db h;obtain⟨vx,h,tB⟩:=h;replace h:=Db h;obtain⟨vy,h,JV⟩:=h;replace h:=Db h;obtain⟨vz,h,hrz⟩:=h;split at h
 case h_2=>cases h
 rename_i b k;split at h
 case h_2=>cases h
 rename_i vk l hb;split at h
 case h_2=>cases h
 rename_i ti gG;split at h
 case h_2=>cases h
 rename_i kt et hu
 cases hk:TK T kt with
 |false=>rw[hk]at h;cases h
 |true=>
  rw[hk]at h;simp only[cond_true]at h;split at h
  case h_2=>cases h
  rename_i n hn;have SK:=Zr hT hk;have dB:=(hT.get gG).EM hu;refine⟨_,_,h,λR N M V a w i=>?_⟩;obtain⟨bb,c,e1,ex⟩:=tB iY R N M V a w i;obtain⟨b',c',e2,hh⟩:=i.box b _ hb;rw[e1]at e2;cases e2;have ey:a.eval y=.int .i64 k:=JV iY R N M V a w i;have ez:a.eval z=vk.val n:=Nw hn (hrz iY R N M V a w i);have jL:(Instr.checkKey false 10000 kt (.int .i64 k)).run P w=.ok () w:=run_checkKey w SK false k 9999;have oL:=run_findKey (P:=P) w SK vk k l;have YQ:(Instr.mapUpdate t (.map (some bb)) (.int .i64 k) (vk.val n)).run P w=.ok () (setBlock w bb (.map (iN vk (pU l k n) 0).toArray (pU l k n).length)):=by
   cases hf:findAt vk l k 0 with
   |none=>
    rw[hf]at oL;obtain⟨q1,q2⟩:=O8 vk k n l 0 hf;have e3:((iN vk l 0).toArray.push {key:=.int .i64 k,val:=vk.val n,born:=l.length})=(iN vk (pU l k n) 0).toArray:=by rw[<-q1];simp
    exact zcb
   |some pr=>
    obtain⟨p,u⟩:=pr;rw[hf]at oL;obtain⟨⟨e,q0,q0'⟩,q1,q2⟩:=O7 vk k n l 0 p u (by rw[Ec];exact hf);have HU:(Instr.keyThatStays (.int .i64 k) (.int .i64 k)).run P w=.ok (.int .i64 k) w:=by simp[Instr.keyThatStays,Instr.sameBits]
    have e3:(iN vk l 0).modify p (λe=>{key:=.int .i64 k,val:=vk.val n,born:=e.born})=iN vk (pU l k n) 0:=q1;have e4:(((iN vk l 0).toArray[p]?).map (·.key)).getD (.int .i64 k)=.int .i64 k:=by simp[q0,q0']
    exact zaK
  have a7:(execOp a.eval o).run P w=.ok .skip (setBlock w bb (.map (iN vk (pU l k n) 0).toArray (pU l k n).length)):=by simp[execOp,ho,ex,ey,ez,YQ]
  have hw:=i.write (bc':=.map vk (pU l k n)) hb e1 (w':=setBlock w bb (.map (iN vk (pU l k n) 0).toArray (pU l k n).length)) (gC _ _ _) (λj hj=>fD _ _ _ hj) rfl rfl rfl
   ⟨bb,c,e1,iS hh⟩
  exact jf
def S6(T:List (Nat×bV))(I:St)(d t:Nat)(x:Ca)(K:AV->aP->Prop):Prop:=
 fe none (ev I x) λvx=>match vx with
  |.s (.mp b)=>match aH I.box b with
   |some (some (.map _ l))=>match dE T t with
    |some ti=>match ti.j7 with
     |.map _ _=>match aH I.box d with
      |none=>K (.s (.ptr d 0)) ((d,some (.iter b l.length []))::I.box)
      |some _=>False
     |_=>False
    |none=>False
   |_=>False
  |_=>False
def range.spec{T:List (Nat×bV)}(hT:cD P T){d t:Nat}{x:Ca}(ho:o.op=.range t x)(h:S6 T I d t x K):∃r bx,K r bx/\KI P o I r bx:=by unfold S6 at h;exact zo
def tu(I:St)(x:Ca)(K:AV->aP->Prop):Prop:=
 fe none (ev I x) λvx=>match vx with
  |.s (.ptr b 0)=>match aH I.box b with
   |some (some (.iter m n seen))=>match aH I.box m with
    |some (some (.map vk l))=>l.length=n/\((∀i,i<n->i∈seen)->K (.t [.s (.d (.lit false))]) I.box)/\
      (∀i,i<n->i∉seen->K (.t [.s (.d (.lit true)),.s (.d (.val (.int .i64 (l.getD i (0,0)).1))),.s (.d (vk.dv (l.getD i (0,0)).2))]) ((b,some (.iter m n (i::seen)))::I.box))
    |_=>False
   |_=>False
  |_=>False
def Zi(vk:VK)(n:Int)(M:Mem):(vk.dv n).bI M (vk.val n):=by cases vk <;> rfl
def vK{w w1:Aa}(h:w1=w\/w1=w.drew):w1.heap=w.heap/\w1.os=w.os/\w1.tape=w.tape/\w1.output=w.output:=by rcases h with rfl|rfl <;> exact⟨rfl,rfl,rfl,rfl⟩
def next.spec{x:Ca}(ho:o.op=.next x false)(h:tu I x K){R:Cx}{N:Nat}{M:Mem}{V:Nm}{a:Act}{w:Aa}(i:Inv R N M V I a w):
  ∃r bx,K r bx/\∃v w',(execOp a.eval o).run P w=.ok (.value v) w'/\r.bI M V v/\Inv R N M V ⟨I.env,bx⟩ a w'/\cE R w w':=by
 unfold tu at h
 replace h:=Db h
 obtain⟨vx,h,tB⟩:=h
 split at h
 case h_2=>cases h
 rename_i b
 split at h
 case h_2=>cases h
 rename_i m n seen hb
 split at h
 case h_2=>cases h
 rename_i vk l hm
 obtain⟨hl,h1,h2⟩:=h
 subst hl
 obtain⟨bb,c,e1,ex⟩:=tB iY R N M V a w i
 obtain⟨b',c',bm,cm,e2,em,hh⟩:=i.box b _ hb
 rw[e1]at e2;cases e2
 obtain⟨bm',cm',RG,hhm⟩:=i.box m _ hm
 rw[em]at RG;cases RG
 have hold:∀x∈(iN vk l 0).toArray.toList,x.born<l.length:=by intro x hx;obtain⟨j,hj⟩:=dd hx;obtain⟨k1,k2⟩:=xW vk l 0 j x Zp;rw[k2];simpa using k1
 have kK:∀e,e∈(leftOf (iN vk l 0).toArray seen.reverse.toArray).toList↔∃j,j<l.length/\j∉seen/\e= {key:=.int .i64 (l.getD j (0,0)).1,val:=vk.val (l.getD j (0,0)).2,born:=j}:=by
  intro e;unfold leftOf;simp only[Yv,rf];constructor
  ·rintro⟨hx,hs⟩;obtain⟨j,hj⟩:=dd hx;obtain⟨k1,k2⟩:=xW vk l 0 j e Zp;exact zcL
  rintro⟨j,hj,hs,rfl⟩;refine⟨?_,by simpa using hs⟩;have fZ:j<(iN vk l 0).length:=by rw[xV];exact hj
  have hg:=List.getElem?_eq_getElem fZ;obtain⟨_,k2⟩:=xW vk l 0 j _ hg;exact zdr
 rcases Cr (P:=P) w o.type bb bm l.length l.length seen.reverse.toArray (iN vk l 0).toArray l.length hh hhm hold (mb _)with⟨hz,a7⟩|⟨e,he,w1,V7,a7⟩
 ·refine⟨_,_,h1 (λj hj=>?_),_,w,by simp[execOp,ho,ex,a7],⟨[.bool false],rfl,rfl,trivial⟩,i,lc _ _⟩;refine Classical.byContradiction λhs=>?_
  have:=(kK _).2 ⟨j,hj,hs,rfl⟩;have TT:(leftOf (iN vk l 0).toArray seen.reverse.toArray).toList=[]:=fh Gq;exact Dq
 ·obtain⟨j,hj,hs,rfl⟩:=(kK e).1 he;obtain⟨q1,q2,q3,q4⟩:=vK V7;have hh1:w1.heap[bb]? =some (.mapIter (some bm) l.length seen.reverse.toArray l.length):=by rw[q1];exact hh
  have qO:seen.reverse.toArray.push j=(j::seen).reverse.toArray:=sM;have QR:(execOp a.eval o).run P w=.ok (.value (.tuple #[.bool true,.int .i64 (l.getD j (0,0)).1,vk.val (l.getD j (0,0)).2])) (setBlock w1 bb (.mapIter (some bm) l.length (j::seen).reverse.toArray l.length)):=by exact Jt
  exact qn
end
section
variable{P:Ba}{I:St}{g:Da Bool}{K:AV->Prop}{o:Oper}
def UE(I:St)(va:AV)(K:AV->Prop):Prop:=match va with
 |.s (.ptr b 0)=>match aH I.box b with
  |some (some (.iter m n (i::_)))=>match aH I.box m with
   |some (some (.map vk l))=>l.length=n/\i<l.length/\K (.t [.s (.d (.val (.int .i64 (l.getD i (0,0)).1))),.s (.d (vk.dv (l.getD i (0,0)).2))])
   |_=>False
  |_=>False
 |_=>False
def Zh(T:List (Nat×bV))(e:Nat)(vk:VK):Bool:=match dE T e with
 |some te=>match te.zero,vk with
  |[.int .i64 n],.int=>n==0&& !te.agg
  |[.bool b],.bool=> !b&& !te.agg
  |_,_=>false
 |none=>false
def Sw{T:List (Nat×bV)}(hT:cD P T){e:Nat}{vk:VK}(h:Zh T e vk=true)(w:Aa):(zeroValue e).run P w=.ok (vk.val 0) w:=by
 unfold Zh at h;split at h
 case h_2=>cases h
 rename_i te nD;split at h
 case h_3=>cases h
 ·rename_i n hn;simp only[Bool.and_eq_true,Tf,Qh]at h;exact zaL
 rename_i b hn;simp only[Bool.and_eq_true,Qh]at h;exact zaL
def xE(T:List (Nat×bV))(I:St)(t:Nat)(ok:Bool)(g:Da Bool)(vx vy:AV)(K:AV->Prop):Prop:=match vx,vy with
 |.s (.mp b),.s (.d (.val (.int .i64 k)))=>match aH I.box b with
  |some (some (.map vk l))=>match dE T t with
   |some ti=>match ti.j7 with
    |.map kt et=>bif TK T kt&&(dE T et).isSome then match ok with
     |true=>K (.t [.s (.d (bif NJ l k then vk.dv (getM l k)else .bL)),.s (.d (.val (.bool (NJ l k))))])
     |false=>imp g (NJ l k=true\/Zh T et vk=true)/\K (.s (.d (vk.dv (getM l k))))
     else False
    |_=>False
   |none=>False
  |_=>False
 |_,_=>False
def look.spec{T:List (Nat×bV)}(hT:cD P T){t:Nat}{x y:Ca}{ok:Bool}(ho:o.op=.lookup t x y ok)(h:fe g (ev I x) λva=>fe g (ev I y) λvb=>xE T I t ok g va vb K):
  ∃r,K r/\jW P o I g r:=by
 replace h:=Db h
 obtain⟨vx,h,tB⟩:=h
 replace h:=Db h
 obtain⟨vy,h,JV⟩:=h
 unfold xE at h
 split at h
 case h_2=>cases h
 rename_i b k
 split at h
 case h_2=>cases h
 rename_i vk l hb
 split at h
 case h_2=>cases h
 rename_i ti gG
 split at h
 case h_2=>cases h
 rename_i kt et hu
 cases hk:(TK T kt&&(dE T et).isSome)with
 |false=>rw[hk]at h;cases h
 |true=>
  rw[hk]at h;simp only[cond_true]at h;simp only[Bool.and_eq_true]at hk;have SK:=Zr hT hk.1;have dB:=(hT.get gG).EM hu;obtain⟨te,nD⟩:=Ez.1 hk.2;have mS:=hT.get nD;have key:∀(ha:act g) R N M V a w,Inv R N M V I a w->∃(v:wa) (z:wa),(zeroValue et).run P w=.ok z w/\(execOp a.eval o).run P w=.ok (.value v) w/\v=(if ok=true then .tuple #[((oX l k).map vk.val).getD z,.bool (NJ l k)]else((oX l k).map vk.val).getD z):=by
   intro ha R N M V a w i;obtain⟨bb,c,e1,ex⟩:=tB ha R N M V a w i;obtain⟨b',c',e2,hh⟩:=i.box b _ hb;rw[e1]at e2;cases e2;have ey:a.eval y=.int .i64 k:=JV ha R N M V a w i;obtain⟨z,hz,_⟩:=mS.w6 w;have jL:(Instr.checkKey (iN vk l 0).toArray.isEmpty 10000 kt (.int .i64 k)).run P w=.ok () w:=run_checkKey w SK _ k 9999;have oL:=run_findKey (P:=P) w SK vk k l;have hf:=E3 vk k l 0
   cases hfa:findAt vk l k 0 with
   |none=>
    rw[hfa]at oL hf;have hf:(oX l k).map vk.val=none:=hf.symm;have hn:oX l k=none:=by simpa using hf
    refine⟨_,z,hz,?_,rfl⟩;simp only[Vv]at jL;simp only[execOp,ho,ex,ey];simp[Instr.lookup,Bb dB,MapKept.run_getObj_map hh,jL,oL,hz,hn,NJ]
   |some pr=>obtain⟨p,u⟩:=pr;rw[hfa]at oL hf;have hf:(oX l k).map vk.val=some u:=hf.symm;obtain⟨n,hn,WA⟩:=Iz.1 hf;refine⟨_,z,hz,?_,rfl⟩;simp only[Vv]at jL;simp only[execOp,ho,ex,ey];simp[Instr.lookup,Bb dB,MapKept.run_getObj_map hh,jL,oL,hn,WA,NJ]
  cases ok with
  |true=>
   refine⟨_,h,λha R N M V a w i=>?_⟩;obtain⟨v,z,_,a7,hv⟩:=key ha R N M V a w i;refine⟨v,a7,_,hv,?_,rfl,trivial⟩;show(bif NJ l k then vk.dv (getM l k)else .bL).bI M (((oX l k).map vk.val).getD z);unfold NJ getM
   cases oX l k with
   |none=>trivial
   |some n=>exact Zi vk n M
  |false=>
   refine⟨_,h.2,λha R N M V a w i=>?_⟩;obtain⟨v,z,hz,a7,hv⟩:=key ha R N M V a w i;refine⟨v,a7,?_⟩;rw[hv]
   cases hn:oX l k with
   |some n=>simp only[hn,getM,Nn,lr];exact Zi vk n M
   |none=>
    have hh:=(h.1.get ha).resolve_left (by unfold NJ;rw[hn];simp);have:=hz.symm.trans (Sw hT hh w)
    cases this
    simp only[hn,getM,Cy,Option.map_none];exact Zi vk 0 M
def entry.spec{x:Ca}(ho:o.op=.entry x)(h:fe g (ev I x) λva=>UE I va K):∃r,K r/\jW P o I g r:=by
 replace h:=Db h;obtain⟨vx,h,tB⟩:=h;unfold UE at h;split at h
 case h_2=>cases h
 rename_i b;split at h
 case h_2=>cases h
 rename_i m n j seen hb;split at h
 case h_2=>cases h
 rename_i vk l hm;obtain⟨hl,hj,h⟩:=h;subst hl;refine⟨_,h,λha R N M V a w i=>?_⟩;obtain⟨bb,c,e1,ex⟩:=tB ha R N M V a w i;obtain⟨b',c',bm,cm,e2,em,hh⟩:=i.box b _ hb;rw[e1]at e2;cases e2;obtain⟨bm',cm',RG,hhm⟩:=i.box m _ hm;rw[em]at RG;cases RG;have fZ:j<(iN vk l 0).length:=by rw[xV];exact hj
 have hg:=List.getElem?_eq_getElem fZ;obtain⟨_,k2⟩:=xW vk l 0 j _ hg;rw[Ec]at k2;have kK:=Ce fZ;generalize (iN vk l 0)[j]=e at*;subst k2;have qO:(j::seen).reverse.toArray=seen.reverse.toArray.push j:=sM;rw[qO]at hh;have a7:=yr (P:=P) w bb bm l.length seen.reverse.toArray (iN vk l 0).toArray l.length {key:=.int .i64 (l.getD j (0,0)).1,val:=vk.val (l.getD j (0,0)).2,born:=j} hh hhm (by simpa using kK) (by rw[show(iN vk l 0).toArray.toList=iN vk l 0 from rfl,LQ];exact List.nodup_range');exact⟨.tuple #[.int .i64 (l.getD j (0,0)).1,vk.val (l.getD j (0,0)).2],by simp[execOp,ho,ex,a7],[.int .i64 (l.getD j (0,0)).1,vk.val (l.getD j (0,0)).2],rfl,rfl,Zi _ _ _,trivial⟩
end
end Go.Ax
