/- Part 2: lemmas that the proofs of this seat share; by itself it claims nothing. -/
import Derived.Test.YtphelnpanihmiaaGreatDoorPt1
/- append on a view of an own row: in place, or in a new row; append(nil, make([]T, n)...). -/
namespace Go.Ax
open Go.RowKit

theorem run_append_room_at (P : Program) (w : World) (t ty e : TypeId) (i : TypeInfo) (ht : P.underlying t = some (.slice e)) (hi : P.info? e = some i)
    (g o sLen sCap : Nat) (cur : Array Value) (hg : w.heap[g]? = some (.cells cur e (0, 0)))
    (a : Addr) (m c : Nat) (news : List Value) (hl : news.length = m * i.size) (hnews : ∀ j u, news[j]? = some u → w.cell? (a.add j) = some u) (h1 : ∀ u ∈ news, u.oneCell' = true)
    (hroom : sLen + m ≤ sCap) (hfit : o + sLen * i.size + news.length ≤ cur.size) :
    (Builtin.append_ #[t, t] ty #[.slice (some ⟨g, o, none⟩) sLen sCap, .slice (some a) m c]).run P w =
      .ok (.slice (some ⟨g, o, none⟩) (sLen + m) sCap) (w.setRow g (cur.toList.take (o + sLen * i.size) ++ news ++ cur.toList.drop (o + sLen * i.size + news.length)).toArray) := by
  have hf := run_firstCells_some (P := P) w i.size m a m c news hl hnews
  have hst := run_storeCells_at P g (o + sLen * i.size) e news 0 cur w hg (by simpa using hfit) h1
  simp only [Nat.add_zero] at hst
  simp [Builtin.append_, run_underlying ht, sizeOf, typeInfo, hi, Builtin.lenOf, hroom, hf, cell_add, hst]

section
variable {P : Program} {σ : St} {K : AV → Boxes → Prop} {o : Oper}

/-- append(own[lo:lo+n], ..) -/
def appOX (T : List (Nat × TyI)) (σ : St) (d t : Nat) (x y : Operand) (K : AV → Boxes → Prop) : Prop :=
  fe none (ev σ x) fun vx => fe none (ev σ y) fun vy => match getT T t with
    | some ti => match ti.und with
      | .slice e => match getT T e with
        | some te => match getB σ.box d with
          | none => match srcX σ vy with
            | some (m, s', g) => bif Nat.beq s' te.size && Nat.blt 0 te.size && Nat.blt 0 te.bytes && Nat.beq te.zero.length te.size then
              match vx with
              | .s (.osl b s2 lo n) => match getB σ.box b with
                | some (some (.row e' _ s f)) => bif Nat.beq e' e && Nat.beq s te.size && Nat.beq s2 te.size then
                    0 ≤ m ∧ (lo + n + m) * te.bytes ≤ 140737488355328 ∧ fitAll m s' g ∧
                    K (.s (.osl d te.size lo (n + m))) ((d, some (.row e (lo + n + m) te.size (catF (lo + n) f g))) :: (b, none) :: σ.box) ∧
                    K (.s (.osl d te.size 0 (n + m))) ((d, some (.row e (n + m) te.size (catF n (fun i => f (lo + i)) g))) :: (b, none) :: σ.box)
                    else False
                | _ => False
              | _ => False
              else False
            | none => False
          | some _ => False
        | none => False
      | _ => False
    | none => False

theorem appO.spec {T : List (Nat × TyI)} (hT : TabOK P T) {d t : Nat} {x y : Operand} (ho : o.op = .call { callee := .builtin .append, args := #[x, y], argTypes := #[t, t] })
    (h : appOX T σ d t x y K) {cx : Cx} {N : Nat} {M : Mem} {β : Nm} {a : Act} {w : World} (i : Inv cx N M β σ a w) : ∃ r bx, K r bx ∧ PostApp P o σ cx N M a w r bx := by
  unfold appOX at h
  replace h := fe.ev h
  obtain ⟨vx, h, hrx⟩ := h
  replace h := fe.ev h
  obtain ⟨vy, h, hry⟩ := h
  split at h
  case h_2 => exact h.elim
  rename_i ti hti
  have hok := hT.get hti
  split at h
  case h_2 => exact h.elim
  rename_i e hu
  have hund : P.underlying t = some (.slice e) := hok.isSlice hu
  split at h
  case h_2 => exact h.elim
  rename_i te hte
  have hoke := hT.get hte
  split at h
  case h_2 => exact h.elim
  rename_i hd
  split at h
  case h_2 => exact h.elim
  rename_i m s' g hsrc
  cases hc : (Nat.beq s' te.size && Nat.blt 0 te.size && Nat.blt 0 te.bytes && Nat.beq te.zero.length te.size) with
  | false => rw [hc] at h; exact h.elim
  | true =>
    rw [hc] at h
    simp only [cond_true] at h
    simp only [Bool.and_eq_true] at hc
    have c1 := Nat.eq_of_beq_eq_true hc.1.1.1
    have c2 : 0 < te.size := Nat.le_of_ble_eq_true hc.1.1.2
    have c3 : 0 < te.bytes := Nat.le_of_ble_eq_true hc.1.2
    have c4 := Nat.eq_of_beq_eq_true hc.2
    subst c1
    obtain ⟨ie, z, hie, his, hib, hiz, hzc⟩ := hoke.infoZ
    have hzsz : z.cells.size = te.size := by rw [← Array.length_toList, hzc, c4]
    have run : ∀ (w' : World) (r : Value), (Builtin.append_ #[t, t] o.type #[a.eval x, a.eval y]).run P w = .ok r w' → (execOp a.eval o).run P w = .ok (.value r) w' := by
      intro w' r h
      simp [execOp, ho, resolve, invoke, builtin, h]
    split at h
    case h_2 => exact h.elim
    rename_i b s2 lo n
    split at h
    case h_2 => exact h.elim
    rename_i e' n0 s f hb
    cases hcc : (Nat.beq e' e && Nat.beq s te.size && Nat.beq s2 te.size) with
    | false => rw [hcc] at h; exact h.elim
    | true =>
      rw [hcc] at h
      simp only [cond_true] at h
      simp only [Bool.and_eq_true] at hcc
      have k1 := (Nat.eq_of_beq_eq_true hcc.1.1).symm
      have k2 := Nat.eq_of_beq_eq_true hcc.1.2
      have k3 := Nat.eq_of_beq_eq_true hcc.2
      subst k1; subst k2; subst k3
      obtain ⟨_, hbytes, hfit, hK1, hK2⟩ := h
      obtain ⟨k, c, o', e1, ex, hoo, hln, hcap⟩ := hrx actN cx N M β a w i
      obtain ⟨k', c', cur, e2, hh, hlen, hsz, hn0, hcm, hcell⟩ := i.box b _ hb
      rw [e1] at e2; cases e2
      obtain ⟨ad, cap, ey, hy⟩ := srcX.rep i hsrc (hry actN cx N M β a w i)
      by_cases hm0 : m = 0
      · subst hm0
        have hrunE : (Builtin.append_ #[t, t] o.type #[a.eval x, a.eval y]).run P w = .ok (.slice (some ⟨k, o', none⟩) (n + 0) (c.1 - lo)) w := by
          have hf : (Builtin.firstCells te.size 0 (.slice ad 0 cap)).run P w = .ok #[] w := by
            cases ad <;> simp [Builtin.firstCells, loadCells, loadCellsFrom]
          have hn : n ≤ c.1 - lo := by omega
          rw [ex, ey]
          simp [Builtin.append_, run_underlying hund, sizeOf, typeInfo, hie, his, Builtin.lenOf, hn, hf, storeCells]
        obtain ⟨β', hβd, hβle, hinv, hkeep⟩ := i.move (c' := (c.1, lo + n + 0)) (bc' := .row e (lo + n + 0) te.size (catF (lo + n) f g)) hb e1 hd
          (w' := w) rfl (fun j hj => rfl) rfl rfl rfl (by
            intro β' hβd _
            refine ⟨k, _, _, hβd, hh, rfl, hsz, by show lo + n + 0 ≤ c.1; omega, hcm, fun p j hp hj => ?_⟩
            obtain ⟨u, hu, hr⟩ := hcell p j (by omega) hj
            exact ⟨u, hu, by unfold catF; rw [if_pos (by omega)]; exact hr⟩)
        exact ⟨_, _, hK1, _, _, M, β', .inl (run _ _ hrunE), ⟨k, _, o', hβd, rfl, hoo, by show lo + (n + 0) ≤ lo + n + 0; omega, by show lo + n + 0 ≤ c.1; omega⟩, hinv, Grow.refl _ _, hkeep⟩
      have hm : 0 < m := by omega
      obtain ⟨bad, news, rfl, hl, hcells, hreps⟩ := newsOf c2 hm hy
      have hnm : lo + n + m ≤ 140737488355328 := Nat.le_trans (Nat.le_mul_of_pos_right _ c3) hbytes
      have h1 : ∀ u ∈ news, u.oneCell' = true := by
        intro u hu
        obtain ⟨j, hj⟩ := List.getElem?_of_mem hu
        have hjl : j < m * te.size := by have := (List.getElem?_eq_some_iff.1 hj).1; omega
        have h1 : j / te.size < m := Nat.div_lt_of_lt_mul (by rw [Nat.mul_comm]; exact hjl)
        obtain ⟨v, hv, hr⟩ := hreps (j / te.size) (j % te.size) h1 (Nat.mod_lt _ c2)
        have e : j / te.size * te.size + j % te.size = j := by rw [Nat.mul_comm]; exact Nat.div_add_mod j te.size
        rw [e, hj] at hv; cases hv
        have hft := hfit (j / te.size) (j % te.size) h1 (Nat.mod_lt _ c2)
        exact DV.Rep.oneCell hr (by cases hx : g (j / te.size) (j % te.size) <;> rw [hx] at hft <;> first | exact hft | rfl | cases hft)
      by_cases hroom : lo + n + m ≤ c.1
      · -- in place
        have hlo : lo < c.1 := by omega
        have ho' := hoo hlo
        subst ho'
        have htot : (lo + n) * te.size + m * te.size ≤ cur.size := by rw [hsz, ← Nat.add_mul]; exact Nat.mul_le_mul_right _ hroom
        have hmul : lo * te.size + n * te.size = (lo + n) * te.size := (Nat.add_mul _ _ _).symm
        have hrunE := run_append_room_at P w t o.type e ie hund hie k (lo * te.size) n (c.1 - lo) cur hh bad m cap news (by rw [his]; exact hl) hcells h1 (by omega) (by rw [his, hl, hmul]; exact htot)
        rw [his, hmul, ← ex, ← ey] at hrunE
        have htl : (cur.toList.take ((lo + n) * te.size)).length = (lo + n) * te.size := by simp; omega
        obtain ⟨β', hβd, hβle, hinv, hkeep⟩ := i.move (c' := (c.1, lo + n + m)) (bc' := .row e (lo + n + m) te.size (catF (lo + n) f g)) hb e1 hd
          (w' := w.setRow k (cur.toList.take ((lo + n) * te.size) ++ news ++ cur.toList.drop ((lo + n) * te.size + news.length)).toArray) (by simp) (fun j hj => setRow_other w k j _ hj) rfl rfl rfl (by
            intro β' hβd _
            refine ⟨k, _, _, hβd, setRow_heap w k cur _ e _ hh, rfl, by simp; omega, hroom, hcm, fun p j hp hj => ?_⟩
            simp only [List.getElem?_toArray, catF]
            by_cases hpn : p < lo + n
            · obtain ⟨u, hu, hr⟩ := hcell p j (by omega) hj
              have hlt : p * te.size + j < (lo + n) * te.size := by
                have : (p + 1) * te.size ≤ (lo + n) * te.size := Nat.mul_le_mul_right _ hpn
                rw [Nat.succ_mul] at this; omega
              refine ⟨u, ?_, by rw [if_pos hpn]; exact hr⟩
              rw [List.append_assoc, List.getElem?_append_left (by omega), List.getElem?_take_of_lt hlt]
              simpa using hu
            · obtain ⟨u, hu, hr⟩ := hreps (p - (lo + n)) j (by omega) hj
              refine ⟨u, ?_, by rw [if_neg hpn]; exact hr⟩
              have hpe : p * te.size + j = (lo + n) * te.size + ((p - (lo + n)) * te.size + j) := by
                have : p = lo + n + (p - (lo + n)) := by omega
                rw [← Nat.add_assoc, ← Nat.add_mul, ← this]
              have hlt : (p - (lo + n)) * te.size + j < m * te.size := by
                have : (p - (lo + n) + 1) * te.size ≤ m * te.size := Nat.mul_le_mul_right _ (by omega)
                rw [Nat.succ_mul] at this; omega
              rw [hpe, List.append_assoc, List.getElem?_append_right (by omega), htl, Nat.add_sub_cancel_left, List.getElem?_append_left (by omega)]
              exact hu)
        exact ⟨_, _, hK1, _, _, M, β', .inl (run _ _ hrunE), ⟨k, _, _, hβd, rfl, fun _ => rfl, by show lo + (n + m) ≤ lo + n + m; omega, hroom⟩, hinv, Grow.refl _ _, hkeep⟩
      · -- a new row
        have holdl : ((cur.toList.drop (lo * te.size)).take (n * te.size)).length = n * te.size := by
          have : (lo + n) * te.size ≤ c.1 * te.size := Nat.mul_le_mul_right _ (by omega)
          rw [Nat.add_mul] at this
          simp; omega
        have hgr := run_append_grow (P := P) w t o.type e ie z hund hie hiz ⟨k, o', none⟩ n (c.1 - lo) ((cur.toList.drop (lo * te.size)).take (n * te.size)) (by rw [his]; exact holdl) (by
          intro j v hv
          rw [List.getElem?_take] at hv
          split at hv
          · rename_i hj
            have hnpos : 0 < n := by
              rcases Nat.eq_zero_or_pos n with h0 | h0
              · rw [h0] at hj; simp at hj
              · exact h0
            rw [hoo (by omega), cell_add]
            rw [List.getElem?_drop] at hv
            simp [World.cell?, hh]; simpa using hv
          · cases hv) bad m cap news (by rw [his]; exact hl) hcells (by omega) (by omega) (by
          rw [hib]; exact growslice_fits (by omega) (Nat.le_trans (Nat.mul_le_mul_right _ (by omega)) hbytes))
        rw [← ex, ← ey] at hgr
        have hge := grownCap_ge w (n + m) (c.1 - lo) e
        have hcmx := grownCap_le_maxLen w (n + m) (c.1 - lo) e (by unfold maxLen; omega)
        have ik := i.kill hb
        have hd' : getB ((b, none) :: σ.box) d = none := by
          rw [getB_cons, if_neg (fun h => by subst h; rw [hd] at hb; cases hb)]
          exact hd
        obtain ⟨β', q1, q2, q3, q4⟩ := ik.new (σ := ⟨σ.env, (b, none) :: σ.box⟩) (c := (grownCap w (n + m) (c.1 - lo) e, n + m)) (w' := w.drew.alloc (.cells (((cur.toList.drop (lo * te.size)).take (n * te.size)).toArray ++ news.toArray ++ Builtin.zeroCells z.cells (grownCap w (n + m) (c.1 - lo) e - (n + m))) e)) hd' rfl rfl rfl rfl (bc := .row e (n + m) te.size (catF n (fun i => f (lo + i)) g)) (by
          intro β' hβd _
          refine ⟨_, _, _, hβd, heap_alloc_new w.drew _, rfl, ?_, hge, hcmx, fun p j hp hj => ?_⟩
          · simp only [Array.size_append, List.size_toArray, size_zeroCells, hzsz, hl, holdl, ← Nat.add_mul]
            congr 1; omega
          · have harr : (((cur.toList.drop (lo * te.size)).take (n * te.size)).toArray ++ news.toArray ++ Builtin.zeroCells z.cells (grownCap w (n + m) (c.1 - lo) e - (n + m)))[p * te.size + j]? = ((cur.toList.drop (lo * te.size)).take (n * te.size) ++ (news ++ (Builtin.zeroCells z.cells (grownCap w (n + m) (c.1 - lo) e - (n + m))).toList))[p * te.size + j]? := by
              rw [← Array.getElem?_toList]
              simp
            rw [harr]
            simp only [catF]
            by_cases hpn : p < n
            · obtain ⟨u, hu, hr⟩ := hcell (lo + p) j (by omega) hj
              have hlt : p * te.size + j < n * te.size := by
                have : (p + 1) * te.size ≤ n * te.size := Nat.mul_le_mul_right _ hpn
                rw [Nat.succ_mul] at this; omega
              refine ⟨u, ?_, by rw [if_pos hpn]; exact hr⟩
              rw [List.getElem?_append_left (by omega), List.getElem?_take_of_lt hlt, List.getElem?_drop]
              rw [show lo * te.size + (p * te.size + j) = (lo + p) * te.size + j by rw [Nat.add_mul]; omega]
              simpa using hu
            · obtain ⟨u, hu, hr⟩ := hreps (p - n) j (by omega) hj
              refine ⟨u, ?_, by rw [if_neg hpn]; exact hr⟩
              have hpe : p * te.size + j = n * te.size + ((p - n) * te.size + j) := by
                have : p = n + (p - n) := by omega
                rw [← Nat.add_assoc, ← Nat.add_mul, ← this]
              have hlt : (p - n) * te.size + j < m * te.size := by
                have : (p - n + 1) * te.size ≤ m * te.size := Nat.mul_le_mul_right _ (by omega)
                rw [Nat.succ_mul] at this; omega
              rw [hpe, List.getElem?_append_right (by omega), holdl, Nat.add_sub_cancel_left, List.getElem?_append_left (by omega)]
              exact hu)
        exact ⟨_, _, hK2, _, _, M, β', .inl (run _ _ hgr), ⟨_, _, 0, q1, rfl, fun _ => by simp, by show 0 + (n + m) ≤ n + m; omega, hge⟩, q3, Grow.refl _ _, q4⟩

/-- append(nil, make([]T, n)...), one cell an element. -/
def appMX (T : List (Nat × TyI)) (σ : St) (d t t' : Nat) (x y : Operand) (K : AV → Boxes → Prop) : Prop :=
  fe none (ev σ x) fun vx => fe none (ev σ y) fun vy => match vx, vy with
    | .s (.d (.val (.slice none 0 0))), .s (.d (.val (.int .i64 n))) => match getT T t with
      | some ti => match ti.und with
        | .slice e => match getT T e with
          | some te => bif isK T t' && Nat.beq te.size 1 && Nat.blt 0 te.bytes && Nat.beq te.zero.length 1 then match getB σ.box d with
            | none => 0 < n ∧ n * te.bytes ≤ 140737488355328 ∧ K (.s (.own d)) ((d, some (.row e n.toNat 1 fun _ j => match (zvs te.zero)[j]? with | some c => dOf c | none => .junk)) :: σ.box)
            | some _ => False
            else False
          | none => False
        | _ => False
      | none => False
    | _, _ => False
theorem appM.spec {T : List (Nat × TyI)} (hT : TabOK P T) {d t t' : Nat} {x y : Operand} (ho : o.op = .call { callee := .builtin .append, args := #[x, y], argTypes := #[t, t'] })
    (h : appMX T σ d t t' x y K) : ∃ r bx, K r bx ∧ Eff P o σ r bx := by
  unfold appMX at h
  replace h := fe.ev h
  obtain ⟨vx, h, hrx⟩ := h
  replace h := fe.ev h
  obtain ⟨vy, h, hry⟩ := h
  split at h
  case h_2 => exact h.elim
  rename_i n
  split at h
  case h_2 => exact h.elim
  rename_i ti hti
  split at h
  case h_2 => exact h.elim
  rename_i e hu
  have hund := (hT.get hti).isSlice hu
  split at h
  case h_2 => exact h.elim
  rename_i te hte
  have hoke := hT.get hte
  cases hc : (isK T t' && Nat.beq te.size 1 && Nat.blt 0 te.bytes && Nat.beq te.zero.length 1) with
  | false => rw [hc] at h; exact h.elim
  | true =>
    rw [hc] at h
    simp only [cond_true] at h
    simp only [Bool.and_eq_true] at hc
    have ht' := isK.spec hT hc.1.1.1
    have c2 := Nat.eq_of_beq_eq_true hc.1.1.2
    have c3 : 0 < te.bytes := Nat.le_of_ble_eq_true hc.1.2
    have c4 := Nat.eq_of_beq_eq_true hc.2
    split at h
    case h_2 => exact h.elim
    rename_i hd
    obtain ⟨h0, hb, h⟩ := h
    refine ⟨_, _, h, fun cx N M β a w i => ?_⟩
    obtain ⟨m, rfl⟩ := Int.eq_ofNat_of_zero_le (Int.le_of_lt h0)
    have hm : 0 < m := by omega
    have ex : a.eval x = .slice none 0 0 := hrx actN cx N M β a w i
    have ey : a.eval y = .int .i64 m := hry actN cx N M β a w i
    obtain ⟨ie, z, hie, his, hib, hiz, hzc⟩ := hoke.infoZ
    have hzs : z.cells.size = 1 := by rw [← Array.length_toList, hzc, c4]
    have hmb : m * te.bytes ≤ 140737488355328 := Int.ofNat_le.1 (by rw [Int.natCast_mul]; exact hb)
    have hml : m ≤ 140737488355328 := Nat.le_trans (Nat.le_mul_of_pos_right _ c3) hmb
    have hw : IntKind.i64.wrap (m : Int) = m := IntWalk.i64_in m ⟨by omega, by omega⟩
    have hrunA : (Builtin.append_ #[t, t'] o.type #[.slice none 0 0, .int .i64 m]).run P w = .ok (.slice (some ⟨w.heap.size, 0, none⟩) m (grownCap w m 0 e)) (w.drew.alloc (.cells (Builtin.zeroCells z.cells m ++ Builtin.zeroCells z.cells (grownCap w m 0 e - m)) e)) := by
      have t1 : ¬ ((m : Int) < 0) := by omega
      have t2 : ¬ ((281474976710656 : Int) < (m : Int) * te.bytes) := Int.not_lt.2 (Int.le_trans hb (by decide))
      have t3 : ¬ m = 0 := by omega
      have t4 : ¬ ((9223372036854775807 : Int) < (m : Int)) := by omega
      have t5 : ¬ (281474976710656 < Builtin.nextslicecap m 0 * te.bytes) := by rw [nextslicecap_zero hm]; omega
      simp [Builtin.append_, run_underlying hund, run_underlying ht', asInt, asIntOf, sizeOf, typeInfo, zeroValue, hie, hib, his, c2, hiz, hw, t1, t2, t3, t4, t5, Question.forced, run_firstCells_none, newRow, grownCap]
    have hrun : (execOp a.eval o).run P w = .ok (.value (.slice (some ⟨w.heap.size, 0, none⟩) m (grownCap w m 0 e))) (w.drew.alloc (.cells (Builtin.zeroCells z.cells m ++ Builtin.zeroCells z.cells (grownCap w m 0 e - m)) e)) := by
      simp [execOp, ho, resolve, invoke, builtin, ex, ey, hrunA]
    have hge := grownCap_ge w m 0 e
    have hcmx := grownCap_le_maxLen w m 0 e (by unfold maxLen; omega)
    have hcells : ∀ q, q < m → (Builtin.zeroCells z.cells m ++ Builtin.zeroCells z.cells (grownCap w m 0 e - m))[q]? = some z.cells[0] := by
      intro q hq
      have hsz : (Builtin.zeroCells z.cells m).size = m := by rw [size_zeroCells, hzs, Nat.mul_one]
      rw [Array.getElem?_append_left (by rw [hsz]; exact hq)]
      unfold Builtin.zeroCells
      simp only [Array.getElem?_map, Array.getElem?_range, hzs, Nat.mul_one, hq, if_true, Option.map_some, Nat.mod_one, getElem!_pos z.cells 0 (by omega)]
    obtain ⟨β', b1, b2, b3, b4⟩ := i.new (w' := w.drew.alloc (.cells (Builtin.zeroCells z.cells m ++ Builtin.zeroCells z.cells (grownCap w m 0 e - m)) e)) (c := (grownCap w m 0 e, m)) hd (ob := .cells (Builtin.zeroCells z.cells m ++ Builtin.zeroCells z.cells (grownCap w m 0 e - m)) e) rfl rfl rfl rfl
      (bc := .row e m 1 fun _ j => match (zvs te.zero)[j]? with | some c => dOf c | none => .junk) (by
      intro β' hβd _
      refine ⟨_, _, _, hβd, heap_alloc_new w.drew _, rfl, ?_, hge, hcmx, fun k j hk hj => ?_⟩
      · simp only [Array.size_append, size_zeroCells, hzs]; omega
      obtain rfl : j = 0 := by omega
      refine ⟨z.cells[0], by rw [Nat.mul_one, Nat.add_zero]; exact hcells k hk, ?_⟩
      have hjl : 0 < te.zero.length := by rw [c4]; omega
      have hzj : z.cells[0] = te.zero[0] := by
        have : z.cells.toList[0]? = te.zero[0]? := by rw [hzc]
        have hz0 : 0 < z.cells.size := by omega
        simpa [hz0, hjl] using this
      have hlen : (zvs te.zero).length = te.zero.length := by
        have := (zvs.rep M β te.zero).length
        omega
      obtain ⟨u, hu, hr⟩ := (zvs.rep M β te.zero).get (List.getElem?_eq_getElem (by rw [hlen]; exact hjl : 0 < (zvs te.zero).length))
      rw [List.getElem?_eq_getElem hjl] at hu
      cases hu
      simp only [List.getElem?_eq_getElem (by rw [hlen]; exact hjl : 0 < (zvs te.zero).length)]
      rw [hzj]
      have had : ∀ l : List Value, allD (zvs l) = true := by
        intro l
        induction l with
        | nil => rfl
        | cons v r ih => cases v <;> exact ih
      have := allD.dOf (had te.zero) (List.getElem?_eq_getElem (by rw [hlen]; exact hjl : 0 < (zvs te.zero).length))
      rw [this] at hr
      exact hr)
    exact ⟨_, _, M, β', .inl hrun, ⟨_, _, b1, rfl, hge⟩, b3, Grow.refl _ _, b4⟩
end
end Go.Ax

/- Calls that are handed boxes of the caller's, by contracts over names of their own. -/
namespace Go.Ax
open Go.RowKit

def look (ren : List (Nat × Nat)) (x : Nat) : Nat :=
  match ren with
  | [] => x
  | (a, b) :: r => bif Nat.beq a x then b else look r x

def renC (ren : List (Nat × Nat)) : CV → CV
  | .d x => .d x
  | .ptr x off => .ptr (look ren x) off
def renCs (ren : List (Nat × Nat)) : List CV → List CV
  | [] => []
  | x :: r => renC ren x :: renCs ren r
def renS (ren : List (Nat × Nat)) : SV → SV
  | .d x => .d x
  | .ptr x off => .ptr (look ren x) off
  | .own x => .own (look ren x)
  | .mo z x => .mo z (look ren x)
  | .rw x i s o => .rw (look ren x) i s o
  | .clo f cs => .clo f (renCs ren cs)
  | .osl x s lo n => .osl (look ren x) s lo n
  | .mp x => .mp (look ren x)
def renSs (ren : List (Nat × Nat)) : List SV → List SV
  | [] => []
  | x :: r => renS ren x :: renSs ren r
def renT (ren : List (Nat × Nat)) : TV → TV
  | .s x => .s (renS ren x)
  | .g cs => .g (renSs ren cs)
def renTs (ren : List (Nat × Nat)) : List TV → List TV
  | [] => []
  | x :: r => renT ren x :: renTs ren r
def renA (ren : List (Nat × Nat)) : AV → AV
  | .s x => .s (renS ren x)
  | .g cs => .g (renSs ren cs)
  | .ib b x => .ib b (renS ren x)
  | .ig b cs => .ig b (renSs ren cs)
  | .t ts => .t (renTs ren ts)
def renAs (ren : List (Nat × Nat)) : List AV → List AV
  | [] => []
  | x :: r => renA ren x :: renAs ren r
def renB (ren : List (Nat × Nat)) : Box → Box
  | .cells cs => .cells (renSs ren cs)
  | .row e n s f => .row e n s f
  | .mrow e n s f => .mrow e n s f
  | .map vk l => .map vk l
  | .fresh T vs => .fresh T vs
  | .iter m n seen => .iter (look ren m) n seen

/-- The names in a value are among xs. -/
def inC (xs : List Nat) : List CV → Bool
  | [] => true
  | .d _ :: r => inC xs r
  | .ptr x _ :: r => xs.contains x && inC xs r
def inS (xs : List Nat) : SV → Bool
  | .d _ => true
  | .ptr x _ => xs.contains x
  | .own x => xs.contains x
  | .mo _ x => xs.contains x
  | .rw x _ _ _ => xs.contains x
  | .clo _ cs => inC xs cs
  | .osl x _ _ _ => xs.contains x
  | .mp x => xs.contains x
def inSs (xs : List Nat) : List SV → Bool
  | [] => true
  | x :: r => inS xs x && inSs xs r
def inT (xs : List Nat) : TV → Bool
  | .s x => inS xs x
  | .g cs => inSs xs cs
def inTs (xs : List Nat) : List TV → Bool
  | [] => true
  | x :: r => inT xs x && inTs xs r
def inA (xs : List Nat) : AV → Bool
  | .s x => inS xs x
  | .g cs => inSs xs cs
  | .t ts => inTs xs ts
  | _ => false
def inAs (xs : List Nat) : List AV → Bool
  | [] => true
  | x :: r => inA xs x && inAs xs r
def inB (xs : List Nat) : Box → Bool
  | .cells cs => inSs xs cs
  | .row _ _ _ _ => true
  | .mrow _ _ _ _ => false
  | .map _ _ => true
  | .fresh _ _ => true
  | .iter m _ _ => xs.contains m

section
variable {M : Mem} {ren : List (Nat × Nat)} {xs : List Nat} {β β' : Nm}

/-- From names to names: what β says of the renamed, β' says. -/
theorem renC.rep (h : ∀ x, x ∈ xs → ∀ p, β (look ren x) = some p → β' x = some p) : ∀ {cs : List CV} {vs : List Value}, inC xs cs = true → RepC M β (renCs ren cs) vs → RepC M β' cs vs
  | [], [], _, _ => trivial
  | .d _ :: _, _ :: _, hi, ⟨a, r⟩ => ⟨a, renC.rep h (by simpa [inC] using hi) r⟩
  | .ptr x off :: _, _ :: _, hi, ⟨⟨b, c, e, hv⟩, r⟩ => by
    simp only [inC, Bool.and_eq_true] at hi
    exact ⟨⟨b, c, h x (by simpa using hi.1) _ e, hv⟩, renC.rep h hi.2 r⟩
  | [], _ :: _, _, h => h.elim
  | _ :: _, [], _, h => h.elim
theorem renS.rep (h : ∀ x, x ∈ xs → ∀ p, β (look ren x) = some p → β' x = some p) {x : SV} {v : Value} (hi : inS xs x = true) (r : (renS ren x).Rep M β v) : x.Rep M β' v := by
  cases x with
  | d x => exact r
  | ptr x off => obtain ⟨b, c, e, hv⟩ := r; exact ⟨b, c, h x (by simpa [inS] using hi) _ e, hv⟩
  | own x => obtain ⟨b, c, e, hv⟩ := r; exact ⟨b, c, h x (by simpa [inS] using hi) _ e, hv⟩
  | mo z x => exact ⟨r.1, fun hz => let ⟨b, c, e, hv⟩ := r.2 hz; ⟨b, c, h x (by simpa [inS] using hi) _ e, hv⟩⟩
  | rw x i s o => obtain ⟨b, c, e, hv⟩ := r; exact ⟨b, c, h x (by simpa [inS] using hi) _ e, hv⟩
  | clo f cs => obtain ⟨vs, e, hv⟩ := r; exact ⟨vs, e, renC.rep h hi hv⟩
  | osl x s lo n => obtain ⟨b, c, o, e, hv⟩ := r; exact ⟨b, c, o, h x (by simpa [inS] using hi) _ e, hv⟩
  | mp x => obtain ⟨b, c, e, hv⟩ := r; exact ⟨b, c, h x (by simpa [inS] using hi) _ e, hv⟩
theorem renSs.rep (h : ∀ x, x ∈ xs → ∀ p, β (look ren x) = some p → β' x = some p) : ∀ {cs : List SV} {vs : List Value}, inSs xs cs = true → RepL M β (renSs ren cs) vs → RepL M β' cs vs
  | [], [], _, _ => trivial
  | _ :: _, _ :: _, hi, ⟨a, r⟩ => by
    simp only [inSs, Bool.and_eq_true] at hi
    exact ⟨renS.rep h hi.1 a, renSs.rep h hi.2 r⟩
  | [], _ :: _, _, h => h.elim
  | _ :: _, [], _, h => h.elim
theorem renA.rep (h : ∀ x, x ∈ xs → ∀ p, β (look ren x) = some p → β' x = some p) {x : AV} {v : Value} (hi : inA xs x = true) (r : (renA ren x).Rep M β v) : x.Rep M β' v := by
  cases x with
  | s x => exact renS.rep h hi r
  | g cs => obtain ⟨vs, e, hv⟩ := r; exact ⟨vs, e, renSs.rep h hi hv⟩
  | t ts =>
    obtain ⟨vs, e, hv⟩ := r
    refine ⟨vs, e, ?_⟩
    have : ∀ {ts : List TV} {vs : List Value}, inTs xs ts = true → RepT M β (renTs ren ts) vs → RepT M β' ts vs := by
      intro ts
      induction ts with
      | nil =>
        intro vs _ hr
        cases vs with
        | nil => trivial
        | cons _ _ => exact hr.elim
      | cons t r ih =>
        intro vs hi hr
        simp only [inTs, Bool.and_eq_true] at hi
        cases vs with
        | nil => exact hr.elim
        | cons u us =>
          refine ⟨?_, ih hi.2 hr.2⟩
          cases t with
          | s x => exact renS.rep h hi.1 hr.1
          | g cs => obtain ⟨q, e, hq⟩ := hr.1; exact ⟨q, e, renSs.rep h hi.1 hq⟩
    exact this hi hv
  | _ => cases hi
theorem renAs.rep (h : ∀ x, x ∈ xs → ∀ p, β (look ren x) = some p → β' x = some p) : ∀ {cs : List AV} {vs : List Value}, inAs xs cs = true → RepAs M β (renAs ren cs) vs → RepAs M β' cs vs
  | [], [], _, _ => trivial
  | _ :: _, _ :: _, hi, ⟨a, r⟩ => by
    simp only [inAs, Bool.and_eq_true] at hi
    exact ⟨renA.rep h hi.1 a, renAs.rep h hi.2 r⟩
  | [], _ :: _, _, h => h.elim
  | _ :: _, [], _, h => h.elim
theorem renB.rep (h : ∀ x, x ∈ xs → ∀ p, β (look ren x) = some p → β' x = some p) {w : World} {x : Nat} {b : Box} (hx : x ∈ xs) (hi : inB xs b = true) (r : RepBox M β w (look ren x) (renB ren b)) : RepBox M β' w x b := by
  cases b with
  | cells cs => obtain ⟨k, c, vs, T, e, hh, hr⟩ := r; exact ⟨k, c, vs, T, h x hx _ e, hh, renSs.rep h hi hr⟩
  | row e n s f => obtain ⟨k, c, cur, e', r⟩ := r; exact ⟨k, c, cur, h x hx _ e', r⟩
  | mrow e n s f => cases hi
  | map vk l => obtain ⟨k, c, e, hh⟩ := r; exact ⟨k, c, h x hx _ e, hh⟩
  | fresh T vs => obtain ⟨k, c, e, hh⟩ := r; exact ⟨k, c, h x hx _ e, hh⟩
  | iter m n seen => obtain ⟨k, c, bm, cm, e, em, hh⟩ := r; exact ⟨k, c, bm, cm, h x hx _ e, h m (by simpa [inB] using hi) _ em, hh⟩

/-- And back. -/
theorem renC.back (h : ∀ x, x ∈ xs → ∀ p, β' x = some p → β (look ren x) = some p) : ∀ {cs : List CV} {vs : List Value}, inC xs cs = true → RepC M β' cs vs → RepC M β (renCs ren cs) vs
  | [], [], _, _ => trivial
  | .d _ :: _, _ :: _, hi, ⟨a, r⟩ => ⟨a, renC.back h (by simpa [inC] using hi) r⟩
  | .ptr x off :: _, _ :: _, hi, ⟨⟨b, c, e, hv⟩, r⟩ => by
    simp only [inC, Bool.and_eq_true] at hi
    exact ⟨⟨b, c, h x (by simpa using hi.1) _ e, hv⟩, renC.back h hi.2 r⟩
  | [], _ :: _, _, h => h.elim
  | _ :: _, [], _, h => h.elim
theorem renS.back (h : ∀ x, x ∈ xs → ∀ p, β' x = some p → β (look ren x) = some p) {x : SV} {v : Value} (hi : inS xs x = true) (r : x.Rep M β' v) : (renS ren x).Rep M β v := by
  cases x with
  | d x => exact r
  | ptr x off => obtain ⟨b, c, e, hv⟩ := r; exact ⟨b, c, h x (by simpa [inS] using hi) _ e, hv⟩
  | own x => obtain ⟨b, c, e, hv⟩ := r; exact ⟨b, c, h x (by simpa [inS] using hi) _ e, hv⟩
  | mo z x => exact ⟨r.1, fun hz => let ⟨b, c, e, hv⟩ := r.2 hz; ⟨b, c, h x (by simpa [inS] using hi) _ e, hv⟩⟩
  | rw x i s o => obtain ⟨b, c, e, hv⟩ := r; exact ⟨b, c, h x (by simpa [inS] using hi) _ e, hv⟩
  | clo f cs => obtain ⟨vs, e, hv⟩ := r; exact ⟨vs, e, renC.back h hi hv⟩
  | osl x s lo n => obtain ⟨b, c, o, e, hv⟩ := r; exact ⟨b, c, o, h x (by simpa [inS] using hi) _ e, hv⟩
  | mp x => obtain ⟨b, c, e, hv⟩ := r; exact ⟨b, c, h x (by simpa [inS] using hi) _ e, hv⟩
theorem renSs.back (h : ∀ x, x ∈ xs → ∀ p, β' x = some p → β (look ren x) = some p) : ∀ {cs : List SV} {vs : List Value}, inSs xs cs = true → RepL M β' cs vs → RepL M β (renSs ren cs) vs
  | [], [], _, _ => trivial
  | _ :: _, _ :: _, hi, ⟨a, r⟩ => by
    simp only [inSs, Bool.and_eq_true] at hi
    exact ⟨renS.back h hi.1 a, renSs.back h hi.2 r⟩
  | [], _ :: _, _, h => h.elim
  | _ :: _, [], _, h => h.elim
theorem renA.back (h : ∀ x, x ∈ xs → ∀ p, β' x = some p → β (look ren x) = some p) {x : AV} {v : Value} (hi : inA xs x = true) (r : x.Rep M β' v) : (renA ren x).Rep M β v := by
  cases x with
  | s x => exact renS.back h hi r
  | g cs => obtain ⟨vs, e, hv⟩ := r; exact ⟨vs, e, renSs.back h hi hv⟩
  | t ts =>
    obtain ⟨vs, e, hv⟩ := r
    refine ⟨vs, e, ?_⟩
    have : ∀ {ts : List TV} {vs : List Value}, inTs xs ts = true → RepT M β' ts vs → RepT M β (renTs ren ts) vs := by
      intro ts
      induction ts with
      | nil =>
        intro vs _ hr
        cases vs with
        | nil => trivial
        | cons _ _ => exact hr.elim
      | cons t r ih =>
        intro vs hi hr
        simp only [inTs, Bool.and_eq_true] at hi
        cases vs with
        | nil => exact hr.elim
        | cons u us =>
          refine ⟨?_, ih hi.2 hr.2⟩
          cases t with
          | s x => exact renS.back h hi.1 hr.1
          | g cs => obtain ⟨q, e, hq⟩ := hr.1; exact ⟨q, e, renSs.back h hi.1 hq⟩
    exact this hi hv
  | _ => cases hi
theorem renB.back (h : ∀ x, x ∈ xs → ∀ p, β' x = some p → β (look ren x) = some p) {w : World} {x : Nat} {b : Box} (hx : x ∈ xs) (hi : inB xs b = true) (r : RepBox M β' w x b) : RepBox M β w (look ren x) (renB ren b) := by
  cases b with
  | cells cs => obtain ⟨k, c, vs, T, e, hh, hr⟩ := r; exact ⟨k, c, vs, T, h x hx _ e, hh, renSs.back h hi hr⟩
  | row e n s f => obtain ⟨k, c, cur, e', r⟩ := r; exact ⟨k, c, cur, h x hx _ e', r⟩
  | mrow e n s f => cases hi
  | map vk l => obtain ⟨k, c, e, hh⟩ := r; exact ⟨k, c, h x hx _ e, hh⟩
  | fresh T vs => obtain ⟨k, c, e, hh⟩ := r; exact ⟨k, c, h x hx _ e, hh⟩
  | iter m n seen => obtain ⟨k, c, bm, cm, e, em, hh⟩ := r; exact ⟨k, c, bm, cm, h x hx _ e, h m (by simpa [inB] using hi) _ em, hh⟩
end

abbrev BoxL := List (Nat × Box)
def names : BoxL → List Nat
  | [] => []
  | (x, _) :: r => x :: names r
theorem mem_names {x : Nat} {b : Box} : ∀ {bx : BoxL}, (x, b) ∈ bx → x ∈ names bx
  | [], h => by cases h
  | (y, c) :: r, h => by
    cases h with
    | head => simp [names]
    | tail _ h => exact List.mem_cons_of_mem _ (mem_names h)
theorem of_names {x : Nat} : ∀ {bx : BoxL}, x ∈ names bx → ∃ b, (x, b) ∈ bx
  | [], h => by cases h
  | (y, c) :: r, h => by
    simp only [names, List.mem_cons] at h
    rcases h with rfl | h
    · exact ⟨c, by simp⟩
    · obtain ⟨b, hb⟩ := of_names h; exact ⟨b, List.mem_cons_of_mem _ hb⟩

/-- These boxes are there. -/
structure BoxesOK (M : Mem) (β : Nm) (w : World) (bx : BoxL) : Prop where
  has : ∀ x, x ∈ names bx → ∃ b c, β x = some (b, c)
  rep : ∀ x b, (x, b) ∈ bx → RepBox M β w x b
  inj : ∀ x y b c c', x ∈ names bx → y ∈ names bx → β x = some (b, c) → β y = some (b, c') → x = y
  apart : ∀ x b c, x ∈ names bx → β x = some (b, c) → ∀ o, M b o = none

/-- THE CONTRACT of a function that is handed boxes: it returns r, and the boxes are then bx'. -/
def CallR (P : Program) (f : FuncId) (args : List AV) (bx : BoxL) (r : AV) (bx' : BoxL) : Prop :=
  (∀ vs w, (callFunc f vs).run P w = .ok (.enter f vs) w) ∧
  ∀ (M : Mem) (β : Nm) (w : World) (vs : List Value), (∃ bs, GlobB bs w ∧ ∀ g t, (g, t) ∈ tabsL bs → ∀ x c, β x ≠ some (g, c)) → RepAs M β args vs → MemOK M w → BoxesOK M β w bx → (∀ x p, β x = some p → x ∈ names bx) →
    Calls P f vs.toArray w fun e w' => ∃ v M' β', e = .returned v ∧ Nm.le β β' ∧ r.Rep M' β' v ∧ Grow w.heap.size M M' ∧ MemOK M' w' ∧ BoxesOK M' β' w' bx' ∧
      (∀ x b c, x ∈ names bx' → β' x = some (b, c) → w.heap.size ≤ b ∨ ∃ y c', β y = some (b, c')) ∧
      w'.os = w.os ∧ w'.tape = w.tape ∧ w'.output = w.output ∧ w.heap.size ≤ w'.heap.size ∧ (∀ k, k < w.heap.size → (∀ y c, β y ≠ some (k, c)) → w'.heap[k]? = w.heap[k]?)


def matchB (ren : List (Nat × Nat)) (box : Boxes) : BoxL → Prop
  | [] => True
  | (x, b) :: r => getB box (look ren x) = some (some (renB ren b)) ∧ matchB ren box r
theorem matchB.get {ren : List (Nat × Nat)} {box : Boxes} {x : Nat} {b : Box} : ∀ {bx : BoxL}, matchB ren box bx → (x, b) ∈ bx → getB box (look ren x) = some (some (renB ren b))
  | [], _, h => by cases h
  | (y, c) :: r, ⟨h, hr⟩, hm => by
    cases hm with
    | head => exact h
    | tail _ hm => exact matchB.get hr hm
def addB (ren : List (Nat × Nat)) (box : Boxes) : BoxL → Boxes
  | [] => box
  | (x, b) :: r => (look ren x, some (renB ren b)) :: addB ren box r
def killB (ren : List (Nat × Nat)) (box : Boxes) : BoxL → Boxes
  | [] => box
  | (x, _) :: r => (look ren x, none) :: killB ren box r
theorem addB.get {ren : List (Nat × Nat)} {box : Boxes} {y : Nat} : ∀ {bx : BoxL}, (∃ x b, (x, b) ∈ bx ∧ look ren x = y ∧ getB (addB ren box bx) y = some (some (renB ren b))) ∨ ((∀ x, x ∈ names bx → look ren x ≠ y) ∧ getB (addB ren box bx) y = getB box y)
  | [] => .inr ⟨fun x h => (by cases h), rfl⟩
  | (x, b) :: r => by
    by_cases h : look ren x = y
    · exact .inl ⟨x, b, by simp, h, by simp only [addB]; rw [getB_cons, if_pos h]⟩
    · rcases addB.get (ren := ren) (box := box) (y := y) (bx := r) with ⟨x', b', h1, h2, h3⟩ | ⟨h1, h2⟩
      · exact .inl ⟨x', b', List.mem_cons_of_mem _ h1, h2, by simp only [addB]; rw [getB_cons, if_neg h]; exact h3⟩
      · refine .inr ⟨fun z hz => ?_, by simp only [addB]; rw [getB_cons, if_neg h]; exact h2⟩
        simp only [names, List.mem_cons] at hz
        rcases hz with rfl | hz
        · exact h
        · exact h1 z hz
theorem killB.get {ren : List (Nat × Nat)} {box : Boxes} {y : Nat} : ∀ {bx : BoxL}, ((∃ x, x ∈ names bx ∧ look ren x = y) ∧ getB (killB ren box bx) y = some none) ∨ ((∀ x, x ∈ names bx → look ren x ≠ y) ∧ getB (killB ren box bx) y = getB box y)
  | [] => .inr ⟨fun x h => (by cases h), rfl⟩
  | (x, b) :: r => by
    by_cases h : look ren x = y
    · exact .inl ⟨⟨x, by simp [names], h⟩, by simp only [killB]; rw [getB_cons, if_pos h]⟩
    · rcases killB.get (ren := ren) (box := box) (y := y) (bx := r) with ⟨⟨x', h1, h2⟩, h3⟩ | ⟨h1, h2⟩
      · exact .inl ⟨⟨x', List.mem_cons_of_mem _ h1, h2⟩, by simp only [killB]; rw [getB_cons, if_neg h]; exact h3⟩
      · refine .inr ⟨fun z hz => ?_, by simp only [killB]; rw [getB_cons, if_neg h]; exact h2⟩
        simp only [names, List.mem_cons] at hz
        rcases hz with rfl | hz
        · exact h
        · exact h1 z hz

def inBs (xs : List Nat) : BoxL → Bool
  | [] => true
  | (_, b) :: r => inB xs b && inBs xs r
theorem inB.real {xs : List Nat} {b : Box} (h : inB xs b = true) : b.real = true := by
  cases b with
  | mrow e n s f => cases h
  | _ => rfl
theorem inBs.get {xs : List Nat} {x : Nat} {b : Box} : ∀ {bx : BoxL}, inBs xs bx = true → (x, b) ∈ bx → inB xs b = true
  | [], _, h => by cases h
  | (y, c) :: r, h, hm => by
    simp only [inBs, Bool.and_eq_true] at h
    cases hm with
    | head => exact h.1
    | tail _ hm => exact inBs.get h.2 hm
def injL (ren : List (Nat × Nat)) (xs : List Nat) : Bool := xs.all fun x => xs.all fun y => Nat.beq x y || !(Nat.beq (look ren x) (look ren y))
def freshL (ren : List (Nat × Nat)) (box : Boxes) (xs : List Nat) : List Nat → Bool
  | [] => true
  | x :: r => (xs.contains x || (match getB box (look ren x) with | none => true | some _ => false)) && freshL ren box xs r
theorem freshL.get {ren : List (Nat × Nat)} {box : Boxes} {xs : List Nat} {x : Nat} : ∀ {l : List Nat}, freshL ren box xs l = true → x ∈ l → x ∉ xs → getB box (look ren x) = none
  | [], _, h, _ => by cases h
  | y :: r, h, hm, hx => by
    simp only [freshL, Bool.and_eq_true, Bool.or_eq_true] at h
    cases hm with
    | head =>
      rcases h.1 with h1 | h1
      · exact absurd (by simpa using h1) hx
      · split at h1
        · assumption
        · cases h1
    | tail _ hm => exact freshL.get h.2 hm hx

def renOK (ren : List (Nat × Nat)) (box : Boxes) (args : List AV) (bx : BoxL) (r : AV) (bx' : BoxL) : Bool :=
  inAs (names bx) args && inBs (names bx) bx && inA (names bx') r && inBs (names bx') bx' && injL ren (names bx ++ names bx') && freshL ren box (names bx) (names bx')

def doCallR (P : Program) (σ : St) (f : FuncId) (ars : List AV) (K : AV → Boxes → Prop) : Prop :=
  ∃ ren args bx r bx', CallR P f args bx r bx' ∧ ars = renAs ren args ∧ matchB ren σ.box bx ∧ renOK ren σ.box args bx r bx' = true ∧ K (renA ren r) (addB ren (killB ren σ.box bx) bx')
def callRX (P : Program) (σ : St) (vf : AV) (args : List AV) (K : AV → Boxes → Prop) : Prop :=
  match vf with
  | .s (.clo f cs) => doCallR P σ f (args ++ capA cs) K
  | _ => False

theorem Inv.afterR {P : Program} {cx : Cx} {N : Nat} {M : Mem} {β : Nm} {σ : St} {a : Act} {w : World} (i : Inv cx N M β σ a w) {ren : List (Nat × Nat)} {f : FuncId} {args : List AV} {bx : BoxL} {r : AV} {bx' : BoxL}
    (hc : CallR P f args bx r bx') (hm : matchB ren σ.box bx) (hok : renOK ren σ.box args bx r bx' = true) {vs : List Value} (hv : RepAs M β (renAs ren args) vs) :
    Calls P f vs.toArray w fun e w' => ∃ v M' β', e = .returned v ∧ (renA ren r).Rep M' β' v ∧ Inv cx N M' β' ⟨σ.env, addB ren (killB ren σ.box bx) bx'⟩ a w' ∧ Grow cx.B M M' ∧ Keep cx w w' ∧ ((∀ x, x ∈ names bx' → x ∈ names bx) → β' = β) := by
  classical
  simp only [renOK, Bool.and_eq_true] at hok
  obtain ⟨⟨⟨⟨⟨k1, k2⟩, k3⟩, k4⟩, k5⟩, k6⟩ := hok
  have hinj : ∀ x y, x ∈ names bx ++ names bx' → y ∈ names bx ++ names bx' → look ren x = look ren y → x = y := by
    intro x y hx hy e
    simp only [injL, List.all_eq_true] at k5
    have := k5 x hx y hy
    simp only [Bool.or_eq_true] at this
    rcases this with h | h
    · exact Nat.eq_of_beq_eq_true h
    · rw [e] at h; simp at h
  let βh : Nm := fun x => if x ∈ names bx then β (look ren x) else none
  have hβh : ∀ x, x ∈ names bx → ∀ p, β (look ren x) = some p → βh x = some p := fun x hx p e => by simp [βh, hx, e]
  have hβh' : ∀ x p, βh x = some p → x ∈ names bx ∧ β (look ren x) = some p := fun x p e => by
    simp only [βh] at e
    split at e
    · exact ⟨by assumption, e⟩
    · cases e
  have hlive : ∀ x, x ∈ names bx → ∃ b, getB σ.box (look ren x) = some (some b) := fun x hx => by
    obtain ⟨b, hb⟩ := of_names hx
    exact ⟨_, hm.get hb⟩
  have hboxes : BoxesOK M βh w bx := by
    have hrep : ∀ x b, (x, b) ∈ bx → RepBox M βh w x b := fun x b hb => renB.rep hβh (mem_names hb) (inBs.get k2 hb) (i.box _ _ (hm.get hb))
    refine ⟨fun x hx => let ⟨b, hb⟩ := of_names hx; (hrep x b hb).exb (inB.real (inBs.get k2 hb)), hrep, fun x y b c c' hx hy e1 e2 => ?_, fun x b c hx e o => ?_⟩
    · obtain ⟨bX, hX⟩ := hlive x hx
      obtain ⟨bY, hY⟩ := hlive y hy
      have := i.inj _ _ _ _ b c c' hX hY (hβh' x _ e1).2 (hβh' y _ e2).2
      exact hinj x y (List.mem_append_left _ hx) (List.mem_append_left _ hy) this
    · obtain ⟨bX, hX⟩ := hlive x hx
      exact i.apart _ _ b c hX (hβh' x _ e).2 o
  have hnoG : ∃ bs, GlobB bs w ∧ ∀ g t, (g, t) ∈ tabsL bs → ∀ x c, βh x ≠ some (g, c) := by
    obtain ⟨bs, t1, t2⟩ := i.heap.tab
    refine ⟨bs, t1, fun g t m x c e => ?_⟩
    obtain ⟨hxn, e⟩ := hβh' x _ e
    obtain ⟨bX, hX⟩ := hlive x hxn
    obtain ⟨q1, q2⟩ := t2 g t m
    rcases i.low _ _ g c hX e with h | h
    · omega
    · exact q2 h
  refine (hc.2 M βh w vs hnoG (renAs.rep hβh k1 hv) i.mem hboxes (fun x p e => (hβh' x p e).1)).mono ?_
  rintro e w' ⟨v, M', β1, rfl, hle, hr, hg, hmem, hbx', hblk, ho, htp, hou, hsz, hheap⟩
  let β2 : Nm := fun y => if h : ∃ x, x ∈ names bx' ∧ x ∉ names bx ∧ look ren x = y then β1 (Classical.choose h) else β y
  have hnew : ∀ x, x ∈ names bx' → x ∉ names bx → β2 (look ren x) = β1 x := by
    intro x hx hn
    have hex : ∃ z, z ∈ names bx' ∧ z ∉ names bx ∧ look ren z = look ren x := ⟨x, hx, hn, rfl⟩
    have hs := Classical.choose_spec hex
    have : Classical.choose hex = x := hinj _ _ (List.mem_append_right _ hs.1) (List.mem_append_right _ hx) hs.2.2
    simp only [β2, dif_pos hex, this]
  have holdn : ∀ y, (∀ x, x ∈ names bx' → x ∉ names bx → look ren x ≠ y) → β2 y = β y := by
    intro y hy
    have : ¬ ∃ x, x ∈ names bx' ∧ x ∉ names bx ∧ look ren x = y := fun ⟨x, h1, h2, h3⟩ => hy x h1 h2 h3
    simp only [β2, dif_neg this]
  have hβ2 : Nm.le β β2 := by
    intro y p e
    rw [holdn y (fun x h1 h2 h3 => ?_)]
    · exact e
    · obtain ⟨q, hq⟩ := i.keys y p e
      rw [← h3, freshL.get k6 h1 h2] at hq
      cases hq
  have hall : ∀ x, x ∈ names bx' → ∀ p, β1 x = some p → β2 (look ren x) = some p := by
    intro x hx p e
    by_cases hn : x ∈ names bx
    · obtain ⟨bX, hX⟩ := of_names hn
      obtain ⟨b, c, e'⟩ := hboxes.has x hn
      have := hle x _ e'
      rw [this] at e; cases e
      exact hβ2 _ _ (hβh' x _ e').2
    · rw [hnew x hx hn]; exact e
  have hall' : ∀ x, x ∈ names bx' → ∀ p, β2 (look ren x) = some p → β1 x = some p := by
    intro x hx p e
    by_cases hn : x ∈ names bx
    · obtain ⟨bX, hX⟩ := of_names hn
      obtain ⟨b, c, e'⟩ := hboxes.has x hn
      have h1 := hle x _ e'
      have h2 := hβ2 _ _ (hβh' x _ e').2
      rw [h2] at e; cases e
      exact h1
    · rw [hnew x hx hn] at e; exact e
  -- the live boxes afterwards
  have hcase : ∀ y bc, getB (addB ren (killB ren σ.box bx) bx') y = some (some bc) → (∃ x b, (x, b) ∈ bx' ∧ look ren x = y ∧ bc = renB ren b) ∨
      ((∀ x, x ∈ names bx' → look ren x ≠ y) ∧ (∀ x, x ∈ names bx → look ren x ≠ y) ∧ getB σ.box y = some (some bc)) := by
    intro y bc e
    rcases addB.get (ren := ren) (box := killB ren σ.box bx) (y := y) (bx := bx') with ⟨x, b, h1, h2, h3⟩ | ⟨h1, h2⟩
    · rw [h3] at e; cases e
      exact .inl ⟨x, b, h1, h2, rfl⟩
    · rw [h2] at e
      rcases killB.get (ren := ren) (box := σ.box) (y := y) (bx := bx) with ⟨_, h4⟩ | ⟨h3, h4⟩
      · rw [h4] at e; cases e
      · rw [h4] at e
        exact .inr ⟨h1, h3, e⟩
  have hfar : ∀ y bc b c, getB σ.box y = some (some bc) → (∀ x, x ∈ names bx → look ren x ≠ y) → β y = some (b, c) → ∀ z c', βh z ≠ some (b, c') := by
    intro y bc b c hy hny e z c' hz
    obtain ⟨hzn, hz2⟩ := hβh' z _ hz
    obtain ⟨bZ, hZ⟩ := hlive z hzn
    exact hny z hzn (i.inj _ _ _ _ b c' c hZ hy hz2 e)
  have hin : ∀ y bc b c, getB (addB ren (killB ren σ.box bx) bx') y = some (some bc) → β2 y = some (b, c) → (∃ x, x ∈ names bx' ∧ look ren x = y ∧ β1 x = some (b, c)) ∨
      ((∀ x, x ∈ names bx → look ren x ≠ y) ∧ getB σ.box y = some (some bc) ∧ β y = some (b, c)) := by
    intro y bc b c e e2
    rcases hcase y bc e with ⟨x, b', h1, rfl, _⟩ | ⟨h1, h2, h3⟩
    · exact .inl ⟨x, mem_names h1, rfl, hall' x (mem_names h1) _ e2⟩
    · rw [holdn y (fun x hx _ => h1 x hx)] at e2
      exact .inr ⟨h2, h3, e2⟩
  have kp : Keep cx w w' := ⟨ho, htp, hou, hsz, fun k hk hmw => by
      refine hheap k (Nat.lt_of_lt_of_le hk i.heap.le) (fun z c hz => ?_)
      obtain ⟨hzn, hz2⟩ := hβh' z _ hz
      obtain ⟨bZ, hZ⟩ := hlive z hzn
      rcases i.low _ _ k c hZ hz2 with h | h
      · omega
      · exact hmw h⟩
  refine ⟨v, M', β2, rfl, renA.back (fun x hx p e => hall x hx p e) k3 hr, ⟨i.defers, i.tmps, i.heap.keep kp, fun t => AV.Rep.mono hg.le hβ2 (i.env t), hmem, ?_, ?_, ?_, ?_, ?_, ?_⟩,
    ⟨hg.le, fun b o u e => (hg.new b o u e).imp id (fun h => Nat.le_trans i.heap.le h)⟩, kp, fun hsub => funext fun y => holdn y (fun x h1 h2 _ => h2 (hsub x h1))⟩
  · intro y p e
    rcases addB.get (ren := ren) (box := killB ren σ.box bx) (y := y) (bx := bx') with ⟨x, b, h1, h2, h3⟩ | ⟨h1, h2⟩
    · exact ⟨_, h3⟩
    · rw [holdn y (fun x hx _ => h1 x hx)] at e
      rcases killB.get (ren := ren) (box := σ.box) (y := y) (bx := bx) with ⟨_, h4⟩ | ⟨_, h4⟩
      · exact ⟨_, h2.trans h4⟩
      · obtain ⟨q, hq⟩ := i.keys y p e
        exact ⟨q, h2.trans (h4.trans hq)⟩
  · intro y bc e
    rcases hcase y bc e with ⟨x, b', h1, rfl, rfl⟩ | ⟨h1, h2, h3⟩
    · exact renB.back (fun z hz p e => hall z hz p e) (mem_names h1) (inBs.get k4 h1) (hbx'.rep x b' h1)
    · have hrr := i.box y bc h3
      exact RepBox.mono hg.le hβ2 (holdn y (fun x hx _ => h1 x hx)) (fun b c e' => hheap b (i.box_lt h3 e') (fun z c' => hfar y bc b c h3 h2 e' z c')) hrr
  · intro y z by' bz b c c' ey ez hy hz
    rcases hin y by' b c ey hy with ⟨x, h1, rfl, h3⟩ | ⟨h1, h2, h3⟩
    · rcases hin z bz b c' ez hz with ⟨x', k1', rfl, k3'⟩ | ⟨k1', k2', k3'⟩
      · rw [hbx'.inj x x' b c c' h1 k1' h3 k3']
      · exfalso
        rcases hblk x b c h1 h3 with hb | ⟨u, cu, hu⟩
        · have := i.box_lt k2' k3'; omega
        · exact hfar z bz b c' k2' k1' k3' u cu hu
    · rcases hin z bz b c' ez hz with ⟨x', k1', rfl, k3'⟩ | ⟨k1', k2', k3'⟩
      · exfalso
        rcases hblk x' b c' k1' k3' with hb | ⟨u, cu, hu⟩
        · have := i.box_lt h2 h3; omega
        · exact hfar y by' b c h2 h1 h3 u cu hu
      · exact i.inj y z by' bz b c c' h2 k2' h3 k3'
  · intro y bc b c e e2 o
    rcases hin y bc b c e e2 with ⟨x, h1, rfl, h3⟩ | ⟨h1, h2, h3⟩
    · exact hbx'.apart x b c h1 h3 o
    · cases hmm : M' b o with
      | none => rfl
      | some u =>
        rcases hg.new b o u hmm with h | h
        · rw [i.apart y bc b c h2 h3 o] at h; cases h
        · have := i.box_lt h2 h3; omega
  · intro y bc b c e e2
    rcases hin y bc b c e e2 with ⟨x, h1, rfl, h3⟩ | ⟨h1, h2, h3⟩
    · rcases hblk x b c h1 h3 with hb | ⟨u, cu, hu⟩
      · exact .inl (Nat.le_trans i.heap.le hb)
      · obtain ⟨hun, hu2⟩ := hβh' u _ hu
        obtain ⟨bU, hU⟩ := hlive u hun
        exact i.low _ _ b cu hU hu2
    · exact i.low y bc b c h2 h3
  · intro x hx
    obtain ⟨h1, p, h2⟩ := i.ref x hx
    have := hβ2 x p h2
    exact ⟨by rw [this, ← h1, h2], p, this⟩

section
variable {P : Program} {σ : St} {o : Oper}
theorem callR.spec {fo : Operand} {l : List Operand} {K : AV → Boxes → Prop} (ho : ∃ args tys, o.op = .call { callee := .value fo, args := args, argTypes := tys } ∧ args.toList = l)
    (h : fe none (ev σ fo) fun vf => fetch none σ l fun ars => callRX P σ vf ars K) :
    ∃ r bx, K r bx ∧ ∀ cx N M β a w, Inv cx N M β σ a w → ∃ f vs, (execOp a.eval o).run P w = .ok (.enter f vs) w ∧
      Calls P f vs w fun e w' => ∃ v M' β', e = .returned v ∧ r.Rep M' β' v ∧ Inv cx N M' β' ⟨σ.env, bx⟩ a w' ∧ Grow cx.B M M' ∧ Keep cx w w' := by
  obtain ⟨args, tys, ho, rfl⟩ := ho
  replace h := fe.ev h
  obtain ⟨vf, h, hf⟩ := h
  replace h := fetch.spec h
  obtain ⟨ars, h, has⟩ := h
  unfold callRX at h
  split at h
  case h_2 => exact h.elim
  rename_i f cs
  obtain ⟨ren, ar, bx, r, bx', hc, he, hm, hok, hk⟩ := h
  refine ⟨_, _, hk, fun cx N M β a w i => ?_⟩
  obtain ⟨us, eu, hus⟩ := hf actN cx N M β a w i
  have hargs := (has actN cx N M β a w i).append (capA.rep hus)
  rw [he] at hargs
  refine ⟨f, (args.toList.map a.eval ++ us).toArray, ?_, (Inv.afterR i hc hm hok hargs).mono fun e w' ⟨v, M', β', h1, h2, h3, h4, h5, _⟩ => ⟨v, M', β', h1, h2, h3, h4, h5⟩⟩
  have : (args.map a.eval ++ us.toArray) = (args.toList.map a.eval ++ us).toArray := by
    apply Array.ext'; simp
  simp [execOp, ho, resolve, eu, Deferred.ofValue, invoke, this, hc.1]
end

end Go.Ax

/- Calls that are handed boxes of the caller's and leave them ars they are. -/
namespace Go.Ax
open Go.RowKit

def catL {α : Type} (f : α → List Nat) : List α → List Nat
  | [] => []
  | x :: r => f x ++ catL f r
theorem mem_catL {α : Type} {f : α → List Nat} {n : Nat} : ∀ {l : List α} {j : Nat} {c : α}, l[j]? = some c → n ∈ f c → n ∈ catL f l
  | [], _, _, h, _ => by simp at h
  | x :: r, 0, c, h, hn => by simp at h; subst h; exact List.mem_append_left _ hn
  | x :: r, j + 1, c, h, hn => List.mem_append_right _ (mem_catL (j := j) (by simpa using h) hn)

/-- The boxes that a value leads to. -/
def reach : Nat → St → SV → List Nat
  | _, _, .d _ => []
  | 0, _, .ptr x _ => [x]
  | n + 1, σ, .ptr x _ => x :: match getB σ.box x with
    | some (some (.cells cs)) => catL (reach n σ) cs
    | _ => []
  | _, _, .own x => [x]
  | _, _, .mo _ x => [x]
  | _, _, .rw x _ _ _ => [x]
  | _, _, .osl x _ _ _ => [x]
  | _, _, .mp x => [x]
  | 0, _, .clo _ _ => []
  | n + 1, σ, .clo _ cs => catL (fun c => match c with | .d _ => [] | .ptr x off => reach n σ (.ptr x off)) cs
def reachA (σ : St) : AV → List Nat
  | .s x => reach 4 σ x
  | .ib _ x => reach 4 σ x
  | .g cs => catL (reach 4 σ) cs
  | .ig _ cs => catL (reach 4 σ) cs
  | .t _ => []


def okK (ren : List (Nat × Nat)) (args : List AV) (bx : BoxL) : Bool := inAs (names bx) args && inBs (names bx) bx && injL ren (names bx)
/-- Called by a contract over boxes, which are then ars they were. -/
def CallK (P : Program) (σ : St) (f : FuncId) (ars : List AV) (r : AV) : Prop :=
  ∃ ren args bx, CallR P f args bx r bx ∧ ars = renAs ren args ∧ matchB ren σ.box bx ∧ okK ren args bx = true ∧ flatA r = true ∧ ((names bx).all fun x => (catL (reachA σ) ars).contains (look ren x)) = true

theorem addKill {ren : List (Nat × Nat)} {box : Boxes} {bx : BoxL} (hm : matchB ren box bx) (y : Nat) : getB (addB ren (killB ren box bx) bx) y = getB box y := by
  rcases addB.get (ren := ren) (box := killB ren box bx) (y := y) (bx := bx) with ⟨x, b, h1, rfl, h3⟩ | ⟨h1, h2⟩
  · rw [h3, hm.get h1]
  · rw [h2]
    rcases killB.get (ren := ren) (box := box) (y := y) (bx := bx) with ⟨⟨x, hx, hy⟩, _⟩ | ⟨_, h4⟩
    · exact absurd hy (h1 x hx)
    · exact h4
theorem Inv.boxes {cx : Cx} {N : Nat} {M : Mem} {β : Nm} {E : List (Nat × AV)} {b1 b2 : Boxes} {a : Act} {w : World} (i : Inv cx N M β ⟨E, b1⟩ a w) (h : ∀ y, getB b1 y = getB b2 y) : Inv cx N M β ⟨E, b2⟩ a w :=
  ⟨i.defers, i.tmps, i.heap, i.env, i.mem, fun x p e => by obtain ⟨y, hy⟩ := i.keys x p e; exact ⟨y, (h x).symm.trans hy⟩, fun x bc e => i.box x bc ((h x).trans e),
   fun x y bx bby b c c' ex ey => i.inj x y bx bby b c c' ((h x).trans ex) ((h y).trans ey), fun x bc b c e => i.apart x bc b c ((h x).trans e), fun x bc b c e => i.low x bc b c ((h x).trans e), i.ref⟩
theorem inA_flat {xs : List Nat} : ∀ {r : AV}, flatA r = true → inA xs r = true := by
  have h1 : ∀ x : SV, flatS x = true → inS xs x = true := fun x h => by cases x <;> first | rfl | cases h
  have h2 : ∀ cs : List SV, flatSs cs = true → inSs xs cs = true := by
    intro cs
    induction cs with
    | nil => intro _; rfl
    | cons c r ih => intro h; simp only [flatSs, Bool.and_eq_true] at h; simp only [inSs, Bool.and_eq_true]; exact ⟨h1 c h.1, ih h.2⟩
  have h3 : ∀ cs : List TV, flatTs cs = true → inTs xs cs = true := by
    intro cs
    induction cs with
    | nil => intro _; rfl
    | cons c r ih =>
      intro h
      simp only [flatTs, Bool.and_eq_true] at h
      simp only [inTs, Bool.and_eq_true]
      refine ⟨?_, ih h.2⟩
      cases c with
      | s x => exact h1 x h.1
      | g l => exact h2 l h.1
  intro r h
  cases r with
  | s x => exact h1 x h
  | g l => exact h2 l h
  | t l => exact h3 l h
  | _ => cases h
theorem CallK.spec {P : Program} {cx : Cx} {N : Nat} {M : Mem} {β : Nm} {σ : St} {a : Act} {w : World} (i : Inv cx N M β σ a w) {f : FuncId} {ars : List AV} {r : AV} (h : CallK P σ f ars r) {vs : List Value} (hv : RepAs M β ars vs) :
    (∀ vs w, (callFunc f vs).run P w = .ok (.enter f vs) w) ∧ Calls P f vs.toArray w fun e w' => ∃ v M', e = .returned v ∧ r.Rep M' β v ∧ Inv cx N M' β σ a w' ∧ Grow cx.B M M' ∧ Keep cx w w' := by
  obtain ⟨ren, args, bx, hc, rfl, hm, hok, hf, _⟩ := h
  simp only [okK, Bool.and_eq_true] at hok
  obtain ⟨⟨k1, k2⟩, k3⟩ := hok
  have hok' : renOK ren σ.box args bx r bx = true := by
    simp only [renOK, Bool.and_eq_true]
    refine ⟨⟨⟨⟨⟨k1, k2⟩, inA_flat hf⟩, k2⟩, ?_⟩, ?_⟩
    · simp only [injL, List.all_append, Bool.and_eq_true] at k3 ⊢
      have h1 : ((names bx).all fun x => ((names bx).all fun y => Nat.beq x y || !(Nat.beq (look ren x) (look ren y))) && (names bx).all fun y => Nat.beq x y || !(Nat.beq (look ren x) (look ren y))) = true := by
        rw [List.all_eq_true] at k3 ⊢
        intro x hx
        simp [k3 x hx]
      exact ⟨h1, h1⟩
    · have : ∀ l : List Nat, (∀ x, x ∈ l → x ∈ names bx) → freshL ren σ.box (names bx) l = true := by
        intro l
        induction l with
        | nil => intro _; rfl
        | cons x r ih =>
          intro h
          simp only [freshL, Bool.and_eq_true, Bool.or_eq_true]
          exact ⟨.inl (by simpa using h x (by simp)), ih (fun y hy => h y (List.mem_cons_of_mem _ hy))⟩
      exact this _ (fun x hx => hx)
  refine ⟨hc.1, (Inv.afterR i hc hm hok' hv).mono ?_⟩
  rintro e w' ⟨v, M', β', h1, h2, h3, h4, h5, h6⟩
  obtain rfl := h6 (fun x hx => hx)
  refine ⟨v, M', h1, ?_, h3.boxes (addKill hm), h4, h5⟩
  have hr : renA ren r = r := by
    have q1 : ∀ x : SV, flatS x = true → renS ren x = x := fun x h => by cases x <;> first | rfl | cases h
    have q2 : ∀ cs : List SV, flatSs cs = true → renSs ren cs = cs := by
      intro cs
      induction cs with
      | nil => intro _; rfl
      | cons c r ih => intro h; simp only [flatSs, Bool.and_eq_true] at h; simp only [renSs]; rw [q1 c h.1, ih h.2]
    have q3 : ∀ cs : List TV, flatTs cs = true → renTs ren cs = cs := by
      intro cs
      induction cs with
      | nil => intro _; rfl
      | cons c r ih =>
        intro h
        simp only [flatTs, Bool.and_eq_true] at h
        simp only [renTs]
        rw [ih h.2]
        cases c with
        | s x => simp only [renT]; rw [q1 x h.1]
        | g l => simp only [renT]; rw [q2 l h.1]
    cases r with
    | s x => simp only [renA]; rw [q1 x hf]
    | g l => simp only [renA]; rw [q2 l hf]
    | t l => simp only [renA]; rw [q3 l hf]
    | _ => cases hf
  rw [hr] at h2
  exact h2

section
variable {P : Program} {σ : St} {g : Option Bool} {K : AV → Prop} {o : Oper}
def doCallK (P : Program) (σ : St) (g : Option Bool) (f : FuncId) (args : List AV) (K : AV → Prop) : Prop :=
  doCall P σ g f args K ∨ ∃ r, imp g (CallK P σ f args r) ∧ K r
def callVK (P : Program) (σ : St) (g : Option Bool) (vf : AV) (args : List AV) (K : AV → Prop) : Prop :=
  match vf with
  | .s (.clo f cs) => doCallK P σ g f (args ++ capA cs) K
  | .s (.d (.clo f k c)) => doCallK P σ g f (args ++ capD c k 0) K
  | _ => False
theorem callK.spec {fo : Operand} {args : Array Operand} {tys : Array TypeId} (ho : o.op = .call { callee := .value fo, args := args, argTypes := tys })
    (h : fe g (ev σ fo) fun vf => fetch g σ args.toList fun ars => callVK P σ g vf ars K) :
    ∃ r, K r ∧ (act g → ∀ cx N M β a w, Inv cx N M β σ a w → ∃ f vs, (execOp a.eval o).run P w = .ok (.enter f vs) w ∧
      Calls P f vs w fun e w' => ∃ v M', e = .returned v ∧ r.Rep M' β v ∧ Inv cx N M' β σ a w' ∧ Grow cx.B M M' ∧ Keep cx w w') := by
  replace h := fe.ev h
  obtain ⟨vf, h, hf⟩ := h
  replace h := fetch.spec h
  obtain ⟨ars, h, has⟩ := h
  have key : ∀ (f : FuncId) (extra : List AV), doCallK P σ g f (ars ++ extra) K →
      (act g → ∀ cx N M β a w, Inv cx N M β σ a w → ∃ us : List Value, a.eval fo = .func (.func f) #[] us.toArray ∧ RepAs M β extra us) →
      ∃ r, K r ∧ (act g → ∀ cx N M β a w, Inv cx N M β σ a w → ∃ f vs, (execOp a.eval o).run P w = .ok (.enter f vs) w ∧
      Calls P f vs w fun e w' => ∃ v M', e = .returned v ∧ r.Rep M' β v ∧ Inv cx N M' β σ a w' ∧ Grow cx.B M M' ∧ Keep cx w w') := by
    intro f extra hd hx
    rcases hd with hd | ⟨r, hc, hk⟩
    · exact call.key ho has hd hx
    · refine ⟨r, hk, fun ha cx N M β a w i => ?_⟩
      obtain ⟨us, eu, hus⟩ := hx ha cx N M β a w i
      have hargs := (has ha cx N M β a w i).append hus
      obtain ⟨henter, hcall⟩ := CallK.spec i (hc.get ha) hargs
      refine ⟨f, (args.toList.map a.eval ++ us).toArray, ?_, hcall⟩
      have : (args.map a.eval ++ us.toArray) = (args.toList.map a.eval ++ us).toArray := by
        apply Array.ext'; simp
      simp [execOp, ho, resolve, eu, Deferred.ofValue, invoke, this, henter]
  unfold callVK at h
  split at h
  case h_3 => exact h.elim
  · rename_i f cs
    refine key f _ h fun ha cx N M β a w i => ?_
    obtain ⟨vs, e, hv⟩ := hf ha cx N M β a w i
    exact ⟨vs, e, capA.rep hv⟩
  · rename_i f k c
    refine key f _ h fun ha cx N M β a w i => ?_
    obtain ⟨vs, e, hl, hv⟩ := hf ha cx N M β a w i
    exact ⟨vs, e, by rw [← hl]; exact capD.rep (fun i u hu => by rw [Nat.zero_add]; exact hv i u hu)⟩
end
end Go.Ax

/- A call that is handed own rows which nobody writes any more: they become data. -/
namespace Go.Ax
open Go.RowKit

def keepO (zs : List Nat) : Boxes → Boxes
  | [] => []
  | (x, b) :: r => (x, bif zs.contains x then b else none) :: keepO zs r
def killO (zs : List Nat) : Boxes → Boxes
  | [] => []
  | (x, b) :: r => (x, bif zs.contains x then none else b) :: killO zs r
theorem keepO.get {zs : List Nat} {x : Nat} {b : Box} : ∀ {box : Boxes}, getB (keepO zs box) x = some (some b) → zs.contains x = true ∧ getB box x = some (some b)
  | [], h => by cases h
  | (k, c) :: r, h => by
    rw [keepO, getB_cons] at h
    rw [getB_cons]
    by_cases e : k = x
    · subst e
      rw [if_pos rfl] at h
      cases hz : zs.contains k with
      | true => rw [hz] at h; exact ⟨rfl, by rw [if_pos rfl]; exact h⟩
      | false => rw [hz] at h; cases h
    · rw [if_neg e] at h ⊢
      exact keepO.get h
theorem killO.get {zs : List Nat} {x : Nat} {b : Box} : ∀ {box : Boxes}, getB (killO zs box) x = some (some b) → zs.contains x = false ∧ getB box x = some (some b)
  | [], h => by cases h
  | (k, c) :: r, h => by
    rw [killO, getB_cons] at h
    rw [getB_cons]
    by_cases e : k = x
    · subst e
      rw [if_pos rfl] at h
      cases hz : zs.contains k with
      | true => rw [hz] at h; cases h
      | false => rw [hz] at h; exact ⟨rfl, by rw [if_pos rfl]; exact h⟩
    · rw [if_neg e] at h ⊢
      exact killO.get h
theorem keepO.has {zs : List Nat} {x : Nat} {y : Option Box} : ∀ {box : Boxes}, getB box x = some y → ∃ y', getB (keepO zs box) x = some y'
  | [], h => by cases h
  | (k, c) :: r, h => by
    rw [getB_cons] at h
    rw [keepO, getB_cons]
    by_cases e : k = x
    · rw [if_pos e]; exact ⟨_, rfl⟩
    · rw [if_neg e] at h ⊢; exact keepO.has h
theorem killO.has {zs : List Nat} {x : Nat} {y : Option Box} : ∀ {box : Boxes}, getB box x = some y → ∃ y', getB (killO zs box) x = some y'
  | [], h => by cases h
  | (k, c) :: r, h => by
    rw [getB_cons] at h
    rw [killO, getB_cons]
    by_cases e : k = x
    · rw [if_pos e]; exact ⟨_, rfl⟩
    · rw [if_neg e] at h ⊢; exact killO.has h

section
variable {P : Program} {cx : Cx} {N : Nat} {σ : St} {M : Mem} {β : Nm} {a : Act} {w : World}
theorem Inv.keepO (i : Inv cx N M β σ a w) (zs : List Nat) : Inv cx N M β ⟨σ.env, keepO zs σ.box⟩ a w := by
  refine ⟨i.defers, i.tmps, i.heap, i.env, i.mem, ?_, ?_, ?_, ?_, ?_, i.ref⟩
  · intro x p e
    obtain ⟨y, hy⟩ := i.keys x p e
    exact keepO.has hy
  · exact fun x bc h => i.box x bc (keepO.get h).2
  · exact fun x y bx bby b c c' hx hy => i.inj x y bx bby b c c' (keepO.get hx).2 (keepO.get hy).2
  · exact fun x bc b c h => i.apart x bc b c (keepO.get h).2
  · exact fun x bc b c h => i.low x bc b c (keepO.get h).2
open Classical in
/-- Memory with the boxes zs in it. -/
noncomputable def eatM (σ : St) (zs : List Nat) (β : Nm) (M : Mem) (w : World) : Mem := fun b o => if ∃ x bc c, zs.contains x = true ∧ getB σ.box x = some (some bc) ∧ β x = some (b, c) then w.cell? ⟨b, o, none⟩ else M b o
theorem eatM.le (i : Inv cx N M β σ a w) (zs : List Nat) : Mem.le M (eatM σ zs β M w) := by
  intro b o u h
  unfold eatM
  by_cases hb : ∃ x bc c, zs.contains x = true ∧ getB σ.box x = some (some bc) ∧ β x = some (b, c)
  · obtain ⟨x, bc, c, _, hg, e⟩ := hb
    rw [i.apart x bc b c hg e o] at h; cases h
  · rw [if_neg hb]; exact h
theorem eatM.ok (i : Inv cx N M β σ a w) (zs : List Nat) : MemOK (eatM σ zs β M w) w := by
  intro b o u h
  unfold eatM at h
  by_cases hb : ∃ x bc c, zs.contains x = true ∧ getB σ.box x = some (some bc) ∧ β x = some (b, c)
  · rw [if_pos hb] at h; exact h
  · rw [if_neg hb] at h; exact i.mem b o u h
theorem Inv.eat (i : Inv cx N M β σ a w) (href : cx.ref = []) (zs : List Nat) : Inv cx N (eatM σ zs β M w) β ⟨σ.env, killO zs σ.box⟩ a w ∧ Grow cx.B M (eatM σ zs β M w) := by
  have hM := eatM.le i zs
  refine ⟨⟨i.defers, i.tmps, i.heap, fun t => AV.Rep.mono hM (Nm.le_refl β) (i.env t), eatM.ok i zs, ?_, ?_, ?_, ?_, ?_, i.ref⟩, ⟨hM, ?_⟩⟩
  · intro x p e
    obtain ⟨y, hy⟩ := i.keys x p e
    exact killO.has hy
  · exact fun x bc h => RepBox.mono hM (Nm.le_refl β) rfl (fun _ _ _ => rfl) (i.box x bc (killO.get h).2)
  · exact fun x y bx bby b c c' hx hy => i.inj x y bx bby b c c' (killO.get hx).2 (killO.get hy).2
  · intro x bc b c h e o
    obtain ⟨h1, h2⟩ := killO.get h
    unfold eatM
    have hn : ¬ ∃ x bc c, zs.contains x = true ∧ getB σ.box x = some (some bc) ∧ β x = some (b, c) := by
      rintro ⟨y, bc', c', hy, hg, e'⟩
      have := i.inj x y bc bc' b c c' h2 hg e e'
      subst this
      rw [h1] at hy; cases hy
    rw [if_neg hn]
    exact i.apart x bc b c h2 e o
  · exact fun x bc b c h => i.low x bc b c (killO.get h).2
  · intro b o u h
    unfold eatM at h
    by_cases hb : ∃ x bc c, zs.contains x = true ∧ getB σ.box x = some (some bc) ∧ β x = some (b, c)
    · obtain ⟨x, bc, c, _, hg, e⟩ := hb
      rcases i.low x bc b c hg e with h1 | ⟨y, c', hy, _⟩
      · exact .inr h1
      · rw [href] at hy; cases hy
    · rw [if_neg hb] at h; exact .inl h

def eatX (P : Program) (σ : St) (vf : AV) (args : List AV) (K : AV → Boxes → Prop) : Prop :=
  match vf with
  | .s (.clo f cs) => ∃ zs r, CallP P f (convAs ⟨σ.env, keepO zs σ.box⟩ (args ++ capA cs)) r ∧ K r (killO zs σ.box)
  | _ => False
/-- Such a call: its function's number and two millions stands in the list. -/
def isEat (rc ref : List Nat) (σ : St) (op : Op) : Option (Operand × List Operand) :=
  match op with
  | .call { callee := .value fo, args, .. } => match ev σ fo with
    | .s (.clo f _) => bif rc.contains (f + 2000000) && ref.isEmpty then some (fo, args.toList) else none
    | _ => none
  | _ => none
theorem isEat.op {rc ref : List Nat} {op : Op} {fo : Operand} {l : List Operand} (h : isEat rc ref σ op = some (fo, l)) : ref = [] ∧ ∃ args tys, op = .call { callee := .value fo, args := args, argTypes := tys } ∧ args.toList = l := by
  unfold isEat at h
  split at h
  · split at h
    · rename_i f cs hf
      cases hr : (rc.contains (f + 2000000) && ref.isEmpty) with
      | true =>
        rw [hr] at h
        cases h
        rw [Bool.and_eq_true] at hr
        exact ⟨List.isEmpty_iff.1 hr.2, _, _, rfl, rfl⟩
      | false => rw [hr] at h; cases h
    · cases h
  · cases h
theorem eat.spec {o : Oper} {fo : Operand} {l : List Operand} {K : AV → Boxes → Prop} (ho : ∃ args tys, o.op = .call { callee := .value fo, args := args, argTypes := tys } ∧ args.toList = l)
    (h : fe none (ev σ fo) fun vf => fetch none σ l fun ars => eatX P σ vf ars K) :
    ∃ r bx, K r bx ∧ ∀ cx N M β a w, cx.ref = [] → Inv cx N M β σ a w → ∃ f vs, (execOp a.eval o).run P w = .ok (.enter f vs) w ∧
      Calls P f vs w fun e w' => ∃ v M' β', e = .returned v ∧ r.Rep M' β' v ∧ Inv cx N M' β' ⟨σ.env, bx⟩ a w' ∧ Grow cx.B M M' ∧ Keep cx w w' := by
  obtain ⟨args, tys, ho, rfl⟩ := ho
  replace h := fe.ev h
  obtain ⟨vf, h, hf⟩ := h
  replace h := fetch.spec h
  obtain ⟨ars, h, has⟩ := h
  unfold eatX at h
  split at h
  case h_2 => exact h.elim
  rename_i f cs
  obtain ⟨zs, r, ⟨henter, hcall⟩, hk⟩ := h
  refine ⟨_, _, hk, fun cx N M β a w href i => ?_⟩
  obtain ⟨us, eu, hus⟩ := hf actN cx N M β a w i
  have hargs := (has actN cx N M β a w i).append (capA.rep hus)
  have hM := eatM.le i zs
  have hconv := convAs.rep (i.keepO zs) hM (fun x bc b c hg e o u hu => by
    obtain ⟨h1, h2⟩ := keepO.get hg
    unfold eatM
    rw [if_pos ⟨x, bc, c, h1, h2, e⟩]; exact hu) hargs
  obtain ⟨i2, g2⟩ := i.eat href zs
  refine ⟨f, (args.toList.map a.eval ++ us).toArray, ?_, (hcall _ w _ i.heap.glob hconv (eatM.ok i zs)).mono ?_⟩
  · have : (args.map a.eval ++ us.toArray) = (args.toList.map a.eval ++ us).toArray := by
      apply Array.ext'; simp
    simp [execOp, ho, resolve, eu, Deferred.ofValue, invoke, this, henter]
  · rintro e w' ⟨v, M', rfl, hrv, hg, hm, hbel⟩
    obtain ⟨i3, g3, k3⟩ := i2.after hbel hg hm
    exact ⟨v, M', β, rfl, AV.Rep.mono (Mem.le_refl _) (fun _ _ h => by cases h) hrv, i3, g2.trans g3, k3⟩
/-- Own rows that become data where they stand. -/
def eatV (zs : List Nat) (σ : St) (v : AV) : AV :=
  match v with
  | .s (.own b) => bif zs.contains b then convA ⟨σ.env, keepO zs σ.box⟩ (.s (.own b)) else .s (.own b)
  | .s (.mo z b) => bif zs.contains b then convA ⟨σ.env, keepO zs σ.box⟩ (.s (.mo z b)) else .s (.mo z b)
  | v => v
def eatE (zs : List Nat) (σ : St) : List (Nat × AV) → List (Nat × AV)
  | [] => []
  | (t, v) :: r => (t, eatV zs σ v) :: eatE zs σ r
def eatS (zs : List Nat) (σ : St) : St := ⟨eatE zs σ σ.env, killO zs σ.box⟩
theorem getE_eat {zs : List Nat} {t : Nat} : ∀ {l : List (Nat × AV)}, getE (eatE zs σ l) t = eatV zs σ (getE l t)
  | [] => rfl
  | (k, v) :: r => by
    rw [eatE]
    unfold getE
    cases Nat.beq k t with
    | true => rfl
    | false => exact getE_eat
theorem Inv.eatS (i : Inv cx N M β σ a w) (href : cx.ref = []) (zs : List Nat) : ∃ M', Inv cx N M' β (eatS zs σ) a w ∧ Grow cx.B M M' := by
  obtain ⟨i2, g2⟩ := i.eat href zs
  refine ⟨_, ⟨i2.defers, i2.tmps, i2.heap, fun t => ?_, i2.mem, i2.keys, i2.box, i2.inj, i2.apart, i2.low, i2.ref⟩, g2⟩
  have hM := eatM.le i zs
  have r0 := i.env t
  have conv : ∀ x : AV, x.Rep M β (a.tmps.getD t undef) → (convA ⟨σ.env, Go.Ax.keepO zs σ.box⟩ x).Rep (eatM σ zs β M w) (fun _ => none) (a.tmps.getD t undef) := fun x hx =>
    convA.rep (i.keepO zs) hM (fun x bc b c hg e o u hu => by
      obtain ⟨h1, h2⟩ := keepO.get hg
      unfold eatM
      rw [if_pos ⟨x, bc, c, h1, h2, e⟩]; exact hu) hx
  have e0 : getE (Go.Ax.eatS zs σ).env t = eatV zs σ (getE σ.env t) := getE_eat
  rw [e0]
  unfold eatV
  split
  · rename_i b hv
    rw [hv] at r0
    cases zs.contains b with
    | true => exact AV.Rep.mono (Mem.le_refl _) (fun _ _ h => by cases h) (conv _ r0)
    | false => exact AV.Rep.mono hM (Nm.le_refl β) r0
  · rename_i z b hv
    rw [hv] at r0
    cases zs.contains b with
    | true => exact AV.Rep.mono (Mem.le_refl _) (fun _ _ h => by cases h) (conv _ r0)
    | false => exact AV.Rep.mono hM (Nm.le_refl β) r0
  · exact AV.Rep.mono hM (Nm.le_refl β) r0
end
/-- Asked for by the temporary's number and three millions. -/
def isFz (rc ref : List Nat) (d : Nat) : Bool := rc.contains (d + 3000000) && ref.isEmpty
end Go.Ax

/- The executor: regions in the text's order, conditions, blocks; loops are left to their rule. -/
namespace Go.Ax
open Go.RowKit

/-- What an operation that leaves the state ars it is yields; 'o' the operation, under guard g. -/
def opV (P : Program) (T : List (Nat × TyI)) (op : Op) (σ : St) (g : Option Bool) (K : AV → Prop) : Prop :=
  match op with
  | .move x => fe g (ev σ x) K
  | .assign x => fe g (ev σ x) K
  | .pick c x y => fe g (ev σ c) fun vc => pickV g vc (ev σ x) (ev σ y) K
  | .load t x => fe g (ev σ x) fun va => match getT T t with | some ti => loadV σ ti.agg ti.size g va K | none => False
  | .fieldAddr s x f => fe g (ev σ x) fun va => fieldV T s f va K
  | .binOp op t x y _ => fe g (ev σ x) fun va => fe g (ev σ y) fun vb => bin T op t g va vb K
  | .unOp op _ x => fe g (ev σ x) fun va => unV op va K
  | .convert src dst x => fe g (ev σ x) fun va => convV T src dst va K
  | .nilCheck x => fe g (ev σ x) fun va => nilV va K
  | .extract x k => extV k (ev σ x) K
  | .indexAddr t x y => fe g (ev σ x) fun va => fe g (ev σ y) fun vi => idxV T σ t g va vi K
  | .index t x y => fe g (ev σ x) fun va => fe g (ev σ y) fun vi => strV T t g va vi K
  | .lookup t x y ok => fe g (ev σ x) fun va => fe g (ev σ y) fun vi => lookV T σ t ok g va vi K
  | .slice t x lo hi none => fe g (ev σ x) fun va => sliceV T σ t g va lo hi K
  | .build t pa => parts g σ pa.toList fun ps => buildV T t ps K
  | .makeFunc (.func f) fs caps => match fs.toList with
    | [] => match toCVs σ caps.toList with | some cs => K (.s (.clo f cs)) | none => False
    | _ => False
  | .call c => match c.callee with
    | .value fo => fe g (ev σ fo) fun vf => fetch g σ c.args.toList fun ars => callVK P σ g vf ars K
    | .builtin .len => match c.args.toList, c.argTypes.toList with
      | [x], [t] => fe g (ev σ x) fun va => lenV T σ t va K
      | _, _ => False
    | .builtin .cap => match c.args.toList, c.argTypes.toList with
      | [x], [t] => fe g (ev σ x) fun va => capV T t va K
      | _, _ => False
    | .builtin .max => ints g σ c.args.toList fun l => match l with | (k, n) :: r => K (mmL true k n r) | [] => False
    | .builtin .min => ints g σ c.args.toList fun l => match l with | (k, n) :: r => K (mmL false k n r) | [] => False
    | _ => False
  | _ => False

/-- Carried out under a guard that holds: the state, with the value in its place. -/
def Does (P : Program) (o : Oper) (σ : St) (r : AV) : Prop :=
  ∀ cx N M β a w, Inv cx N M β σ a w →
    (∃ v, (execOp a.eval o).run P w = .ok (.value v) w ∧ r.Rep M β v) ∨
    (∃ f vs, (execOp a.eval o).run P w = .ok (.enter f vs) w ∧
      Calls P f vs w fun e w' => ∃ v M', e = .returned v ∧ r.Rep M' β v ∧ Inv cx N M' β σ a w' ∧ Grow cx.B M M' ∧ Keep cx w w')

theorem Pure1.does {P : Program} {o : Oper} {σ : St} {g : Option Bool} {r : AV} (h : Pure1 P o σ g r) (ha : act g) : Does P o σ r :=
  fun cx N M β a w i => .inl (h ha cx N M β a w i)

theorem opV.spec {P : Program} {T : List (Nat × TyI)} (hT : TabOK P T) {o : Oper} {σ : St} {g : Option Bool} {K : AV → Prop} (h : opV P T o.op σ g K) :
    ∃ r, K r ∧ (act g → Does P o σ r) := by
  have up : (∃ r, K r ∧ Pure1 P o σ g r) → ∃ r, K r ∧ (act g → Does P o σ r) := fun ⟨r, hk, hp⟩ => ⟨r, hk, hp.does⟩
  generalize hop : o.op = op at h
  cases op with
  | move x => exact up (move.spec (.inl hop) h)
  | assign x => exact up (move.spec (.inr hop) h)
  | pick c x y => exact up (pick.spec hop h)
  | load t x => exact up (load.spec hT hop h)
  | fieldAddr s x f => exact up (field.spec hT hop h)
  | binOp op t x y ty =>
    simp only [opV] at h
    replace h := fe.ev h
    obtain ⟨va, h, hra⟩ := h
    replace h := fe.ev h
    obtain ⟨vb, h, hrb⟩ := h
    obtain ⟨r, hk, hr⟩ := bin.spec hT hop h
    exact ⟨r, hk, fun ha cx N M β a w i => .inl (hr ha M β a w (hra ha cx N M β a w i) (hrb ha cx N M β a w i))⟩
  | unOp op t x => exact up (un.spec hop h)
  | convert src dst x => exact up (conv.spec hT hop h)
  | nilCheck x => exact up (nil.spec hop h)
  | extract x k => exact up (ext.spec hop h)
  | indexAddr t x y => exact up (idx.spec hT hop h)
  | index t x y => exact up (str.spec hT hop h)
  | lookup t x y ok => exact up (look.spec hT hop h)
  | slice t x lo hi mx =>
    cases mx with
    | none => exact up (sliceV.spec hT hop h)
    | some m => exact h.elim
  | build t pa => exact up (build.spec hT hop h)
  | makeFunc fn fs caps =>
    cases fn with
    | func f =>
      simp only [opV] at h
      split at h
      · rename_i hfs
        have : fs = #[] := by apply Array.ext'; simpa using hfs
        subst this
        exact up (mkf.spec hop h)
      · exact h.elim
    | _ => exact h.elim
  | call c =>
    obtain ⟨callee, args, tys⟩ := c
    simp only [opV] at h
    split at h
    · obtain ⟨r, hk, hr⟩ := callK.spec hop h
      exact ⟨r, hk, fun ha cx N M β a w i => .inr (hr ha cx N M β a w i)⟩
    · split at h
      · rename_i x t hx ht
        have e1 : args = #[x] := by apply Array.ext'; simpa using hx
        have e2 : tys = #[t] := by apply Array.ext'; simpa using ht
        subst e1; subst e2
        exact up (len.spec hT hop h)
      · exact h.elim
    · split at h
      · rename_i x t hx ht
        have e1 : args = #[x] := by apply Array.ext'; simpa using hx
        have e2 : tys = #[t] := by apply Array.ext'; simpa using ht
        subst e1; subst e2
        exact up (cap.spec hT hop h)
      · exact h.elim
    · exact up (mm.spec true hop h)
    · exact up (mm.spec false hop h)
    · exact h.elim
  | _ => exact h.elim

/-- The operations that change the state. -/
def opX (T : List (Nat × TyI)) (ref : List Nat) (d : Nat) (op : Op) (σ : St) (K : AV → Boxes → Prop) : Prop :=
  match op with
  | .alloc t => allocX T σ d t K
  | .box _ x => boxX σ d x K
  | .store t x y => storeX T σ t x y K
  | .buildSlice t len pa => bslX T σ d t len pa.toList K
  | .makeSlice t x y => mkX T σ d t x y K
  | .makeMap t none => mkMapX T σ d t K
  | .mapUpdate t x y z => updX T σ t x y z K
  | .range t x => rangeX T σ d t x K
  | .next x false => nextX σ x K
  | .entry x => fe none (ev σ x) fun va => entryV σ va fun v => K v σ.box
  | .call c => match c.callee with
    | .builtin .append => match c.args.toList, c.argTypes.toList with
      | [x, y], [t, t'] => bif Nat.beq t t' then (match ev σ x with
        | .s (.osl _ _ _ _) => appOX T σ d t x y K
        | _ => appX T σ ref d t x y K) else appMX T σ d t t' x y K
      | _, _ => False
    | .builtin .copy => match c.args.toList, c.argTypes.toList with
      | [x, y], [t, _] => copyX T σ t x y K
      | _, _ => False
    | _ => False
  | _ => False

/-- What such an operation has done. -/
def PostX (P : Program) (o : Oper) (σ : St) (K : AV → Boxes → Prop) (cx : Cx) (N : Nat) (M : Mem) (a : Act) (w : World) : Prop :=
  ∃ r bx, K r bx ∧ ∃ v w' M' β',
    ((execOp a.eval o).run P w = .ok (.value v) w' ∨ ((execOp a.eval o).run P w = .ok .skip w' ∧ v = undef)) ∧
    r.Rep M' β' v ∧ Inv cx N M' β' ⟨σ.env, bx⟩ a w' ∧ Grow cx.B M M' ∧ Keep cx w w'

theorem opX.spec {P : Program} {T : List (Nat × TyI)} (hT : TabOK P T) {ref : List Nat} {d : Nat} {o : Oper} {σ : St} {K : AV → Boxes → Prop} (h : opX T ref d o.op σ K)
    {cx : Cx} {N : Nat} {M : Mem} {β : Nm} {a : Act} {w : World} (href : cx.ref = ref) (i : Inv cx N M β σ a w) : PostX P o σ K cx N M a w := by
  have up : (∃ r bx, K r bx ∧ Eff P o σ r bx) → PostX P o σ K cx N M a w := fun ⟨r, bx, hk, hp⟩ => ⟨r, bx, hk, hp cx N M β a w i⟩
  generalize hop : o.op = op at h
  cases op with
  | alloc t => exact up (alloc.spec hT hop h)
  | box t x => exact up (box.spec hop h)
  | store t x y => exact up (store.spec hT hop h)
  | buildSlice t len pa => exact up (bsl.spec hT hop h)
  | makeSlice t x y => exact up (mk.spec hT hop h)
  | makeMap t r => cases r with
    | none => exact up (mkMap.spec hop h)
    | some x => exact h.elim
  | mapUpdate t x y z => exact up (upd.spec hT hop h)
  | range t x => exact up (range.spec hT hop h)
  | next x s => cases s with
    | true => exact h.elim
    | false =>
      obtain ⟨r, bx, hk, v, w', h1, h2, h3, h4⟩ := next.spec hop h i
      exact ⟨r, bx, hk, v, w', M, β, .inl h1, h2, h3, Grow.refl _ _, h4⟩
  | entry x =>
    obtain ⟨r, hk, hp⟩ := entry.spec (g := none) (K := fun v => K v σ.box) hop h
    obtain ⟨v, h1, h2⟩ := hp actN cx N M β a w i
    exact ⟨r, σ.box, hk, v, w, M, β, .inl h1, h2, i, Grow.refl _ _, Keep.refl _ _⟩
  | call c =>
    obtain ⟨callee, args, tys⟩ := c
    simp only [opX] at h
    split at h
    · split at h
      · rename_i x y t t' hx ht
        have e1 : args = #[x, y] := by apply Array.ext'; simpa using hx
        have e2 : tys = #[t, t'] := by apply Array.ext'; simpa using ht
        subst e1; subst e2
        cases htt : Nat.beq t t' with
        | false =>
          rw [htt] at h
          exact up (appM.spec hT hop h)
        | true =>
          rw [htt] at h
          have e0 := Nat.eq_of_beq_eq_true htt
          subst e0
          simp only [cond_true] at h
          split at h
          · exact appO.spec hT hop h i
          · obtain ⟨r, bx, hk, hs⟩ := app.spec hT hop h
            exact ⟨r, bx, hk, hs cx N M β a w href i⟩
      · exact h.elim
    · split at h
      · rename_i x y t t' hx ht
        have e1 : args = #[x, y] := by apply Array.ext'; simpa using hx
        have e2 : tys = #[t, t'] := by apply Array.ext'; simpa using ht
        subst e1; subst e2
        exact up (copy.spec hT hop h)
      · exact h.elim
    · exact h.elim
  | _ => exact h.elim

def isX : Op → Bool
  | .alloc _ => true
  | .box _ _ => true
  | .store _ _ _ => true
  | .buildSlice _ _ _ => true
  | .makeSlice _ _ _ => true
  | .makeMap _ _ => true
  | .mapUpdate _ _ _ _ => true
  | .range _ _ => true
  | .next _ _ => true
  | .entry _ => true
  | .call c => match c.callee with
    | .builtin .append => true
    | .builtin .copy => true
    | _ => false
  | _ => false

/-- A value under a condition. -/
def wrapG (b : Bool) : AV → AV
  | .s x => .ib b x
  | .g cs => .ig b cs
  | _ => .s (.d .junk)

def setE (σ : St) (d : Nat) (v : AV) : St := ⟨(d, v) :: σ.env, σ.box⟩

/-- A call that is handed boxes. -/
def isR (rc : List Nat) (σ : St) (op : Op) : Option (Operand × List Operand) :=
  match op with
  | .call { callee := .value fo, args, .. } => match ev σ fo with
    | .s (.clo f _) => bif rc.contains f then some (fo, args.toList) else none
    | _ => none
  | _ => none

/-- A slice that is data, compared with nil: its length, and the answer that nil gives. -/
def isNilQ (T : List (Nat × TyI)) (σ : St) (op : Op) : Option (Nat × Bool) :=
  match op with
  | .binOp bo t x y _ => match bo with
    | .eql => match getT T t with
      | some i => match i.und with
        | .slice _ => match ev σ x, ev σ y with
          | .s (.d (.slc n _ _)), .s (.d (.val (.slice none 0 0))) => some (n, true)
          | _, _ => none
        | _ => none
      | none => none
    | .neq => match getT T t with
      | some i => match i.und with
        | .slice _ => match ev σ x, ev σ y with
          | .s (.d (.slc n _ _)), .s (.d (.val (.slice none 0 0))) => some (n, false)
          | _, _ => none
        | .iface => match ev σ x, y with
          | .s (.d (.err e)), .const .nilIface => some (1, !e)
          | _, _ => none
        | _ => none
      | none => none
    | _ => none
  | _ => none
theorem run_neq_err {P : Program} {M : Mem} {e : Bool} {v : Value} (r : (DV.err e).Rep M v) (w : World) {t : TypeId} {ms} (h : P.underlying t = some (.interface ms)) : (binOp .neq t v .nilIface).run P w = .ok (.bool e) w := by
  have key : ∀ d, (Op.equalIn (d + 1) t v .nilIface).run P w = .ok (!e) w := by
    intro d
    rcases r with ⟨rfl, rfl⟩ | ⟨rfl, u, x, rfl⟩ <;> simp [Op.equalIn, run_underlying h]
  have : (binOp .neq t v .nilIface) = (do return .bool (!(← Op.equal t v .nilIface))) := by
    rcases r with ⟨rfl, rfl⟩ | ⟨rfl, u, x, rfl⟩ <;> rfl
  rw [this]
  simp [Op.equal, Op.maxDepth, key 9999]
theorem run_guard_err {P : Program} {M : Mem} {e : Bool} {v : Value} (r : (DV.err e).Rep M v) (w : World) (t : TypeId) (x : Operand) : (eqGuard .neq t x (.const .nilIface) v .nilIface).run P w = .ok () w := by
  rcases r with ⟨rfl, rfl⟩ | ⟨rfl, u, q, rfl⟩
  · unfold eqGuard
    simp
  · unfold eqGuard
    simp
theorem isNilQ.spec {P : Program} {T : List (Nat × TyI)} (hT : TabOK P T) {o : Oper} {σ : St} {n : Nat} {p : Bool} (h : isNilQ T σ o.op = some (n, p)) {cx : Cx} {N : Nat} {M : Mem} {β : Nm} {a : Act} {w : World} (iv : Inv cx N M β σ a w) :
    ∃ b : Bool, (b = p → n = 0) ∧ (execOp a.eval o).run P w = .ok (.value (.bool b)) w := by
  have key : ∀ (v : Value) (m s : Nat) (f : Nat → Nat → DV), (DV.slc m s f).Rep M v → ∃ (ad : Option Addr) (k c : Nat), v = .slice ad k c ∧ (ad.isNone = true → m = 0) := by
    rintro v m s f ⟨ad, cap, e, _, h⟩
    refine ⟨ad, m, cap, e, fun h0 => ?_⟩
    rcases h with h | ⟨b, o, h, _⟩
    · exact h
    · subst h; cases h0
  unfold isNilQ at h
  split at h
  case h_2 => cases h
  rename_i bo t x y ty hop
  split at h
  case h_3 => cases h
  · split at h
    case h_2 => cases h
    rename_i i hi
    split at h
    case h_2 => cases h
    rename_i e hu
    split at h
    case h_2 => cases h
    rename_i m s f hx hy
    cases h
    have rx := ev.rep iv x
    have ry := ev.rep iv y
    rw [hx] at rx; rw [hy] at ry
    obtain ⟨ad, k, c, ex, h0⟩ := key _ _ _ _ rx
    have ey : a.eval y = .slice none 0 0 := ry
    refine ⟨ad.isNone, h0, ?_⟩
    simp only [execOp, hop, ex, ey, Sem.run_bind, eqGuard_plain BinOp.eql t x y (.slice ad k c) (.slice none 0 0) w (by simp) (by simp), Result.andThen, run_sl_nil w ((hT.get hi).isSlice0 hu), Sem.run_pure]
  · split at h
    case h_2 => cases h
    rename_i i hi
    split at h
    case h_3 => cases h
    case h_2 =>
      rename_i hu
      split at h
      case h_2 => cases h
      rename_i e hx
      cases h
      have rx := ev.rep iv x
      rw [hx] at rx
      obtain ⟨ds, q1, q2⟩ := (hT.get hi).und
      rw [hu] at q2
      obtain ⟨ms, rfl⟩ : ∃ ms, ds = .interface ms := by cases ds <;> first | exact ⟨_, rfl⟩ | cases q2
      have ey : a.eval (.const .nilIface) = .nilIface := rfl
      have rx' : (DV.err e).Rep M (a.eval x) := rx
      refine ⟨e, fun h => (by cases e <;> cases h), ?_⟩
      simp only [execOp, hop, ey, Sem.run_bind, run_guard_err rx' w t x, Result.andThen, run_neq_err rx' w q1, Sem.run_pure]
    rename_i e hu
    split at h
    case h_2 => cases h
    rename_i m s f hx hy
    cases h
    have rx := ev.rep iv x
    have ry := ev.rep iv y
    rw [hx] at rx; rw [hy] at ry
    obtain ⟨ad, k, c, ex, h0⟩ := key _ _ _ _ rx
    have ey : a.eval y = .slice none 0 0 := ry
    refine ⟨!ad.isNone, fun hb => h0 (by simpa using hb), ?_⟩
    simp only [execOp, hop, ex, ey, Sem.run_bind, eqGuard_plain BinOp.neq t x y (.slice ad k c) (.slice none 0 0) w (by simp) (by simp), Result.andThen, run_sl_nil' w ((hT.get hi).isSlice0 hu), Sem.run_pure]

/-- One operation, in the text's order. -/
def op1 (P : Program) (T : List (Nat × TyI)) (N : Nat) (ref rc : List Nat) (o : Oper) (σ : St) (K : St → Prop) : Prop :=
  match o.dst with
  | some d => bif Nat.blt d N then
      (bif isX o.op then (bif isFz rc ref d then ∃ zs, opX T ref d o.op (eatS zs σ) fun v bx => K ⟨(d, v) :: (eatS zs σ).env, bx⟩ else opX T ref d o.op σ fun v bx => K ⟨(d, v) :: σ.env, bx⟩)
      else match isR rc σ o.op with
        | some (fo, args) => bif isFz rc ref d then ∃ zs, fe none (ev (eatS zs σ) fo) fun vf => fetch none (eatS zs σ) args fun ars => callRX P (eatS zs σ) vf ars fun v bx => K ⟨(d, v) :: (eatS zs σ).env, bx⟩
          else fe none (ev σ fo) fun vf => fetch none σ args fun ars => callRX P σ vf ars fun v bx => K ⟨(d, v) :: σ.env, bx⟩
        | none => match isEat rc ref σ o.op with
          | some (fo, args) => fe none (ev σ fo) fun vf => fetch none σ args fun ars => eatX P σ vf ars fun v bx => K ⟨(d, v) :: σ.env, bx⟩
          | none => match isNilQ T σ o.op with
            | some (n, p) => ∀ b : Bool, (b = p → n = 0) → K (setE σ d (vbool b))
            | none => opV P T o.op σ none fun v => K (setE σ d v)) else False
  | none => bif isX o.op then opX T ref 0 o.op σ fun _ bx => K ⟨σ.env, bx⟩ else False

def skip1 (N : Nat) (o : Oper) (σ : St) (K : St → Prop) : Prop :=
  match o.dst with
  | some d => bif Nat.blt d N then K (setE σ d (.s (.d .junk))) else False
  | none => K σ

def guardTmp (all : List Oper) (j : Nat) : Option Nat := (all[j]?).bind (·.dst)

/-- An operation before which a condition that is not known is cut in two. -/
def isS (rc : List Nat) (σ : St) (op : Op) : Bool := match isX op with
  | true => true
  | false => match isR rc σ op with
    | some _ => true
    | none => false

def gpol (pol b : Bool) : Bool := match pol with | true => b | false => !b

def stepO (P : Program) (T : List (Nat × TyI)) (N : Nat) (ref rc : List Nat) (all : List Oper) (o : Oper) (next : St → (St → Prop) → Prop) (σ : St) (K : St → Prop) : Prop :=
    match o.guard with
    | none => op1 P T N ref rc o σ fun σ' => next σ' K
    | some (j, pol) => match guardTmp all j with
      | none => False
      | some t => match getE σ.env t with
        | .s (.d (.lit b)) => match b, pol with
          | true, true => op1 P T N ref rc o σ fun σ' => next σ' K
          | false, false => op1 P T N ref rc o σ fun σ' => next σ' K
          | _, _ => skip1 N o σ fun σ' => next σ' K
        | .s (.d (.val (.bool b))) => match isS rc σ o.op with
          | true =>
            (b = pol → op1 P T N ref rc o (setE σ t (.s (.d (.lit pol)))) fun σ' => next σ' K) ∧
            (b = !pol → skip1 N o (setE σ t (.s (.d (.lit (!pol))))) fun σ' => next σ' K)
          | false => match o.dst with
            | some d => bif Nat.blt d N then opV P T o.op σ (some (gpol pol b)) fun v =>
                next (setE σ d (wrapG (gpol pol b) v)) K else False
            | none => False
        | .ib c (.d (.val (.bool b))) => match isS rc σ o.op with
          | true =>
            (c = true → b = pol → op1 P T N ref rc o (setE σ t (.s (.d (.lit pol)))) fun σ' => next σ' K) ∧
            (c = true → b = !pol → skip1 N o (setE σ t (.s (.d (.lit (!pol))))) fun σ' => next σ' K) ∧
            (c = false → skip1 N o σ fun σ' => next σ' K)
          | false => match o.dst with
            | some d => bif Nat.blt d N then opV P T o.op σ (some (c && gpol pol b)) fun v =>
                next (setE σ d (wrapG (c && gpol pol b) v)) K else False
            | none => False
        | _ => False
/-- By the recursor itself: the elaborator and the kernel unfold it alike. -/
def runOps (P : Program) (T : List (Nat × TyI)) (N : Nat) (ref rc : List Nat) (all : List Oper) (l : List Oper) : St → (St → Prop) → Prop :=
  @List.rec Oper (fun _ => St → (St → Prop) → Prop) (fun σ K => K σ) (fun o _ ih σ K => stepO P T N ref rc all o ih σ K) l

end Go.Ax

/- The executor is sound. -/
namespace Go.Ax
open Go.RowKit

section
variable {P : Program} {T : List (Nat × TyI)} {N : Nat} {ref rc : List Nat} {cx : Cx} {M : Mem} {β : Nm} {σ : St} {a : Act} {w : World}

theorem Inv.put (i : Inv cx N M β σ a w) {d : Nat} {r : AV} {v : Value} (hd : d < N) (hr : r.Rep M β v) : Inv cx N M β (setE σ d r) (a.put (some d) v) w := by
  refine ⟨i.defers, by simp [Act.put, i.tmps], i.heap, fun t => ?_, i.mem, i.keys, i.box, i.inj, i.apart, i.low, i.ref⟩
  simp only [setE]
  rw [getE_cons]
  by_cases h : d = t
  · subst h
    rw [if_pos rfl]
    have : d < a.tmps.size := by rw [i.tmps]; exact hd
    simpa [Act.put, this] using hr
  · rw [if_neg h]
    have := i.env t
    simpa [Act.put, Array.getElem?_setIfInBounds_ne h] using this

/-- After a piece of code: some state of which K holds. -/
def Post (cx : Cx) (N : Nat) (M : Mem) (w : World) (K : St → Prop) (a' : Act) (w' : World) : Prop :=
  ∃ σ' M' β', K σ' ∧ Inv cx N M' β' σ' a' w' ∧ Grow cx.B M M' ∧ Keep cx w w'

theorem callsIn_FW {r : Option Nat} {n : Nat} {f : FuncId} {args : Array Value} {R : Ending → World → Prop} : CallsIn (FW r) n P f args w R ↔ Calls P f args w R := callsIn_wide (n := n)
theorem rowsIn_FW {r : Option Nat} {n : Nat} {row : String} {args : Array Value} {R : Value → World → Prop} : RowsIn (FW r) n P row args w R ↔ Rows P row args w R :=
  ⟨fun h c cs => let ⟨v, w', h1, h2⟩ := h c cs (room_wide _); ⟨v, w', h1, h2.steps⟩, fun h c cs _ => let ⟨v, w', h1, h2⟩ := h c cs; ⟨v, w', h1, (stepsIn_wide (P := P)).2 h2⟩⟩

theorem does_wp {o : Oper} {r : AV} {d : Nat} {K : St → Prop} {Q : Exit → Act → World → Prop} (hd : o.dst = some d) (hN : d < N) (h : Does P o σ r) (i : Inv cx N M β σ a w) (hk : K (setE σ d r)) :
    o.wp P a w (Post cx N M w K) Q := by
  unfold Oper.wp
  rcases h cx N M β a w i with ⟨v, e, hr⟩ | ⟨f, vs, e, hc⟩
  · rw [e, Oper.upon_value, hd]
    exact ⟨_, M, β, hk, i.put hN hr, Grow.refl _ _, Keep.refl _ _⟩
  · rw [e, Oper.upon_enter]
    refine hc.mono ?_
    rintro e' w' ⟨v, M', rfl, hr, i', hg, hkp⟩
    simp only [hd]
    exact ⟨_, M', β, hk, i'.put hN hr, hg, hkp⟩

/-- What holds of an operation outside of rounds holds in one too, unless it defers. -/
theorem opIn {r : Option Nat} {o : Oper} {next : Act → World → Prop} {Q : Exit → Act → World → Prop} (hnd : ∀ c, o.op ≠ .defer c) (h : o.wp P a w next Q) : o.wpIn (FW r) 0 P a w next Q := by
  refine ⟨fun _ _ => trivial, ?_⟩
  rw [Oper.semAt_eq _ _ _ hnd]
  unfold Oper.wp at h
  generalize (execOp a.eval o).run P w = res at h ⊢
  unfold Oper.upon at h
  split at h
  · exact h
  · exact h
  · exact h
  · exact ⟨fun e => (by cases e), callsIn_FW.2 h⟩
  · exact ⟨fun e => (by cases e), rowsIn_FW.2 h⟩
  · exact h
  · exact h.elim

theorem isR.op {rc : List Nat} {σ : St} {o : Oper} {fo : Operand} {l : List Operand} (h : isR rc σ o.op = some (fo, l)) : ∃ args tys, o.op = .call { callee := .value fo, args := args, argTypes := tys } ∧ args.toList = l := by
  unfold isR at h
  split at h
  · rename_i fo' args tys hop
    split at h
    · rename_i f cs hv
      cases hc : rc.contains f with
      | false => rw [hc] at h; cases h
      | true => rw [hc] at h; simp only [cond_true, Option.some.injEq, Prod.mk.injEq] at h; obtain ⟨rfl, rfl⟩ := h; exact ⟨_, _, hop, rfl⟩
    · cases h
  · cases h

theorem op1.sound (hT : TabOK P T) {o : Oper} {K : St → Prop} {Q : Exit → Act → World → Prop} (h : op1 P T N ref rc o σ K) (href : cx.ref = ref) (i : Inv cx N M β σ a w) :
    o.wp P a w (Post cx N M w K) Q := by
  unfold op1 at h
  split at h
  · rename_i d hd
    cases hN : Nat.blt d N with
    | false => rw [hN] at h; exact h.elim
    | true =>
      rw [hN] at h
      have hN : d < N := Nat.le_of_ble_eq_true hN
      simp only [cond_true] at h
      cases hx : isX o.op with
      | true =>
        rw [hx] at h
        simp only [cond_true] at h
        cases hfz : isFz rc ref d with
        | true =>
          rw [hfz] at h
          simp only [cond_true] at h
          obtain ⟨zs, h⟩ := h
          unfold isFz at hfz
          rw [Bool.and_eq_true] at hfz
          obtain ⟨M1, i1, g1⟩ := i.eatS (href.trans (List.isEmpty_iff.1 hfz.2)) zs
          obtain ⟨r, bx, hk, v, w', M', β', hrun, hr, hi, hg, hkp⟩ := opX.spec hT h href i1
          unfold Oper.wp
          rcases hrun with hrun | ⟨hrun, rfl⟩
          · rw [hrun, Oper.upon_value, hd]
            exact ⟨_, M', β', hk, hi.put (σ := ⟨(eatS zs σ).env, bx⟩) hN hr, g1.trans hg, hkp⟩
          · rw [hrun, Oper.upon_skip, hd]
            exact ⟨_, M', β', hk, hi.put (σ := ⟨(eatS zs σ).env, bx⟩) hN hr, g1.trans hg, hkp⟩
        | false =>
        rw [hfz] at h
        simp only [cond_false] at h
        obtain ⟨r, bx, hk, v, w', M', β', hrun, hr, hi, hg, hkp⟩ := opX.spec hT h href i
        unfold Oper.wp
        rcases hrun with hrun | ⟨hrun, rfl⟩
        · rw [hrun, Oper.upon_value, hd]
          exact ⟨_, M', β', hk, hi.put (σ := ⟨σ.env, bx⟩) hN hr, hg, hkp⟩
        · rw [hrun, Oper.upon_skip, hd]
          exact ⟨_, M', β', hk, hi.put (σ := ⟨σ.env, bx⟩) hN hr, hg, hkp⟩
      | false =>
        rw [hx] at h
        simp only [cond_false] at h
        split at h
        · rename_i fo args hR
          cases hfz : isFz rc ref d with
          | true =>
            rw [hfz] at h
            simp only [cond_true] at h
            obtain ⟨zs, h⟩ := h
            unfold isFz at hfz
            rw [Bool.and_eq_true] at hfz
            obtain ⟨M1, i1, g1⟩ := i.eatS (href.trans (List.isEmpty_iff.1 hfz.2)) zs
            obtain ⟨v, bx, hk, hs⟩ := callR.spec (isR.op hR) h
            obtain ⟨f, vs, hrun, hcall⟩ := hs cx N M1 β a w i1
            unfold Oper.wp
            rw [hrun, Oper.upon_enter]
            refine hcall.mono ?_
            rintro e' w' ⟨v', M', β', rfl, hr, i', hg, hkp⟩
            simp only [hd]
            exact ⟨_, M', β', hk, i'.put (σ := ⟨(eatS zs σ).env, bx⟩) hN hr, g1.trans hg, hkp⟩
          | false =>
          rw [hfz] at h
          simp only [cond_false] at h
          obtain ⟨v, bx, hk, hs⟩ := callR.spec (isR.op hR) h
          obtain ⟨f, vs, hrun, hcall⟩ := hs cx N M β a w i
          unfold Oper.wp
          rw [hrun, Oper.upon_enter]
          refine hcall.mono ?_
          rintro e' w' ⟨v', M', β', rfl, hr, i', hg, hkp⟩
          simp only [hd]
          exact ⟨_, M', β', hk, i'.put (σ := ⟨σ.env, bx⟩) hN hr, hg, hkp⟩
        · split at h
          · rename_i fo args hR
            obtain ⟨hr0, hR⟩ := isEat.op hR
            obtain ⟨v, bx, hk, hs⟩ := eat.spec hR h
            obtain ⟨f, vs, hrun, hcall⟩ := hs cx N M β a w (by rw [href, hr0]) i
            unfold Oper.wp
            rw [hrun, Oper.upon_enter]
            refine hcall.mono ?_
            rintro e' w' ⟨v', M', β', rfl, hr, i', hg, hkp⟩
            simp only [hd]
            exact ⟨_, M', β', hk, i'.put (σ := ⟨σ.env, bx⟩) hN hr, hg, hkp⟩
          split at h
          · rename_i n p hq
            obtain ⟨b, hb, hrun⟩ := isNilQ.spec hT hq i
            unfold Oper.wp
            rw [hrun, Oper.upon_value, hd]
            exact ⟨_, M, β, h b hb, i.put hN rfl, Grow.refl _ _, Keep.refl _ _⟩
          · obtain ⟨r, hk, hs⟩ := opV.spec hT h
            exact does_wp hd hN (hs actN) i hk
  · rename_i hd
    cases hx : isX o.op with
    | false => rw [hx] at h; exact h.elim
    | true =>
      rw [hx] at h
      obtain ⟨r, bx, hk, v, w', M', β', hrun, hr, hi, hg, hkp⟩ := opX.spec hT h href i
      unfold Oper.wp
      rcases hrun with hrun | ⟨hrun, rfl⟩
      · rw [hrun, Oper.upon_value, hd]
        exact ⟨_, M', β', hk, hi, hg, hkp⟩
      · rw [hrun, Oper.upon_skip, hd]
        exact ⟨_, M', β', hk, hi, hg, hkp⟩

theorem opV.nd {o : Oper} {σ : St} {g : Option Bool} {K : AV → Prop} (h : opV P T o.op σ g K) : ∀ c, o.op ≠ .defer c := by
  intro c e
  rw [e] at h
  exact h.elim
theorem op1.nd {o : Oper} {K : St → Prop} (h : op1 P T N ref rc o σ K) : ∀ c, o.op ≠ .defer c := by
  intro c e
  unfold op1 at h
  rw [e] at h
  split at h
  · rename_i d hd
    cases hN : Nat.blt d N with
    | false => rw [hN] at h; exact h.elim
    | true => rw [hN] at h; exact h.elim
  · exact h.elim
theorem skip1.sound {o : Oper} {K : St → Prop} (h : skip1 N o σ K) (i : Inv cx N M β σ a w) :
    Post cx N M w K (a.put o.dst undef) w := by
  unfold skip1 at h
  split at h
  · rename_i d hd
    cases hN : Nat.blt d N with
    | false => rw [hN] at h; exact h.elim
    | true =>
      rw [hN] at h
      have hN : d < N := Nat.le_of_ble_eq_true hN
      rw [hd]
      exact ⟨_, M, β, h, i.put hN trivial, Grow.refl _ _, Keep.refl _ _⟩
  · rename_i hd
    rw [hd]
    exact ⟨_, M, β, h, i, Grow.refl _ _, Keep.refl _ _⟩

theorem getD_bool {A : Array Value} {t : Nat} {b : Bool} (h : A.getD t undef = .bool b) : A[t]? = some (.bool b) := by
  by_cases ht : t < A.size
  · simp [ht] at h ⊢; exact h
  · simp [ht, undef] at h

theorem wanted_eq {all : List Oper} {o : Oper} {j t : Nat} {pol b : Bool} (hg : o.guard = some (j, pol)) (hj : guardTmp all j = some t) (hb : a.tmps.getD t undef = .bool b) :
    Region.wanted o (yielded all.toArray a.tmps) = (b == pol) := by
  have h1 : ((all[j]?).bind (·.dst)) = some t := hj
  simp [Region.wanted, hg, yielded, h1, getD_bool hb]

theorem wanted_undef {all : List Oper} {o : Oper} {j t : Nat} {pol : Bool} (hg : o.guard = some (j, pol)) (hj : guardTmp all j = some t) (hb : a.tmps.getD t undef = undef) :
    Region.wanted o (yielded all.toArray a.tmps) = false := by
  have h1 : ((all[j]?).bind (·.dst)) = some t := hj
  have h2 : ∀ b, a.tmps[t]? ≠ some (.bool b) := by
    intro b e
    simp [e, undef] at hb
  simp only [Region.wanted, hg, yielded]
  simp [h1]
theorem setLit {t : Nat} {b pol : Bool} (i : Inv cx N M β σ a w) (hv : getE σ.env t = .s (.d (.val (.bool b)))) (hb : b = pol) : Inv cx N M β (setE σ t (.s (.d (.lit pol)))) a w := by
  refine ⟨i.defers, i.tmps, i.heap, fun u => ?_, i.mem, i.keys, i.box, i.inj, i.apart, i.low, i.ref⟩
  simp only [setE]
  rw [getE_cons]
  split
  · rename_i h
    subst h
    have := i.env t
    rw [hv] at this
    rw [← hb]
    exact this
  · exact i.env u

theorem setLit' {t : Nat} {b pol c : Bool} (i : Inv cx N M β σ a w) (hv : getE σ.env t = .ib c (.d (.val (.bool b)))) (hc : c = true) (hb : b = pol) : Inv cx N M β (setE σ t (.s (.d (.lit pol)))) a w := by
  refine ⟨i.defers, i.tmps, i.heap, fun u => ?_, i.mem, i.keys, i.box, i.inj, i.apart, i.low, i.ref⟩
  simp only [setE]
  rw [getE_cons]
  split
  · rename_i h
    subst h
    have := i.env t
    rw [hv] at this
    rw [← hb]
    exact this.1 hc
  · exact i.env u

theorem Post.trans {K : St → Prop} {M1 : Mem} {w1 : World} {a' : Act} {w' : World} (hg : Grow cx.B M M1) (hk : Keep cx w w1) (h : Post cx N M1 w1 K a' w') : Post cx N M w K a' w' := by
  obtain ⟨σ', M', β', h1, h2, h3, h4⟩ := h
  exact ⟨σ', M', β', h1, h2, hg.trans h3, hk.trans h4⟩

theorem runOps.sound (hT : TabOK P T) {all : List Oper} {K : St → Prop} {Q : Exit → Act → World → Prop} (href : cx.ref = ref) : ∀ (l : List Oper) {M : Mem} {β : Nm} {σ : St} {a : Act} {w : World},
    runOps P T N ref rc all l σ K → Inv cx N M β σ a w → (∀ a' w', Post cx N M w K a' w' → Q .normal a' w') → wpListIn (FW cx.rd) 0 P all.toArray Q l a w
  | [], M, β, σ, a, w, h, i, hQ => wpListIn_nil (hQ a w ⟨σ, M, β, h, i, Grow.refl _ _, Keep.refl _ _⟩)
  | o :: rest, M, β, σ, a, w, h, i, hQ => by
    have next : ∀ {a' w'}, Post cx N M w (fun σ' => runOps P T N ref rc all rest σ' K) a' w' → wpListIn (FW cx.rd) 0 P all.toArray Q rest a' w' := by
      rintro a' w' ⟨σ', M', β', h1, h2, h3, h4⟩
      exact runOps.sound hT href rest h1 h2 fun a2 w2 hp => hQ a2 w2 (hp.trans h3 h4)
    have yes : ∀ {σ0 : St}, Inv cx N M β σ0 a w → op1 P T N ref rc o σ0 (fun σ' => runOps P T N ref rc all rest σ' K) → Region.wanted o (yielded all.toArray a.tmps) = true → wpListIn (FW cx.rd) 0 P all.toArray Q (o :: rest) a w := by
      intro σ0 i0 h hw
      unfold wpListIn
      rw [if_pos hw]
      exact opIn (op1.nd h) (Oper.wp_mono (fun a' w' hp => next hp) (op1.sound hT h href i0))
    have no : ∀ {σ0 : St}, Inv cx N M β σ0 a w → skip1 N o σ0 (fun σ' => runOps P T N ref rc all rest σ' K) → Region.wanted o (yielded all.toArray a.tmps) = false → wpListIn (FW cx.rd) 0 P all.toArray Q (o :: rest) a w := by
      intro σ0 i0 h hw
      unfold wpListIn
      rw [if_neg (by simp [hw])]
      exact ⟨fun _ _ => trivial, next (skip1.sound h i0)⟩
    have part : ∀ {d : Nat} {gb : Bool}, o.dst = some d → d < N → opV P T o.op σ (some gb) (fun v => runOps P T N ref rc all rest (setE σ d (wrapG gb v)) K) →
        Region.wanted o (yielded all.toArray a.tmps) = gb → wpListIn (FW cx.rd) 0 P all.toArray Q (o :: rest) a w := by
      intro d gb hd hN h hw
      obtain ⟨r, hk, hs⟩ := opV.spec hT h
      unfold wpListIn
      cases hgb : gb with
      | true =>
        rw [if_pos (by rw [hw, hgb])]
        have hact : act (some gb) := fun c e => by cases e; exact hgb
        have hdo : Does P o σ (wrapG gb r) := by
          intro cx N M β a w i
          have hwr : ∀ {M β v}, r.Rep M β v → (wrapG gb r).Rep M β v := by
            intro M β v hr
            cases r with
            | s x => exact ⟨fun _ => hr, fun h => by rw [hgb] at h; cases h⟩
            | g cs => exact ⟨fun _ => hr, fun h => by rw [hgb] at h; cases h⟩
            | _ => exact trivial
          rcases hs hact cx N M β a w i with ⟨v, e, hr⟩ | ⟨f, vs, e, hc⟩
          · exact .inl ⟨v, e, hwr hr⟩
          · exact .inr ⟨f, vs, e, hc.mono fun e' w' ⟨v, M', h1, h2, h3⟩ => ⟨v, M', h1, hwr h2, h3⟩⟩
        exact opIn (opV.nd h) (Oper.wp_mono (fun a' w' hp => next hp) (does_wp hd hN hdo i hk))
      | false =>
        rw [if_neg (by rw [hw, hgb]; simp)]
        refine ⟨fun _ _ => trivial, next ⟨_, M, β, hk, ?_, Grow.refl _ _, Keep.refl _ _⟩⟩
        rw [hd]
        refine i.put hN ?_
        cases r with
        | s x => exact ⟨fun h => (by rw [hgb] at h; cases h), fun _ => rfl⟩
        | g cs => exact ⟨fun h => (by rw [hgb] at h; cases h), fun _ => rfl⟩
        | _ => exact trivial
    replace h : stepO P T N ref rc all o (runOps P T N ref rc all rest) σ K := h
    unfold stepO at h
    split at h
    · rename_i hg
      exact yes i h (by simp [Region.wanted, hg])
    · rename_i j pol hg
      split at h
      · exact h.elim
      · rename_i t ht
        split at h
        · rename_i b hv
          have hb : a.tmps.getD t undef = .bool b := by have := i.env t; rw [hv] at this; exact this
          have hw := wanted_eq hg ht hb
          cases b <;> cases pol
          · exact yes i h hw
          · exact no i h hw
          · exact no i h hw
          · exact yes i h hw
        · rename_i b hv
          have hb : a.tmps.getD t undef = .bool b := by have := i.env t; rw [hv] at this; exact this
          have hw := wanted_eq hg ht hb
          cases hx : isS rc σ o.op with
          | true =>
            rw [hx] at h
            by_cases hbp : b = pol
            · exact yes (setLit i hv hbp) (h.1 hbp) (by rw [hw, hbp]; simp)
            · have hbn : b = !pol := by cases b <;> cases pol <;> first | rfl | exact absurd rfl hbp
              exact no (setLit i hv hbn) (h.2 hbn) (by rw [hw, hbn]; cases pol <;> rfl)
          | false =>
            rw [hx] at h
            simp only at h
            split at h
            · rename_i d hd
              cases hN : Nat.blt d N with
              | false => rw [hN] at h; exact h.elim
              | true =>
                rw [hN] at h
                exact part hd (Nat.le_of_ble_eq_true hN) h (by rw [hw]; cases b <;> cases pol <;> rfl)
            · exact h.elim
        · rename_i c b hv
          have hr : (AV.ib c (.d (.val (.bool b)))).Rep M β (a.tmps.getD t undef) := by have := i.env t; rw [hv] at this; exact this
          have hw : Region.wanted o (yielded all.toArray a.tmps) = (c && gpol pol b) := by
            cases c with
            | true => rw [wanted_eq hg ht (hr.1 rfl)]; cases b <;> cases pol <;> rfl
            | false => exact wanted_undef hg ht (hr.2 rfl)
          split at h
          · obtain ⟨h1, h2, h3⟩ := h
            cases c with
            | false => exact no i (h3 rfl) (by rw [hw]; rfl)
            | true =>
              by_cases hbp : b = pol
              · exact yes (setLit' i hv rfl hbp) (h1 rfl hbp) (by rw [hw, hbp]; cases pol <;> rfl)
              · have hbn : b = !pol := by cases b <;> cases pol <;> first | rfl | exact absurd rfl hbp
                exact no (setLit' i hv rfl hbn) (h2 rfl hbn) (by rw [hw, hbn]; cases pol <;> rfl)
          · split at h
            · rename_i d hd
              cases hN : Nat.blt d N with
              | false => rw [hN] at h; exact h.elim
              | true =>
                rw [hN] at h
                exact part hd (Nat.le_of_ble_eq_true hN) h hw
            · exact h.elim
        · exact h.elim

end

end Go.Ax

/- Regions that draw their order: operations that touch different temporaries and boxes may be exchanged. -/
namespace Go.Ax
open Go.RowKit

/-- Two states that agree on some boxes. -/
def AgB (xs : List Nat) (σ σ' : St) : Prop := ∀ x, x ∈ xs → getB σ'.box x = getB σ.box x

theorem dS.congr {σ σ' : St} : ∀ (n : Nat) (x : SV), AgB (reach n σ x) σ σ' → dS n σ' x = dS n σ x := by
  intro n
  induction n with
  | zero =>
    intro x h
    cases x with
    | own x => simp only [dS, h x (by simp [reach])]
    | mo z x => simp only [dS, h x (by simp [reach])]
    | osl x s lo m => simp only [dS, h x (by simp [reach])]
    | _ => rfl
  | succ n ih =>
    intro x h
    cases x with
    | d x => rfl
    | ptr x off =>
      simp only [dS, h x (by simp [reach])]
      cases hb : getB σ.box x with
      | none => rfl
      | some y => cases y with
        | none => rfl
        | some bc => cases bc with
          | row e n s f => rfl
          | mrow e n s f => rfl
          | map vk l => rfl
          | fresh T vs => rfl
          | iter q n t => rfl
          | cells cs =>
            simp only
            congr 1
            funext j
            cases hc : cs[off + j]? with
            | none => rfl
            | some c => exact ih c (fun m hm => h m (by simp only [reach, hb]; exact List.mem_cons_of_mem _ (mem_catL hc hm)))
    | own x => simp only [dS, h x (by simp [reach])]
    | mo z x => simp only [dS, h x (by simp [reach])]
    | rw x i s o => rfl
    | mp x => rfl
    | osl x s lo m => simp only [dS, h x (by simp [reach])]
    | clo f cs =>
      simp only [dS]
      congr 1
      funext i
      cases hc : cs[i]? with
      | none => rfl
      | some c => cases c with
        | d x => rfl
        | ptr x off => exact ih (.ptr x off) (fun m hm => h m (mem_catL (f := fun c => match c with | .d _ => [] | .ptr x off => reach n σ (.ptr x off)) hc hm))

theorem AgB.mono {xs ys : List Nat} {σ σ' : St} (h : AgB xs σ σ') (hs : ∀ x, x ∈ ys → x ∈ xs) : AgB ys σ σ' := fun x hx => h x (hs x hx)
theorem reach_up {σ : St} : ∀ (n : Nat) (x : SV) (m : Nat), m ∈ reach n σ x → m ∈ reach (n + 1) σ x := by
  intro n
  induction n with
  | zero => 
    intro x m h
    cases x with
    | ptr x off => simp [reach] at h; subst h; simp [reach]
    | clo f cs => simp [reach] at h
    | _ => exact h
  | succ n ih =>
    intro x m h
    have lift : ∀ {α : Type} {f g : α → List Nat} (_ : ∀ c, m ∈ f c → m ∈ g c) {l : List α}, m ∈ catL f l → m ∈ catL g l := by
      intro α f g hfg l
      induction l with
      | nil => exact fun h => h
      | cons c r ihl =>
        intro h
        simp only [catL, List.mem_append] at h ⊢
        exact h.imp (hfg c) ihl
    cases x with
    | ptr x off =>
      simp only [reach, List.mem_cons] at h ⊢
      refine h.imp id ?_
      cases hb : getB σ.box x with
      | none => simp
      | some y => cases y with
        | none => simp
        | some bc => cases bc with
          | row e n s f => simp
          | mrow e n s f => simp
          | map vk l => simp
          | fresh T vs => simp
          | iter q n t => simp
          | cells cs => exact lift (fun c hc => ih c m hc)
    | clo f cs =>
      simp only [reach] at h ⊢
      refine lift (fun c hc => ?_) h
      cases c with
      | d x => exact hc
      | ptr x off => exact ih _ m hc
    | _ => exact h

theorem convS.congr {σ σ' : St} {x : SV} (h : AgB (reach 4 σ x) σ σ') : convS σ' x = convS σ x := by
  unfold convS
  rw [dS.congr 3 x (h.mono (fun m hm => reach_up 3 x m hm))]
theorem convSs.congr {σ σ' : St} : ∀ {cs : List SV}, AgB (catL (reach 4 σ) cs) σ σ' → convSs σ' cs = convSs σ cs
  | [], _ => rfl
  | c :: r, h => by
    simp only [convSs]
    rw [convS.congr (h.mono fun m hm => List.mem_append_left _ hm), convSs.congr (cs := r) (h.mono fun m hm => List.mem_append_right _ hm)]
theorem convA.congr {σ σ' : St} {x : AV} (h : AgB (reachA σ x) σ σ') : convA σ' x = convA σ x := by
  cases x with
  | s x => simp only [convA]; rw [convS.congr h]
  | g cs => simp only [convA]; rw [convSs.congr h]
  | _ => rfl
theorem convAs.congr {σ σ' : St} : ∀ {l : List AV}, AgB (catL (reachA σ) l) σ σ' → convAs σ' l = convAs σ l
  | [], _ => rfl
  | c :: r, h => by
    simp only [convAs]
    rw [convA.congr (h.mono fun m hm => List.mem_append_left _ hm), convAs.congr (l := r) (h.mono fun m hm => List.mem_append_right _ hm)]

def Strip (v r : AV) : Prop := v = r ∨ (∃ b x, v = .ib b x ∧ r = .s x) ∨ (∃ b cs, v = .ig b cs ∧ r = .g cs)
theorem Strip.reach {v r : AV} (h : Strip v r) (σ : St) : reachA σ r = reachA σ v := by
  rcases h with rfl | ⟨b, x, rfl, rfl⟩ | ⟨b, cs, rfl, rfl⟩ <;> rfl
theorem fe.imp {g : Option Bool} {v : AV} {K K' : AV → Prop} (hk : ∀ r, Strip v r → K r → K' r) (h : fe g v K) : fe g v K' := by
  cases v with
  | s x => exact hk _ (.inl rfl) h
  | g cs => exact hk _ (.inl rfl) h
  | t ts => exact hk _ (.inl rfl) h
  | ib b x => cases g with
    | none => exact ⟨h.1, hk _ (.inr (.inl ⟨b, x, rfl, rfl⟩)) h.2⟩
    | some gb => exact ⟨h.1, hk _ (.inr (.inl ⟨b, x, rfl, rfl⟩)) h.2⟩
  | ig b cs => cases g with
    | none => exact ⟨h.1, hk _ (.inr (.inr ⟨b, cs, rfl, rfl⟩)) h.2⟩
    | some gb => exact ⟨h.1, hk _ (.inr (.inr ⟨b, cs, rfl, rfl⟩)) h.2⟩

section
variable {P : Program} {T : List (Nat × TyI)} {σ σ' : St} {g : Option Bool} {K : AV → Prop}

theorem loadV.congr {agg : Bool} {size : Nat} {va : AV} (h : AgB (reachA σ va) σ σ') (k : loadV σ agg size g va K) : loadV σ' agg size g va K := by
  unfold loadV at *
  cases va with
  | s x => cases x with
    | ptr x off => simp only [h x (by simp [reachA, reach])]; exact k
    | rw x i s o => simp only [h x (by simp [reachA, reach])]; exact k
    | d x => cases x <;> exact k
    | _ => exact k
  | _ => exact k
theorem idxV.congr {t : Nat} {va vi : AV} (h : AgB (reachA σ va) σ σ') (k : idxV T σ t g va vi K) : idxV T σ' t g va vi K := by
  have e : idxV T σ' t g va vi K = idxV T σ t g va vi K := by
    unfold idxV
    cases va with
    | s x => cases x with
      | own x =>
        have hh := h x (by simp [reachA, reach])
        cases getT T t with
        | none => rfl
        | some ti =>
          simp only
          generalize ti.und = u
          cases u with
          | slice e =>
            simp only
            cases getT T e with
            | none => rfl
            | some te =>
              cases vi with
              | s y => cases y with
                | d z => cases z with
                  | val v => cases v <;> first | rfl | simp only [hh]
                  | _ => rfl
                | _ => rfl
              | _ => rfl
          | _ => rfl
      | mo z x =>
        have hh := h x (by simp [reachA, reach])
        cases getT T t with
        | none => rfl
        | some ti =>
          simp only
          generalize ti.und = u
          cases u with
          | slice e =>
            simp only
            cases getT T e with
            | none => rfl
            | some te =>
              cases vi with
              | s y => cases y with
                | d z => cases z with
                  | val v => cases v <;> first | rfl | simp only [hh]
                  | _ => rfl
                | _ => rfl
              | _ => rfl
          | _ => rfl
      | d x => cases x <;> rfl
      | _ => rfl
    | _ => rfl
  rw [e]; exact k
theorem lenV.congr {t : Nat} {va : AV} (h : AgB (reachA σ va) σ σ') (k : lenV T σ t va K) : lenV T σ' t va K := by
  have e : lenV T σ' t va K = lenV T σ t va K := by
    unfold lenV
    cases getT T t with
    | none => rfl
    | some ti =>
      simp only
      generalize ti.und = u
      cases va with
      | s x => cases x with
        | own x =>
          have hh := h x (by simp [reachA, reach])
          cases u <;> first | rfl | simp only [hh]
        | mo z x =>
          have hh := h x (by simp [reachA, reach])
          cases u <;> first | rfl | simp only [hh]
        | d x => cases x with
          | val v => cases v <;> cases u <;> rfl
          | _ => cases u <;> rfl
        | _ => cases u <;> rfl
      | _ => cases u <;> rfl
  rw [e]; exact k

theorem doCall.congr {f : FuncId} {args : List AV} (h : AgB (catL (reachA σ) args) σ σ') (k : doCall P σ g f args K) : doCall P σ' g f args K := by
  unfold doCall at *
  rw [convAs.congr h]
  exact k
theorem reach.congr : ∀ (n : Nat) (x : SV), AgB (reach n σ x) σ σ' → reach n σ' x = reach n σ x := by
  intro n
  induction n with
  | zero => intro x _; cases x <;> rfl
  | succ n ih =>
    intro x h
    have cat : ∀ {α : Type} (f f' : α → List Nat) (l : List α), (∀ c, c ∈ l → f' c = f c) → catL f' l = catL f l := by
      intro α f f' l hl
      induction l with
      | nil => rfl
      | cons c r ihl => simp only [catL]; rw [hl c (by simp), ihl (fun c hc => hl c (List.mem_cons_of_mem _ hc))]
    cases x with
    | ptr x off =>
      simp only [reach, h x (by simp [reach])]
      congr 1
      cases hb : getB σ.box x with
      | none => rfl
      | some y => cases y with
        | none => rfl
        | some bc => cases bc with
          | row e n s f => rfl
          | mrow e n s f => rfl
          | map vk l => rfl
          | fresh T vs => rfl
          | iter q n t => rfl
          | cells cs =>
            simp only
            refine cat _ _ cs (fun c hc => ih c (fun m hm => h m ?_))
            simp only [reach, hb]
            obtain ⟨j, hj⟩ := List.getElem?_of_mem hc
            exact List.mem_cons_of_mem _ (mem_catL hj hm)
    | clo f cs =>
      simp only [reach]
      refine cat _ _ cs (fun c hc => ?_)
      cases c with
      | d x => rfl
      | ptr x off =>
        refine ih _ (fun m hm => h m ?_)
        obtain ⟨j, hj⟩ := List.getElem?_of_mem hc
        exact mem_catL (f := fun c => match c with | .d _ => [] | .ptr x off => reach n σ (.ptr x off)) hj hm
    | _ => rfl
theorem reachA.congr (v : AV) : AgB (reachA σ v) σ σ' → reachA σ' v = reachA σ v := by
  have hcs : ∀ cs : List SV, AgB (catL (reach 4 σ) cs) σ σ' → catL (reach 4 σ') cs = catL (reach 4 σ) cs := by
    intro cs
    induction cs with
    | nil => intro _; rfl
    | cons c r ih => intro h; simp only [catL]; rw [reach.congr 4 c (h.mono fun m hm => List.mem_append_left _ hm), ih (h.mono fun m hm => List.mem_append_right _ hm)]
  intro h
  cases v with
  | s x => exact reach.congr 4 x h
  | ib b x => exact reach.congr 4 x h
  | g cs => exact hcs cs h
  | ig b cs => exact hcs cs h
  | t ts => rfl
theorem reachL.congr : ∀ (l : List AV), AgB (catL (reachA σ) l) σ σ' → catL (reachA σ') l = catL (reachA σ) l
  | [], _ => rfl
  | v :: r, h => by
    simp only [catL]
    rw [reachA.congr v (h.mono fun m hm => List.mem_append_left _ hm), reachL.congr r (h.mono fun m hm => List.mem_append_right _ hm)]
theorem matchB.congr {ren : List (Nat × Nat)} : ∀ {bx : BoxL}, (∀ x, x ∈ names bx → getB σ'.box (look ren x) = getB σ.box (look ren x)) → matchB ren σ.box bx → matchB ren σ'.box bx
  | [], _, _ => trivial
  | (x, b) :: r, h, ⟨h1, h2⟩ => ⟨(h x (by simp [names])).trans h1, matchB.congr (fun y hy => h y (by simp only [names]; exact List.mem_cons_of_mem _ hy)) h2⟩
theorem CallK.congr {f : FuncId} {args : List AV} {r : AV} (h : AgB (catL (reachA σ) args) σ σ') (k : CallK P σ f args r) : CallK P σ' f args r := by
  obtain ⟨ren, ar, bx, hc, he, hm, hok, hf, hx⟩ := k
  have hx' : ∀ x, x ∈ names bx → look ren x ∈ catL (reachA σ) args := fun x hm' => by
    rw [List.all_eq_true] at hx
    simpa using hx x hm'
  refine ⟨ren, ar, bx, hc, he, hm.congr (fun x hm' => h _ (hx' x hm')), hok, hf, ?_⟩
  rw [reachL.congr args h]
  exact hx
theorem doCallK.congr {f : FuncId} {args : List AV} (h : AgB (catL (reachA σ) args) σ σ') (k : doCallK P σ g f args K) : doCallK P σ' g f args K := by
  rcases k with k | ⟨r, h1, h2⟩
  · exact .inl (doCall.congr h k)
  · refine .inr ⟨r, ?_, h2⟩
    cases g with
    | none => exact CallK.congr h h1
    | some b => exact fun hb => CallK.congr h (h1 hb)
theorem catL_append {α : Type} (f : α → List Nat) : ∀ (a b : List α), catL f (a ++ b) = catL f a ++ catL f b
  | [], b => rfl
  | x :: a, b => by simp only [List.cons_append, catL, catL_append f a b, List.append_assoc]
theorem reach_cap (n : Nat) : ∀ (cs : List CV) (m : Nat), m ∈ catL (reachA σ) (capA cs) → n = 4 → m ∈ catL (fun c => match c with | .d _ => [] | .ptr x off => reach 4 σ (.ptr x off)) cs
  | [], _, h, _ => h
  | .d _ :: r, m, h, hn => by
    simp only [capA, catL, reachA, reach, List.nil_append] at h ⊢
    exact reach_cap n r m h hn
  | .ptr x off :: r, m, h, hn => by
    simp only [capA, catL, List.mem_append] at h ⊢
    exact h.imp id (fun h => reach_cap n r m h hn)
theorem capD_reach (c : Nat → DV) : ∀ (k j m : Nat), m ∈ catL (reachA σ) (capD c k j) → False
  | 0, _, _, h => by simp [capD, catL] at h
  | k + 1, j, m, h => by
    simp only [capD, catL, reachA, reach, List.nil_append] at h
    exact capD_reach c k (j + 1) m h

/-- The boxes behind captured variables too. -/
def reachF (σ : St) : AV → List Nat
  | .s (.clo _ cs) => catL (fun c => match c with | .d _ => [] | .ptr x off => reach 4 σ (.ptr x off)) cs
  | .ib _ (.clo _ cs) => catL (fun c => match c with | .d _ => [] | .ptr x off => reach 4 σ (.ptr x off)) cs
  | _ => []
theorem Strip.reachF {v r : AV} (h : Strip v r) (σ : St) : reachF σ r = reachF σ v := by
  rcases h with rfl | ⟨b, x, rfl, rfl⟩ | ⟨b, cs, rfl, rfl⟩
  · rfl
  · cases x <;> rfl
  · rfl

theorem callVK.congr {vf : AV} {args : List AV} (h : AgB (reachF σ vf ++ catL (reachA σ) args) σ σ') (k : callVK P σ g vf args K) : callVK P σ' g vf args K := by
  unfold callVK at *
  split at k
  · refine doCallK.congr (fun m hm => h m ?_) k
    rw [catL_append, List.mem_append] at hm
    rcases hm with hm | hm
    · exact List.mem_append_right _ hm
    · exact List.mem_append_left _ (reach_cap 4 _ m hm rfl)
  · refine doCallK.congr (fun m hm => h m ?_) k
    rw [catL_append, List.mem_append] at hm
    rcases hm with hm | hm
    · exact List.mem_append_right _ hm
    · exact (capD_reach _ _ _ m hm).elim
  · exact k.elim

/-- The operands agree. -/
def AgE (xs : List Operand) (σ σ' : St) : Prop := ∀ x, x ∈ xs → ev σ' x = ev σ x

theorem fetch.congr : ∀ {l : List Operand} {K K' : List AV → Prop}, AgE l σ σ' → (∀ ars, (∀ m, m ∈ catL (reachA σ) ars → m ∈ catL (fun x => reachA σ (ev σ x)) l) → K ars → K' ars) → fetch g σ l K → fetch g σ' l K'
  | [], _, _, _, hk, h => hk [] (fun m hm => hm) h
  | x :: r, K, K', he, hk, h => by
    simp only [fetch] at *
    rw [he x (by simp)]
    refine fe.imp (fun va hs h => ?_) h
    refine fetch.congr (fun y hy => he y (List.mem_cons_of_mem _ hy)) (fun ars hm h => hk _ ?_ h) h
    intro m hm'
    simp only [catL, List.mem_append] at hm' ⊢
    rcases hm' with h1 | h1
    · rw [hs.reach σ] at h1; exact .inl h1
    · exact .inr (hm m h1)

theorem ints.congr : ∀ {l : List Operand} {K : List (IntKind × Int) → Prop}, AgE l σ σ' → ints g σ l K → ints g σ' l K
  | [], _, _, h => h
  | x :: r, K, he, h => by
    simp only [ints] at *
    rw [he x (by simp)]
    refine fe.imp (fun va hs h => ?_) h
    split at h
    · exact ints.congr (fun y hy => he y (List.mem_cons_of_mem _ hy)) h
    · exact h.elim
theorem parts.congr : ∀ {l : List (Nat × Operand)} {K : List (Nat × List SV) → Prop}, AgE (l.map (·.2)) σ σ' → parts g σ l K → parts g σ' l K
  | [], _, _, h => h
  | (i, x) :: r, K, he, h => by
    simp only [parts] at *
    rw [he x (by simp)]
    refine fe.imp (fun va hs h => ?_) h
    split at h
    · rename_i cs hcs
      try simp only [hcs]
      cases ho : allOne cs with
      | false => rw [ho] at h; exact h.elim
      | true =>
        rw [ho] at h
        exact parts.congr (fun y hy => he y (List.mem_cons_of_mem _ hy)) h
    · exact h.elim
theorem toCVs.congr : ∀ {l : List Operand}, AgE l σ σ' → toCVs σ' l = toCVs σ l
  | [], _ => rfl
  | x :: r, he => by
    simp only [toCVs]
    rw [he x (by simp), toCVs.congr (l := r) (fun y hy => he y (List.mem_cons_of_mem _ hy))]
theorem optI.congr {x : Option Operand} {K : Option Int → Prop} (he : AgE x.toList σ σ') (h : optI g σ x K) : optI g σ' x K := by
  cases x with
  | none => exact h
  | some x =>
    simp only [optI] at *
    rw [he x (by simp)]
    exact h

/-- The boxes that an operation may read. -/
def rdOp (σ : St) (op : Op) : List Nat :=
  match op with
  | .call { callee := .value fo, args, .. } => reachF σ (ev σ fo) ++ catL (fun x => reachA σ (ev σ x)) args.toList
  | .move _ => []
  | .assign _ => []
  | .pick _ _ _ => []
  | .fieldAddr _ _ _ => []
  | .nilCheck _ => []
  | .binOp _ _ _ _ _ => []
  | .unOp _ _ _ => []
  | .convert _ _ _ => []
  | .extract _ _ => []
  | .build _ _ => []
  | .makeFunc _ _ _ => []
  | .store _ _ _ => []
  | .box _ _ => []
  | .alloc _ => []
  | .buildSlice _ _ _ => []
  | op => catL (fun x => reachA σ (ev σ x)) op.operands.toList

theorem opV.congr {op : Op} (he : AgE op.operands.toList σ σ') (hb : AgB (rdOp σ op) σ σ') (h : opV P T op σ g K) : opV P T op σ' g K := by
  cases op with
  | move x => simp only [opV] at *; rw [he x (by simp [Op.operands])]; exact h
  | assign x => simp only [opV] at *; rw [he x (by simp [Op.operands])]; exact h
  | pick c x y => simp only [opV] at *; rw [he c (by simp [Op.operands]), he x (by simp [Op.operands]), he y (by simp [Op.operands])]; exact h
  | load t x =>
    simp only [opV] at *
    rw [he x (by simp [Op.operands])]
    refine fe.imp (fun va hs h => ?_) h
    split at h
    · exact loadV.congr (hb.mono (fun m hm => by rw [hs.reach σ] at hm; simp [rdOp, Op.operands, catL, hm])) h
    · exact h.elim
  | fieldAddr s x f => simp only [opV] at *; rw [he x (by simp [Op.operands])]; exact h
  | binOp op t x y ty => simp only [opV] at *; rw [he x (by simp [Op.operands]), he y (by simp [Op.operands])]; exact h
  | unOp op t x => simp only [opV] at *; rw [he x (by simp [Op.operands])]; exact h
  | convert src dst x => simp only [opV] at *; rw [he x (by simp [Op.operands])]; exact h
  | nilCheck x => simp only [opV] at *; rw [he x (by simp [Op.operands])]; exact h
  | extract x k => simp only [opV] at *; rw [he x (by simp [Op.operands])]; exact h
  | indexAddr t x y =>
    simp only [opV] at *
    rw [he x (by simp [Op.operands]), he y (by simp [Op.operands])]
    refine fe.imp (fun va hs h => ?_) h
    refine fe.imp (fun vi _ h => ?_) h
    exact idxV.congr (hb.mono (fun m hm => by rw [hs.reach σ] at hm; simp [rdOp, Op.operands, catL, hm])) h
  | index t x y => simp only [opV] at *; rw [he x (by simp [Op.operands]), he y (by simp [Op.operands])]; exact h
  | lookup t x y ok =>
    simp only [opV] at *
    rw [he x (by simp [Op.operands]), he y (by simp [Op.operands])]
    refine fe.imp (fun va hs h1 => ?_) h
    refine fe.imp (fun vi hv h2 => ?_) h1
    have hb' : AgB (reachA σ va) σ σ' := hb.mono (fun m hm => by rw [hs.reach σ] at hm; simp [rdOp, Op.operands, catL, hm])
    clear h h1
    unfold lookV at h2 ⊢
    split at h2
    case h_2 => exact h2.elim
    rename_i b k
    simp only [hb' b (by simp [reachA, reach])]
    exact h2
  | slice t x lo hi mx =>
    cases mx with
    | some m => exact h.elim
    | none =>
      simp only [opV] at *
      rw [he x (by simp [Op.operands])]
      refine fe.imp (fun va hs h => ?_) h
      have hlo : AgE lo.toList σ σ' := fun y hy => he y (by simp [Op.operands]; exact .inr (.inl (by simpa using hy)))
      have hhi : AgE hi.toList σ σ' := fun y hy => he y (by simp [Op.operands]; exact .inr (.inr (by simpa using hy)))
      unfold sliceV at *
      split at h <;> try (exact h.elim)
      rename_i ti hti
      try simp only [hti]
      split at h
      · rename_i e hu
        try simp only [hu]
        split at h <;> try (exact h.elim)
        rename_i te hte
        try simp only [hte]
        split at h
        case h_5 => exact h.elim
        case h_4 =>
          cases lo with
          | none =>
            simp only [optI] at h ⊢
            cases hi with
            | none => exact h
            | some y => simp only at h ⊢; rw [hhi y (by simp)]; exact h
          | some y =>
            simp only [optI] at h ⊢
            rw [hlo y (by simp)]
            cases hi with
            | none => exact h
            | some z => simp only at h ⊢; rw [hhi z (by simp)]; exact h
        · rename_i n s f
          try simp only
          cases hs : Nat.beq s te.size with
          | false => rw [hs] at h; exact h.elim
          | true =>
            rw [hs] at h
            simp only [cond_true] at *
            cases lo with
            | none =>
              simp only [optI] at h ⊢
              cases hi with
              | none => exact h
              | some y => simp only at h ⊢; rw [hhi y (by simp)]; exact h
            | some y =>
              simp only [optI] at h ⊢
              rw [hlo y (by simp)]
              cases hi with
              | none => exact h
              | some z => simp only at h ⊢; rw [hhi z (by simp)]; exact h
        · rename_i x'
          have hgb : getB σ'.box x' = getB σ.box x' := hb x' (mem_catL (j := 0) (c := x) (by simp [Op.operands]) (by have := hs.reach σ; simp only [← this]; simp [reachA, reach]))
          simp only [hgb]
          split at h
          case h_2 => exact h.elim
          rename_i e' n s f hbx
          cases hs : Nat.beq s te.size with
          | false => rw [hs] at h; exact h.elim
          | true =>
            rw [hs] at h
            simp only [cond_true] at *
            cases lo with
            | none =>
              simp only [optI] at h ⊢
              cases hi with
              | none => exact h
              | some y => simp only at h ⊢; rw [hhi y (by simp)]; exact h
            | some y =>
              simp only [optI] at h ⊢
              rw [hlo y (by simp)]
              cases hi with
              | none => exact h
              | some z => simp only at h ⊢; rw [hhi z (by simp)]; exact h
        · rename_i x' s lo0 n
          try simp only
          cases hs : Nat.beq s te.size with
          | false => rw [hs] at h; exact h.elim
          | true =>
            rw [hs] at h
            simp only [cond_true] at *
            cases lo with
            | none =>
              simp only [optI] at h ⊢
              cases hi with
              | none => exact h
              | some y => simp only at h ⊢; rw [hhi y (by simp)]; exact h
            | some y =>
              simp only [optI] at h ⊢
              rw [hlo y (by simp)]
              cases hi with
              | none => exact h
              | some z => simp only at h ⊢; rw [hhi z (by simp)]; exact h
      · rename_i hu
        try simp only [hu]
        split at h <;> try (exact h.elim)
        rename_i s
        try simp only
        cases lo with
        | none =>
          simp only [optI] at h ⊢
          cases hi with
          | none => exact h
          | some y => simp only at h ⊢; rw [hhi y (by simp)]; exact h
        | some y =>
          simp only [optI] at h ⊢
          rw [hlo y (by simp)]
          cases hi with
          | none => exact h
          | some z => simp only at h ⊢; rw [hhi z (by simp)]; exact h
      · exact h.elim
  | build t pa =>
    simp only [opV] at *
    exact parts.congr (fun y hy => he y (by simpa [Op.operands] using hy)) h
  | makeFunc fn fs caps =>
    cases fn with
    | func f =>
      simp only [opV] at *
      split at h
      · rename_i hfs
        try simp only [hfs]
        rw [toCVs.congr (l := caps.toList) (fun y hy => he y (by simp [Op.operands]; exact .inr (by simpa using hy)))]
        exact h
      · exact h.elim
    | _ => exact h.elim
  | call c =>
    obtain ⟨callee, args, tys⟩ := c
    simp only [opV] at *
    split at h
    · rename_i fo
      try simp only
      rw [he fo (by simp [Op.operands, Call.operands])]
      refine fe.imp (fun vf hs h => ?_) h
      refine fetch.congr (fun y hy => he y (by simp [Op.operands, Call.operands]; exact .inr (by simpa using hy))) (fun ars hm h => ?_) h
      refine callVK.congr (fun m hm' => hb m ?_) h
      simp only [rdOp]
      rw [List.mem_append] at hm' ⊢
      rcases hm' with h1 | h1
      · rw [hs.reachF σ] at h1; exact .inl h1
      · exact .inr (hm m h1)
    · try simp only
      split at h
      · rename_i x t hx ht
        try simp only [hx, ht]
        have hxm : x ∈ args.toList := by rw [hx]; simp
        rw [he x (by simp [Op.operands, Call.operands]; simpa using hxm)]
        refine fe.imp (fun va hs h => ?_) h
        refine lenV.congr (hb.mono (fun m hm => ?_)) h
        rw [hs.reach σ] at hm
        have : args = #[x] := by apply Array.ext'; simpa using hx
        subst this
        simp [rdOp, Op.operands, Call.operands, catL, hm]
      · exact h.elim
    · try simp only
      split at h
      · rename_i x t hx ht
        try simp only [hx, ht]
        have hxm : x ∈ args.toList := by rw [hx]; simp
        rw [he x (by simp [Op.operands, Call.operands]; simpa using hxm)]
        exact h
      · exact h.elim
    · exact ints.congr (fun y hy => he y (by simp [Op.operands, Call.operands]; simpa using hy)) h
    · exact ints.congr (fun y hy => he y (by simp [Op.operands, Call.operands]; simpa using hy)) h
    · exact h.elim
  | _ => exact h.elim

end
end Go.Ax

/- The executor's operations yield one value: what holds of the continuation holds of that value, and it serves every continuation. -/
namespace Go.Ax
open Go.RowKit

/-- C hands some one r on. -/
def Point {α : Type} (C : (α → Prop) → Prop) (r : α) : Prop := ∀ K, K r → C K

section
variable {P : Program} {T : List (Nat × TyI)} {σ : St} {g : Option Bool}

theorem fe.point {v : AV} {K : AV → Prop} (h : fe g v K) : ∃ r, K r ∧ Point (fe g v) r := by
  cases v with
  | s x => exact ⟨_, h, fun _ k => k⟩
  | g cs => exact ⟨_, h, fun _ k => k⟩
  | t ts => exact ⟨_, h, fun _ k => k⟩
  | ib b x => cases g with
    | none => exact ⟨_, h.2, fun _ k => ⟨h.1, k⟩⟩
    | some gb => exact ⟨_, h.2, fun _ k => ⟨h.1, k⟩⟩
  | ig b cs => cases g with
    | none => exact ⟨_, h.2, fun _ k => ⟨h.1, k⟩⟩
    | some gb => exact ⟨_, h.2, fun _ k => ⟨h.1, k⟩⟩

/-- Behind a fetched operand. -/
theorem fe.pt {α : Type} {v : AV} {C : AV → (α → Prop) → Prop} {K : α → Prop} (h : fe g v fun va => C va K) (hC : ∀ va K, C va K → ∃ r, K r ∧ Point (C va) r) :
    ∃ r, K r ∧ Point (fun K => fe g v fun va => C va K) r := by
  obtain ⟨va, h1, h2⟩ := fe.point h
  obtain ⟨r, h3, h4⟩ := hC va K h1
  exact ⟨r, h3, fun K k => h2 _ (h4 K k)⟩

theorem fetch.pt {α : Type} : ∀ {l : List Operand} {C : List AV → (α → Prop) → Prop} {K : α → Prop}, fetch g σ l (fun ars => C ars K) → (∀ ars K, C ars K → ∃ r, K r ∧ Point (C ars) r) →
    ∃ r, K r ∧ Point (fun K => fetch g σ l fun ars => C ars K) r
  | [], C, K, h, hC => by
    obtain ⟨r, h3, h4⟩ := hC [] K h
    exact ⟨r, h3, fun K k => h4 K k⟩
  | x :: r, C, K, h, hC => by
    simp only [fetch] at h ⊢
    exact fe.pt (C := fun va K => fetch g σ r fun l => C (va :: l) K) h (fun va K h => fetch.pt (C := fun l K => C (va :: l) K) h (fun ars K h => hC _ K h))
theorem ints.pt {α : Type} : ∀ {l : List Operand} {C : List (IntKind × Int) → (α → Prop) → Prop} {K : α → Prop}, ints g σ l (fun ars => C ars K) → (∀ ars K, C ars K → ∃ r, K r ∧ Point (C ars) r) →
    ∃ r, K r ∧ Point (fun K => ints g σ l fun ars => C ars K) r
  | [], C, K, h, hC => by
    obtain ⟨r, h3, h4⟩ := hC [] K h
    exact ⟨r, h3, fun K k => h4 K k⟩
  | x :: r, C, K, h, hC => by
    simp only [ints] at h ⊢
    refine fe.pt (C := fun va K => match va with | .s (.d (.val (.int k n))) => ints g σ r fun l => C ((k, n) :: l) K | _ => False) h (fun va K h => ?_)
    split at h
    · exact ints.pt (C := fun l K => C (_ :: l) K) h (fun ars K h => hC _ K h)
    · exact h.elim
theorem parts.pt {α : Type} : ∀ {l : List (Nat × Operand)} {C : List (Nat × List SV) → (α → Prop) → Prop} {K : α → Prop}, parts g σ l (fun ars => C ars K) → (∀ ars K, C ars K → ∃ r, K r ∧ Point (C ars) r) →
    ∃ r, K r ∧ Point (fun K => parts g σ l fun ars => C ars K) r
  | [], C, K, h, hC => by
    obtain ⟨r, h3, h4⟩ := hC [] K h
    exact ⟨r, h3, fun K k => h4 K k⟩
  | (i, x) :: r, C, K, h, hC => by
    simp only [parts] at h ⊢
    refine fe.pt (C := fun va K => match cellsA va with | some cs => (bif allOne cs then parts g σ r fun l => C ((i, cs) :: l) K else False) | none => False) h (fun va K h => ?_)
    split at h
    · rename_i cs hcs
      cases ho : allOne cs with
      | false => rw [ho] at h; exact h.elim
      | true =>
        rw [ho] at h
        obtain ⟨r', h1, h2⟩ := parts.pt (C := fun l K => C (_ :: l) K) h (fun ars K h => hC _ K h)
        refine ⟨r', h1, fun K k => ?_⟩
        simp only [cond_true]
        exact h2 K k
    · exact h.elim

theorem loadV.pt {agg : Bool} {size : Nat} {va : AV} {K : AV → Prop} (h : loadV σ agg size g va K) : ∃ r, K r ∧ Point (loadV σ agg size g va) r := by
  unfold loadV at h
  split at h
  · rename_i x off
    split at h
    · rename_i cs hb
      split at h
      · cases hle : Nat.ble (off + size) cs.length with
        | false => rw [hle] at h; exact h.elim
        | true => rw [hle] at h; exact ⟨_, h, fun K k => by unfold loadV; simp only [hb, hle, cond_true]; exact k⟩
      · split at h
        · rename_i c hc
          exact ⟨_, h, fun K k => by unfold loadV; simp only [hb, hc]; exact k⟩
        · exact h.elim
    · exact h.elim
  · rename_i x i s o
    split at h
    · rename_i e n s' f hb
      cases hc : (Nat.beq s s' && Nat.ble (o + cnt agg size) s) with
      | false => rw [hc] at h; exact h.elim
      | true =>
        rw [hc] at h
        cases agg with
        | true => exact ⟨_, h.2, fun K k => by unfold loadV; simp only [hb, hc, cond_true]; exact ⟨h.1, k⟩⟩
        | false => exact ⟨_, h.2, fun K k => by unfold loadV; simp only [hb, hc, cond_true]; exact ⟨h.1, k⟩⟩
    · rename_i e n s' f hb
      cases hc : (Nat.beq s s' && Nat.ble (o + cnt agg size) s) with
      | false => rw [hc] at h; exact h.elim
      | true =>
        rw [hc] at h
        cases agg with
        | true => exact ⟨_, h.2, fun K k => by unfold loadV; simp only [hb, hc, cond_true]; exact ⟨h.1, k⟩⟩
        | false => exact ⟨_, h.2, fun K k => by unfold loadV; simp only [hb, hc, cond_true]; exact ⟨h.1, k⟩⟩
    · exact h.elim
  · rename_i m f
    split at h
    · cases hle : Nat.ble size m with
      | false => rw [hle] at h; exact h.elim
      | true => rw [hle] at h; exact ⟨_, h, fun K k => by unfold loadV; simp only [hle, cond_true]; exact k⟩
    · cases hle : Nat.ble 1 m with
      | false => rw [hle] at h; exact h.elim
      | true => rw [hle] at h; exact ⟨_, h, fun K k => by unfold loadV; simp only [hle, cond_true]; exact k⟩
  · exact h.elim

theorem fieldV.pt {s f : Nat} {va : AV} {K : AV → Prop} (h : fieldV T s f va K) : ∃ r, K r ∧ Point (fieldV T s f va) r := by
  unfold fieldV at h
  split at h
  case h_2 => exact h.elim
  rename_i ti hti
  split at h
  case h_2 => exact h.elim
  rename_i off sz hf
  split at h
  case h_2 => exact h.elim
  rename_i hu
  cases hz : Nat.beq sz 0 with
  | true => rw [hz] at h; exact h.elim
  | false =>
    rw [hz] at h
    simp only [cond_false] at h
    split at h
    case h_4 => exact h.elim
    all_goals exact ⟨_, h, fun K k => by unfold fieldV; simp only [hti, hf, hu, hz, cond_false]; exact k⟩

theorem idxV.pt {t : Nat} {va vi : AV} {K : AV → Prop} (h : idxV T σ t g va vi K) : ∃ r, K r ∧ Point (idxV T σ t g va vi) r := by
  unfold idxV at h
  split at h
  case h_2 => exact h.elim
  rename_i ti hti
  split at h
  case h_3 => exact h.elim
  rotate_left
  · rename_i len e hu
    split at h
    case h_2 => exact h.elim
    rename_i te hte
    split at h
    case h_2 => exact h.elim
    split at h
    case h_4 => exact h.elim
    all_goals exact ⟨_, h.2, fun K k => by unfold idxV; simp only [hti, hu, hte]; exact ⟨h.1, k⟩⟩
  rename_i e hu
  split at h
  case h_2 => exact h.elim
  rename_i te hte
  split at h
  case h_2 => exact h.elim
  split at h
  case h_5 => exact h.elim
  rotate_left
  rotate_left
  rotate_left
  · rename_i x' s lo m
    cases hs : Nat.beq s te.size with
    | false => rw [hs] at h; exact h.elim
    | true => rw [hs] at h; exact ⟨_, h.2, fun K k => by unfold idxV; simp only [hti, hu, hte, hs, cond_true]; exact ⟨h.1, k⟩⟩
  · rename_i len s f
    cases hs : Nat.beq s te.size with
    | false => rw [hs] at h; exact h.elim
    | true => rw [hs] at h; exact ⟨_, h.2, fun K k => by unfold idxV; simp only [hti, hu, hte, hs, cond_true]; exact ⟨h.1, k⟩⟩
  · split at h
    case h_2 => exact h.elim
    rename_i e' len s f hb
    cases hs : Nat.beq s te.size with
    | false => rw [hs] at h; exact h.elim
    | true => rw [hs] at h; exact ⟨_, h.2, fun K k => by unfold idxV; simp only [hti, hu, hte, hb, hs, cond_true]; exact ⟨h.1, k⟩⟩
  · split at h
    case h_2 => exact h.elim
    rename_i e' len s f hb
    cases hs : Nat.beq s te.size with
    | false => rw [hs] at h; exact h.elim
    | true => rw [hs] at h; exact ⟨_, h.2, fun K k => by unfold idxV; simp only [hti, hu, hte, hb, hs, cond_true]; exact ⟨h.1, k⟩⟩

theorem strV.pt {t : Nat} {va vi : AV} {K : AV → Prop} (h : strV T t g va vi K) : ∃ r, K r ∧ Point (strV T t g va vi) r := by
  unfold strV at h
  split at h
  case h_2 => exact h.elim
  rename_i ti hti
  split at h
  case h_3 => exact h.elim
  · rename_i hu
    split at h
    case h_2 => exact h.elim
    exact ⟨_, h.2, fun K k => by unfold strV; simp only [hti, hu]; exact ⟨h.1, k⟩⟩
  · rename_i hu
    split at h
    case h_2 => exact h.elim
    rename_i te hte
    split at h
    case h_2 => exact h.elim
    rename_i cs kk n
    obtain ⟨hin, h⟩ := h
    split at h
    · rename_i hagg
      cases hle : Nat.ble (n.toNat * te.size + te.size) cs.length with
      | false => rw [hle] at h; exact h.elim
      | true => rw [hle] at h; exact ⟨_, h, fun K k => by unfold strV; simp only [hti, hu, hte, hagg, hle, cond_true]; exact ⟨hin, k⟩⟩
    · rename_i hagg
      split at h
      case h_2 => exact h.elim
      rename_i c hc
      exact ⟨_, h, fun K k => by unfold strV; simp only [hti, hu, hte, hagg, hc]; exact ⟨hin, k⟩⟩

theorem extV.pt {n : Nat} {va : AV} {K : AV → Prop} (h : extV n va K) : ∃ r, K r ∧ Point (extV n va) r := by
  unfold extV at h
  split at h
  case h_2 => exact h.elim
  rename_i ts
  split at h
  case h_3 => exact h.elim
  · rename_i hs
    exact ⟨_, h, fun K k => by unfold extV; simp only [hs]; exact k⟩
  · rename_i hs
    exact ⟨_, h, fun K k => by unfold extV; simp only [hs]; exact k⟩

theorem unV.pt {op : UnOp} {va : AV} {K : AV → Prop} (h : unV op va K) : ∃ r, K r ∧ Point (unV op va) r := by
  unfold unV at h
  split at h
  case h_4 => exact h.elim
  · rename_i b
    cases b <;> exact ⟨_, h, fun K k => k⟩
  · exact ⟨_, h, fun K k => k⟩
  · exact ⟨_, h, fun K k => k⟩

theorem pickV.pt {g : Option Bool} {vc vx vy : AV} {K : AV → Prop} (h : pickV g vc vx vy K) : ∃ r, K r ∧ Point (pickV g vc vx vy) r := by
  unfold pickV at h
  split at h
  case h_3 => exact h.elim
  · rename_i b
    cases b
    · obtain ⟨r, h1, h2⟩ := fe.point h; exact ⟨r, h1, fun K k => h2 K k⟩
    · obtain ⟨r, h1, h2⟩ := fe.point h; exact ⟨r, h1, fun K k => h2 K k⟩
  · rename_i b
    split at h
    case h_2 => exact h.elim
    rename_i p gp q gq hp hq
    obtain ⟨h1, h2, h⟩ := h
    cases e1 : isL false vy with
    | true => rw [e1] at h; exact ⟨_, h, fun K k => by unfold pickV; simp only [hp, hq, e1, cond_true]; exact ⟨h1, h2, k⟩⟩
    | false =>
      rw [e1] at h
      cases e2 : isL true vx with
      | true => rw [e2] at h; exact ⟨_, h, fun K k => by unfold pickV; simp only [hp, hq, e1, e2, cond_true, cond_false]; exact ⟨h1, h2, k⟩⟩
      | false => rw [e2] at h; exact ⟨_, h, fun K k => by unfold pickV; simp only [hp, hq, e1, e2, cond_false]; exact ⟨h1, h2, k⟩⟩

theorem convV.pt {src dst : Nat} {va : AV} {K : AV → Prop} (h : convV T src dst va K) : ∃ r, K r ∧ Point (convV T src dst va) r := by
  unfold convV at h
  split at h
  case h_2 => exact h.elim
  rename_i ts td hts htd
  split at h
  case h_5 => exact h.elim
  · rename_i e1 e2
    exact ⟨_, h, fun K k => by unfold convV; simp only [hts, htd, e1, e2]; exact k⟩
  · rename_i e1 e2
    exact ⟨_, h, fun K k => by unfold convV; simp only [hts, htd, e1, e2]; exact k⟩
  · rename_i e1 e2
    exact ⟨_, h, fun K k => by unfold convV; simp only [hts, htd, e1, e2]; exact k⟩
  · rename_i e1 e2
    obtain ⟨n, h1, h⟩ := h
    exact ⟨_, h, fun K k => by unfold convV; simp only [hts, htd, e1, e2]; exact ⟨n, h1, k⟩⟩

theorem nilV.pt {va : AV} {K : AV → Prop} (h : nilV va K) : ∃ r, K r ∧ Point (nilV va) r := by
  unfold nilV at h
  split at h
  case h_6 => exact h.elim
  all_goals exact ⟨_, h, fun K k => k⟩

theorem lenV.pt {t : Nat} {va : AV} {K : AV → Prop} (h : lenV T σ t va K) : ∃ r, K r ∧ Point (lenV T σ t va) r := by
  unfold lenV at h
  split at h
  case h_2 => exact h.elim
  rename_i ti hti
  split at h
  case h_8 => exact h.elim
  · rename_i hu; exact ⟨_, h, fun K k => by unfold lenV; simp only [hti, hu]; exact k⟩
  · rename_i hu
    split at h
    case h_2 => exact h.elim
    rename_i hb
    exact ⟨_, h, fun K k => by unfold lenV; simp only [hti, hu, hb]; exact k⟩
  · rename_i hu
    split at h
    case h_2 => exact h.elim
    rename_i hb
    exact ⟨_, h, fun K k => by unfold lenV; simp only [hti, hu, hb]; exact k⟩
  · rename_i hu; exact ⟨_, h, fun K k => by unfold lenV; simp only [hti, hu]; exact k⟩
  · rename_i hu; exact ⟨_, h, fun K k => by unfold lenV; simp only [hti, hu]; exact k⟩
  · rename_i hu; exact ⟨_, h, fun K k => by unfold lenV; simp only [hti, hu]; exact k⟩
  · rename_i hu; exact ⟨_, h, fun K k => by unfold lenV; simp only [hti, hu]; exact k⟩

theorem buildV.pt {t : Nat} {ps : List (Nat × List SV)} {K : AV → Prop} (h : buildV T t ps K) : ∃ r, K r ∧ Point (buildV T t ps) r := by
  unfold buildV at h
  split at h
  case h_2 => exact h.elim
  rename_i ti hti
  split at h
  case h_3 => exact h.elim
  · rename_i hu
    split at h
    case h_2 => exact h.elim
    rename_i cs hcs
    exact ⟨_, h, fun K k => by unfold buildV; simp only [hti, hu, hcs]; exact k⟩
  · rename_i n e hu
    split at h
    case h_2 => exact h.elim
    rename_i te hte
    split at h
    case h_2 => exact h.elim
    rename_i cs hcs
    exact ⟨_, h, fun K k => by unfold buildV; simp only [hti, hu, hte, hcs]; exact k⟩

theorem binI.pt {op : BinOp} {k : IntKind} {x y : Int} {K : AV → Prop} (h : binI op k g x y K) : ∃ r, K r ∧ Point (binI op k g x y) r := by
  unfold binI at h
  split at h <;> first
    | exact h.elim
    | exact ⟨_, h, fun K k => k⟩
    | exact ⟨_, h.2, fun K k => ⟨h.1, k⟩⟩
theorem binS.pt {op : BinOp} {x y : ByteArray} {K : AV → Prop} (h : binS op g x y K) : ∃ r, K r ∧ Point (binS op g x y) r := by
  unfold binS at h
  split at h <;> first
    | exact h.elim
    | exact ⟨_, h, fun K k => k⟩
    | exact ⟨_, h.2, fun K k => ⟨h.1, k⟩⟩
theorem bin.pt {op : BinOp} {t : Nat} {va vb : AV} {K : AV → Prop} (h : bin T op t g va vb K) : ∃ r, K r ∧ Point (bin T op t g va vb) r := by
  unfold bin at h
  split at h
  · rename_i k a k' b
    by_cases hk : k = k'
    · subst hk
      simp only [decide_true, cond_true] at h
      obtain ⟨r, h1, h2⟩ := binI.pt h
      exact ⟨r, h1, fun K k => by unfold bin; simp only [decide_true, cond_true]; exact h2 K k⟩
    · simp only [hk, decide_false, cond_false] at h
  · obtain ⟨r, h1, h2⟩ := binS.pt h
    exact ⟨r, h1, fun K k => h2 K k⟩
  · split at h
    case h_2 => exact h.elim
    rename_i i hi
    split at h
    case h_2 => exact h.elim
    rename_i e hu
    cases op <;> first
      | exact h.elim
      | exact ⟨_, h, fun K k => by unfold bin; simp only [hi, hu]; exact k⟩
  · rename_i xs ys
    split at h
    case h_2 => exact h.elim
    rename_i i hi
    cases hc : (i.ints && (kindOK i.zero xs && kindOK i.zero ys)) with
    | false => rw [hc] at h; exact h.elim
    | true =>
      rw [hc] at h
      simp only [cond_true] at h
      split at h
      case h_2 => exact h.elim
      rename_i b hb
      cases op <;> first
        | exact h.elim
        | exact ⟨_, h, fun K k => by unfold bin; simp only [hi, hc, cond_true, hb]; exact k⟩
  · split at h
    case h_2 => exact h.elim
    rename_i i hi
    split at h
    case h_2 => exact h.elim
    rename_i e hu
    cases op <;> first
      | exact h.elim
      | exact ⟨_, h, fun K k => by unfold bin; simp only [hi, hu]; exact k⟩
  · split at h
    case h_2 => exact h.elim
    rename_i i hi
    split at h
    case h_2 => exact h.elim
    rename_i e hu
    cases op <;> first
      | exact h.elim
      | exact ⟨_, h, fun K k => by unfold bin; simp only [hi, hu]; exact k⟩
  · rename_i n1 n2 n3 n4 n5
    split at h
    case h_2 => exact h.elim
    rename_i a b ha hb
    split at h
    case h_2 => exact h.elim
    rename_i i hi
    split at h
    case h_2 => exact h.elim
    rename_i hu
    cases op <;> first
      | exact h.elim
      | exact ⟨_, h, fun K k => by unfold bin; simp only [ha, hb, hi, hu]; exact k⟩

theorem optI.pt {α : Type} {x : Option Operand} {C : Option Int → (α → Prop) → Prop} {K : α → Prop} (h : optI g σ x fun r => C r K) (hC : ∀ r K, C r K → ∃ e, K e ∧ Point (C r) e) :
    ∃ e, K e ∧ Point (fun K => optI g σ x fun r => C r K) e := by
  cases x with
  | none => exact hC none K h
  | some x =>
    simp only [optI] at h ⊢
    refine fe.pt (C := fun va K => match va with | .s (.d (.val (.int _ n))) => C (some n) K | _ => False) h (fun va K h => ?_)
    split at h
    · exact hC _ K h
    · exact h.elim

theorem doCall.pt {f : FuncId} {args : List AV} {K : AV → Prop} (h : doCall P σ g f args K) : ∃ r, K r ∧ Point (doCall P σ g f args) r := by
  obtain ⟨r, h1, h2⟩ := h
  cases hb : (!flatA r && refAs args) with
  | true => rw [hb] at h2; exact h2.elim
  | false => rw [hb] at h2; exact ⟨r, h2, fun K k => ⟨r, h1, by rw [hb]; exact k⟩⟩
theorem doCallK.pt {f : FuncId} {args : List AV} {K : AV → Prop} (h : doCallK P σ g f args K) : ∃ r, K r ∧ Point (doCallK P σ g f args) r := by
  rcases h with h | ⟨r, h1, h2⟩
  · obtain ⟨r, h1, h2⟩ := doCall.pt h
    exact ⟨r, h1, fun K k => .inl (h2 K k)⟩
  · exact ⟨r, h2, fun K k => .inr ⟨r, h1, k⟩⟩
theorem callVK.pt {vf : AV} {args : List AV} {K : AV → Prop} (h : callVK P σ g vf args K) : ∃ r, K r ∧ Point (callVK P σ g vf args) r := by
  unfold callVK at h
  split at h
  case h_3 => exact h.elim
  · obtain ⟨r, h1, h2⟩ := doCallK.pt h; exact ⟨r, h1, fun K k => h2 K k⟩
  · obtain ⟨r, h1, h2⟩ := doCallK.pt h; exact ⟨r, h1, fun K k => h2 K k⟩

theorem sliceV.pt {t : Nat} {vx : AV} {lo hi : Option Operand} {K : AV → Prop} (h : sliceV T σ t g vx lo hi K) : ∃ r, K r ∧ Point (sliceV T σ t g vx lo hi) r := by
  unfold sliceV at h
  split at h
  case h_2 => exact h.elim
  rename_i ti hti
  split at h
  case h_3 => exact h.elim
  · rename_i e hu
    split at h
    case h_2 => exact h.elim
    rename_i te hte
    split at h
    case h_5 => exact h.elim
    case h_4 =>
      obtain ⟨r, h1, h2⟩ := optI.pt (C := fun l (K : AV → Prop) => optI g σ hi fun h => Go.Ax.imp g (l.getD 0 = 0 ∧ h.getD 0 = 0) ∧ K (.s (.d (.val (.slice none 0 0))))) h (fun l K h => by
        refine optI.pt (C := fun h (K : AV → Prop) => Go.Ax.imp g (l.getD 0 = 0 ∧ h.getD 0 = 0) ∧ K (.s (.d (.val (.slice none 0 0))))) h (fun hh K h => ⟨_, h.2, fun K k => ⟨h.1, k⟩⟩))
      refine ⟨r, h1, fun K k => ?_⟩
      unfold sliceV
      simp only [hti, hu, hte]
      exact h2 K k
    · rename_i n s f
      cases hs : Nat.beq s te.size with
      | false => rw [hs] at h; exact h.elim
      | true =>
        rw [hs] at h
        simp only [cond_true] at h
        obtain ⟨r, h1, h2⟩ := optI.pt (C := fun l (K : AV → Prop) => optI g σ hi fun h => Go.Ax.imp g (0 ≤ l.getD 0 ∧ l.getD 0 ≤ h.getD n ∧ h.getD n ≤ n) ∧
              (match (generalizing := false) l with
              | none => K (.s (.d (.slc (h.getD n).toNat s f)))
              | some l => K (.s (.d (.slc (h.getD n - l).toNat s fun i => f (l.toNat + i)))))) h (fun l K h => by
          refine optI.pt (C := fun h (K : AV → Prop) => Go.Ax.imp g (0 ≤ l.getD 0 ∧ l.getD 0 ≤ h.getD n ∧ h.getD n ≤ n) ∧
              (match (generalizing := false) l with
              | none => K (.s (.d (.slc (h.getD n).toNat s f)))
              | some l => K (.s (.d (.slc (h.getD n - l).toNat s fun i => f (l.toNat + i)))))) h (fun hh K h => ?_)
          cases l with
          | none => exact ⟨_, h.2, fun K k => ⟨h.1, k⟩⟩
          | some l => exact ⟨_, h.2, fun K k => ⟨h.1, k⟩⟩)
        refine ⟨r, h1, fun K k => ?_⟩
        unfold sliceV
        simp only [hti, hu, hte, hs, cond_true]
        exact h2 K k
    · rename_i x'
      split at h
      case h_2 => exact h.elim
      rename_i e' n s f hbx
      cases hs : Nat.beq s te.size with
      | false => rw [hs] at h; exact h.elim
      | true =>
        rw [hs] at h
        simp only [cond_true] at h
        obtain ⟨r, h1, h2⟩ := optI.pt (C := fun l (K : AV → Prop) => optI g σ hi fun h => Go.Ax.imp g (0 ≤ l.getD 0 ∧ l.getD 0 ≤ h.getD n ∧ h.getD n ≤ n) ∧ K (.s (.osl x' s (l.getD 0).toNat ((h.getD n).toNat - (l.getD 0).toNat)))) h (fun l K h => by
          refine optI.pt (C := fun h (K : AV → Prop) => Go.Ax.imp g (0 ≤ l.getD 0 ∧ l.getD 0 ≤ h.getD n ∧ h.getD n ≤ n) ∧ K (.s (.osl x' s (l.getD 0).toNat ((h.getD n).toNat - (l.getD 0).toNat)))) h (fun hh K h => ⟨_, h.2, fun K k => ⟨h.1, k⟩⟩))
        refine ⟨r, h1, fun K k => ?_⟩
        unfold sliceV
        simp only [hti, hu, hte, hbx, hs, cond_true]
        exact h2 K k
    · rename_i x' s lo0 n
      cases hs : Nat.beq s te.size with
      | false => rw [hs] at h; exact h.elim
      | true =>
        rw [hs] at h
        simp only [cond_true] at h
        obtain ⟨r, h1, h2⟩ := optI.pt (C := fun l (K : AV → Prop) => optI g σ hi fun h => Go.Ax.imp g (0 ≤ l.getD 0 ∧ l.getD 0 ≤ h.getD n ∧ h.getD n ≤ n) ∧ K (.s (.osl x' s (lo0 + (l.getD 0).toNat) ((h.getD n).toNat - (l.getD 0).toNat)))) h (fun l K h => by
          refine optI.pt (C := fun h (K : AV → Prop) => Go.Ax.imp g (0 ≤ l.getD 0 ∧ l.getD 0 ≤ h.getD n ∧ h.getD n ≤ n) ∧ K (.s (.osl x' s (lo0 + (l.getD 0).toNat) ((h.getD n).toNat - (l.getD 0).toNat)))) h (fun hh K h => ⟨_, h.2, fun K k => ⟨h.1, k⟩⟩))
        refine ⟨r, h1, fun K k => ?_⟩
        unfold sliceV
        simp only [hti, hu, hte, hs, cond_true]
        exact h2 K k
  · rename_i hu
    split at h
    case h_2 => exact h.elim
    rename_i s
    obtain ⟨r, h1, h2⟩ := optI.pt (C := fun l (K : AV → Prop) => optI g σ hi fun h => Go.Ax.imp g (0 ≤ l.getD 0 ∧ l.getD 0 ≤ h.getD s.size ∧ h.getD s.size ≤ s.size) ∧
            K (.s (.d (.val (.string (s.extract (l.getD 0).toNat (h.getD s.size).toNat)))))) h (fun l K h => by
      refine optI.pt (C := fun h (K : AV → Prop) => Go.Ax.imp g (0 ≤ l.getD 0 ∧ l.getD 0 ≤ h.getD s.size ∧ h.getD s.size ≤ s.size) ∧
            K (.s (.d (.val (.string (s.extract (l.getD 0).toNat (h.getD s.size).toNat)))))) h (fun hh K h => ⟨_, h.2, fun K k => ⟨h.1, k⟩⟩))
    refine ⟨r, h1, fun K k => ?_⟩
    unfold sliceV
    simp only [hti, hu]
    exact h2 K k

theorem capV.pt {t : Nat} {va : AV} {K : AV → Prop} (h : capV T t va K) : ∃ r, K r ∧ Point (capV T t va) r := by
  unfold capV at h
  split at h
  case h_2 => exact h.elim
  rename_i ti hti
  split at h
  case h_2 => exact h.elim
  rename_i e b n c hu
  exact ⟨_, h, fun K k => by unfold capV; simp only [hti, hu]; exact k⟩
theorem lookV.pt {t : Nat} {ok : Bool} {va vb : AV} {K : AV → Prop} (h : lookV T σ t ok g va vb K) : ∃ r, K r ∧ Point (lookV T σ t ok g va vb) r := by
  unfold lookV at h
  split at h
  case h_2 => exact h.elim
  rename_i b k
  split at h
  case h_2 => exact h.elim
  rename_i vk l hb
  split at h
  case h_2 => exact h.elim
  rename_i ti hti
  split at h
  case h_2 => exact h.elim
  rename_i kt et hu
  cases hk : (isK T kt && (getT T et).isSome) with
  | false => rw [hk] at h; exact h.elim
  | true =>
    rw [hk] at h
    cases ok with
    | true => exact ⟨_, h, fun K k => by unfold lookV; simp only [hb, hti, hu, hk, cond_true]; exact k⟩
    | false => exact ⟨_, h.2, fun K k => by unfold lookV; simp only [hb, hti, hu, hk, cond_true]; exact ⟨h.1, k⟩⟩
theorem opV.pt {op : Op} {K : AV → Prop} (h : opV P T op σ g K) : ∃ r, K r ∧ Point (opV P T op σ g) r := by
  cases op with
  | move x => exact fe.point h
  | assign x => exact fe.point h
  | pick c x y => exact fe.pt (C := fun vc K => pickV g vc (ev σ x) (ev σ y) K) h (fun _ _ h => pickV.pt h)
  | load t x =>
    refine fe.pt (C := fun va K => match getT T t with | some ti => loadV σ ti.agg ti.size g va K | none => False) h (fun va K h => ?_)
    split at h
    · exact loadV.pt h
    · exact h.elim
  | fieldAddr s x f => exact fe.pt (C := fun va K => fieldV T s f va K) h (fun _ _ h => fieldV.pt h)
  | binOp op t x y ty => exact fe.pt (C := fun va K => fe g (ev σ y) fun vb => bin T op t g va vb K) h (fun va K h => fe.pt (C := fun vb K => bin T op t g va vb K) h (fun _ _ h => bin.pt h))
  | unOp op t x => exact fe.pt (C := fun va K => unV op va K) h (fun _ _ h => unV.pt h)
  | convert src dst x => exact fe.pt (C := fun va K => convV T src dst va K) h (fun _ _ h => convV.pt h)
  | nilCheck x => exact fe.pt (C := fun va K => nilV va K) h (fun _ _ h => nilV.pt h)
  | extract x k => exact extV.pt h
  | indexAddr t x y => exact fe.pt (C := fun va K => fe g (ev σ y) fun vb => idxV T σ t g va vb K) h (fun va K h => fe.pt (C := fun vb K => idxV T σ t g va vb K) h (fun _ _ h => idxV.pt h))
  | index t x y => exact fe.pt (C := fun va K => fe g (ev σ y) fun vb => strV T t g va vb K) h (fun va K h => fe.pt (C := fun vb K => strV T t g va vb K) h (fun _ _ h => strV.pt h))
  | lookup t x y ok => exact fe.pt (C := fun va K => fe g (ev σ y) fun vb => lookV T σ t ok g va vb K) h (fun va K h => fe.pt (C := fun vb K => lookV T σ t ok g va vb K) h (fun _ _ h => lookV.pt h))
  | slice t x lo hi mx =>
    cases mx with
    | some m => exact h.elim
    | none => exact fe.pt (C := fun va K => sliceV T σ t g va lo hi K) h (fun _ _ h => sliceV.pt h)
  | build t pa => exact parts.pt (C := fun ps K => buildV T t ps K) h (fun _ _ h => buildV.pt h)
  | makeFunc fn fs caps =>
    cases fn with
    | func f =>
      simp only [opV] at h
      split at h
      case h_2 => exact h.elim
      rename_i hfs
      split at h
      case h_2 => exact h.elim
      rename_i cs hcs
      exact ⟨_, h, fun K k => by simp only [opV, hfs, hcs]; exact k⟩
    | _ => exact h.elim
  | call c =>
    obtain ⟨callee, args, tys⟩ := c
    cases callee with
    | value fo => exact fe.pt (C := fun vf K => fetch g σ args.toList fun ars => callVK P σ g vf ars K) h (fun vf K h => fetch.pt (C := fun ars K => callVK P σ g vf ars K) h (fun _ _ h => callVK.pt h))
    | invoke r m => exact h.elim
    | builtin b =>
      cases b with
      | len =>
        simp only [opV] at h
        split at h
        case h_2 => exact h.elim
        rename_i x t hx ht
        obtain ⟨r, h1, h2⟩ := fe.pt (C := fun va K => lenV T σ t va K) h (fun _ _ h => lenV.pt h)
        exact ⟨r, h1, fun K k => by simp only [opV, hx, ht]; exact h2 K k⟩
      | cap =>
        simp only [opV] at h
        split at h
        case h_2 => exact h.elim
        rename_i x t hx ht
        obtain ⟨r, h1, h2⟩ := fe.pt (C := fun va K => capV T t va K) h (fun _ _ h => capV.pt h)
        exact ⟨r, h1, fun K k => by simp only [opV, hx, ht]; exact h2 K k⟩
      | max =>
        refine ints.pt (C := fun l K => match l with | (k, n) :: r => K (mmL true k n r) | [] => False) h (fun l K h => ?_)
        split at h
        · exact ⟨_, h, fun K k => k⟩
        · exact h.elim
      | min =>
        refine ints.pt (C := fun l K => match l with | (k, n) :: r => K (mmL false k n r) | [] => False) h (fun l K h => ?_)
        split at h
        · exact ⟨_, h, fun K k => k⟩
        · exact h.elim
      | _ => exact h.elim
  | _ => exact h.elim

end
end Go.Ax

/- One operation of a region that draws its order. -/
namespace Go.Ax
open Go.RowKit

/-- What an operation changes: its temporary, some boxes. -/
abbrev Ef := Option AV × Boxes
/-- The new boxes ahead of the old ones. -/
def appB : Boxes → Boxes → Boxes
  | [], s => s
  | [p], s => p :: s
  | [p, q], s => p :: q :: s
  | l, s => l ++ s
theorem appB_eq {u s : Boxes} : appB u s = u ++ s := by
  unfold appB
  split <;> rfl
/-- One box has been laid, two boxes have been laid. -/
def K1 (K : AV → Boxes → Prop) (v : AV) (bx : Boxes) : Prop :=
  match bx with
  | p :: _ => K v [p]
  | [] => False
def K2 (K : AV → Boxes → Prop) (v : AV) (bx : Boxes) : Prop :=
  match bx with
  | p :: q :: _ => K v [p, q]
  | _ => False

def opD (T : List (Nat × TyI)) (d : Nat) (op : Op) (σ : St) (K : AV → Boxes → Prop) : Prop :=
  match op with
  | .alloc t => allocX T σ d t (K1 K)
  | .box _ x => boxX σ d x (K1 K)
  | .store t x y => storeX T σ t x y (K1 K)
  | .buildSlice t len pa => bslX T σ d t len pa.toList (K1 K)
  | .call c => match c.callee with
    | .builtin .copy => match c.args.toList, c.argTypes.toList with
      | [x, y], [t, _] => copyX T σ t x y (K1 K)
      | _, _ => False
    | .builtin .append => match c.args.toList, c.argTypes.toList with
      | [x, y], [t, t'] => bif Nat.beq t t' then (match ev σ x with
        | .s (.own _) => appX T σ [] d t x y (K2 K)
        | .s (.mo _ _) => appX T σ [] d t x y (K2 K)
        | .s (.d _) => appX T σ [] d t x y (K1 K)
        | _ => False) else False
      | _, _ => False
    | _ => False
  | _ => False

section
variable {P : Program} {T : List (Nat × TyI)} {N : Nat} {ref rc : List Nat} {σ σ' : St} {d : Nat}

theorem alloc.pt {t : Nat} {C : AV → Boxes → Prop} (h : allocX T σ d t C) : ∃ r b, C r ((d, some b) :: σ.box) ∧ ∀ σ', getB σ'.box d = getB σ.box d → ∀ C' : AV → Boxes → Prop, C' r ((d, some b) :: σ'.box) → allocX T σ' d t C' := by
  unfold allocX at h
  split at h
  case h_2 => exact h.elim
  rename_i ti hti
  split at h
  case h_2 => exact h.elim
  rename_i hd
  exact ⟨_, _, h, fun σ' e C' k => by unfold allocX; simp only [hti, e, hd]; exact k⟩

theorem boxX.pt {x : Operand} {C : AV → Boxes → Prop} (h : boxX σ d x C) : ∃ r b, C r ((d, some b) :: σ.box) ∧ ∀ σ', getB σ'.box d = getB σ.box d → ev σ' x = ev σ x → ∀ C' : AV → Boxes → Prop, C' r ((d, some b) :: σ'.box) → boxX σ' d x C' := by
  unfold boxX at h
  replace h := fe.point h
  obtain ⟨va, h, hp⟩ := h
  split at h
  case h_2 => exact h.elim
  rename_i cs hcs
  cases hone : allOne cs with
  | false => rw [hone] at h; exact h.elim
  | true =>
    rw [hone] at h
    simp only [cond_true] at h
    split at h
    case h_2 => exact h.elim
    rename_i hd
    refine ⟨_, _, h, fun σ' e ex C' k => ?_⟩
    unfold boxX
    rw [ex]
    refine hp _ ?_
    simp only [hcs, hone, cond_true, e, hd]
    exact k

theorem storeX.pt {t : Nat} {x y : Operand} {C : AV → Boxes → Prop} (h : storeX T σ t x y C) : ∃ r n b, C r ((n, some b) :: σ.box) ∧ ∀ σ', getB σ'.box n = getB σ.box n → ev σ' x = ev σ x → ev σ' y = ev σ y → ∀ C' : AV → Boxes → Prop, C' r ((n, some b) :: σ'.box) → storeX T σ' t x y C' := by
  unfold storeX at h
  replace h := fe.point h
  obtain ⟨va, h, hp⟩ := h
  replace h := fe.point h
  obtain ⟨vv, h, hp2⟩ := h
  split at h
  case h_2 => exact h.elim
  rename_i ti cs hti hcs
  cases hone : (allOne cs && Nat.beq cs.length ti.size) with
  | false => rw [hone] at h; exact h.elim
  | true =>
    rw [hone] at h
    simp only [cond_true] at h
    split at h
    case h_3 => exact h.elim
    · rename_i b off
      split at h
      case h_2 => exact h.elim
      rename_i old hb
      cases hle : Nat.ble (off + ti.size) old.length with
      | false => rw [hle] at h; exact h.elim
      | true =>
        rw [hle] at h
        refine ⟨_, _, _, h, fun σ' e ex ey C' k => ?_⟩
        unfold storeX
        rw [ex, ey]
        refine hp _ (hp2 _ ?_)
        simp only [hti, hcs, hone, cond_true, e, hb, hle]
        exact k
    · rename_i b ix s off
      split at h
      case h_3 => exact h.elim
      · rename_i e n s' f hb
        cases hc : (allD cs && Nat.beq s s' && Nat.ble (off + ti.size) s) with
        | false => rw [hc] at h; exact h.elim
        | true =>
          rw [hc] at h
          refine ⟨_, _, _, h.2, fun σ' e ex ey C' k => ?_⟩
          unfold storeX
          rw [ex, ey]
          refine hp _ (hp2 _ ?_)
          simp only [hti, hcs, hone, cond_true, e, hb, hc]
          exact ⟨h.1, k⟩
      · rename_i e n s' f hb
        cases hc : (allD cs && Nat.beq s s' && Nat.ble (off + ti.size) s) with
        | false => rw [hc] at h; exact h.elim
        | true =>
          rw [hc] at h
          refine ⟨_, _, _, h.2, fun σ' e ex ey C' k => ?_⟩
          unfold storeX
          rw [ex, ey]
          refine hp _ (hp2 _ ?_)
          simp only [hti, hcs, hone, cond_true, e, hb, hc]
          exact ⟨h.1, k⟩

theorem parts.point {g : Option Bool} {l : List (Nat × Operand)} {K : List (Nat × List SV) → Prop} (h : parts g σ l K) : ∃ ps, K ps ∧ Point (parts g σ l) ps := by
  obtain ⟨r, h1, h2⟩ := parts.pt (α := List (Nat × List SV)) (C := fun ps K => K ps) h (fun ps K h => ⟨ps, h, fun _ k => k⟩)
  exact ⟨r, h1, h2⟩

theorem bslX.pt {t len : Nat} {pa : List (Nat × Operand)} {C : AV → Boxes → Prop} (h : bslX T σ d t len pa C) : ∃ r b, C r ((d, some b) :: σ.box) ∧ ∀ σ', getB σ'.box d = getB σ.box d → AgE (pa.map (·.2)) σ σ' → ∀ C' : AV → Boxes → Prop, C' r ((d, some b) :: σ'.box) → bslX T σ' d t len pa C' := by
  unfold bslX at h
  replace h := parts.point h
  obtain ⟨ps, h, hp⟩ := h
  split at h
  case h_2 => exact h.elim
  rename_i ti hti
  split at h
  case h_2 => exact h.elim
  rename_i e hu
  split at h
  case h_2 => exact h.elim
  rename_i te hte
  split at h
  case h_2 => exact h.elim
  rename_i cs hcs
  cases hc : (allD cs && Nat.ble (len * te.size) 16777216 && Nat.blt 0 te.size && Nat.beq te.zero.length te.size) with
  | false => rw [hc] at h; exact h.elim
  | true =>
    rw [hc] at h
    simp only [cond_true] at h
    split at h
    case h_2 => exact h.elim
    rename_i hd
    refine ⟨_, _, h, fun σ' e hE C' k => ?_⟩
    unfold bslX
    refine parts.congr hE (hp _ ?_)
    simp only [hti, hu, hte, hcs, hc, cond_true, e, hd]
    exact k

theorem srcX.congr {va : AV} (h : AgB (reachA σ va) σ σ') : srcX σ' va = srcX σ va := by
  have key : ∀ y, y ∈ reachA σ va → getB σ'.box y = getB σ.box y := fun y hy => h y hy
  unfold srcX
  split
  · rw [key _ (by simp [reachA, reach])]
  · rfl
  · rw [key _ (by simp [reachA, reach])]
  · rfl
theorem copyX.pt {t : Nat} {x y : Operand} {C : AV → Boxes → Prop} (h : copyX T σ t x y C) : ∃ r n b, C r ((n, some b) :: σ.box) ∧ ∀ σ', getB σ'.box n = getB σ.box n → ev σ' x = ev σ x → ev σ' y = ev σ y → AgB (reachA σ (ev σ y)) σ σ' → ∀ C' : AV → Boxes → Prop, C' r ((n, some b) :: σ'.box) → copyX T σ' t x y C' := by
  unfold copyX at h
  replace h := fe.point h
  obtain ⟨vx, h, hp⟩ := h
  replace h := fe.point (fe.imp (K' := fun r => Strip (ev σ y) r ∧ _) (fun r hs k => ⟨hs, k⟩) h)
  obtain ⟨vy, ⟨hst, h⟩, hp2⟩ := h
  split at h
  case h_2 => exact h.elim
  rename_i ti hti
  split at h
  case h_2 => exact h.elim
  rename_i e hu
  split at h
  case h_2 => exact h.elim
  rename_i te hte
  split at h
  case h_2 => exact h.elim
  rename_i k s' g hsrc
  split at h
  case h_2 => exact h.elim
  rename_i b lo m hdst
  split at h
  case h_2 => exact h.elim
  rename_i e' n s f hb
  cases hc : (Nat.beq te.size 1 && Nat.beq s 1 && Nat.beq s' 1) with
  | false => rw [hc] at h; exact h.elim
  | true =>
    rw [hc] at h
    refine ⟨_, _, _, h.2, fun σ' e ex ey hr C' kk => ?_⟩
    unfold copyX
    rw [ex, ey]
    refine hp _ (hp2 _ ?_)
    rw [← hst.reach σ] at hr
    simp only [hti, hu, hte, srcX.congr hr, hsrc, hdst, e, hb, hc, cond_true]
    exact ⟨h.1, kk⟩

theorem appX.pt {t : Nat} {x y : Operand} {C : AV → Boxes → Prop} (h : appX T σ [] d t x y C) : ∃ r u z, C r (u ++ σ.box) ∧ Strip (ev σ x) (.s z) ∧ (match z with | .d _ => ∃ p, u = [p] | _ => ∃ p q, u = [p, q]) ∧ ∀ σ', (∀ n, n ∈ u.map (·.1) → getB σ'.box n = getB σ.box n) → ev σ' x = ev σ x → ev σ' y = ev σ y → AgB (reachA σ (ev σ y)) σ σ' → ∀ C' : AV → Boxes → Prop, C' r (u ++ σ'.box) → appX T σ' [] d t x y C' := by
  unfold appX at h
  replace h := fe.point (fe.imp (K' := fun r => Strip (ev σ x) r ∧ _) (fun r hs k => ⟨hs, k⟩) h)
  obtain ⟨vx, ⟨hsx, h⟩, hp⟩ := h
  replace h := fe.point (fe.imp (K' := fun r => Strip (ev σ y) r ∧ _) (fun r hs k => ⟨hs, k⟩) h)
  obtain ⟨vy, ⟨hst, h⟩, hp2⟩ := h
  split at h
  case h_2 => exact h.elim
  rename_i ti hti
  split at h
  case h_2 => exact h.elim
  rename_i e hu
  split at h
  case h_2 => exact h.elim
  rename_i te hte
  split at h
  case h_2 => exact h.elim
  rename_i hd
  split at h
  case h_2 => exact h.elim
  rename_i m s' g hsrc
  cases hc : (Nat.beq s' te.size && Nat.blt 0 te.size && Nat.blt 0 te.bytes && Nat.beq te.zero.length te.size) with
  | false => rw [hc] at h; exact h.elim
  | true =>
    rw [hc] at h
    simp only [cond_true] at h
    split at h
    · rename_i b
      split at h
      case h_2 => exact h.elim
      rename_i e' n s f hb
      cases hc2 : (Nat.beq e' e && Nat.beq s te.size) with
      | false => rw [hc2] at h; exact h.elim
      | true =>
        rw [hc2] at h
        simp only [cond_true] at h
        refine ⟨_, [(d, some (.row e (n + m) te.size (catF n f g))), (b, none)], _, h.2.2, hsx, ⟨_, _, rfl⟩, fun σ' eb ex ey hr C' kk => ?_⟩
        have e1 : getB σ'.box d = none := by rw [eb d (by simp)]; exact hd
        have e2 : getB σ'.box b = some (some (.row e' n s f)) := by rw [eb b (by simp)]; exact hb
        unfold appX
        rw [ex, ey]
        refine hp _ (hp2 _ ?_)
        rw [← hst.reach σ] at hr
        simp only [hti, hu, hte, e1, srcX.congr hr, hsrc, hc, cond_true, e2, hc2]
        exact ⟨h.1, h.2.1, kk⟩
    · rename_i z b
      split at h
      case h_2 => exact h.elim
      rename_i e' n s f hb
      cases hc2 : (Nat.beq e' e && Nat.beq s te.size) with
      | false => rw [hc2] at h; exact h.elim
      | true =>
        rw [hc2] at h
        simp only [cond_true] at h
        refine ⟨_, [(d, some (.row e ((bif z then 0 else n) + m) te.size (catF (bif z then 0 else n) f g))), (b, none)], _, h.2.2.2, hsx, ⟨_, _, rfl⟩, fun σ' eb ex ey hr C' kk => ?_⟩
        have e1 : getB σ'.box d = none := by rw [eb d (by simp)]; exact hd
        have e2 : getB σ'.box b = some (some (.mrow e' n s f)) := by rw [eb b (by simp)]; exact hb
        unfold appX
        rw [ex, ey]
        refine hp _ (hp2 _ ?_)
        rw [← hst.reach σ] at hr
        simp only [hti, hu, hte, e1, srcX.congr hr, hsrc, hc, cond_true, e2, hc2]
        exact ⟨h.1, h.2.1, h.2.2.1, kk⟩
    · refine ⟨_, [(d, some (.row e m te.size g))], _, h.2.2, hsx, ⟨_, rfl⟩, fun σ' eb ex ey hr C' kk => ?_⟩
      have e1 : getB σ'.box d = none := by rw [eb d (by simp)]; exact hd
      unfold appX
      rw [ex, ey]
      refine hp _ (hp2 _ ?_)
      rw [← hst.reach σ] at hr
      simp only [hti, hu, hte, e1, srcX.congr hr, hsrc, hc, cond_true]
      exact ⟨h.1, h.2.1, kk⟩
    · exact h.elim

/-- The operands of an operation, and their order. -/
theorem opD.pt {op : Op} {K : AV → Boxes → Prop} (h : opD T d op σ K) :
    ∃ r u, K r u ∧ (∀ σ', (∀ n, n ∈ u.map (·.1) → getB σ'.box n = getB σ.box n) → AgE op.operands.toList σ σ' → AgB (rdOp σ op) σ σ' → ∀ K' : AV → Boxes → Prop, K' r u → opD T d op σ' K') ∧
      ∀ ref, opX T ref d op σ fun v bx => v = r ∧ bx = u ++ σ.box := by
  cases op with
  | alloc t =>
    simp only [opD] at h
    obtain ⟨r, b, h1, h2⟩ := alloc.pt h
    refine ⟨r, [(d, some b)], h1, fun σ' e _ _ K' k => ?_, fun _ => ?_⟩
    · simp only [opD]; exact h2 σ' (e d (by simp)) _ k
    · simp only [opX]; exact h2 σ rfl _ ⟨rfl, rfl⟩
  | box t x =>
    simp only [opD] at h
    obtain ⟨r, b, h1, h2⟩ := boxX.pt h
    refine ⟨r, [(d, some b)], h1, fun σ' e he _ K' k => ?_, fun _ => ?_⟩
    · simp only [opD]; exact h2 σ' (e d (by simp)) (he x (by simp [Op.operands])) _ k
    · simp only [opX]; exact h2 σ rfl rfl _ ⟨rfl, rfl⟩
  | store t x y =>
    simp only [opD] at h
    obtain ⟨r, n, b, h1, h2⟩ := storeX.pt h
    refine ⟨r, [(n, some b)], h1, fun σ' e he _ K' k => ?_, fun _ => ?_⟩
    · simp only [opD]; exact h2 σ' (e n (by simp)) (he x (by simp [Op.operands])) (he y (by simp [Op.operands])) _ k
    · simp only [opX]; exact h2 σ rfl rfl rfl _ ⟨rfl, rfl⟩
  | buildSlice t len pa =>
    simp only [opD] at h
    obtain ⟨r, b, h1, h2⟩ := bslX.pt h
    refine ⟨r, [(d, some b)], h1, fun σ' e he _ K' k => ?_, fun _ => ?_⟩
    · simp only [opD]; exact h2 σ' (e d (by simp)) (fun y hy => he y (by simpa [Op.operands] using hy)) _ k
    · simp only [opX]; exact h2 σ rfl (fun _ _ => rfl) _ ⟨rfl, rfl⟩
  | call c =>
    obtain ⟨callee, args, tys⟩ := c
    simp only [opD] at h
    split at h
    · split at h
      case h_2 => exact h.elim
      rename_i x y t t' hx ht
      obtain ⟨r, n, b, h1, h2⟩ := copyX.pt h
      have e1 : args = #[x, y] := by apply Array.ext'; simpa using hx
      have e2 : tys = #[t, t'] := by apply Array.ext'; simpa using ht
      subst e1; subst e2
      refine ⟨r, [(n, some b)], h1, fun σ' e he hr K' k => ?_, fun _ => ?_⟩
      · simp only [opD]
        exact h2 σ' (e n (by simp)) (he x (by simp [Op.operands, Call.operands])) (he y (by simp [Op.operands, Call.operands])) (hr.mono fun m hm => by
          simp only [rdOp]; exact mem_catL (j := 1) (c := y) (by simp [Op.operands, Call.operands]) hm) _ k
      · simp only [opX]; exact h2 σ rfl rfl rfl (fun _ _ => rfl) _ ⟨rfl, rfl⟩
    · split at h
      case h_2 => exact h.elim
      rename_i x y t t' hx ht
      cases htt : Nat.beq t t' with
      | false => rw [htt] at h; exact h.elim
      | true =>
        rw [htt] at h
        simp only [cond_true] at h
        have e1 : args = #[x, y] := by apply Array.ext'; simpa using hx
        have e2 : tys = #[t, t'] := by apply Array.ext'; simpa using ht
        subst e1; subst e2
        have two : ∀ {z : SV}, ev σ x = .s z → (∀ q, z ≠ .d q) → (∀ i j k l, z ≠ .osl i j k l) → (∀ σ' (K' : AV → Boxes → Prop), ev σ' x = .s z → appX T σ' [] d t x y (K2 K') → opD T d (.call ⟨.builtin .append, #[x, y], #[t, t']⟩) σ' K') → appX T σ [] d t x y (K2 K) → ∃ r u, K r u ∧ (∀ σ', (∀ n, n ∈ u.map (·.1) → getB σ'.box n = getB σ.box n) → AgE (Op.operands (.call ⟨.builtin .append, #[x, y], #[t, t']⟩)).toList σ σ' → AgB (rdOp σ (.call ⟨.builtin .append, #[x, y], #[t, t']⟩)) σ σ' → ∀ K' : AV → Boxes → Prop, K' r u → opD T d (.call ⟨.builtin .append, #[x, y], #[t, t']⟩) σ' K') ∧
            ∀ ref, opX T ref d (.call ⟨.builtin .append, #[x, y], #[t, t']⟩) σ fun v bx => v = r ∧ bx = u ++ σ.box := by
          intro z hz hnd hno hop h
          obtain ⟨r, u, z', h1, hst, hu, h2⟩ := appX.pt h
          rw [hz] at hst
          have hzz : z' = z := by
            rcases hst with e | ⟨_, _, e, _⟩ | ⟨_, _, e, _⟩
            · cases e; rfl
            · cases e
            · cases e
          subst hzz
          have hu : ∃ p q, u = [p, q] := by
            split at hu
            · rename_i q; exact absurd rfl (hnd q)
            · exact hu
          obtain ⟨p, q, rfl⟩ := hu
          refine ⟨r, [p, q], h1, fun σ' e he hr K' k => ?_, fun ref => ?_⟩
          · have ex := he x (by simp [Op.operands, Call.operands])
            refine hop σ' K' (ex.trans hz) ?_
            exact h2 σ' e ex (he y (by simp [Op.operands, Call.operands])) (hr.mono fun m hm => by
              simp only [rdOp]; exact mem_catL (j := 1) (c := y) (by simp [Op.operands, Call.operands]) hm) _ k
          · have := h2 σ (fun _ _ => rfl) rfl rfl (fun _ _ => rfl) (fun v bx => v = r ∧ bx = [p, q] ++ σ.box) ⟨rfl, rfl⟩
            simp only [opX, htt, cond_true, hz]
            split
            · rename_i e; cases e; exact absurd rfl (hno _ _ _ _)
            · exact this
        split at h
        · rename_i b hv
          exact two hv (fun q e => nomatch e) (fun i j k l e => nomatch e) (fun σ' K' e h => by simp only [opD, htt, cond_true, e]; exact h) h
        · rename_i b c hv
          exact two hv (fun q e => nomatch e) (fun i j k l e => nomatch e) (fun σ' K' e h => by simp only [opD, htt, cond_true, e]; exact h) h
        · rename_i q hv
          obtain ⟨r, u, z', h1, hst, hu, h2⟩ := appX.pt h
          rw [hv] at hst
          have hzz : z' = .d q := by
            rcases hst with e | ⟨_, _, e, _⟩ | ⟨_, _, e, _⟩
            · cases e; rfl
            · cases e
            · cases e
          subst hzz
          obtain ⟨p, rfl⟩ := hu
          refine ⟨r, [p], h1, fun σ' e he hr K' k => ?_, fun ref => ?_⟩
          · have ex := he x (by simp [Op.operands, Call.operands])
            have := h2 σ' e ex (he y (by simp [Op.operands, Call.operands])) (hr.mono fun m hm => by
              simp only [rdOp]; exact mem_catL (j := 1) (c := y) (by simp [Op.operands, Call.operands]) hm) (K1 K') k
            simp only [opD, htt, cond_true, ex, hv]
            exact this
          · have := h2 σ (fun _ _ => rfl) rfl rfl (fun _ _ => rfl) (fun v bx => v = r ∧ bx = [p] ++ σ.box) ⟨rfl, rfl⟩
            simp only [opX, htt, cond_true, hv]
            exact this
        · exact h.elim
    · exact h.elim
  | _ => exact h.elim

/-- The boxes that live. -/
def liveB (box : Boxes) (x : Nat) : Option Box := match getB box x with
  | some (some b) => some b
  | _ => none
theorem liveB_some {box : Boxes} {x : Nat} {b : Box} : liveB box x = some b ↔ getB box x = some (some b) := by
  unfold liveB
  split
  · rename_i c h; rw [h]; simp
  · rename_i h
    constructor
    · intro h2; cases h2
    · intro h2; exact absurd h2 (h b)
theorem liveB_or {u v : Boxes} {x : Nat} (h : liveB u x = liveB v x) : getB u x = getB v x ∨ ((∀ b, getB u x ≠ some (some b)) ∧ ∀ b, getB v x ≠ some (some b)) := by
  cases hu : liveB u x with
  | some b =>
    rw [hu] at h
    exact .inl ((liveB_some.1 hu).trans (liveB_some.1 h.symm).symm)
  | none =>
    rw [hu] at h
    refine .inr ⟨fun b hb => ?_, fun b hb => ?_⟩
    · rw [liveB_some.2 hb] at hu; cases hu
    · rw [liveB_some.2 hb] at h; cases h
theorem dS_live {σ σ' : St} (h : ∀ x, liveB σ.box x = liveB σ'.box x) : ∀ (n : Nat) (x : SV), dS n σ x = dS n σ' x := by
  have own : ∀ n x, dS n σ (.own x) = dS n σ' (.own x) := by
    intro n x
    cases n <;>
    · simp only [dS]
      rcases liveB_or (h x) with e | ⟨e1, e2⟩
      · rw [e]
      · split
        · rename_i hb; exact absurd hb (e1 _)
        · split
          · rename_i hb; exact absurd hb (e2 _)
          · rfl
  have mo : ∀ n z x, dS n σ (.mo z x) = dS n σ' (.mo z x) := by
    intro n z x
    cases n <;>
    · simp only [dS]
      rcases liveB_or (h x) with e | ⟨e1, e2⟩
      · rw [e]
      · split
        · rename_i hb; exact absurd hb (e1 _)
        · split
          · rename_i hb; exact absurd hb (e2 _)
          · rfl
  have osl : ∀ n x s lo m, dS n σ (.osl x s lo m) = dS n σ' (.osl x s lo m) := by
    intro n x s lo m
    cases n <;>
    · simp only [dS]
      rcases liveB_or (h x) with e | ⟨e1, e2⟩
      · rw [e]
      · split
        · rename_i hb; exact absurd hb (e1 _)
        · split
          · rename_i hb; exact absurd hb (e2 _)
          · rfl
  intro n
  induction n with
  | zero =>
    intro x
    cases x with
    | own x => exact own _ _
    | mo z x => exact mo _ _ _
    | osl x s lo m => exact osl _ _ _ _ _
    | _ => rfl
  | succ n ih =>
    intro x
    cases x with
    | own x => exact own _ _
    | mo z x => exact mo _ _ _
    | osl x s lo m => exact osl _ _ _ _ _
    | ptr x off =>
      simp only [dS]
      rcases liveB_or (h x) with e | ⟨e1, e2⟩
      · rw [e]
        split
        · rename_i cs hb
          congr 1
          funext j
          split
          · exact ih _
          · rfl
        · rfl
      · split
        · rename_i hb; exact absurd hb (e1 _)
        · split
          · rename_i hb; exact absurd hb (e2 _)
          · rfl
    | clo f cs =>
      simp only [dS]
      congr 1
      funext i
      split
      · rfl
      · exact ih _
      · rfl
    | _ => rfl
theorem convAs_live {σ σ' : St} (h : ∀ x, liveB σ.box x = liveB σ'.box x) (l : List AV) : convAs σ l = convAs σ' l := by
  have hs : ∀ cs : List SV, convSs σ cs = convSs σ' cs := by
    intro cs
    induction cs with
    | nil => rfl
    | cons c r ih => simp only [convSs, convS, ih, dS_live h]
  induction l with
  | nil => rfl
  | cons v r ih =>
    simp only [convAs, ih]
    congr 1
    cases v with
    | s x => simp only [convA, convS, dS_live h]
    | g cs => simp only [convA, hs]
    | _ => rfl
theorem keepO_live {zs : List Nat} {x : Nat} : ∀ {box : Boxes}, liveB (keepO zs box) x = bif zs.contains x then liveB box x else none
  | [] => by cases zs.contains x <;> rfl
  | (k, b) :: r => by
    have ih := keepO_live (zs := zs) (x := x) (box := r)
    unfold liveB at *
    rw [keepO, getB_cons, getB_cons]
    by_cases e : k = x
    · subst e
      rw [if_pos rfl, if_pos rfl]
      cases zs.contains k <;> rfl
    · rw [if_neg e, if_neg e]; exact ih
theorem killO_none {zs : List Nat} {x : Nat} : ∀ {box : Boxes}, getB (killO zs box) x = match getB box x with
    | none => none
    | some b => some (bif zs.contains x then none else b)
  | [] => rfl
  | (k, b) :: r => by
    rw [killO, getB_cons, getB_cons]
    by_cases e : k = x
    · subst e
      rw [if_pos rfl, if_pos rfl]
    · rw [if_neg e, if_neg e]; exact killO_none
def deadL (zs : List Nat) : Boxes := zs.map fun z => (z, none)
theorem deadL_get {zs : List Nat} {x : Nat} : getB (deadL zs) x = bif zs.contains x then some none else none := by
  induction zs with
  | nil => rfl
  | cons z r ih =>
    show getB ((z, none) :: deadL r) x = _
    rw [getB_cons]
    by_cases e : z = x
    · subst e; rw [if_pos rfl]; simp
    · rw [if_neg e, ih]
      have : (z :: r).contains x = r.contains x := by
        simp only [List.contains_cons]
        rw [show (x == z) = false by simpa using fun h => e h.symm]
        rfl
      rw [this]

/-- A call that makes a box, or one that takes over boxes ars data, in a region that draws its order; asked for by the function's number and a million, or two. -/
def isRD (rc : List Nat) (σ : St) (op : Op) : Option (Operand × List Operand) :=
  match op with
  | .call { callee := .value fo, args, .. } => match ev σ fo with
    | .s (.clo f _) => bif rc.contains (f + 1000000) || rc.contains (f + 2000000) then some (fo, args.toList) else none
    | _ => none
  | _ => none
def callOD (P : Program) (rc : List Nat) (σ : St) (vf : AV) (ars : List AV) (K : AV → Boxes → Prop) : Prop :=
  match vf with
  | .s (.clo f cs) => bif rc.contains (f + 2000000) then
      ∃ zs r, (zs.all fun z => (liveB σ.box z).isSome) = true ∧ CallP P f (convAs ⟨σ.env, keepO zs σ.box⟩ (ars ++ capA cs)) r ∧ K r (deadL zs)
    else ∃ ren args r y b, CallR P f args [] r [(y, b)] ∧ ars ++ capA cs = renAs ren args ∧ renOK ren [] args [] r [(y, b)] = true ∧ getB σ.box (look ren y) = none ∧ K (renA ren r) [(look ren y, some (renB ren b))]
  | _ => False
theorem isRD.op {rc : List Nat} {o : Oper} {fo : Operand} {l : List Operand} (h : isRD rc σ o.op = some (fo, l)) : (∃ f cs, ev σ fo = .s (.clo f cs)) ∧ ∃ args tys, o.op = .call { callee := .value fo, args := args, argTypes := tys } ∧ args.toList = l := by
  unfold isRD at h
  split at h
  · rename_i fo' args tys hop
    split at h
    · rename_i f cs hv
      cases hc : (rc.contains (f + 1000000) || rc.contains (f + 2000000)) with
      | false => rw [hc] at h; cases h
      | true => rw [hc] at h; simp only [cond_true, Option.some.injEq, Prod.mk.injEq] at h; obtain ⟨rfl, rfl⟩ := h; exact ⟨⟨_, _, hv⟩, _, _, hop, rfl⟩
    · cases h
  · cases h
theorem isRD.congr {rc : List Nat} {op : Op} (he : AgE op.operands.toList σ σ') : isRD rc σ' op = isRD rc σ op := by
  unfold isRD
  split
  · rw [he _ (by simp [Op.operands, Call.operands])]
  · rfl
theorem callOD.pt {vf : AV} {ars : List AV} {K : Ef → Prop} (h : callOD P rc σ vf ars fun v u => K (some v, u)) : ∃ e, K e ∧ Point (fun K : Ef → Prop => callOD P rc σ vf ars fun v u => K (some v, u)) e := by
  unfold callOD at h
  split at h
  case h_2 => exact h.elim
  rename_i f cs
  cases hc : rc.contains (f + 2000000) with
  | true =>
    rw [hc] at h
    simp only [cond_true] at h
    obtain ⟨zs, r, h1, h2, h3⟩ := h
    exact ⟨_, h3, fun K k => by simp only [callOD, hc, cond_true]; exact ⟨zs, r, h1, h2, k⟩⟩
  | false =>
    rw [hc] at h
    simp only [cond_false] at h
    obtain ⟨ren, args, r, y, b, h1, h2, h3, h4, h5⟩ := h
    exact ⟨_, h5, fun K k => by simp only [callOD, hc, cond_false]; exact ⟨ren, args, r, y, b, h1, h2, h3, h4, k⟩⟩
theorem callOD.congr {vf : AV} {ars : List AV} {K K' : AV → Boxes → Prop} (hk : ∀ v u, K v u → (∀ n, n ∈ u.map (·.1) → getB σ'.box n = getB σ.box n) ∧ K' v u) (h : callOD P rc σ vf ars K) : callOD P rc σ' vf ars K' := by
  unfold callOD at *
  split at h
  case h_2 => exact h.elim
  rename_i f cs
  cases hc : rc.contains (f + 2000000) with
  | true =>
    rw [hc] at h
    simp only [cond_true] at h
    simp only [cond_true]
    obtain ⟨zs, r, h1, h2, h3⟩ := h
    obtain ⟨q1, q2⟩ := hk _ _ h3
    have q : ∀ z, z ∈ zs → getB σ'.box z = getB σ.box z := fun z hz => q1 z (by unfold deadL; rw [List.map_map]; exact List.mem_map.2 ⟨z, hz, rfl⟩)
    refine ⟨zs, r, ?_, ?_, q2⟩
    · rw [List.all_eq_true] at h1 ⊢
      intro z hz
      have := h1 z hz
      unfold liveB at this ⊢
      rw [q z hz]; exact this
    · rw [convAs_live (σ' := ⟨σ.env, keepO zs σ.box⟩)]
      · exact h2
      · intro x
        show liveB (keepO zs σ'.box) x = liveB (keepO zs σ.box) x
        rw [keepO_live, keepO_live]
        cases hz : zs.contains x with
        | false => rfl
        | true =>
          have hz : x ∈ zs := by simpa using hz
          unfold liveB
          rw [q x hz]
  | false =>
    rw [hc] at h
    simp only [cond_false] at h
    simp only [cond_false]
    obtain ⟨ren, args, r, y, b, h1, h2, h3, h4, h5⟩ := h
    obtain ⟨q1, q2⟩ := hk _ _ h5
    exact ⟨ren, args, r, y, b, h1, h2, h3, (q1 _ (by simp)).trans h4, q2⟩
theorem callOD.spec {o : Oper} {fo : Operand} {l : List Operand} {K : AV → Boxes → Prop} {cx : Cx} (hq : isRD rc σ o.op = some (fo, l)) (hrc : ∀ f, rc.contains (f + 2000000) = true → cx.ref = [])
    (h : fe none (ev σ fo) fun vf => fetch none σ l fun ars => callOD P rc σ vf ars K) :
    ∃ r u, K r u ∧ ∀ N M β a w, Inv cx N M β σ a w → ∃ f vs, (execOp a.eval o).run P w = .ok (.enter f vs) w ∧
      Calls P f vs w fun e w' => ∃ v M' β', e = .returned v ∧ r.Rep M' β' v ∧ Inv cx N M' β' ⟨σ.env, u ++ σ.box⟩ a w' ∧ Grow cx.B M M' ∧ Keep cx w w' := by
  obtain ⟨⟨f, cs, hv⟩, ho⟩ := isRD.op hq
  have h2 : fetch none σ l fun ars => callOD P rc σ (.s (.clo f cs)) ars K := by rw [hv] at h; exact h
  cases hc : rc.contains (f + 2000000) with
  | true =>
    have h3 : fe none (ev σ fo) fun vf => fetch none σ l fun ars => eatX P σ vf ars fun r bx => ∃ zs, (zs.all fun z => (liveB σ.box z).isSome) = true ∧ K r (deadL zs) ∧ bx = killO zs σ.box := by
      rw [hv]
      refine fetch.congr (fun _ _ => rfl) (fun ars _ h => ?_) h2
      unfold callOD at h
      simp only [hc, cond_true] at h
      obtain ⟨zs, r, h1, h2, h3⟩ := h
      exact ⟨zs, r, h2, zs, h1, h3, rfl⟩
    obtain ⟨r, bx, ⟨zs, hz, hk, rfl⟩, hs⟩ := eat.spec ho h3
    refine ⟨r, _, hk, fun N M β a w i => ?_⟩
    obtain ⟨f, vs, hrun, hcall⟩ := hs cx N M β a w (hrc _ hc) i
    refine ⟨f, vs, hrun, hcall.mono ?_⟩
    rintro e w' ⟨v, M', β', e1, hr, i', hg, hkp⟩
    have hb : ∀ x, getB (deadL zs ++ σ.box) x = getB (killO zs σ.box) x := by
      intro x
      have happ : getB (deadL zs ++ σ.box) x = match getB (deadL zs) x with | some y => some y | none => getB σ.box x := by
        generalize deadL zs = u
        induction u with
        | nil => rfl
        | cons p r ih =>
          obtain ⟨k, b⟩ := p
          rw [List.cons_append, getB_cons, getB_cons]
          by_cases e : k = x
          · rw [if_pos e, if_pos e]
          · rw [if_neg e, if_neg e]; exact ih
      rw [happ, deadL_get, killO_none]
      cases hx : zs.contains x with
      | false => cases getB σ.box x <;> rfl
      | true =>
        have hx : x ∈ zs := by simpa using hx
        rw [List.all_eq_true] at hz
        have := hz x hx
        cases hg : getB σ.box x with
        | none => unfold liveB at this; rw [hg] at this; cases this
        | some b => rfl
    refine ⟨v, M', β', e1, hr, ⟨i'.defers, i'.tmps, i'.heap, i'.env, i'.mem, fun x p e => by rw [hb]; exact i'.keys x p e, fun x bc e => i'.box x bc (by rw [← hb]; exact e),
      fun x y bx bby b c c' ex ey => i'.inj x y bx bby b c c' (by rw [← hb]; exact ex) (by rw [← hb]; exact ey), fun x bc b c e => i'.apart x bc b c (by rw [← hb]; exact e), fun x bc b c e => i'.low x bc b c (by rw [← hb]; exact e), i'.ref⟩, hg, hkp⟩
  | false =>
    have h3 : fe none (ev σ fo) fun vf => fetch none σ l fun ars => callRX P σ vf ars fun v bx => ∃ u, K v u ∧ bx = u ++ σ.box := by
      rw [hv]
      refine fetch.congr (fun _ _ => rfl) (fun ars _ h => ?_) h2
      unfold callOD at h
      simp only [hc, cond_false] at h
      obtain ⟨ren, args, r, y, b, h1, h2, h3, h4, h5⟩ := h
      refine ⟨ren, args, [], r, [(y, b)], h1, h2, trivial, ?_, _, h5, rfl⟩
      simp only [renOK, Bool.and_eq_true] at h3 ⊢
      refine ⟨h3.1, ?_⟩
      simp [names, freshL, h4]
    obtain ⟨r, bx, ⟨u, hk, rfl⟩, hs⟩ := callR.spec ho h3
    exact ⟨r, u, hk, fun N M β a w i => hs cx N M β a w i⟩

/-- One operation of the region. -/
def stepD (P : Program) (T : List (Nat × TyI)) (N : Nat) (rc : List Nat) (all : List Oper) (o : Oper) (σ : St) (K : Ef → Prop) : Prop :=
  let run : Prop := match o.dst with
    | some d => bif Nat.blt d N then
        (match isX o.op with
        | true => opD T d o.op σ fun v u => K (some v, u)
        | false => match isRD rc σ o.op with
          | some (fo, args) => fe none (ev σ fo) fun vf => fetch none σ args fun ars => callOD P rc σ vf ars fun v u => K (some v, u)
          | none => opV P T o.op σ none fun v => K (some v, [])) else False
    | none => match isX o.op with
        | true => opD T 0 o.op σ fun _ u => K (none, u)
        | false => False
  match o.guard with
  | none => run
  | some (j, pol) => match guardTmp all j with
    | none => False
    | some t => match getE σ.env t with
      | .s (.d (.lit b)) => match b, pol with
        | true, true => run
        | false, false => run
        | _, _ => match o.dst with
          | some d => bif Nat.blt d N then K (some (.s (.d .junk)), []) else False
          | none => K (none, [])
      | .s (.d (.val (.bool b))) => match isX o.op with
        | true => b = pol ∧ run
        | false => match o.dst with
          | some d => bif Nat.blt d N then opV P T o.op σ (some (gpol pol b)) fun v => K (some (wrapG (gpol pol b) v), []) else False
          | none => False
      | .ib c (.d (.val (.bool b))) => match isX o.op with
        | true => False
        | false => match o.dst with
          | some d => bif Nat.blt d N then opV P T o.op σ (some (c && gpol pol b)) fun v => K (some (wrapG (c && gpol pol b) v), []) else False
          | none => False
      | _ => False

def appE (o : Oper) (e : Ef) (σ : St) : St :=
  ⟨match o.dst, e.1 with | some d, some v => (d, v) :: σ.env | _, _ => σ.env, appB e.2 σ.box⟩

end
end Go.Ax

/- Any order of the operations comes to the same state. -/
namespace Go.Ax
open Go.RowKit

section
variable {P : Program} {T : List (Nat × TyI)} {N : Nat} {ref rc : List Nat} {all : List Oper}

theorem stepD.pt {o : Oper} {σ : St} {K : Ef → Prop} (h : stepD P T N rc all o σ K) : ∃ e, K e ∧ Point (stepD P T N rc all o σ) e := by
  have run : ∀ {K : Ef → Prop}, (match o.dst with
    | some d => bif Nat.blt d N then
        (match isX o.op with
        | true => opD T d o.op σ fun v u => K (some v, u)
        | false => match isRD rc σ o.op with
          | some (fo, args) => fe none (ev σ fo) fun vf => fetch none σ args fun ars => callOD P rc σ vf ars fun v u => K (some v, u)
          | none => opV P T o.op σ none fun v => K (some v, [])) else False
    | none => match isX o.op with
        | true => opD T 0 o.op σ fun _ u => K (none, u)
        | false => False) → ∃ e, K e ∧ ∀ K' : Ef → Prop, K' e → (match o.dst with
    | some d => bif Nat.blt d N then
        (match isX o.op with
        | true => opD T d o.op σ fun v u => K' (some v, u)
        | false => match isRD rc σ o.op with
          | some (fo, args) => fe none (ev σ fo) fun vf => fetch none σ args fun ars => callOD P rc σ vf ars fun v u => K' (some v, u)
          | none => opV P T o.op σ none fun v => K' (some v, [])) else False
    | none => match isX o.op with
        | true => opD T 0 o.op σ fun _ u => K' (none, u)
        | false => False) := by
    intro K h
    split at h
    · rename_i d hd
      cases hN : Nat.blt d N with
      | false => rw [hN] at h; exact h.elim
      | true =>
        rw [hN] at h
        simp only [cond_true] at h ⊢
        split at h
        · obtain ⟨r, u, h1, h2, _⟩ := opD.pt h
          exact ⟨_, h1, fun K' k => h2 σ (fun _ _ => rfl) (fun _ _ => rfl) (fun _ _ => rfl) _ k⟩
        · split at h
          · rename_i fo args hq
            obtain ⟨r, h1, h2⟩ := fe.pt (C := fun vf K => fetch none σ args fun ars => callOD P rc σ vf ars fun v u => K (some v, u)) h (fun vf K h => fetch.pt (C := fun ars K => callOD P rc σ vf ars fun v u => K (some v, u)) h (fun _ _ h => callOD.pt h))
            exact ⟨r, h1, fun K' k => h2 K' k⟩
          · obtain ⟨r, h1, h2⟩ := opV.pt h
            exact ⟨_, h1, fun K' k => h2 _ k⟩
    · split at h
      · obtain ⟨r, u, h1, h2, _⟩ := opD.pt h
        exact ⟨_, h1, fun K' k => h2 σ (fun _ _ => rfl) (fun _ _ => rfl) (fun _ _ => rfl) _ k⟩
      · exact h.elim
  unfold stepD at h
  simp only at h
  split at h
  · rename_i hg
    obtain ⟨e, h1, h2⟩ := run h
    refine ⟨e, h1, fun K' k => ?_⟩
    unfold stepD
    simp only [hg]
    exact h2 K' k
  · rename_i j pol hg
    split at h
    · exact h.elim
    · rename_i t ht
      split at h
      · rename_i b hv
        have skip : (match o.dst with
          | some d => bif Nat.blt d N then K (some (.s (.d .junk)), []) else False
          | none => K (none, [])) → ∃ e, K e ∧ ∀ K' : Ef → Prop, K' e → (match o.dst with
          | some d => bif Nat.blt d N then K' (some (.s (.d .junk)), []) else False
          | none => K' (none, [])) := by
          intro h
          split at h
          · rename_i d hd
            cases hN : Nat.blt d N with
            | false => rw [hN] at h; exact h.elim
            | true => rw [hN] at h; exact ⟨_, h, fun K' k => k⟩
          · exact ⟨_, h, fun K' k => k⟩
        cases b <;> cases pol
        · obtain ⟨e, h1, h2⟩ := run h
          exact ⟨e, h1, fun K' k => by unfold stepD; simp only [hg, ht, hv]; exact h2 K' k⟩
        · obtain ⟨e, h1, h2⟩ := skip h
          exact ⟨e, h1, fun K' k => by unfold stepD; simp only [hg, ht, hv]; exact h2 K' k⟩
        · obtain ⟨e, h1, h2⟩ := skip h
          exact ⟨e, h1, fun K' k => by unfold stepD; simp only [hg, ht, hv]; exact h2 K' k⟩
        · obtain ⟨e, h1, h2⟩ := run h
          exact ⟨e, h1, fun K' k => by unfold stepD; simp only [hg, ht, hv]; exact h2 K' k⟩
      · rename_i b hv
        split at h
        · rename_i hx
          have run' := @run
          simp only [hx] at run'
          obtain ⟨e, h1, h2⟩ := run' h.2
          refine ⟨e, h1, fun K' k => ?_⟩
          unfold stepD
          simp only [hg, ht, hv, hx]
          exact ⟨h.1, h2 K' k⟩
        · rename_i hx
          split at h
          · rename_i d hd
            cases hN : Nat.blt d N with
            | false => rw [hN] at h; exact h.elim
            | true =>
              rw [hN] at h
              obtain ⟨r, h1, h2⟩ := opV.pt h
              exact ⟨_, h1, fun K' k => by unfold stepD; simp only [hg, ht, hv, hx, hd, hN, cond_true]; exact h2 _ k⟩
          · exact h.elim
      · rename_i c b hv
        split at h
        · exact h.elim
        · rename_i hx
          split at h
          · rename_i d hd
            cases hN : Nat.blt d N with
            | false => rw [hN] at h; exact h.elim
            | true =>
              rw [hN] at h
              obtain ⟨r, h1, h2⟩ := opV.pt h
              exact ⟨_, h1, fun K' k => by unfold stepD; simp only [hg, ht, hv, hx, hd, hN, cond_true]; exact h2 _ k⟩
          · exact h.elim
      · exact h.elim

/-- What an operation reads and writes among the boxes. -/
abbrev Foot := List Nat × List Nat
def footOf (σ : St) (o : Oper) (e : Ef) : Foot := (rdOp σ o.op, e.2.map (·.1))

def AgT (all : List Oper) (o : Oper) (σ σ' : St) : Prop := ∀ t, t ∈ o.looksAt all.toArray → getE σ'.env t = getE σ.env t

theorem AgT.ev {o : Oper} {σ σ' : St} (h : AgT all o σ σ') : AgE o.op.operands.toList σ σ' := by
  intro x hx
  cases x with
  | tmp t =>
    refine h t ?_
    simp only [Oper.looksAt, List.mem_append, List.mem_filterMap]
    exact .inl ⟨_, hx, rfl⟩
  | _ => rfl
theorem AgT.guard {o : Oper} {σ σ' : St} (h : AgT all o σ σ') {j : Nat} {pol : Bool} {t : Nat} (hg : o.guard = some (j, pol)) (ht : guardTmp all j = some t) : getE σ'.env t = getE σ.env t := by
  refine h t ?_
  simp only [Oper.looksAt, List.mem_append, hg]
  refine .inr ?_
  have : ((all.toArray[j]?).bind (·.dst)) = some t := by simpa [guardTmp] using ht
  rw [this]
  simp

theorem rdOp.congr {op : Op} {σ σ' : St} (he : AgE op.operands.toList σ σ') (hb : AgB (rdOp σ op) σ σ') : rdOp σ' op = rdOp σ op := by
  have hr : ∀ (n : Nat) (x : SV), AgB (reach n σ x) σ σ' → reach n σ' x = reach n σ x := by
    intro n
    induction n with
    | zero => intro x _; cases x <;> rfl
    | succ n ih =>
      intro x h
      have cat : ∀ {α : Type} (f f' : α → List Nat) (l : List α), (∀ c, c ∈ l → f' c = f c) → catL f' l = catL f l := by
        intro α f f' l hl
        induction l with
        | nil => rfl
        | cons c r ihl => simp only [catL]; rw [hl c (by simp), ihl (fun c hc => hl c (List.mem_cons_of_mem _ hc))]
      cases x with
      | ptr x off =>
        simp only [reach, h x (by simp [reach])]
        congr 1
        cases hb : getB σ.box x with
        | none => rfl
        | some y => cases y with
          | none => rfl
          | some bc => cases bc with
            | row e n s f => rfl
            | mrow e n s f => rfl
            | map vk l => rfl
            | fresh T vs => rfl
            | iter q n t => rfl
            | cells cs =>
              simp only
              refine cat _ _ cs (fun c hc => ih c (fun m hm => h m ?_))
              simp only [reach, hb]
              obtain ⟨j, hj⟩ := List.getElem?_of_mem hc
              exact List.mem_cons_of_mem _ (mem_catL hj hm)
      | clo f cs =>
        simp only [reach]
        refine cat _ _ cs (fun c hc => ?_)
        cases c with
        | d x => rfl
        | ptr x off =>
          refine ih _ (fun m hm => h m ?_)
          obtain ⟨j, hj⟩ := List.getElem?_of_mem hc
          exact mem_catL (f := fun c => match c with | .d _ => [] | .ptr x off => reach n σ (.ptr x off)) hj hm
      | _ => rfl
  have hrA : ∀ v : AV, AgB (reachA σ v) σ σ' → reachA σ' v = reachA σ v := by
    have hcs : ∀ cs : List SV, AgB (catL (reach 4 σ) cs) σ σ' → catL (reach 4 σ') cs = catL (reach 4 σ) cs := by
      intro cs
      induction cs with
      | nil => intro _; rfl
      | cons c r ih => intro h; simp only [catL]; rw [hr 4 c (h.mono fun m hm => List.mem_append_left _ hm), ih (h.mono fun m hm => List.mem_append_right _ hm)]
    intro v h
    cases v with
    | s x => exact hr 4 x h
    | ib b x => exact hr 4 x h
    | g cs => exact hcs cs h
    | ig b cs => exact hcs cs h
    | t ts => rfl
  have hrF : ∀ v : AV, AgB (reachF σ v) σ σ' → reachF σ' v = reachF σ v := by
    have hcs : ∀ cs : List CV, AgB (catL (fun c => match c with | .d _ => [] | .ptr x off => reach 4 σ (.ptr x off)) cs) σ σ' →
        catL (fun c => match c with | .d _ => [] | .ptr x off => reach 4 σ' (.ptr x off)) cs = catL (fun c => match c with | .d _ => [] | .ptr x off => reach 4 σ (.ptr x off)) cs := by
      intro cs
      induction cs with
      | nil => intro _; rfl
      | cons c r ih =>
        intro h
        simp only [catL]
        rw [ih (h.mono fun m hm => List.mem_append_right _ hm)]
        congr 1
        cases c with
        | d x => rfl
        | ptr x off => exact hr 4 _ (h.mono fun m hm => List.mem_append_left _ hm)
    intro v h
    cases v with
    | s x => cases x with
      | clo f cs => exact hcs cs h
      | _ => rfl
    | ib b x => cases x with
      | clo f cs => exact hcs cs h
      | _ => rfl
    | _ => rfl
  have hl : ∀ l : List Operand, AgE l σ σ' → AgB (catL (fun x => reachA σ (Ax.ev σ x)) l) σ σ' → catL (fun x => reachA σ' (Ax.ev σ' x)) l = catL (fun x => reachA σ (Ax.ev σ x)) l := by
    intro l
    induction l with
    | nil => intro _ _; rfl
    | cons x r ih =>
      intro he h
      simp only [catL]
      rw [he x (by simp), hrA _ (h.mono fun m hm => List.mem_append_left _ hm), ih (fun y hy => he y (List.mem_cons_of_mem _ hy)) (h.mono fun m hm => List.mem_append_right _ hm)]
  unfold rdOp at *
  split at hb
  · rename_i fo args tys
    rw [he fo (by simp [Op.operands, Call.operands]), hrF _ (hb.mono fun m hm => List.mem_append_left _ hm),
      hl _ (fun y hy => he y (by simp [Op.operands, Call.operands]; exact .inr (by simpa using hy))) (hb.mono fun m hm => List.mem_append_right _ hm)]
  all_goals first | rfl | exact hl _ he hb

/-- The operation has just this effect in this state. -/
structure OkE (P : Program) (T : List (Nat × TyI)) (N : Nat) (rc : List Nat) (all : List Oper) (o : Oper) (σ : St) (e : Ef) (f : Foot) : Prop where
  pt : Point (stepD P T N rc all o σ) e
  rd : rdOp σ o.op = f.1
  wr : e.2.map (·.1) = f.2

theorem OkE.congr {o : Oper} {σ σ' : St} {e : Ef} {f : Foot} (h : OkE P T N rc all o σ e f) (ht : AgT all o σ σ') (hr : AgB f.1 σ σ') (hw : ∀ x, x ∈ f.2 → getB σ'.box x = getB σ.box x) : OkE P T N rc all o σ' e f := by
  have hE := ht.ev
  have hrd : AgB (rdOp σ o.op) σ σ' := by rw [h.rd]; exact hr
  refine ⟨fun K k => ?_, (rdOp.congr hE hrd).trans h.rd, h.wr⟩
  have hk := h.pt (fun e' => e' = e ∧ K e') ⟨rfl, k⟩
  have run : (match o.dst with
    | some d => bif Nat.blt d N then
        (match isX o.op with
        | true => opD T d o.op σ fun v u => (some v, u) = e ∧ K (some v, u)
        | false => match isRD rc σ o.op with
          | some (fo, args) => fe none (Ax.ev σ fo) fun vf => fetch none σ args fun ars => callOD P rc σ vf ars fun v u => (some v, u) = e ∧ K (some v, u)
          | none => opV P T o.op σ none fun v => (some v, []) = e ∧ K (some v, [])) else False
    | none => match isX o.op with
        | true => opD T 0 o.op σ fun _ u => (none, u) = e ∧ K (none, u)
        | false => False) → (match o.dst with
    | some d => bif Nat.blt d N then
        (match isX o.op with
        | true => opD T d o.op σ' fun v u => K (some v, u)
        | false => match isRD rc σ' o.op with
          | some (fo, args) => fe none (Ax.ev σ' fo) fun vf => fetch none σ' args fun ars => callOD P rc σ' vf ars fun v u => K (some v, u)
          | none => opV P T o.op σ' none fun v => K (some v, [])) else False
    | none => match isX o.op with
        | true => opD T 0 o.op σ' fun _ u => K (none, u)
        | false => False) := by
    intro h1
    have hwr := h.wr
    split at h1
    · rename_i d hd
      cases hN : Nat.blt d N with
      | false => rw [hN] at h1; exact h1.elim
      | true =>
        rw [hN] at h1
        simp only [cond_true] at h1 ⊢
        split at h1
        · obtain ⟨r, u, ⟨he, hK⟩, h2, _⟩ := opD.pt h1
          rw [← he] at hwr
          exact h2 σ' (fun n hn => hw n (by rw [← hwr]; exact hn)) hE hrd _ hK
        · rw [isRD.congr hE]
          split at h1
          · rename_i fo args hq
            obtain ⟨_, args', tys, hop, hl⟩ := isRD.op hq
            rw [hop] at hE
            rw [hE fo (by simp [Op.operands, Call.operands])]
            refine fe.imp (fun vf _ h => ?_) h1
            refine fetch.congr (fun y hy => hE y (by simp [Op.operands, Call.operands]; exact .inr (by rw [← hl] at hy; simpa using hy))) (fun ars _ h => ?_) h
            refine callOD.congr (fun v u hk => ⟨fun n hn => ?_, hk.2⟩) h
            refine hw n ?_
            rw [← hwr, ← hk.1]; exact hn
          · exact opV.congr hE hrd ((opV.pt h1).elim fun r hr => hr.2 _ hr.1.2)
    · split at h1
      · obtain ⟨r, u, ⟨he, hK⟩, h2, _⟩ := opD.pt h1
        rw [← he] at hwr
        exact h2 σ' (fun n hn => hw n (by rw [← hwr]; exact hn)) hE hrd _ hK
      · exact h1.elim
  unfold stepD at hk ⊢
  simp only at hk ⊢
  split at hk
  · exact run hk
  · rename_i j pol hg
    split at hk
    · exact hk.elim
    · rename_i t htt
      have hgt := ht.guard hg htt
      simp only [hgt]
      split at hk
      · rename_i b hv
        cases b <;> cases pol
        · exact run hk
        · simp only at hk ⊢
          split at hk
          · rename_i d hd
            cases hN : Nat.blt d N with
            | false => rw [hN] at hk; exact hk.elim
            | true => rw [hN] at hk; exact hk.2
          · exact hk.2
        · simp only at hk ⊢
          split at hk
          · rename_i d hd
            cases hN : Nat.blt d N with
            | false => rw [hN] at hk; exact hk.elim
            | true => rw [hN] at hk; exact hk.2
          · exact hk.2
        · exact run hk
      · rename_i b hv
        split at hk
        · rename_i hx
          have run' := run
          simp only [hx] at run' ⊢
          exact ⟨hk.1, run' hk.2⟩
        · split at hk
          · rename_i d hd
            cases hN : Nat.blt d N with
            | false => rw [hN] at hk; exact hk.elim
            | true =>
              rw [hN] at hk
              simp only [cond_true] at hk ⊢
              exact opV.congr hE hrd ((opV.pt hk).elim fun r hr => hr.2 _ hr.1.2)
          · exact hk.elim
      · rename_i c b hv
        split at hk
        · exact hk.elim
        · split at hk
          · rename_i d hd
            cases hN : Nat.blt d N with
            | false => rw [hN] at hk; exact hk.elim
            | true =>
              rw [hN] at hk
              simp only [cond_true] at hk ⊢
              exact opV.congr hE hrd ((opV.pt hk).elim fun r hr => hr.2 _ hr.1.2)
          · exact hk.elim
      · exact hk.elim

end
end Go.Ax

/- From the text's order to every order, and to the judgement. -/
namespace Go.Ax
open Go.RowKit

/-- The same under every look-up. -/
structure Eqv (σ σ' : St) : Prop where
  env : ∀ t, getE σ'.env t = getE σ.env t
  box : ∀ x, getB σ'.box x = getB σ.box x
theorem Eqv.refl (σ : St) : Eqv σ σ := ⟨fun _ => rfl, fun _ => rfl⟩
theorem Eqv.symm {σ σ' : St} (h : Eqv σ σ') : Eqv σ' σ := ⟨fun t => (h.env t).symm, fun x => (h.box x).symm⟩
theorem Eqv.trans {a b c : St} (h : Eqv a b) (k : Eqv b c) : Eqv a c := ⟨fun t => (k.env t).trans (h.env t), fun x => (k.box x).trans (h.box x)⟩

theorem appE_env {o : Oper} {e : Ef} {σ : St} (t : Nat) : getE (appE o e σ).env t = match o.dst, e.1 with | some d, some v => if d = t then v else getE σ.env t | _, _ => getE σ.env t := by
  unfold appE
  cases o.dst with
  | none => rfl
  | some d => cases e.1 with
    | none => rfl
    | some v => exact getE_cons d v σ.env t
theorem getB_app {u v : Boxes} {x : Nat} : getB (u ++ v) x = match getB u x with | some y => some y | none => getB v x := by
  induction u with
  | nil => rfl
  | cons p r ih =>
    obtain ⟨k, b⟩ := p
    rw [List.cons_append, getB_cons, getB_cons]
    by_cases e : k = x
    · rw [if_pos e, if_pos e]
    · rw [if_neg e, if_neg e]; exact ih
theorem getB_notin {u : Boxes} {x : Nat} (h : x ∉ u.map (·.1)) : getB u x = none := by
  induction u with
  | nil => rfl
  | cons p r ih =>
    obtain ⟨k, b⟩ := p
    simp only [List.map_cons, List.mem_cons, not_or] at h
    rw [getB_cons, if_neg (fun e => h.1 e.symm)]
    exact ih h.2
theorem appE_box {o : Oper} {e : Ef} {σ : St} (x : Nat) : getB (appE o e σ).box x = match getB e.2 x with | some y => some y | none => getB σ.box x := by
  unfold appE
  simp only [appB_eq]
  exact getB_app

theorem appE.eqv {o : Oper} {e : Ef} {σ σ' : St} (h : Eqv σ σ') : Eqv (appE o e σ) (appE o e σ') := by
  refine ⟨fun t => ?_, fun x => ?_⟩
  · rw [appE_env, appE_env, h.env]
  · rw [appE_box, appE_box, h.box]

/-- Two feet do not tread on one another. -/
def ftDisj (f h : Foot) : Bool :=
  (f.2.all fun x => !(h.1.contains x) && !(h.2.contains x)) && (h.2.all fun x => !(f.1.contains x))
theorem ftDisj.spec {f h : Foot} (hd : ftDisj f h = true) : (∀ x, x ∈ f.2 → x ∉ h.1) ∧ (∀ x, x ∈ f.2 → x ∉ h.2) ∧ (∀ x, x ∈ h.2 → x ∉ f.1) := by
  simp only [ftDisj, Bool.and_eq_true, List.all_eq_true] at hd
  obtain ⟨h1, h2⟩ := hd
  refine ⟨fun x hx => ?_, fun x hx => ?_, fun x hx => ?_⟩
  · simpa using (h1 x hx).1
  · simpa using (h1 x hx).2
  · simpa using h2 x hx

theorem appE.comm {o p : Oper} {e u : Ef} {σ : St} (hd : ∀ d, o.dst = some d → p.dst ≠ some d) (hb : ∀ x, x ∈ e.2.map (·.1) → x ∉ u.2.map (·.1)) :
    Eqv (appE o e (appE p u σ)) (appE p u (appE o e σ)) := by
  refine ⟨fun t => ?_, fun x => ?_⟩
  · simp only [appE_env]
    cases ho : o.dst with
    | none => rfl
    | some d => cases he : e.1 with
      | none => rfl
      | some v => cases hp : p.dst with
        | none => rfl
        | some d' => cases hu : u.1 with
          | none => rfl
          | some v' =>
            have hne : d' ≠ d := fun h => hd d ho (by rw [hp, h])
            simp only
            by_cases h1 : d = t
            · subst h1; simp [hne]
            · simp [h1]
  · simp only [appE_box]
    by_cases h1 : x ∈ e.2.map (·.1)
    · rw [getB_notin (hb x h1)]
    · rw [getB_notin h1]

section
variable {P : Program} {T : List (Nat × TyI)} {N : Nat} {rc : List Nat} {all : List Oper} {md : Region.Mode} {ft : List Foot}

theorem OkE.eqv {o : Oper} {σ σ' : St} {e : Ef} {f : Foot} (h : OkE P T N rc all o σ e f) (k : Eqv σ σ') : OkE P T N rc all o σ' e f :=
  h.congr (fun t _ => k.env t) (fun x _ => k.box x) (fun x _ => k.box x)

/-- Whatever order is picked from here on. -/
def AnyC (P : Program) (T : List (Nat × TyI)) (N : Nat) (rc : List Nat) (all : List Oper) (md : Region.Mode) (ft : List Foot) (σf : St) : Nat → Array Bool → St → Prop
  | 0, listed, σ => Region.ready md all.toArray listed = [] ∧ Eqv σf σ
  | fuel + 1, listed, σ =>
    (Region.ready md all.toArray listed = [] → Eqv σf σ) ∧
    ∀ i ∈ Region.ready md all.toArray listed, ∃ o e f, all[i]? = some o ∧ ft[i]? = some f ∧ OkE P T N rc all o σ e f ∧ AnyC P T N rc all md ft σf fuel (listed.setIfInBounds i true) (appE o e σ)

theorem AnyC.eqv {σf : St} : ∀ (fuel : Nat) {listed : Array Bool} {σ σ' : St}, Eqv σ σ' → AnyC P T N rc all md ft σf fuel listed σ → AnyC P T N rc all md ft σf fuel listed σ'
  | 0, _, _, _, k, h => ⟨h.1, h.2.trans k⟩
  | fuel + 1, _, _, _, k, h => ⟨fun h0 => (h.1 h0).trans k, fun i hi => by
    obtain ⟨o, e, f, h1, h2, h3, h4⟩ := h.2 i hi
    exact ⟨o, e, f, h1, h2, h3.eqv k, AnyC.eqv fuel (appE.eqv k) h4⟩⟩

/-- Operation oi is apart from oj: what oi does leaves oj's state alone. -/
theorem AgT.appE {oi oj : Oper} {e : Ef} {σ : St} (h : ∀ d, oi.dst = some d → d ∉ oj.looksAt all.toArray) : AgT all oj σ (appE oi e σ) := by
  intro t ht
  rw [appE_env]
  cases ho : oi.dst with
  | none => rfl
  | some d => cases e.1 with
    | none => rfl
    | some v =>
      simp only
      rw [if_neg (fun (hdt : d = t) => h d ho (hdt ▸ ht))]
theorem box_appE {oi : Oper} {e : Ef} {σ : St} {x : Nat} (h : x ∉ e.2.map (·.1)) : getB (appE oi e σ).box x = getB σ.box x := by
  rw [appE_box, getB_notin h]

theorem OkE.past {oi oj : Oper} {ei ej : Ef} {fi fj : Foot} {σ : St} (hwi : ei.2.map (·.1) = fi.2) (hap : oi.apart all.toArray oj = true) (hft : ftDisj fi fj = true) (h : OkE P T N rc all oj (appE oi ei σ) ej fj) : OkE P T N rc all oj σ ej fj := by
  obtain ⟨h1, h2, h3⟩ := Oper.apart_spec hap
  obtain ⟨k1, k2, k3⟩ := ftDisj.spec hft
  have ht : AgT all oj σ (appE oi ei σ) := AgT.appE h1
  refine h.congr (fun t htt => (ht t htt).symm) (fun x hx => (box_appE (fun hw => ?_)).symm) (fun x hx => (box_appE (fun hw => ?_)).symm)
  · exact k1 x (hwi ▸ hw) hx
  · exact k2 x (hwi ▸ hw) hx
theorem OkE.over {oi oj : Oper} {ei ej : Ef} {fi fj : Foot} {σ : St} (hwj : ej.2.map (·.1) = fj.2) (hap : oi.apart all.toArray oj = true) (hft : ftDisj fi fj = true) (h : OkE P T N rc all oi σ ei fi) : OkE P T N rc all oi (appE oj ej σ) ei fi := by
  obtain ⟨h1, h2, h3⟩ := Oper.apart_spec hap
  obtain ⟨k1, k2, k3⟩ := ftDisj.spec hft
  refine h.congr (AgT.appE h3) (fun x hx => box_appE (fun hw => ?_)) (fun x hx => box_appE (fun hw => ?_))
  · exact k3 x (hwj ▸ hw) hx
  · exact k2 x hx (hwj ▸ hw)

/-- Does j wait for i, by a chain of edges? -/
def dep (md : Region.Mode) (ops : Array Oper) (i : Nat) : Nat → Nat → Bool
  | 0, _ => false
  | n + 1, j => match ops[j]? with
    | some oj => oj.after.any fun e => Region.binds md e && (Nat.beq e.on i || dep md ops i n e.on)
    | none => false
/-- What is listed, what it waits for is listed. -/
def Closed (md : Region.Mode) (all : List Oper) (listed : Array Bool) : Prop :=
  ∀ m om, all[m]? = some om → listed.getD m false = true → ∀ e ∈ om.after, Region.binds md e = true → listed.getD e.on false = true
theorem getD_tf {l : Array Bool} {i : Nat} (h : l.getD i true = false) : l.getD i false = false := by
  rcases Nat.lt_or_ge i l.size with h' | h'
  · simp [h'] at h ⊢; exact h
  · simp [Array.getElem?_eq_none h'] at h
theorem dep_no {md : Region.Mode} {listed : Array Bool} {i : Nat} (hc : Closed md all listed) (hi : listed.getD i false = false) : ∀ (n j : Nat) (oj : Oper), all[j]? = some oj → (∀ e ∈ oj.after, Region.binds md e = true → listed.getD e.on false = true) → dep md all.toArray i n j = false
  | 0, _, _, _, _ => rfl
  | n + 1, j, oj, hj, h => by
    have hj' : all.toArray[j]? = some oj := by simpa using hj
    simp only [dep, hj']
    rw [Bool.eq_false_iff]
    intro hx
    obtain ⟨e, he, hb⟩ := Array.any_eq_true'.1 hx
    simp only [Bool.and_eq_true, Bool.or_eq_true] at hb
    have hl := h e he hb.1
    rcases hb.2 with h1 | h1
    · rw [Nat.eq_of_beq_eq_true h1, hi] at hl; cases hl
    · cases ho : all[e.on]? with
      | none =>
        cases n with
        | zero => cases h1
        | succ n =>
          have : all.toArray[e.on]? = none := by simpa using ho
          simp only [dep, this] at h1
          cases h1
      | some om =>
        rw [dep_no hc hi n e.on om ho (hc e.on om ho hl)] at h1
        cases h1
theorem Closed.set {md : Region.Mode} {listed : Array Bool} {j : Nat} {oj : Oper} (hc : Closed md all listed) (hj : all[j]? = some oj) (h : ∀ e ∈ oj.after, Region.binds md e = true → listed.getD e.on false = true) : Closed md all (listed.setIfInBounds j true) := by
  have up : ∀ x, listed.getD x false = true → (listed.setIfInBounds j true).getD x false = true := fun x hx => by
    by_cases hjx : j = x
    · subst hjx
      rcases Nat.lt_or_ge j listed.size with h' | h'
      · simp [h']
      · simp [Array.getElem?_eq_none h'] at hx
    · rw [getD_set_ne false hjx]; exact hx
  intro m om hm hl e he hb
  by_cases hmj : j = m
  · subst hmj
    rw [hj] at hm; cases hm
    exact up _ (h e he hb)
  · rw [getD_set_ne false hmj] at hl
    exact up _ (hc m om hm hl e he hb)

theorem AnyC.first {σf : St} {i : Nat} {oi : Oper} {ei : Ef} {fi : Foot} (hi : all[i]? = some oi) (hfi : ft[i]? = some fi) :
    ∀ (fuel : Nat) (listed : Array Bool) (σ : St),
      (∀ j oj fj, all[j]? = some oj → ft[j]? = some fj → j ≠ i → listed.getD j true = false → (∀ n, dep md all.toArray i n j = false) → oi.apart all.toArray oj = true ∧ ftDisj fi fj = true) → Closed md all listed →
      i ∈ Region.ready md all.toArray listed → OkE P T N rc all oi σ ei fi →
      AnyC P T N rc all md ft σf fuel (listed.setIfInBounds i true) (appE oi ei σ) → AnyC P T N rc all md ft σf (fuel + 1) listed σ := by
  intro fuel
  induction fuel with
  | zero =>
    intro listed σ _ _ hr hy H
    refine ⟨fun h => (by rw [h] at hr; cases hr), fun j hj => ?_⟩
    by_cases hji : j = i
    · subst hji; exact ⟨oi, ei, fi, hi, hfi, hy, H⟩
    · have := ready_mono hj hji
      rw [H.1] at this
      cases this
  | succ fuel ih =>
    intro listed σ hfree hcl hr hy H
    refine ⟨fun h => (by rw [h] at hr; cases hr), fun j hj => ?_⟩
    by_cases hji : j = i
    · subst hji; exact ⟨oi, ei, fi, hi, hfi, hy, H⟩
    · obtain ⟨oj, ej, fj, hoj, hfj, hyj, Hj⟩ := H.2 j (ready_mono hj hji)
      obtain ⟨hjun, oj', hoj', hall⟩ := mem_ready.1 hj
      have hoj'' : all[j]? = some oj' := by simpa using hoj'
      rw [hoj] at hoj''; cases hoj''
      have hnot : ∀ n, dep md all.toArray i n j = false := fun n => dep_no hcl (getD_tf (mem_ready.1 hr).1) n j oj hoj hall
      obtain ⟨hap, hft⟩ := hfree j oj fj hoj hfj hji hjun hnot
      have hyj' : OkE P T N rc all oj σ ej fj := OkE.past hy.wr hap hft hyj
      have hyi' : OkE P T N rc all oi (appE oj ej σ) ei fi := OkE.over hyj.wr hap hft hy
      have hfree' : ∀ k ok fk, all[k]? = some ok → ft[k]? = some fk → k ≠ i → (listed.setIfInBounds j true).getD k true = false →
          (∀ n, dep md all.toArray i n k = false) → oi.apart all.toArray ok = true ∧ ftDisj fi fk = true := fun k ok fk hk hfk hki hun hno => by
        refine hfree k ok fk hk hfk hki ?_ hno
        by_cases hjk : j = k
        · subst hjk; exact hjun
        · rw [getD_set_ne true hjk] at hun; exact hun
      refine ⟨oj, ej, fj, hoj, hfj, hyj', ih (listed.setIfInBounds j true) (appE oj ej σ) hfree' (hcl.set hoj hall) (ready_mono hr (Ne.symm hji)) hyi' ?_⟩
      rw [Array.setIfInBounds_comm _ _ hji]
      refine AnyC.eqv fuel ?_ Hj
      obtain ⟨h1, h2, h3⟩ := Oper.apart_spec hap
      obtain ⟨k1, k2, k3⟩ := ftDisj.spec hft
      exact (appE.comm (fun d hd => h2 d hd) (fun x hx => by rw [hy.wr] at hx; rw [hyj.wr]; exact k2 x hx)).symm

/-- The check, by the kernel. -/
def freeF (md : Region.Mode) (ops : Array Oper) (ft : List Foot) (listed : Array Bool) (i : Nat) : Bool :=
  match ops[i]?, ft[i]? with
  | some oi, some fi => (List.range ops.size).all fun j => Nat.beq j i || listed.getD j true || match ops[j]?, ft[j]? with
      | some oj, some fj => (oi.apart ops oj && ftDisj fi fj) || dep md ops i 6 j
      | _, _ => true
  | _, _ => false
def lexF (md : Region.Mode) (ops : Array Oper) (ft : List Foot) : Nat → Nat → Array Bool → Bool
  | 0, _, listed => (Region.ready md ops listed).isEmpty
  | fuel + 1, k, listed => (Region.ready md ops listed).contains k && freeF md ops ft listed k && lexF md ops ft fuel (k + 1) (listed.setIfInBounds k true)

theorem freeF.spec {i : Nat} {oi : Oper} {fi : Foot} {listed : Array Bool} (hi : all[i]? = some oi) (hfi : ft[i]? = some fi) (h : freeF md all.toArray ft listed i = true) (j : Nat) (oj : Oper) (fj : Foot)
    (hj : all[j]? = some oj) (hfj : ft[j]? = some fj) (hne : j ≠ i) (hun : listed.getD j true = false) (hno : ∀ n, dep md all.toArray i n j = false) : oi.apart all.toArray oj = true ∧ ftDisj fi fj = true := by
  have hi' : all.toArray[i]? = some oi := by simpa using hi
  have hj' : all.toArray[j]? = some oj := by simpa using hj
  unfold freeF at h
  rw [hi', hfi] at h
  simp only [List.all_eq_true, List.mem_range] at h
  have hjlt : j < all.toArray.size := by
    have := (Array.getElem?_eq_some_iff.1 hj').1
    exact this
  have hx := h j hjlt
  rw [hj', hfj, hun] at hx
  have hb : Nat.beq j i = false := beqF hne
  rw [hb, hno 6] at hx
  simp only [Bool.false_or, Bool.or_false, Bool.and_eq_true] at hx
  exact hx

/-- The text's order. -/
def Chain (P : Program) (T : List (Nat × TyI)) (N : Nat) (rc : List Nat) (all : List Oper) : List Oper → St → List Ef → List Foot → Prop
  | [], _, [], [] => True
  | o :: l, σ, e :: es, f :: fs => OkE P T N rc all o σ e f ∧ Chain P T N rc all l (appE o e σ) es fs
  | _, _, _, _ => False
def appAll : List Oper → St → List Ef → St
  | o :: l, σ, e :: es => appAll l (appE o e σ) es
  | _, σ, _ => σ

theorem AnyC.lex : ∀ (l : List Oper) (k : Nat) (listed : Array Bool) (σ : St) (es : List Ef) (fs : List Foot), (∀ j, l[j]? = all[k + j]?) → (∀ j, fs[j]? = ft[k + j]?) →
    Closed md all listed → lexF md all.toArray ft l.length k listed = true → Chain P T N rc all l σ es fs → AnyC P T N rc all md ft (appAll l σ es) l.length listed σ
  | [], _, _, _, [], [], _, _, _, hB, _ => ⟨by simpa [lexF] using hB, Eqv.refl _⟩
  | o :: l, k, listed, σ, e :: es, f :: fs, hl, hf, hcl, hB, ⟨h1, h2⟩ => by
    have h0 : all[k]? = some o := by simpa using (hl 0).symm
    have hf0 : ft[k]? = some f := by simpa using (hf 0).symm
    simp only [List.length_cons, lexF, Bool.and_eq_true] at hB
    obtain ⟨⟨hr, hfr⟩, hB'⟩ := hB
    have hr' : k ∈ Region.ready md all.toArray listed := by simpa using hr
    have hall : ∀ e ∈ o.after, Region.binds md e = true → listed.getD e.on false = true := by
      obtain ⟨_, o', ho', h⟩ := mem_ready.1 hr'
      have : all[k]? = some o' := by simpa using ho'
      rw [h0] at this; cases this
      exact h
    exact AnyC.first h0 hf0 l.length listed σ (freeF.spec h0 hf0 hfr) hcl hr' h1
      (AnyC.lex l (k + 1) _ _ es fs (fun j => by have := hl (j + 1); simpa [Nat.add_assoc, Nat.add_comm 1 j] using this) (fun j => by have := hf (j + 1); simpa [Nat.add_assoc, Nat.add_comm 1 j] using this) (hcl.set h0 hall) hB' h2)
  | [], _, _, _, _ :: _, _, _, _, _, _, h => by cases ‹List Foot› <;> exact h.elim
  | [], _, _, _, [], _ :: _, _, _, _, _, h => h.elim
  | _ :: _, _, _, _, [], _, _, _, _, _, h => by cases ‹List Foot› <;> exact h.elim
  | _ :: _, _, _, _, _ :: _, [], _, _, _, _, h => h.elim

end
end Go.Ax

/- Regions that draw their order, in the executor. -/
namespace Go.Ax
open Go.RowKit

section
variable {P : Program} {T : List (Nat × TyI)} {N : Nat} {ref rc : List Nat} {cx : Cx} {all : List Oper}

def PostE (cx : Cx) (N : Nat) (M : Mem) (w : World) (o : Oper) (σ : St) (K : Ef → Prop) (a' : Act) (w' : World) : Prop :=
  ∃ e M' β', K e ∧ Inv cx N M' β' (appE o e σ) a' w' ∧ Grow cx.B M M' ∧ Keep cx w w'

theorem appE_v {o : Oper} {d : Nat} {v : AV} {σ : St} (hd : o.dst = some d) : appE o (some v, []) σ = setE σ d v := by
  unfold appE setE; rw [hd]; rfl
theorem appE_x {o : Oper} {d : Nat} {v : AV} {u : Boxes} {σ : St} (hd : o.dst = some d) : appE o (some v, u) σ = ⟨(d, v) :: σ.env, u ++ σ.box⟩ := by
  unfold appE; rw [hd]; simp only [appB_eq]
theorem appE_n {o : Oper} {v : Option AV} {u : Boxes} {σ : St} (hd : o.dst = none) : appE o (v, u) σ = ⟨σ.env, u ++ σ.box⟩ := by
  unfold appE; rw [hd]; simp only [appB_eq]

theorem stepD.sound (hT : TabOK P T) (hrc : ∀ f, rc.contains (f + 2000000) = true → cx.ref = []) {o : Oper} {σ : St} {K : Ef → Prop} {Q : Exit → Act → World → Prop} {M : Mem} {β : Nm} {a : Act} {w : World} (h : stepD P T N rc all o σ K) (i : Inv cx N M β σ a w) :
    if Region.wanted o (yielded all.toArray a.tmps) then (∀ c, o.op ≠ .defer c) ∧ o.wp P a w (PostE cx N M w o σ K) Q else PostE cx N M w o σ K (a.put o.dst undef) w := by
  have run : (match o.dst with
    | some d => bif Nat.blt d N then
        (match isX o.op with
        | true => opD T d o.op σ fun v u => K (some v, u)
        | false => match isRD rc σ o.op with
          | some (fo, args) => fe none (ev σ fo) fun vf => fetch none σ args fun ars => callOD P rc σ vf ars fun v u => K (some v, u)
          | none => opV P T o.op σ none fun v => K (some v, [])) else False
    | none => match isX o.op with
        | true => opD T 0 o.op σ fun _ u => K (none, u)
        | false => False) → (∀ c, o.op ≠ .defer c) ∧ o.wp P a w (PostE cx N M w o σ K) Q := by
    intro h
    refine ⟨fun c e => ?_, ?_⟩
    · rw [e] at h
      split at h
      · rename_i d hd
        cases hN : Nat.blt d N with
        | false => rw [hN] at h; exact h.elim
        | true => rw [hN] at h; exact h.elim
      · exact h.elim
    split at h
    · rename_i d hd
      cases hN : Nat.blt d N with
      | false => rw [hN] at h; exact h.elim
      | true =>
        rw [hN] at h
        have hN : d < N := Nat.le_of_ble_eq_true hN
        simp only [cond_true] at h
        split at h
        · obtain ⟨r, u, hk, _, hx⟩ := opD.pt h
          obtain ⟨r', bx, ⟨rfl, rfl⟩, v, w', M', β', hrun, hr, hi, hg, hkp⟩ := opX.spec hT (hx cx.ref) rfl i
          unfold Oper.wp
          rcases hrun with hrun | ⟨hrun, rfl⟩
          · rw [hrun, Oper.upon_value, hd]
            exact ⟨_, M', β', hk, by rw [appE_x hd]; exact hi.put (σ := ⟨σ.env, _⟩) hN hr, hg, hkp⟩
          · rw [hrun, Oper.upon_skip, hd]
            exact ⟨_, M', β', hk, by rw [appE_x hd]; exact hi.put (σ := ⟨σ.env, _⟩) hN hr, hg, hkp⟩
        · split at h
          · rename_i fo args hq
            obtain ⟨v, u, hk, hs⟩ := callOD.spec hq hrc h
            obtain ⟨f, vs, hrun, hcall⟩ := hs N M β a w i
            unfold Oper.wp
            rw [hrun, Oper.upon_enter]
            refine hcall.mono ?_
            rintro e' w' ⟨v', M', β', rfl, hr, i', hg, hkp⟩
            simp only [hd]
            exact ⟨_, M', β', hk, by rw [appE_x hd]; exact i'.put (σ := ⟨σ.env, _⟩) hN hr, hg, hkp⟩
          obtain ⟨r, hk, hs⟩ := opV.spec hT h
          refine Oper.wp_mono ?_ (does_wp (K := fun σ' => σ' = setE σ d r) hd hN (hs actN) i rfl)
          rintro a' w' ⟨σ', M', β', rfl, h2, h3, h4⟩
          exact ⟨_, M', β', hk, by rw [appE_v hd]; exact h2, h3, h4⟩
    · rename_i hd
      split at h
      · obtain ⟨r, u, hk, _, hx⟩ := opD.pt h
        obtain ⟨r', bx, ⟨rfl, rfl⟩, v, w', M', β', hrun, hr, hi, hg, hkp⟩ := opX.spec hT (hx cx.ref) rfl i
        unfold Oper.wp
        rcases hrun with hrun | ⟨hrun, rfl⟩
        · rw [hrun, Oper.upon_value, hd]
          exact ⟨_, M', β', hk, by rw [appE_n hd]; exact hi, hg, hkp⟩
        · rw [hrun, Oper.upon_skip, hd]
          exact ⟨_, M', β', hk, by rw [appE_n hd]; exact hi, hg, hkp⟩
      · exact h.elim
  have skip : (match o.dst with
          | some d => bif Nat.blt d N then K (some (.s (.d .junk)), []) else False
          | none => K (none, [])) → PostE cx N M w o σ K (a.put o.dst undef) w := by
    intro h
    split at h
    · rename_i d hd
      cases hN : Nat.blt d N with
      | false => rw [hN] at h; exact h.elim
      | true =>
        rw [hN] at h
        have hN : d < N := Nat.le_of_ble_eq_true hN
        rw [hd]
        exact ⟨_, M, β, h, by rw [appE_v hd]; exact i.put hN trivial, Grow.refl _ _, Keep.refl _ _⟩
    · rename_i hd
      rw [hd]
      exact ⟨_, M, β, h, by unfold appE; rw [hd]; exact i, Grow.refl _ _, Keep.refl _ _⟩
  have part : ∀ {d : Nat} {gb : Bool}, o.dst = some d → d < N → (opV P T o.op σ (some gb) fun v => K (some (wrapG gb v), [])) → Region.wanted o (yielded all.toArray a.tmps) = gb →
      if Region.wanted o (yielded all.toArray a.tmps) then (∀ c, o.op ≠ .defer c) ∧ o.wp P a w (PostE cx N M w o σ K) Q else PostE cx N M w o σ K (a.put o.dst undef) w := by
    intro d gb hd hN h hw
    obtain ⟨r, hk, hs⟩ := opV.spec hT h
    cases hgf : gb with
    | true =>
      rw [if_pos (by rw [hw, hgf])]
      have hact : act (some gb) := fun c e => by cases e; exact hgf
      have hdo : Does P o σ (wrapG gb r) := by
        intro cx N M β a w i
        have hwr : ∀ {M β v}, r.Rep M β v → (wrapG gb r).Rep M β v := by
          intro M β v hr
          cases r with
          | s x => exact ⟨fun _ => hr, fun h => by rw [hgf] at h; cases h⟩
          | g cs => exact ⟨fun _ => hr, fun h => by rw [hgf] at h; cases h⟩
          | _ => exact trivial
        rcases hs hact cx N M β a w i with ⟨v, e, hr⟩ | ⟨f, vs, e, hc⟩
        · exact .inl ⟨v, e, hwr hr⟩
        · exact .inr ⟨f, vs, e, hc.mono fun e' w' ⟨v, M', h1, h2, h3⟩ => ⟨v, M', h1, hwr h2, h3⟩⟩
      refine ⟨opV.nd h, Oper.wp_mono ?_ (does_wp (K := fun σ' => σ' = setE σ d (wrapG gb r)) hd hN hdo i rfl)⟩
      rintro a' w' ⟨σ', M', β', rfl, h2, h3, h4⟩
      exact ⟨_, M', β', hk, by rw [appE_v hd]; exact h2, h3, h4⟩
    | false =>
      rw [if_neg (by rw [hw, hgf]; simp), hd]
      refine ⟨_, M, β, hk, ?_, Grow.refl _ _, Keep.refl _ _⟩
      rw [appE_v hd]
      refine i.put hN ?_
      cases r with
      | s x => exact ⟨fun h => (by rw [hgf] at h; cases h), fun _ => rfl⟩
      | g cs => exact ⟨fun h => (by rw [hgf] at h; cases h), fun _ => rfl⟩
      | _ => exact trivial
  unfold stepD at h
  simp only at h
  split at h
  · rename_i hg
    rw [if_pos (by simp [Region.wanted, hg])]
    exact run h
  · rename_i j pol hg
    split at h
    · exact h.elim
    · rename_i t ht
      split at h
      · rename_i b hv
        have hb : a.tmps.getD t undef = .bool b := by have := i.env t; rw [hv] at this; exact this
        have hw := wanted_eq hg ht hb
        cases b <;> cases pol
        · rw [if_pos (by rw [hw]; rfl)]; exact run h
        · rw [if_neg (by rw [hw]; simp)]; exact skip h
        · rw [if_neg (by rw [hw]; simp)]; exact skip h
        · rw [if_pos (by rw [hw]; rfl)]; exact run h
      · rename_i b hv
        have hb : a.tmps.getD t undef = .bool b := by have := i.env t; rw [hv] at this; exact this
        have hw := wanted_eq hg ht hb
        split at h
        · rename_i hx
          obtain ⟨hbp, h⟩ := h
          subst hbp
          have run' := run
          simp only [hx] at run'
          rw [if_pos (by rw [hw]; cases b <;> rfl)]; exact run' h
        · split at h
          · rename_i d hd
            cases hN : Nat.blt d N with
            | false => rw [hN] at h; exact h.elim
            | true =>
              rw [hN] at h
              exact part hd (Nat.le_of_ble_eq_true hN) h (by rw [hw]; cases b <;> cases pol <;> rfl)
          · exact h.elim
      · rename_i c b hv
        have hr : (AV.ib c (.d (.val (.bool b)))).Rep M β (a.tmps.getD t undef) := by have := i.env t; rw [hv] at this; exact this
        have hw : Region.wanted o (yielded all.toArray a.tmps) = (c && gpol pol b) := by
          cases c with
          | true => rw [wanted_eq hg ht (hr.1 rfl)]; cases b <;> cases pol <;> rfl
          | false => exact wanted_undef hg ht (hr.2 rfl)
        split at h
        · exact h.elim
        · split at h
          · rename_i d hd
            cases hN : Nat.blt d N with
            | false => rw [hN] at h; exact h.elim
            | true =>
              rw [hN] at h
              exact part hd (Nat.le_of_ble_eq_true hN) h hw
          · exact h.elim
      · exact h.elim

theorem Inv.eqv {σ σ' : St} {M : Mem} {β : Nm} {a : Act} {w : World} (i : Inv cx N M β σ a w) (h : Eqv σ σ') : Inv cx N M β σ' a w :=
  ⟨i.defers, i.tmps, i.heap, fun t => by rw [h.env]; exact i.env t, i.mem, fun x p e => by rw [h.box]; exact i.keys x p e, fun x bc e => i.box x bc (by rw [← h.box]; exact e),
   fun x y bx bby b c c' ex ey => i.inj x y bx bby b c c' (by rw [← h.box]; exact ex) (by rw [← h.box]; exact ey), fun x bc b c e => i.apart x bc b c (by rw [← h.box]; exact e), fun x bc b c e => i.low x bc b c (by rw [← h.box]; exact e), i.ref⟩

theorem AnyC.sound (hT : TabOK P T) (hrc : ∀ f, rc.contains (f + 2000000) = true → cx.ref = []) {md : Region.Mode} {ft : List Foot} {σf : St} {Q : Exit → Act → World → Prop} : ∀ (fuel : Nat) {listed : Array Bool} {σ : St} {M : Mem} {β : Nm} {a : Act} {w : World},
    AnyC P T N rc all md ft σf fuel listed σ → Inv cx N M β σ a w → (∀ a' w', Post cx N M w (fun σ' => σ' = σf) a' w' → Q .normal a' w') → wpAnyIn (FW cx.rd) 0 P md all.toArray Q fuel listed a w := by
  intro fuel
  induction fuel with
  | zero =>
    intro listed σ M β a w h i hQ
    exact ⟨h.1, hQ a w ⟨σf, M, β, rfl, i.eqv h.2.symm, Grow.refl _ _, Keep.refl _ _⟩⟩
  | succ fuel ih =>
    intro listed σ M β a w h i hQ
    refine ⟨fun h0 => hQ a w ⟨σf, M, β, rfl, i.eqv (h.1 h0).symm, Grow.refl _ _, Keep.refl _ _⟩, fun k hk => ?_⟩
    obtain ⟨o, e, f, ho, hf, hok, hrest⟩ := h.2 k hk
    have hst := stepD.sound (cx := cx) (Q := Q) hT hrc (hok.pt (fun e' => e' = e) rfl) i
    have ho' : all.toArray[k]? = some o := by simpa using ho
    have next : ∀ a' w', PostE cx N M w o σ (fun e' => e' = e) a' w' → wpAnyIn (FW cx.rd) 0 P md all.toArray Q fuel (listed.setIfInBounds k true) a' w' := by
      rintro a' w' ⟨e', M', β', rfl, hi, hg, hkp⟩
      exact ih hrest hi fun a2 w2 hp => hQ a2 w2 (hp.trans hg hkp)
    unfold wpOpIn
    rw [ho']
    simp only
    split
    · rename_i hw
      rw [if_pos hw] at hst
      exact opIn hst.1 (Oper.wp_mono next hst.2)
    · rename_i hw
      rw [if_neg hw] at hst
      exact ⟨fun _ _ => trivial, next _ _ hst⟩

def runD (P : Program) (T : List (Nat × TyI)) (N : Nat) (rc : List Nat) (all : List Oper) : List Oper → St → List Foot → (St → List Foot → Prop) → Prop
  | [], σ, fs, K => K σ fs.reverse
  | o :: rest, σ, fs, K => stepD P T N rc all o σ fun e => runD P T N rc all rest (appE o e σ) (footOf σ o e :: fs) K

theorem runD.chain : ∀ {l : List Oper} {σ : St} {fs : List Foot} {K : St → List Foot → Prop}, runD P T N rc all l σ fs K → ∃ es gs, Chain P T N rc all l σ es gs ∧ K (appAll l σ es) (fs.reverse ++ gs)
  | [], σ, fs, K, h => ⟨[], [], trivial, by have h' : K σ fs.reverse := h; simpa [appAll] using h'⟩
  | o :: rest, σ, fs, K, h => by
    obtain ⟨e, hk, hp⟩ := stepD.pt h
    obtain ⟨es, gs, hc, hK⟩ := runD.chain hk
    refine ⟨e :: es, footOf σ o e :: gs, ⟨⟨hp, rfl, rfl⟩, hc⟩, ?_⟩
    simpa [appAll] using hK

/-- A region that draws its order. -/
theorem AW.draw (hT : TabOK P T) (hrc : ∀ f, rc.contains (f + 2000000) = true → cx.ref = []) (hm : P.follows .mixedOrders = true) {id : Nat} {ops : Array Oper} {σ : St} {K : Exit → St → Prop}
    (h : runD P T N rc ops.toList ops.toList σ [] fun σ' fs => lexF .any ops.toList.toArray fs ops.toList.length 0 (Array.replicate ops.toList.length false) = true ∧ K .normal σ') : AW P cx N (.region id ops true) σ K := by
  obtain ⟨es, gs, hc, hl, hK⟩ := runD.chain h
  intro M β a w i
  refine wpIn_region_any hm ?_
  have hany := AnyC.lex (md := .any) (ft := gs) ops.toList 0 (Array.replicate ops.toList.length false) σ es gs (by simp) (by simp) (fun m om _ h => by simp [Array.getElem?_replicate] at h; split at h <;> simp_all) hl hc
  have hi : Inv cx N M β σ a { w with drawn := w.drawn + 1 } :=
    ⟨i.defers, i.tmps, ⟨i.heap.le, i.heap.tab⟩, i.env, i.mem, i.keys, i.box, i.inj, i.apart, i.low, i.ref⟩
  have := AnyC.sound (cx := cx) (Q := fun e a' w' => ∃ σ' M' β', K e σ' ∧ Inv cx N M' β' σ' a' w' ∧ Grow cx.B M M' ∧ Keep cx w w') hT hrc ops.toList.length hany hi (by
    rintro a' w' ⟨σ', M', β', rfl, h2, h3, h4⟩
    exact ⟨_, M', β', hK, h2, h3, ⟨h4.os, h4.tape, h4.output, h4.size, h4.block⟩⟩)
  simpa using this

end
end Go.Ax

/- The executor and its soundness. -/
namespace Go.Ax
open Go.RowKit

def exCond (σ : St) (c : Operand) (x y : Prop) : Prop :=
  match ev σ c with
  | .s (.d (.lit b)) => match b with
    | true => x
    | false => y
  | .s (.d (.val (.bool b))) => (b = true → x) ∧ (b = false → y)
  | _ => False
def exReg (P : Program) (T : List (Nat × TyI)) (N : Nat) (ref rc : List Nat) (ops : Array Oper) (dr : Bool) (σ : St) (K : Exit → St → Prop) : Prop :=
  match dr with
  | false => runOps P T N ref rc ops.toList ops.toList σ (K .normal)
  | true => runD P T N (bif ref.isEmpty then rc else rc.filter fun x => Nat.blt x 2000000) ops.toList ops.toList σ [] fun σ' fs => lexF .any ops.toList.toArray fs ops.toList.length 0 (Array.replicate ops.toList.length false) = true ∧ K .normal σ'
/-- The executor, by the recursor itself: the elaborator and the kernel unfold it alike. -/
def ex (P : Program) (T : List (Nat × TyI)) (N : Nat) (ref rc : List Nat) (cx : Cx) (c : Code) : St → (Exit → St → Prop) → Prop :=
  @Code.rec (fun _ => St → (Exit → St → Prop) → Prop)
    (fun σ K => K .normal σ)
    (fun _ ops dr σ K => exReg P T N ref rc ops dr σ K)
    (fun _ _ iha ihb σ K => iha σ (thenK (fun s => ihb s K) K))
    (fun c _ _ iha ihb σ K => exCond σ c (iha σ K) (ihb σ K))
    (fun id _ ih σ K => ih σ (blockK id K))
    (fun b _ σ K => AW P cx N (.loop b) σ K)
    (fun f p a b _ _ σ K => AW P cx N (.rangeFunc f p a b) σ K)
    (fun id σ K => K (.exit id) σ)
    (fun b _ σ K => AW P cx N (.scope b) σ K)
    (fun l σ K => AW P cx N (.label l) σ K)
    (fun l σ K => AW P cx N (.goto l) σ K)
    (fun σ K => K .ret σ)
    (fun w σ K => AW P cx N (.refuse w) σ K) c

theorem ex.sound {P : Program} {T : List (Nat × TyI)} {N : Nat} {ref rc : List Nat} {cx : Cx} (hT : TabOK P T) (hm : P.follows .mixedOrders = true) (href : cx.ref = ref) : ∀ (c : Code) {σ : St} {K : Exit → St → Prop}, ex P T N ref rc cx c σ K → AW P cx N c σ K := by
  intro c
  induction c with
  | skip => exact fun h => AW.skip h
  | ret => exact fun h => AW.ret h
  | exit id => exact fun h => AW.exit h
  | seq x y ihx ihy =>
    intro σ K h
    refine AW.seq (AW.mono (ihx h) ?_)
    intro e s hk
    cases e with
    | normal => exact ihy hk
    | _ => exact hk
  | block id c ih => exact fun h => AW.block (ih h)
  | cond c x y ihx ihy =>
    intro σ K h
    replace h : exCond σ c (ex P T N ref rc cx x σ K) (ex P T N ref rc cx y σ K) := h
    unfold exCond at h
    intro M β a w i
    split at h
    · rename_i b hv
      have hb : a.eval c = .bool b := by have := ev.rep i c; rw [hv] at this; exact this
      cases b with
      | true => exact wpIn_cond_true hb (ihx h M β a w i)
      | false => exact wpIn_cond_false hb (ihy h M β a w i)
    · rename_i b hv
      have hb : a.eval c = .bool b := by have := ev.rep i c; rw [hv] at this; exact this
      exact wpIn_cond_split hb (fun hb => ihx (h.1 hb) M β a w i) (fun hb => ihy (h.2 hb) M β a w i)
    · exact h.elim
  | region id ops dr =>
    intro σ K h
    replace h : exReg P T N ref rc ops dr σ K := h
    unfold exReg at h
    cases dr with
    | true =>
      refine AW.draw hT (fun f hf => ?_) hm h
      cases hr : ref.isEmpty with
      | true => rw [href]; exact List.isEmpty_iff.1 hr
      | false =>
        rw [hr] at hf
        simp only [cond_false, List.contains_eq_mem, decide_eq_true_eq, List.mem_filter] at hf
        have := Nat.le_of_ble_eq_true hf.2
        omega
    | false =>
      intro M β a w i
      have := runOps.sound (Q := fun e a' w' => ∃ σ' M' β', K e σ' ∧ Inv cx N M' β' σ' a' w' ∧ Grow cx.B M M' ∧ Keep cx w w') hT href ops.toList h i (fun a' w' hp => hp)
      exact wpIn_region_list (by simpa using this)
  | _ => exact fun h => h

end Go.Ax
