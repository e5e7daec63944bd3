/- Part 2: lemmas that the proofs of this seat share; by itself it claims nothing. -/
import Derived.IntWalk
import Derived.Laws.CopyRow
import Derived.Laws.IdiomCopy
import Derived.Maps.RangeRun
import Derived.Carry
import Derived.Test.YtgkghihpebdpgaaPt1
/- Slices of slices and strings; make. -/
namespace Go.Ax
open Go.RowKit
section
variable {P : Program} {σ : St} {g : Option Bool} {K : AV → Prop} {o : Oper}

def optI (g : Option Bool) (σ : St) (x : Option Operand) (K : Option Int → Prop) : Prop :=
  match x with
  | none => K none
  | some x => fe g (ev σ x) fun va => match va with
    | .s (.d (.val (.int _ n))) => K (some n)
    | _ => False
theorem optI.spec {x : Option Operand} {K : Option Int → Prop} (h : optI g σ x K) :
    ∃ r, K r ∧ (act g → ∀ cx N M β a w, Inv cx N M β σ a w → (r = none ∧ x.map a.eval = none) ∨ ∃ k n, r = some n ∧ x.map a.eval = some (.int k n)) := by
  cases x with
  | none => exact ⟨none, h, fun _ _ _ _ _ _ _ _ => .inl ⟨rfl, rfl⟩⟩
  | some x =>
    simp only [optI] at h
    replace h := fe.ev h
    obtain ⟨va, h, hr⟩ := h
    split at h
    case h_2 => exact h.elim
    rename_i k n
    refine ⟨_, h, fun ha cx N M β a w i => .inr ⟨k, n, rfl, ?_⟩⟩
    have : a.eval x = .int k n := hr ha cx N M β a w i
    simp [this]

def sliceV (T : List (Nat × TyI)) (σ : St) (t : Nat) (g : Option Bool) (vx : AV) (lo hi : Option Operand) (K : AV → Prop) : Prop :=
  match getT T t with
  | some ti => match ti.und with
    | .slice e => match getT T e with
      | some te => match vx with
        | .s (.d (.slc n s f)) => bif Nat.beq s te.size then optI g σ lo fun l => optI g σ hi fun h =>
            imp g (0 ≤ l.getD 0 ∧ l.getD 0 ≤ h.getD n ∧ h.getD n ≤ n) ∧
            (match l with
            | none => K (.s (.d (.slc (h.getD n).toNat s f)))
            | some l => K (.s (.d (.slc (h.getD n - l).toNat s fun i => f (l.toNat + i)))))
            else False
        | .s (.own x) => match getB σ.box x with
          | some (some (.row _ n s _)) => bif Nat.beq s te.size then optI g σ lo fun l => optI g σ hi fun h =>
              imp g (0 ≤ l.getD 0 ∧ l.getD 0 ≤ h.getD n ∧ h.getD n ≤ n) ∧ K (.s (.osl x s (l.getD 0).toNat ((h.getD n).toNat - (l.getD 0).toNat))) else False
          | _ => False
        | .s (.osl x s lo0 n) => bif Nat.beq s te.size then optI g σ lo fun l => optI g σ hi fun h =>
              imp g (0 ≤ l.getD 0 ∧ l.getD 0 ≤ h.getD n ∧ h.getD n ≤ n) ∧ K (.s (.osl x s (lo0 + (l.getD 0).toNat) ((h.getD n).toNat - (l.getD 0).toNat))) else False
        | .s (.d (.val (.slice none 0 0))) => optI g σ lo fun l => optI g σ hi fun h =>
              imp g (l.getD 0 = 0 ∧ h.getD 0 = 0) ∧ K (.s (.d (.val (.slice none 0 0))))
        | _ => False
      | none => False
    | .string => match vx with
      | .s (.d (.val (.string s))) => optI g σ lo fun l => optI g σ hi fun h =>
            imp g (0 ≤ l.getD 0 ∧ l.getD 0 ≤ h.getD s.size ∧ h.getD s.size ≤ s.size) ∧
            K (.s (.d (.val (.string (s.extract (l.getD 0).toNat (h.getD s.size).toNat)))))
      | _ => False
    | _ => False
  | none => False

theorem sliceV.spec {T : List (Nat × TyI)} (hT : TabOK P T) {t : Nat} {x : Operand} {lo hi : Option Operand} (ho : o.op = .slice t x lo hi none)
    (h : fe g (ev σ x) fun va => sliceV T σ t g va lo hi K) : ∃ r, K r ∧ Pure1 P o σ g r := by
  replace h := fe.ev h
  obtain ⟨va, h, hr⟩ := h
  unfold sliceV at h
  split at h
  case h_2 => exact h.elim
  rename_i ti hti
  have hok := hT.get hti
  -- the bounds
  have bounds : ∀ (isS : Bool) (n cap : Nat) (l h : Option Int) (lv hv : Option Value) (w : World), n ≤ cap → 0 ≤ l.getD 0 → l.getD 0 ≤ h.getD n → h.getD n ≤ n →
      ((l = none ∧ lv = none) ∨ ∃ k q, l = some q ∧ lv = some (.int k q)) → ((h = none ∧ hv = none) ∨ ∃ k q, h = some q ∧ hv = some (.int k q)) →
      (Instr.sliceBounds isS n cap lv hv none).run P w = .ok ((l.getD 0).toNat, (h.getD n).toNat, cap) w := by
    intro isS n cap l h lv hv w hn h0 h1 h2 hl hh
    have hB : ∀ (code : Instr.sliceBound = Instr.sliceBound) (k : IntKind) (q : Int) (y : Nat) (c : BoundsCode), 0 ≤ q → q ≤ y → (Instr.sliceBound (.int k q) y c).run P w = .ok q.toNat w := by
      intro _ k q y c q0 q1
      simp [Instr.sliceBound, asIntOf, q0, q1]
    rcases hl with ⟨rfl, rfl⟩ | ⟨kl, ql, rfl, rfl⟩ <;> rcases hh with ⟨rfl, rfl⟩ | ⟨kh, qh, rfl, rfl⟩
    · simp [Instr.sliceBounds]
    · simp only [Option.getD_some, Option.getD_none] at h0 h1 h2 ⊢
      simp [Instr.sliceBounds, hB rfl kh qh cap _ h1 (by omega)]
    · simp only [Option.getD_some, Option.getD_none] at h0 h1 h2 ⊢
      simp [Instr.sliceBounds, hB rfl kl ql n _ h0 h1]
    · simp only [Option.getD_some] at h0 h1 h2 ⊢
      simp [Instr.sliceBounds, hB rfl kh qh cap _ (by omega) (by omega), hB rfl kl ql qh.toNat _ h0 (by omega)]
  split at h
  case h_3 => exact h.elim
  · rename_i e hu
    have hund : P.underlying t = some (.slice e) := hok.isSlice hu
    split at h
    case h_2 => exact h.elim
    rename_i te hte
    have hoke := hT.get hte
    split at h
    case h_5 => exact h.elim
    case h_4 =>
      replace h := optI.spec h
      obtain ⟨l, h, hl⟩ := h
      replace h := optI.spec h
      obtain ⟨hh, h, hhh⟩ := h
      obtain ⟨hb, h⟩ := h
      refine ⟨_, h, fun ha cx N M β a w i => ⟨.slice none 0 0, ?_, rfl⟩⟩
      obtain ⟨h0, h1⟩ := hb.get ha
      have ex : a.eval x = .slice none 0 0 := hr ha cx N M β a w i
      have hbd := bounds true 0 0 l hh (lo.map a.eval) (hi.map a.eval) w (Nat.le_refl _) (by omega) (by simp only [Int.natCast_zero] at *; omega) (by simp only [Int.natCast_zero] at *; omega) (hl ha cx N M β a w i) (hhh ha cx N M β a w i)
      rw [h0, show hh.getD ((0 : Nat) : Int) = 0 from h1] at hbd
      simp [execOp, ho, ex, Instr.sliceAt, Instr.slice, run_underlying hund, hbd, hoke.run_size]
    rotate_left
    · rename_i x'
      split at h
      case h_2 => exact h.elim
      rename_i e' n s f hbx
      cases hs : Nat.beq s te.size with
      | false => rw [hs] at h; exact h.elim
      | true =>
        rw [hs] at h
        have hs := Nat.eq_of_beq_eq_true hs
        simp only [cond_true] at h
        replace h := optI.spec h
        obtain ⟨l, h, hl⟩ := h
        replace h := optI.spec h
        obtain ⟨hh, h, hhh⟩ := h
        obtain ⟨hb, h⟩ := h
        refine ⟨_, h, fun ha cx N M β a w i => ?_⟩
        obtain ⟨h0, h1, h2⟩ := hb.get ha
        obtain ⟨b, c, e1, ex, hcc⟩ := hr ha cx N M β a w i
        obtain ⟨b2, c2, cur, e2, _, hlen, _⟩ := i.box x' _ hbx
        rw [e1] at e2; cases e2
        rw [hlen] at ex hcc
        have hbd := bounds true n c.1 l hh (lo.map a.eval) (hi.map a.eval) w hcc h0 h1 h2 (hl ha cx N M β a w i) (hhh ha cx N M β a w i)
        refine ⟨.slice (some ⟨b, (if c.1 = (l.getD 0).toNat then 0 else (l.getD 0).toNat * te.size), none⟩) ((hh.getD n).toNat - (l.getD 0).toNat) (c.1 - (l.getD 0).toNat), ?_, b, c, _, e1, rfl, fun hlt => ?_, by rw [hlen]; omega, by rw [hlen]; exact hcc⟩
        · have hrun : (execOp a.eval o).run P w = .ok (.value (.slice (if c.1 = (l.getD 0).toNat then some ⟨b, 0, none⟩ else (some (⟨b, 0, none⟩ : Addr)).map (·.add ((l.getD 0).toNat * te.size))) ((hh.getD n).toNat - (l.getD 0).toNat) (c.1 - (l.getD 0).toNat))) w := by
            simp [execOp, ho, ex, Instr.sliceAt, Instr.slice, run_underlying hund, hbd, hoke.run_size]
          rw [hrun]
          by_cases hq : c.1 = (l.getD 0).toNat
          · rw [if_pos hq, if_pos hq]
          · rw [if_neg hq, if_neg hq]; simp [cell_add]
        · rw [if_neg (by omega), hs]
    · rename_i x' s lo0 n
      cases hs : Nat.beq s te.size with
      | false => rw [hs] at h; exact h.elim
      | true =>
        rw [hs] at h
        have hs := Nat.eq_of_beq_eq_true hs
        simp only [cond_true] at h
        replace h := optI.spec h
        obtain ⟨l, h, hl⟩ := h
        replace h := optI.spec h
        obtain ⟨hh, h, hhh⟩ := h
        obtain ⟨hb, h⟩ := h
        refine ⟨_, h, fun ha cx N M β a w i => ?_⟩
        obtain ⟨h0, h1, h2⟩ := hb.get ha
        obtain ⟨b, c, o', e1, ex, hoo, hc1, hc2⟩ := hr ha cx N M β a w i
        have hbd := bounds true n (c.1 - lo0) l hh (lo.map a.eval) (hi.map a.eval) w (by omega) h0 h1 h2 (hl ha cx N M β a w i) (hhh ha cx N M β a w i)
        refine ⟨.slice (some ⟨b, (if c.1 - lo0 = (l.getD 0).toNat then o' else o' + (l.getD 0).toNat * te.size), none⟩) ((hh.getD n).toNat - (l.getD 0).toNat) (c.1 - lo0 - (l.getD 0).toNat), ?_, b, c, _, e1, by rw [Nat.sub_sub], fun hlt => ?_, by omega, hc2⟩
        · have hrun : (execOp a.eval o).run P w = .ok (.value (.slice (if c.1 - lo0 = (l.getD 0).toNat then some ⟨b, o', none⟩ else (some (⟨b, o', none⟩ : Addr)).map (·.add ((l.getD 0).toNat * te.size))) ((hh.getD n).toNat - (l.getD 0).toNat) (c.1 - lo0 - (l.getD 0).toNat))) w := by
            simp [execOp, ho, ex, Instr.sliceAt, Instr.slice, run_underlying hund, hbd, hoke.run_size]
          rw [hrun]
          by_cases hq : c.1 - lo0 = (l.getD 0).toNat
          · rw [if_pos hq, if_pos hq]
          · rw [if_neg hq, if_neg hq]; simp [cell_add]
        · rw [if_neg (by omega), hoo (by omega), hs, Nat.add_mul]
    rename_i n s f
    cases hs : Nat.beq s te.size with
    | false => rw [hs] at h; exact h.elim
    | true =>
      rw [hs] at h
      have hs := Nat.eq_of_beq_eq_true hs
      simp only [cond_true] at h
      replace h := optI.spec h
      obtain ⟨l, h, hl⟩ := h
      replace h := optI.spec h
      obtain ⟨hh, h, hhh⟩ := h
      obtain ⟨hb, h⟩ := h
      have run : ∀ (ha : act g) cx N M β a w, Inv cx N M β σ a w → ∃ ad cap, n ≤ cap ∧ (n = 0 ∨ ∃ b o, ad = some ⟨b, o, none⟩ ∧ ∀ i j, i < n → j < s → ∃ u, M b (o + i * s + j) = some u ∧ (f i j).Rep M u) ∧
          (execOp a.eval o).run P w = .ok (.value (.slice (if cap = (l.getD 0).toNat then ad else ad.map (·.add ((l.getD 0).toNat * te.size))) ((hh.getD n).toNat - (l.getD 0).toNat) (cap - (l.getD 0).toNat))) w := by
        intro ha cx N M β a w i
        obtain ⟨h0, h1, h2⟩ := hb.get ha
        obtain ⟨ad, cap, ex, hcap, hc⟩ := hr ha cx N M β a w i
        refine ⟨ad, cap, hcap, hc, ?_⟩
        have hbd := bounds true n cap l hh (lo.map a.eval) (hi.map a.eval) w hcap h0 h1 h2 (hl ha cx N M β a w i) (hhh ha cx N M β a w i)
        simp [execOp, ho, ex, Instr.sliceAt, Instr.slice, run_underlying hund, hbd, hoke.run_size]
      cases l with
      | none =>
        refine ⟨_, h, fun ha cx N M β a w i => ?_⟩
        obtain ⟨ad, cap, hcap, hc, hrun⟩ := run ha cx N M β a w i
        obtain ⟨h0, h1, h2⟩ := hb.get ha
        have e1 : (if cap = ((none : Option Int).getD 0).toNat then ad else ad.map (·.add (((none : Option Int).getD 0).toNat * te.size))) = ad := by
          cases ad with
          | none => simp
          | some q => simp [Addr.add]
        rw [e1] at hrun
        refine ⟨_, hrun, ad, cap, by simp, by omega, ?_⟩
        by_cases hz : (hh.getD n).toNat = 0
        · exact .inl hz
        · rcases hc with hc | ⟨b, o', rfl, hc⟩
          · omega
          · exact .inr ⟨b, o', rfl, fun i j hi hj => hc i j (by omega) hj⟩
      | some l =>
        refine ⟨_, h, fun ha cx N M β a w i => ?_⟩
        obtain ⟨ad, cap, hcap, hc, hrun⟩ := run ha cx N M β a w i
        obtain ⟨h0, h1, h2⟩ := hb.get ha
        simp only [Option.getD_some] at h0 h1 h2 hrun
        have hq : (hh.getD n).toNat - l.toNat = (hh.getD n - l).toNat := by omega
        rw [hq] at hrun
        refine ⟨_, hrun, (if cap = l.toNat then ad else ad.map (·.add (l.toNat * te.size))), cap - l.toNat, rfl, by omega, ?_⟩
        · by_cases hz : (hh.getD n - l).toNat = 0
          · exact .inl hz
          · rcases hc with hc | ⟨b, o', rfl, hc⟩
            · omega
            · refine .inr ⟨b, o' + l.toNat * te.size, ?_, fun i j hi hj => ?_⟩
              · rw [if_neg (by omega)]; simp [cell_add]
              · obtain ⟨u, hu, hru⟩ := hc (l.toNat + i) j (by omega) hj
                refine ⟨u, ?_, hru⟩
                rw [← hs, Nat.add_assoc o', ← Nat.add_mul]
                exact hu
  · rename_i hu
    have hund : P.underlying t = some .string := hok.isString hu
    split at h
    case h_2 => exact h.elim
    rename_i s
    replace h := optI.spec h
    obtain ⟨l, h, hl⟩ := h
    replace h := optI.spec h
    obtain ⟨hh, h, hhh⟩ := h
    obtain ⟨hb, h⟩ := h
    refine ⟨_, h, fun ha cx N M β a w i => ⟨_, ?_, rfl⟩⟩
    obtain ⟨h0, h1, h2⟩ := hb.get ha
    have ex : a.eval x = .string s := hr ha cx N M β a w i
    have hbd := bounds false s.size s.size l hh (lo.map a.eval) (hi.map a.eval) w (Nat.le_refl _) h0 h1 h2 (hl ha cx N M β a w i) (hhh ha cx N M β a w i)
    simp [execOp, ho, ex, Instr.sliceAt, Instr.slice, run_underlying hund, hbd]

end

section
variable {P : Program} {σ : St} {K : AV → Boxes → Prop} {o : Oper}

/-- make([]T, n). -/
def mkX (T : List (Nat × TyI)) (σ : St) (d t : Nat) (x y : Operand) (K : AV → Boxes → Prop) : Prop :=
  fe none (ev σ x) fun vx => fe none (ev σ y) fun vy => match vx, vy with
    | .s (.d (.val (.int .i64 n))), .s (.d (.val (.int .i64 c))) => match getT T t with
      | some ti => match ti.und with
        | .slice e => match getT T e with
          | some te => bif Nat.blt 0 te.size && Nat.blt 0 te.bytes && Nat.beq te.zero.length te.size then match getB σ.box d with
            | none => 0 ≤ n ∧ n ≤ c ∧ te.bytes * c ≤ 281474976710656 ∧
                K (.s (.own d)) ((d, some (.row e n.toNat te.size fun _ j => match (zvs te.zero)[j]? with | some c => dOf c | none => .junk)) :: σ.box)
            | some _ => False
            else False
          | none => False
        | _ => False
      | none => False
    | _, _ => False

theorem mk.spec {T : List (Nat × TyI)} (hT : TabOK P T) {d t : Nat} {x y : Operand} (ho : o.op = .makeSlice t x y) (h : mkX T σ d t x y K) : ∃ r bx, K r bx ∧ Eff P o σ r bx := by
  unfold mkX at h
  replace h := fe.ev h
  obtain ⟨vx, h, hrx⟩ := h
  replace h := fe.ev h
  obtain ⟨vy, h, hry⟩ := h
  split at h
  case h_2 => exact h.elim
  rename_i n c
  split at h
  case h_2 => exact h.elim
  rename_i ti hti
  have hok := hT.get hti
  split at h
  case h_2 => exact h.elim
  rename_i e hu
  have hund : P.underlying t = some (.slice e) := hok.isSlice hu
  split at h
  case h_2 => exact h.elim
  rename_i te hte
  have hoke := hT.get hte
  cases hc : (Nat.blt 0 te.size && Nat.blt 0 te.bytes && Nat.beq te.zero.length te.size) with
  | false => rw [hc] at h; exact h.elim
  | true =>
    rw [hc] at h
    simp only [cond_true] at h
    simp only [Bool.and_eq_true] at hc
    have c2 : 0 < te.size := Nat.le_of_ble_eq_true hc.1.1
    have c3 : 0 < te.bytes := Nat.le_of_ble_eq_true hc.1.2
    have c4 := Nat.eq_of_beq_eq_true hc.2
    split at h
    case h_2 => exact h.elim
    rename_i hd
    obtain ⟨h0, h1, h2, h⟩ := h
    refine ⟨_, _, h, fun cx N M β a w i => ?_⟩
    have ex : a.eval x = .int .i64 n := hrx actN cx N M β a w i
    have ey : a.eval y = .int .i64 c := hry actN cx N M β a w i
    obtain ⟨ie, z, hie, his, hib, hiz, hzc⟩ := hoke.infoZ
    have hzs : z.cells.size = te.size := by rw [← Array.length_toList, hzc, c4]
    have hcb : c ≤ (te.bytes : Int) * c := by
      have : (1 : Int) * c ≤ (te.bytes : Int) * c := Int.mul_le_mul_of_nonneg_right (by omega) (by omega)
      omega
    have hw1 : IntKind.i64.wrap n = n := IntWalk.i64_in n ⟨by omega, by omega⟩
    have hw2 : IntKind.i64.wrap c = c := IntWalk.i64_in c ⟨by omega, by omega⟩
    have hrunE : (Instr.makeSlice t (.int .i64 n) (.int .i64 c)).run P w = .ok (.slice (some ⟨w.heap.size, 0, none⟩) n.toNat c.toNat) (w.alloc (.cells ((Array.range (c.toNat * te.size)).map (z.cells[· % z.cells.size]!)) e)) := by
      have t1 : ¬ (c < 0) := by omega
      have t2 : ¬ (n < 0) := by omega
      have t3 : ¬ (n > c) := by omega
      by_cases hz : c.toNat * te.size = 0
      · have e0 : ∀ f : Nat → Value, Array.map f (Array.range 0) = #[] := fun f => by apply Array.ext'; simp [Array.toList_range]
        simp [Instr.makeSlice, run_underlying hund, asInt, asIntOf, typeInfo, hie, hib, hw1, hw2, t1, t2, t3, sizeOf, his, hz, e0, newRow]
        omega
      · simp [Instr.makeSlice, run_underlying hund, asInt, asIntOf, typeInfo, hie, hib, hw1, hw2, t1, t2, t3, sizeOf, his, hz, zeroValue, hiz, newRow]
        omega
    have hrun : (execOp a.eval o).run P w = .ok (.value (.slice (some ⟨w.heap.size, 0, none⟩) n.toNat c.toNat)) (w.alloc (.cells ((Array.range (c.toNat * te.size)).map (z.cells[· % z.cells.size]!)) e)) := by
      simp [execOp, ho, ex, ey, hrunE]
    obtain ⟨β', b1, b2, b3, b4⟩ := i.new (w' := w.alloc (.cells ((Array.range (c.toNat * te.size)).map (z.cells[· % z.cells.size]!)) e)) (c := (c.toNat, n.toNat)) hd (ob := .cells ((Array.range (c.toNat * te.size)).map (z.cells[· % z.cells.size]!)) e) rfl rfl rfl rfl
      (bc := .row e n.toNat te.size fun _ j => match (zvs te.zero)[j]? with | some c => dOf c | none => .junk) (by
      intro β' hβd _
      refine ⟨_, _, _, hβd, heap_alloc_new w _, rfl, by simp, by show n.toNat ≤ c.toNat; omega, by show c.toNat ≤ maxLen; unfold maxLen; omega, fun k j hk hj => ?_⟩
      have hlt : k * te.size + j < c.toNat * te.size := by
        have : (k + 1) * te.size ≤ c.toNat * te.size := Nat.mul_le_mul_right _ (by omega)
        rw [Nat.succ_mul] at this; omega
      have hmod : (k * te.size + j) % te.size = j := by rw [Nat.mul_comm, Nat.mul_add_mod, Nat.mod_eq_of_lt hj]
      have hjz : j < z.cells.size := by rw [hzs]; exact hj
      refine ⟨z.cells[j], ?_, ?_⟩
      · simp only [Array.getElem?_map, Array.getElem?_range, hlt, if_true, Option.map_some, hzs, hmod, getElem!_pos z.cells j hjz]
      · have hjl : j < te.zero.length := by rw [c4]; exact hj
        have hzj : z.cells[j] = te.zero[j] := by
          have : z.cells.toList[j]? = te.zero[j]? := by rw [hzc]
          simpa [hjz, hjl] using this
        have hlen : (zvs te.zero).length = te.zero.length := by
          have := (zvs.rep M β te.zero).length
          omega
        obtain ⟨u, hu, hr⟩ := (zvs.rep M β te.zero).get (List.getElem?_eq_getElem (by rw [hlen]; exact hjl : j < (zvs te.zero).length))
        rw [List.getElem?_eq_getElem hjl] at hu
        cases hu
        simp only [List.getElem?_eq_getElem (by rw [hlen]; exact hjl : j < (zvs te.zero).length)]
        rw [hzj]
        have had : ∀ l : List Value, allD (zvs l) = true := by
          intro l
          induction l with
          | nil => rfl
          | cons v r ih => cases v <;> exact ih
        have := allD.dOf (had te.zero) (List.getElem?_eq_getElem (by rw [hlen]; exact hjl : j < (zvs te.zero).length))
        rw [this] at hr
        exact hr)
    exact ⟨_, _, M, β', .inl hrun, ⟨_, _, b1, rfl, by show n.toNat ≤ c.toNat; omega⟩, b3, Grow.refl _ _, b4⟩

end
end Go.Ax

/- copy(dst, src). -/
namespace Go.Ax
open Go.RowKit

/-- The row that copy writes: its box, and where. -/
def dstX : AV → Option (Nat × Nat × Option Nat)
  | .s (.own y) => some (y, 0, none)
  | .s (.osl y 1 lo n) => some (y, lo, some n)
  | _ => none

def cpF (lo q : Nat) (f g : Nat → Nat → DV) : Nat → Nat → DV := fun i j => if lo ≤ i ∧ i < lo + q then g (i - lo) j else f i j

section
variable {P : Program} {σ : St} {K : AV → Boxes → Prop} {o : Oper}

def copyX (T : List (Nat × TyI)) (σ : St) (t : Nat) (x y : Operand) (K : AV → Boxes → Prop) : Prop :=
  fe none (ev σ x) fun vx => fe none (ev σ y) fun vy => match getT T t with
  | some ti => match ti.und with
    | .slice e => match getT T e with
      | some te => match srcX σ vy with
        | some (k, s', g) => match dstX vx with
          | some (b, lo, m) => match getB σ.box b with
            | some (some (.row e' n s f)) => bif Nat.beq te.size 1 && Nat.beq s 1 && Nat.beq s' 1 then
                fitAll k 1 g ∧ K (vint .i64 ((Nat.min k (m.getD n) : Nat) : Int)) ((b, some (.row e' n s (cpF lo (Nat.min k (m.getD n)) f g))) :: σ.box) else False
            | _ => False
          | none => False
        | none => False
      | none => False
    | _ => False
  | none => False

theorem copy.spec {T : List (Nat × TyI)} (hT : TabOK P T) {t t' : Nat} {x y : Operand} (ho : o.op = .call { callee := .builtin .copy, args := #[x, y], argTypes := #[t, t'] })
    (h : copyX T σ t x y K) : ∃ r bx, K r bx ∧ Eff P o σ r bx := by
  unfold copyX at h
  replace h := fe.ev h
  obtain ⟨vx, h, hrx⟩ := h
  replace h := fe.ev h
  obtain ⟨vy, h, hry⟩ := h
  split at h
  case h_2 => exact h.elim
  rename_i ti hti
  have hok := hT.get hti
  split at h
  case h_2 => exact h.elim
  rename_i e hu
  have hund : P.underlying t = some (.slice e) := hok.isSlice hu
  split at h
  case h_2 => exact h.elim
  rename_i te hte
  have hoke := hT.get hte
  split at h
  case h_2 => exact h.elim
  rename_i k s' g hsrc
  split at h
  case h_2 => exact h.elim
  rename_i b lo m hdst
  split at h
  case h_2 => exact h.elim
  rename_i e' n s f hb
  cases hc : (Nat.beq te.size 1 && Nat.beq s 1 && Nat.beq s' 1) with
  | false => rw [hc] at h; exact h.elim
  | true =>
    rw [hc] at h
    simp only [cond_true] at h
    simp only [Bool.and_eq_true] at hc
    have c1 := Nat.eq_of_beq_eq_true hc.1.1
    have c2 := Nat.eq_of_beq_eq_true hc.1.2
    have c3 := Nat.eq_of_beq_eq_true hc.2
    subst c2; subst c3
    obtain ⟨hfit, h⟩ := h
    refine ⟨_, _, h, fun cx N M β a w i => ?_⟩
    obtain ⟨ie, z, hie, his, hib, hiz, hzc⟩ := hoke.infoZ
    have hs1 : (P.info? e).map (·.size) = some 1 := by simp [hie, his, c1]
    obtain ⟨ad, cap, ey, hy⟩ := srcX.rep i hsrc (hry actN cx N M β a w i)
    obtain ⟨k0, c, cur, e1, hh, hlen, hsz, hn, hcm, hcell⟩ := i.box b _ hb
    -- where dst lies
    obtain ⟨o', dc, ex, hoo, hin⟩ : ∃ o' dc, a.eval x = .slice (some ⟨k0, o', none⟩) (m.getD n) dc ∧ (0 < m.getD n → o' = lo) ∧ lo + m.getD n ≤ n := by
      have hr := hrx actN cx N M β a w i
      unfold dstX at hdst
      split at hdst
      · cases hdst
        obtain ⟨b2, c2, e2, ex, _⟩ := hr
        rw [e1] at e2; cases e2
        exact ⟨0, c.1, by rw [ex, hlen]; rfl, fun _ => rfl, by simp⟩
      · cases hdst
        obtain ⟨b2, c2, o2, e2, ex, h1, h2, h3⟩ := hr
        rw [e1] at e2; cases e2
        rename_i n'
        refine ⟨o2, _, ex, fun hp => ?_, by rw [← hlen]; exact h2⟩
        have := h1 (by simp at hp; omega)
        omega
      · cases hdst
    have run : ∀ (w' : World) (r : Value), (Builtin.copy_ #[t, t'] o.type #[a.eval x, a.eval y]).run P w = .ok r w' → (execOp a.eval o).run P w = .ok (.value r) w' := by
      intro w' r h
      simp [execOp, ho, resolve, invoke, builtin, h]
    generalize hq : Nat.min k (m.getD n) = q
    have hqk : q ≤ k := hq ▸ Nat.min_le_left _ _
    have hqm : q ≤ m.getD n := hq ▸ Nat.min_le_right _ _
    by_cases h0 : q = 0
    · have hrun := run_copy_none (P := P) w t t' o.type e (some ⟨k0, o', none⟩) ad (m.getD n) dc k cap hund hs1 (by rw [← h0]; exact hq)
      rw [← ex, ← ey] at hrun
      have hw := i.write (bc' := .row e' n 1 (cpF lo q f g)) hb e1 (w' := w) rfl (fun _ _ => rfl) rfl rfl rfl
        ⟨k0, c, cur, e1, hh, hlen, hsz, hn, hcm, fun i' j hi' hj => by
          have : cpF lo q f g i' j = f i' j := by unfold cpF; rw [if_neg (by omega)]
          rw [this]; exact hcell i' j hi' hj⟩
      refine ⟨_, w, M, β, .inl (run _ _ hrun), ?_, hw.1, Grow.refl _ _, hw.2⟩
      rw [h0]; rfl
    · have hpos : 0 < q := by omega
      rcases hy with hy | ⟨sb, so, rfl, hy⟩
      · omega
      obtain ⟨bad, news, hbad, hl, hcells, hreps⟩ := newsOf (w := w) (M := M) (g := g) (m := q) (s := 1) (ad := some ⟨sb, so, none⟩) (by omega) hpos (.inr ⟨sb, so, rfl, fun k1 j hk hj => hy k1 j (by omega) hj⟩)
      cases hbad
      have h1 : ∀ u ∈ news, u.oneCell' = true := by
        intro u hu
        obtain ⟨j, hj⟩ := List.getElem?_of_mem hu
        have hjl : j < q := by have := (List.getElem?_eq_some_iff.1 hj).1; omega
        obtain ⟨v, hv, hr⟩ := hreps j 0 hjl (by omega)
        rw [show j * 1 + 0 = j by omega, hj] at hv; cases hv
        have hft := hfit j 0 (by omega) (by omega)
        exact DV.Rep.oneCell hr (by cases hx : g j 0 <;> rw [hx] at hft <;> first | exact hft | rfl | cases hft)
      have ho' := hoo (by omega)
      subst ho'
      have hrun := run_copy_row (P := P) w t t' o.type e k0 o' (m.getD n) dc ⟨sb, so, none⟩ k cap cur e' news hund hs1 hh (by rw [hl, Nat.mul_one]; exact hq.symm) hcells (by rw [hl, hsz]; omega) h1
      rw [← ex, ← ey] at hrun
      have hw := i.write (bc' := .row e' n 1 (cpF o' q f g)) hb e1 (w' := w.setRow k0 (cur.toList.take o' ++ news ++ cur.toList.drop (o' + news.length)).toArray) (by simp) (fun j hj => setRow_other w k0 j _ hj) rfl rfl rfl
        ⟨k0, c, _, e1, setRow_heap w k0 cur _ e' _ hh, hlen, by simp; omega, hn, hcm, fun i' j hi' hj => by
          have htl : (cur.toList.take o').length = o' := by simp; omega
          have hj0 : j = 0 := by omega
          subst hj0
          simp only [List.getElem?_toArray]
          by_cases hin' : o' ≤ i' ∧ i' < o' + q
          · obtain ⟨u, hu, hr⟩ := hreps (i' - o') 0 (by omega) (by omega)
            refine ⟨u, ?_, by unfold cpF; rw [if_pos hin']; exact hr⟩
            rw [List.append_assoc, List.getElem?_append_right (by omega), htl, List.getElem?_append_left (by omega)]
            rw [show i' * 1 + 0 - o' = (i' - o') * 1 + 0 by omega]
            exact hu
          · obtain ⟨u, hu, hr⟩ := hcell i' 0 hi' (by omega)
            refine ⟨u, ?_, by unfold cpF; rw [if_neg hin']; exact hr⟩
            by_cases hlt : i' < o'
            · rw [List.append_assoc, List.getElem?_append_left (by omega), List.getElem?_take_of_lt (by omega)]
              simpa using hu
            · rw [List.append_assoc, List.getElem?_append_right (by omega), htl, List.getElem?_append_right (by omega), List.getElem?_drop]
              rw [show o' + news.length + (i' * 1 + 0 - o' - news.length) = i' * 1 + 0 by omega]
              simpa using hu⟩
      refine ⟨_, _, M, β, .inl (run _ _ hrun), ?_, hw.1, Grow.refl _ _, hw.2⟩
      rw [hl, Nat.mul_one]; rfl
end
end Go.Ax

/- Maps with numbers for keys. -/
namespace Go.Ax
open Go.RowKit
open Go.ChangeMaps (setBlock)

def findM : List (Int × Int) → Int → Option Int
  | [], _ => none
  | (a, v) :: r, k => bif k == a then some v else findM r k
def hasM (l : List (Int × Int)) (k : Int) : Bool := (findM l k).isSome
def getM (l : List (Int × Int)) (k : Int) : Int := (findM l k).getD 0
def setM : List (Int × Int) → Int → Int → List (Int × Int)
  | [], k, v => [(k, v)]
  | (a, u) :: r, k, v => bif k == a then (a, v) :: r else (a, u) :: setM r k v
def vkOf (T : List (Nat × TyI)) (e : Nat) : Option VK := match getT T e with
  | some te => match te.und with
    | .int .i64 => some .int
    | .bool => some .bool
    | _ => none
  | none => none
def isK (T : List (Nat × TyI)) (k : Nat) : Bool := match getT T k with
  | some tk => match tk.und with
    | .int .i64 => true
    | _ => false
  | none => false
theorem isK.spec {P : Program} {T : List (Nat × TyI)} (hT : TabOK P T) {k : Nat} (h : isK T k = true) : P.underlying k = some (.int .i64) := by
  unfold isK at h
  split at h
  · rename_i tk hk
    split at h
    · rename_i hu; exact (hT.get hk).isInt hu
    · cases h
  · cases h
/-- The value that is stored, as a number. -/
def encM (vk : VK) : AV → Option Int
  | .s (.d (.val (.int .i64 n))) => match vk with | .int => some n | .bool => none
  | .s (.d (.val (.bool b))) => match vk with | .bool => some (bif b then 1 else 0) | .int => none
  | .s (.d (.lit b)) => match vk with | .bool => some (bif b then 1 else 0) | .int => none
  | _ => none
theorem encM.spec {vk : VK} {v : AV} {n : Int} {M : Mem} {β : Nm} {u : Value} (h : encM vk v = some n) (r : v.Rep M β u) : u = vk.val n := by
  have hb : ∀ b : Bool, Value.bool b = VK.val .bool (bif b then 1 else 0) := fun b => by cases b <;> rfl
  unfold encM at h
  split at h
  · cases vk with
    | int => cases h; exact r
    | bool => cases h
  · cases vk with
    | int => cases h
    | bool => cases h; exact (show u = _ from r).trans (hb _)
  · cases vk with
    | int => cases h
    | bool => cases h; exact (show u = _ from r).trans (hb _)
  · cases h

def findAt (vk : VK) : List (Int × Int) → Int → Nat → Option (Nat × Value)
  | [], _, _ => none
  | (a, v) :: r, k, i => bif k == a then some (i, vk.val v) else findAt vk r k (i + 1)
theorem findNow_ents (vk : VK) (k : Int) : ∀ (l : List (Int × Int)) (i : Nat), Instr.findNow (.int .i64) (.int .i64 k) (ents vk l i) i = some (findAt vk l k i)
  | [], _ => rfl
  | (a, v) :: r, i => by
    simp only [ents, Instr.findNow, Instr.sameNow, if_true, findAt]
    cases h : k == a with
    | true => rfl
    | false => simp only [cond_false]; exact findNow_ents vk k r (i + 1)
theorem run_findKey {P : Program} (w : World) {kt : TypeId} (hk : P.underlying kt = some (.int .i64)) (vk : VK) (k : Int) (l : List (Int × Int)) :
    (Instr.findKey kt (.int .i64 k) (ents vk l 0)).run P w = .ok (findAt vk l k 0) w := by
  simp [Instr.findKey, run_underlying hk, findNow_ents]
theorem run_checkKey {P : Program} (w : World) {kt : TypeId} (hk : P.underlying kt = some (.int .i64)) (b : Bool) (k : Int) (n : Nat) : (Instr.checkKey b (n + 1) kt (.int .i64 k)).run P w = .ok () w := by
  simp [Instr.checkKey, run_underlying hk]
theorem findAt_find (vk : VK) (k : Int) : ∀ (l : List (Int × Int)) (i : Nat), (findAt vk l k i).map (·.2) = (findM l k).map vk.val
  | [], _ => rfl
  | (a, v) :: r, i => by
    simp only [findAt, findM]
    cases h : k == a with
    | true => rfl
    | false => simp only [cond_false]; exact findAt_find vk k r (i + 1)
theorem ents_length (vk : VK) : ∀ (l : List (Int × Int)) (i : Nat), (ents vk l i).length = l.length
  | [], _ => rfl
  | (_, _) :: r, i => by simp [ents, ents_length vk r (i + 1)]
theorem ents_born (vk : VK) : ∀ (l : List (Int × Int)) (i : Nat), (ents vk l i).map (·.born) = List.range' i l.length
  | [], _ => rfl
  | (_, _) :: r, i => by simp [ents, ents_born vk r (i + 1), List.range'_succ]
theorem ents_get (vk : VK) : ∀ (l : List (Int × Int)) (i j : Nat) (e : MapEntry), (ents vk l i)[j]? = some e → j < l.length ∧ e = { key := .int .i64 (l.getD j (0, 0)).1, val := vk.val (l.getD j (0, 0)).2, born := i + j }
  | [], _, _, _, h => by simp [ents] at h
  | (a, v) :: r, i, 0, e, h => by
    simp [ents] at h
    exact ⟨by simp, by rw [← h]; rfl⟩
  | (a, v) :: r, i, j + 1, e, h => by
    have h : (ents vk r (i + 1))[j]? = some e := by simpa [ents] using h
    obtain ⟨h1, h2⟩ := ents_get vk r (i + 1) j e h
    refine ⟨by simp; omega, ?_⟩
    rw [h2]
    simp
    omega
/-- An update, on the entries. -/
theorem set_some (vk : VK) (k v : Int) : ∀ (l : List (Int × Int)) (i j : Nat) (u : Value), findAt vk l k i = some (i + j, u) → (∃ e, (ents vk l i)[j]? = some e ∧ e.key = .int .i64 k) ∧
      (ents vk l i).modify j (fun e => { e with key := .int .i64 k, val := vk.val v }) = ents vk (setM l k v) i ∧ (setM l k v).length = l.length
  | [], _, _, _, h => by cases h
  | (a, b) :: r, i, j, u, h => by
    simp only [findAt] at h
    cases hk : k == a with
    | true =>
      rw [hk] at h
      simp only [cond_true, Option.some.injEq, Prod.mk.injEq] at h
      obtain rfl : j = 0 := by omega
      have : k = a := by simpa using hk
      subst this
      simp [ents, setM]
    | false =>
      rw [hk] at h
      simp only [cond_false] at h
      have hj : ∃ q, j = q + 1 := by
        cases j with
        | zero =>
          exfalso
          have : ∀ (l : List (Int × Int)) (i p : Nat) (u : Value), findAt vk l k i = some (p, u) → i ≤ p := by
            intro l
            induction l with
            | nil => intro i p u h; cases h
            | cons x r ih =>
              intro i p u h
              obtain ⟨a, b⟩ := x
              simp only [findAt] at h
              cases hk : k == a with
              | true => rw [hk] at h; simp only [cond_true, Option.some.injEq, Prod.mk.injEq] at h; omega
              | false => rw [hk] at h; have := ih (i + 1) p u h; omega
          have := this r (i + 1) _ u h
          omega
        | succ q => exact ⟨q, rfl⟩
      obtain ⟨q, rfl⟩ := hj
      obtain ⟨⟨e, h1, h1'⟩, h2, h3⟩ := set_some vk k v r (i + 1) q u (by rw [show i + 1 + q = i + (q + 1) by omega]; exact h)
      refine ⟨⟨e, by simpa [ents] using h1, h1'⟩, ?_, by simp [setM, hk, h3]⟩
      simp [ents, setM, hk, h2]
theorem set_none (vk : VK) (k v : Int) : ∀ (l : List (Int × Int)) (i : Nat), findAt vk l k i = none → ents vk l i ++ [{ key := .int .i64 k, val := vk.val v, born := i + l.length }] = ents vk (setM l k v) i ∧ (setM l k v).length = l.length + 1
  | [], i, _ => by simp [ents, setM]
  | (a, b) :: r, i, h => by
    simp only [findAt] at h
    cases hk : k == a with
    | true => rw [hk] at h; cases h
    | false =>
      rw [hk] at h
      obtain ⟨h1, h2⟩ := set_none vk k v r (i + 1) h
      have e : i + (r.length + 1) = i + 1 + r.length := by omega
      simp [ents, setM, hk, h2, ← h1, e]
theorem findAt_ge (vk : VK) (k : Int) : ∀ (l : List (Int × Int)) (i p : Nat) (u : Value), findAt vk l k i = some (p, u) → i ≤ p
  | [], _, _, _, h => by cases h
  | (a, b) :: r, i, p, u, h => by
    simp only [findAt] at h
    cases hk : k == a with
    | true => rw [hk] at h; simp only [cond_true, Option.some.injEq, Prod.mk.injEq] at h; omega
    | false => rw [hk] at h; have := findAt_ge vk k r (i + 1) p u h; omega

section
variable {P : Program} {σ : St} {K : AV → Boxes → Prop} {o : Oper}
def mkMapX (T : List (Nat × TyI)) (σ : St) (d t : Nat) (K : AV → Boxes → Prop) : Prop :=
  match getT T t with
  | some ti => match ti.und with
    | .map k e => match vkOf T e with
      | some vk => bif isK T k then match getB σ.box d with
        | none => K (.s (.mp d)) ((d, some (.map vk [])) :: σ.box)
        | some _ => False
        else False
      | none => False
    | _ => False
  | none => False
theorem mkMap.spec {T : List (Nat × TyI)} {d t : Nat} (ho : o.op = .makeMap t none) (h : mkMapX T σ d t K) : ∃ r bx, K r bx ∧ Eff P o σ r bx := by
  unfold mkMapX at h
  split at h
  case h_2 => exact h.elim
  split at h
  case h_2 => exact h.elim
  split at h
  case h_2 => exact h.elim
  rename_i vk hvk
  cases hk : isK T _ with
  | false => rw [hk] at h; exact h.elim
  | true =>
    rw [hk] at h
    simp only [cond_true] at h
    split at h
    case h_2 => exact h.elim
    rename_i hd
    refine ⟨_, _, h, fun cx N M β a w i => ?_⟩
    have hrun : (execOp a.eval o).run P w = .ok (.value (.map (some w.heap.size))) (w.alloc (.map #[] 0)) := by
      simp [execOp, ho, run_makeMap]
    obtain ⟨β', h1, h2, h3, h4⟩ := i.new (w' := w.alloc (.map #[] 0)) (c := (0, 0)) hd (ob := .map #[] 0) rfl rfl rfl rfl (bc := .map vk []) (by
      intro β' e _
      exact ⟨_, _, e, heap_alloc_new w _⟩)
    exact ⟨_, _, M, β', .inl hrun, ⟨_, _, h1, rfl⟩, h3, Grow.refl _ _, h4⟩

theorem setBlock_run {w : World} {r : Nat} {es es' : Array MapEntry} {c c' : Nat} (hr : w.heap[r]? = some (.map es c)) : (setObj r (.map es' c')).run P w = .ok () (setBlock w r (.map es' c')) := by
  simp [setObj, Sem.run, hr, setBlock]
theorem setBlock_size (w : World) (r : Nat) (ob : Obj) : (setBlock w r ob).heap.size = w.heap.size := by simp [setBlock]
theorem setBlock_other (w : World) (r : Nat) (ob : Obj) {k : Nat} (h : k ≠ r) : (setBlock w r ob).heap[k]? = w.heap[k]? := by simp [setBlock, Array.getElem?_setIfInBounds_ne (Ne.symm h)]
theorem setBlock_at {w : World} {r : Nat} {ob ob' : Obj} (h : w.heap[r]? = some ob) : (setBlock w r ob').heap[r]? = some ob' := by
  have := block_lt h
  simp [setBlock, this]

def updX (T : List (Nat × TyI)) (σ : St) (t : Nat) (x y z : Operand) (K : AV → Boxes → Prop) : Prop :=
  fe none (ev σ x) fun vx => fe none (ev σ y) fun vy => fe none (ev σ z) fun vz => match vx, vy with
    | .s (.mp b), .s (.d (.val (.int .i64 k))) => match getB σ.box b with
      | some (some (.map vk l)) => match getT T t with
        | some ti => match ti.und with
          | .map kt _ => bif isK T kt then match encM vk vz with
            | some n => K (.s (.d .junk)) ((b, some (.map vk (setM l k n))) :: σ.box)
            | none => False
            else False
          | _ => False
        | none => False
      | _ => False
    | _, _ => False
theorem upd.spec {T : List (Nat × TyI)} (hT : TabOK P T) {t : Nat} {x y z : Operand} (ho : o.op = .mapUpdate t x y z) (h : updX T σ t x y z K) : ∃ r bx, K r bx ∧ Eff P o σ r bx := by
  unfold updX at h
  replace h := fe.ev h
  obtain ⟨vx, h, hrx⟩ := h
  replace h := fe.ev h
  obtain ⟨vy, h, hry⟩ := h
  replace h := fe.ev h
  obtain ⟨vz, h, hrz⟩ := h
  split at h
  case h_2 => exact h.elim
  rename_i b k
  split at h
  case h_2 => exact h.elim
  rename_i vk l hb
  split at h
  case h_2 => exact h.elim
  rename_i ti hti
  split at h
  case h_2 => exact h.elim
  rename_i kt et hu
  cases hk : isK T kt with
  | false => rw [hk] at h; exact h.elim
  | true =>
    rw [hk] at h
    simp only [cond_true] at h
    split at h
    case h_2 => exact h.elim
    rename_i n hn
    have hkt := isK.spec hT hk
    have hund := (hT.get hti).isMap hu
    refine ⟨_, _, h, fun cx N M β a w i => ?_⟩
    obtain ⟨bb, c, e1, ex⟩ := hrx actN cx N M β a w i
    obtain ⟨b', c', e2, hh⟩ := i.box b _ hb
    rw [e1] at e2; cases e2
    have ey : a.eval y = .int .i64 k := hry actN cx N M β a w i
    have ez : a.eval z = vk.val n := encM.spec hn (hrz actN cx N M β a w i)
    have hck : (Instr.checkKey false 10000 kt (.int .i64 k)).run P w = .ok () w := run_checkKey w hkt false k 9999
    have hfk := run_findKey (P := P) w hkt vk k l
    have hmap : (Instr.mapUpdate t (.map (some bb)) (.int .i64 k) (vk.val n)).run P w = .ok () (setBlock w bb (.map (ents vk (setM l k n) 0).toArray (setM l k n).length)) := by
      cases hf : findAt vk l k 0 with
      | none =>
        rw [hf] at hfk
        obtain ⟨q1, q2⟩ := set_none vk k n l 0 hf
        have e3 : ((ents vk l 0).toArray.push { key := .int .i64 k, val := vk.val n, born := l.length }) = (ents vk (setM l k n) 0).toArray := by
          rw [← q1]; simp
        simp [Instr.mapUpdate, run_underlying hund, MapKept.run_getObj_map hh, hck, hfk, e3, setBlock_run hh, q2]
      | some pr =>
        obtain ⟨p, u⟩ := pr
        rw [hf] at hfk
        obtain ⟨⟨e, q0, q0'⟩, q1, q2⟩ := set_some vk k n l 0 p u (by rw [Nat.zero_add]; exact hf)
        have hstay : (Instr.keyThatStays (.int .i64 k) (.int .i64 k)).run P w = .ok (.int .i64 k) w := by simp [Instr.keyThatStays, Instr.sameBits]
        have e3 : (ents vk l 0).modify p (fun e => { key := .int .i64 k, val := vk.val n, born := e.born }) = ents vk (setM l k n) 0 := q1
        have e4 : (((ents vk l 0).toArray[p]?).map (·.key)).getD (.int .i64 k) = .int .i64 k := by simp [q0, q0']
        simp only [List.getElem?_toArray] at e4
        simp [Instr.mapUpdate, run_underlying hund, MapKept.run_getObj_map hh, hck, hfk, e4, hstay, e3, setBlock_run hh, q2]
    have hrun : (execOp a.eval o).run P w = .ok .skip (setBlock w bb (.map (ents vk (setM l k n) 0).toArray (setM l k n).length)) := by
      simp [execOp, ho, ex, ey, ez, hmap]
    have hw := i.write (bc' := .map vk (setM l k n)) hb e1 (w' := setBlock w bb (.map (ents vk (setM l k n) 0).toArray (setM l k n).length)) (setBlock_size _ _ _) (fun j hj => setBlock_other _ _ _ hj) rfl rfl rfl
      ⟨bb, c, e1, setBlock_at hh⟩
    exact ⟨undef, _, M, β, .inr ⟨hrun, rfl⟩, trivial, hw.1, Grow.refl _ _, hw.2⟩

/-- for k, v := range m: the iterator. -/
def rangeX (T : List (Nat × TyI)) (σ : St) (d t : Nat) (x : Operand) (K : AV → Boxes → Prop) : Prop :=
  fe none (ev σ x) fun vx => match vx with
    | .s (.mp b) => match getB σ.box b with
      | some (some (.map _ l)) => match getT T t with
        | some ti => match ti.und with
          | .map _ _ => match getB σ.box d with
            | none => K (.s (.ptr d 0)) ((d, some (.iter b l.length [])) :: σ.box)
            | some _ => False
          | _ => False
        | none => False
      | _ => False
    | _ => False
theorem range.spec {T : List (Nat × TyI)} (hT : TabOK P T) {d t : Nat} {x : Operand} (ho : o.op = .range t x) (h : rangeX T σ d t x K) : ∃ r bx, K r bx ∧ Eff P o σ r bx := by
  unfold rangeX at h
  replace h := fe.ev h
  obtain ⟨vx, h, hrx⟩ := h
  split at h
  case h_2 => exact h.elim
  rename_i b
  split at h
  case h_2 => exact h.elim
  rename_i vk l hb
  split at h
  case h_2 => exact h.elim
  rename_i ti hti
  split at h
  case h_2 => exact h.elim
  rename_i kt et hu
  have hund := (hT.get hti).isMap hu
  split at h
  case h_2 => exact h.elim
  rename_i hd
  refine ⟨_, _, h, fun cx N M β a w i => ?_⟩
  obtain ⟨bb, c, e1, ex⟩ := hrx actN cx N M β a w i
  obtain ⟨b', c', e2, hh⟩ := i.box b _ hb
  rw [e1] at e2; cases e2
  have hrun : (execOp a.eval o).run P w = .ok (.value (.pointer (some ⟨w.heap.size, 0, none⟩))) (w.alloc (.mapIter (some bb) l.length #[] l.length)) := by
    simp [execOp, ho, ex, run_range_map w t kt et bb _ _ hund hh]
  obtain ⟨β', h1, h2, h3, h4⟩ := i.new (w' := w.alloc (.mapIter (some bb) l.length #[] l.length)) (c := (0, 0)) hd (ob := .mapIter (some bb) l.length #[] l.length) rfl rfl rfl rfl (bc := .iter b l.length []) (by
    intro β' e hle
    exact ⟨_, _, _, _, e, hle _ _ e1, heap_alloc_new w _⟩)
  exact ⟨_, _, M, β', .inl hrun, ⟨_, _, h1, rfl⟩, h3, Grow.refl _ _, h4⟩

/-- A step of the iterator: all entries have been seen, or one that has not comes. -/
def nextX (σ : St) (x : Operand) (K : AV → Boxes → Prop) : Prop :=
  fe none (ev σ x) fun vx => match vx with
    | .s (.ptr b 0) => match getB σ.box b with
      | some (some (.iter m n seen)) => match getB σ.box m with
        | some (some (.map vk l)) => l.length = n ∧ ((∀ i, i < n → i ∈ seen) → K (.t [.s (.d (.lit false))]) σ.box) ∧
            (∀ i, i < n → i ∉ seen → K (.t [.s (.d (.lit true)), .s (.d (.val (.int .i64 (l.getD i (0, 0)).1))), .s (.d (vk.dv (l.getD i (0, 0)).2))]) ((b, some (.iter m n (i :: seen))) :: σ.box))
        | _ => False
      | _ => False
    | _ => False
theorem VK.dv_rep (vk : VK) (n : Int) (M : Mem) : (vk.dv n).Rep M (vk.val n) := by cases vk <;> rfl
theorem drew_alike {w w1 : World} (h : w1 = w ∨ w1 = w.drew) : w1.heap = w.heap ∧ w1.os = w.os ∧ w1.tape = w.tape ∧ w1.output = w.output := by
  rcases h with rfl | rfl <;> exact ⟨rfl, rfl, rfl, rfl⟩
theorem next.spec {x : Operand} (ho : o.op = .next x false) (h : nextX σ x K) {cx : Cx} {N : Nat} {M : Mem} {β : Nm} {a : Act} {w : World} (i : Inv cx N M β σ a w) :
    ∃ r bx, K r bx ∧ ∃ v w', (execOp a.eval o).run P w = .ok (.value v) w' ∧ r.Rep M β v ∧ Inv cx N M β ⟨σ.env, bx⟩ a w' ∧ Keep cx w w' := by
  unfold nextX at h
  replace h := fe.ev h
  obtain ⟨vx, h, hrx⟩ := h
  split at h
  case h_2 => exact h.elim
  rename_i b
  split at h
  case h_2 => exact h.elim
  rename_i m n seen hb
  split at h
  case h_2 => exact h.elim
  rename_i vk l hm
  obtain ⟨hl, h1, h2⟩ := h
  subst hl
  obtain ⟨bb, c, e1, ex⟩ := hrx actN cx N M β a w i
  obtain ⟨b', c', bm, cm, e2, em, hh⟩ := i.box b _ hb
  rw [e1] at e2; cases e2
  obtain ⟨bm', cm', em', hhm⟩ := i.box m _ hm
  rw [em] at em'; cases em'
  have hold : ∀ x ∈ (ents vk l 0).toArray.toList, x.born < l.length := by
    intro x hx
    obtain ⟨j, hj⟩ := List.getElem?_of_mem hx
    obtain ⟨k1, k2⟩ := ents_get vk l 0 j x (by simpa using hj)
    rw [k2]; simpa using k1
  have hmem : ∀ e, e ∈ (leftOf (ents vk l 0).toArray seen.reverse.toArray).toList ↔ ∃ j, j < l.length ∧ j ∉ seen ∧ e = { key := .int .i64 (l.getD j (0, 0)).1, val := vk.val (l.getD j (0, 0)).2, born := j } := by
    intro e
    unfold leftOf
    simp only [Array.toList_filter, List.mem_filter]
    constructor
    · rintro ⟨hx, hs⟩
      obtain ⟨j, hj⟩ := List.getElem?_of_mem hx
      obtain ⟨k1, k2⟩ := ents_get vk l 0 j e (by simpa using hj)
      rw [Nat.zero_add] at k2
      refine ⟨j, k1, ?_, k2⟩
      rw [k2] at hs
      simpa using hs
    · rintro ⟨j, hj, hs, rfl⟩
      refine ⟨?_, by simpa using hs⟩
      have hlt : j < (ents vk l 0).length := by rw [ents_length]; exact hj
      have hg := List.getElem?_eq_getElem hlt
      obtain ⟨_, k2⟩ := ents_get vk l 0 j _ hg
      rw [Nat.zero_add] at k2
      rw [← k2]
      exact List.getElem_mem hlt
  rcases run_next_at (P := P) w o.type bb bm l.length l.length seen.reverse.toArray (ents vk l 0).toArray l.length hh hhm hold (Nat.le_refl _) with ⟨hz, hrun⟩ | ⟨e, he, w1, hw1, hrun⟩
  · refine ⟨_, _, h1 (fun j hj => ?_), _, w, by simp [execOp, ho, ex, hrun], ⟨[.bool false], rfl, rfl, trivial⟩, i, Keep.refl _ _⟩
    refine Classical.byContradiction fun hs => ?_
    have := (hmem _).2 ⟨j, hj, hs, rfl⟩
    have hnil : (leftOf (ents vk l 0).toArray seen.reverse.toArray).toList = [] := List.eq_nil_of_length_eq_zero (by rw [Array.length_toList]; exact hz)
    rw [hnil] at this
    cases this
  · obtain ⟨j, hj, hs, rfl⟩ := (hmem e).1 he
    obtain ⟨q1, q2, q3, q4⟩ := drew_alike hw1
    have hh1 : w1.heap[bb]? = some (.mapIter (some bm) l.length seen.reverse.toArray l.length) := by rw [q1]; exact hh
    have hseen : seen.reverse.toArray.push j = (j :: seen).reverse.toArray := by simp
    have hrun' : (execOp a.eval o).run P w = .ok (.value (.tuple #[.bool true, .int .i64 (l.getD j (0, 0)).1, vk.val (l.getD j (0, 0)).2])) (setBlock w1 bb (.mapIter (some bm) l.length (j :: seen).reverse.toArray l.length)) := by
      rw [← hseen]; simp [execOp, ho, ex, hrun]
    have hw := i.write (bc' := .iter m l.length (j :: seen)) hb e1 (w' := setBlock w1 bb (.mapIter (some bm) l.length (j :: seen).reverse.toArray l.length)) (by rw [setBlock_size, q1]) (fun k hk => by rw [setBlock_other _ _ _ hk, q1]) q2 q3 q4
      ⟨bb, c, bm, cm, e1, em, setBlock_at hh1⟩ (run_drawn P _ w _ _ hrun')
    exact ⟨_, _, h2 j hj hs, _, _, hrun', ⟨_, rfl, rfl, rfl, VK.dv_rep _ _ _, trivial⟩, hw.1, hw.2⟩
end

section
variable {P : Program} {σ : St} {g : Option Bool} {K : AV → Prop} {o : Oper}
/-- The entry that came last. -/
def entryV (σ : St) (va : AV) (K : AV → Prop) : Prop := match va with
  | .s (.ptr b 0) => match getB σ.box b with
    | some (some (.iter m n (i :: _))) => match getB σ.box m with
      | some (some (.map vk l)) => l.length = n ∧ i < l.length ∧ K (.t [.s (.d (.val (.int .i64 (l.getD i (0, 0)).1))), .s (.d (vk.dv (l.getD i (0, 0)).2))])
      | _ => False
    | _ => False
  | _ => False
/-- m[k] -/
def lookV (T : List (Nat × TyI)) (σ : St) (t : Nat) (ok : Bool) (g : Option Bool) (vx vy : AV) (K : AV → Prop) : Prop := match vx, vy with
  | .s (.mp b), .s (.d (.val (.int .i64 k))) => match getB σ.box b with
    | some (some (.map vk l)) => match getT T t with
      | some ti => match ti.und with
        | .map kt et => bif isK T kt && (getT T et).isSome then match ok with
          | true => K (.t [.s (.d (bif hasM l k then vk.dv (getM l k) else .junk)), .s (.d (.val (.bool (hasM l k))))])
          | false => imp g (hasM l k = true) ∧ K (.s (.d (vk.dv (getM l k))))
          else False
        | _ => False
      | none => False
    | _ => False
  | _, _ => False
theorem look.spec {T : List (Nat × TyI)} (hT : TabOK P T) {t : Nat} {x y : Operand} {ok : Bool} (ho : o.op = .lookup t x y ok) (h : fe g (ev σ x) fun va => fe g (ev σ y) fun vb => lookV T σ t ok g va vb K) :
    ∃ r, K r ∧ Pure1 P o σ g r := by
  replace h := fe.ev h
  obtain ⟨vx, h, hrx⟩ := h
  replace h := fe.ev h
  obtain ⟨vy, h, hry⟩ := h
  unfold lookV at h
  split at h
  case h_2 => exact h.elim
  rename_i b k
  split at h
  case h_2 => exact h.elim
  rename_i vk l hb
  split at h
  case h_2 => exact h.elim
  rename_i ti hti
  split at h
  case h_2 => exact h.elim
  rename_i kt et hu
  cases hk : (isK T kt && (getT T et).isSome) with
  | false => rw [hk] at h; exact h.elim
  | true =>
    rw [hk] at h
    simp only [cond_true] at h
    simp only [Bool.and_eq_true] at hk
    have hkt := isK.spec hT hk.1
    have hund := (hT.get hti).isMap hu
    obtain ⟨te, hte⟩ := Option.isSome_iff_exists.1 hk.2
    have hoke := hT.get hte
    have key : ∀ (ha : act g) cx N M β a w, Inv cx N M β σ a w → ∃ (v : Value) (z : Value), (execOp a.eval o).run P w = .ok (.value v) w ∧ v = (if ok = true then .tuple #[((findM l k).map vk.val).getD z, .bool (hasM l k)] else ((findM l k).map vk.val).getD z) := by
      intro ha cx N M β a w i
      obtain ⟨bb, c, e1, ex⟩ := hrx ha cx N M β a w i
      obtain ⟨b', c', e2, hh⟩ := i.box b _ hb
      rw [e1] at e2; cases e2
      have ey : a.eval y = .int .i64 k := hry ha cx N M β a w i
      obtain ⟨z, hz, _⟩ := hoke.run_zero w
      have hck : (Instr.checkKey (ents vk l 0).toArray.isEmpty 10000 kt (.int .i64 k)).run P w = .ok () w := run_checkKey w hkt _ k 9999
      have hfk := run_findKey (P := P) w hkt vk k l
      have hf := findAt_find vk k l 0
      cases hfa : findAt vk l k 0 with
      | none =>
        rw [hfa] at hfk hf
        have hf : (findM l k).map vk.val = none := hf.symm
        have hn : findM l k = none := by simpa using hf
        refine ⟨_, z, ?_, rfl⟩
        simp only [List.isEmpty_toArray] at hck
        simp only [execOp, ho, ex, ey]
        simp [Instr.lookup, run_underlying hund, MapKept.run_getObj_map hh, hck, hfk, hz, hn, hasM]
      | some pr =>
        obtain ⟨p, u⟩ := pr
        rw [hfa] at hfk hf
        have hf : (findM l k).map vk.val = some u := hf.symm
        obtain ⟨n, hn, hu'⟩ := Option.map_eq_some_iff.1 hf
        refine ⟨_, z, ?_, rfl⟩
        simp only [List.isEmpty_toArray] at hck
        simp only [execOp, ho, ex, ey]
        simp [Instr.lookup, run_underlying hund, MapKept.run_getObj_map hh, hck, hfk, hn, hu', hasM]
    cases ok with
    | true =>
      refine ⟨_, h, fun ha cx N M β a w i => ?_⟩
      obtain ⟨v, z, hrun, hv⟩ := key ha cx N M β a w i
      refine ⟨v, hrun, _, hv, ?_, rfl, trivial⟩
      show (bif hasM l k then vk.dv (getM l k) else .junk).Rep M (((findM l k).map vk.val).getD z)
      unfold hasM getM
      cases findM l k with
      | none => trivial
      | some n => exact VK.dv_rep vk n M
    | false =>
      refine ⟨_, h.2, fun ha cx N M β a w i => ?_⟩
      obtain ⟨v, z, hrun, hv⟩ := key ha cx N M β a w i
      refine ⟨v, hrun, ?_⟩
      have hh := h.1.get ha
      obtain ⟨n, hn⟩ := Option.isSome_iff_exists.1 hh
      rw [hv]
      simp only [hn, getM, Option.getD_some, Option.map_some]
      exact VK.dv_rep vk n M
theorem entry.spec {x : Operand} (ho : o.op = .entry x) (h : fe g (ev σ x) fun va => entryV σ va K) : ∃ r, K r ∧ Pure1 P o σ g r := by
  replace h := fe.ev h
  obtain ⟨vx, h, hrx⟩ := h
  unfold entryV at h
  split at h
  case h_2 => exact h.elim
  rename_i b
  split at h
  case h_2 => exact h.elim
  rename_i m n j seen hb
  split at h
  case h_2 => exact h.elim
  rename_i vk l hm
  obtain ⟨hl, hj, h⟩ := h
  subst hl
  refine ⟨_, h, fun ha cx N M β a w i => ?_⟩
  obtain ⟨bb, c, e1, ex⟩ := hrx ha cx N M β a w i
  obtain ⟨b', c', bm, cm, e2, em, hh⟩ := i.box b _ hb
  rw [e1] at e2; cases e2
  obtain ⟨bm', cm', em', hhm⟩ := i.box m _ hm
  rw [em] at em'; cases em'
  have hlt : j < (ents vk l 0).length := by rw [ents_length]; exact hj
  have hg := List.getElem?_eq_getElem hlt
  obtain ⟨_, k2⟩ := ents_get vk l 0 j _ hg
  rw [Nat.zero_add] at k2
  have hmem := List.getElem_mem hlt
  generalize (ents vk l 0)[j] = e at *
  subst k2
  have hseen : (j :: seen).reverse.toArray = seen.reverse.toArray.push j := by simp
  rw [hseen] at hh
  have hrun := run_entry_at (P := P) w bb bm l.length seen.reverse.toArray (ents vk l 0).toArray l.length { key := .int .i64 (l.getD j (0, 0)).1, val := vk.val (l.getD j (0, 0)).2, born := j } hh hhm (by simpa using hmem) (by
    rw [show (ents vk l 0).toArray.toList = ents vk l 0 from rfl, ents_born]
    exact List.nodup_range')
  exact ⟨.tuple #[.int .i64 (l.getD j (0, 0)).1, vk.val (l.getD j (0, 0)).2], by simp [execOp, ho, ex, hrun], [.int .i64 (l.getD j (0, 0)).1, vk.val (l.getD j (0, 0)).2], rfl, rfl, VK.dv_rep _ _ _, trivial⟩
end
end Go.Ax

/- append on a view of an own row: in place, or in a new row; append(nil, make([]T, n)...). -/
namespace Go.Ax
open Go.RowKit

theorem run_append_room_at (P : Program) (w : World) (t ty e : TypeId) (i : TypeInfo) (ht : P.underlying t = some (.slice e)) (hi : P.info? e = some i)
    (g o sLen sCap : Nat) (cur : Array Value) (hg : w.heap[g]? = some (.cells cur e (0, 0)))
    (a : Addr) (m c : Nat) (news : List Value) (hl : news.length = m * i.size) (hnews : ∀ j u, news[j]? = some u → w.cell? (a.add j) = some u) (h1 : ∀ u ∈ news, u.oneCell' = true)
    (hroom : sLen + m ≤ sCap) (hfit : o + sLen * i.size + news.length ≤ cur.size) :
    (Builtin.append_ #[t, t] ty #[.slice (some ⟨g, o, none⟩) sLen sCap, .slice (some a) m c]).run P w =
      .ok (.slice (some ⟨g, o, none⟩) (sLen + m) sCap) (w.setRow g (cur.toList.take (o + sLen * i.size) ++ news ++ cur.toList.drop (o + sLen * i.size + news.length)).toArray) := by
  have hf := run_firstCells_some (P := P) w i.size m a m c news hl hnews
  have hst := run_storeCells_at P g (o + sLen * i.size) e news 0 cur w hg (by simpa using hfit) h1
  simp only [Nat.add_zero] at hst
  simp [Builtin.append_, run_underlying ht, sizeOf, typeInfo, hi, Builtin.lenOf, hroom, hf, cell_add, hst]

section
variable {P : Program} {σ : St} {K : AV → Boxes → Prop} {o : Oper}

/-- append(own[lo:lo+n], ..) -/
def appOX (T : List (Nat × TyI)) (σ : St) (d t : Nat) (x y : Operand) (K : AV → Boxes → Prop) : Prop :=
  fe none (ev σ x) fun vx => fe none (ev σ y) fun vy => match getT T t with
    | some ti => match ti.und with
      | .slice e => match getT T e with
        | some te => match getB σ.box d with
          | none => match srcX σ vy with
            | some (m, s', g) => bif Nat.beq s' te.size && Nat.blt 0 te.size && Nat.blt 0 te.bytes && Nat.beq te.zero.length te.size then
              match vx with
              | .s (.osl b s2 lo n) => match getB σ.box b with
                | some (some (.row e' _ s f)) => bif Nat.beq e' e && Nat.beq s te.size && Nat.beq s2 te.size then
                    0 ≤ m ∧ (lo + n + m) * te.bytes ≤ 140737488355328 ∧ fitAll m s' g ∧
                    K (.s (.osl d te.size lo (n + m))) ((d, some (.row e (lo + n + m) te.size (catF (lo + n) f g))) :: (b, none) :: σ.box) ∧
                    K (.s (.osl d te.size 0 (n + m))) ((d, some (.row e (n + m) te.size (catF n (fun i => f (lo + i)) g))) :: (b, none) :: σ.box)
                    else False
                | _ => False
              | _ => False
              else False
            | none => False
          | some _ => False
        | none => False
      | _ => False
    | none => False

theorem appO.spec {T : List (Nat × TyI)} (hT : TabOK P T) {d t : Nat} {x y : Operand} (ho : o.op = .call { callee := .builtin .append, args := #[x, y], argTypes := #[t, t] })
    (h : appOX T σ d t x y K) {cx : Cx} {N : Nat} {M : Mem} {β : Nm} {a : Act} {w : World} (i : Inv cx N M β σ a w) : ∃ r bx, K r bx ∧ PostApp P o σ cx N M a w r bx := by
  unfold appOX at h
  replace h := fe.ev h
  obtain ⟨vx, h, hrx⟩ := h
  replace h := fe.ev h
  obtain ⟨vy, h, hry⟩ := h
  split at h
  case h_2 => exact h.elim
  rename_i ti hti
  have hok := hT.get hti
  split at h
  case h_2 => exact h.elim
  rename_i e hu
  have hund : P.underlying t = some (.slice e) := hok.isSlice hu
  split at h
  case h_2 => exact h.elim
  rename_i te hte
  have hoke := hT.get hte
  split at h
  case h_2 => exact h.elim
  rename_i hd
  split at h
  case h_2 => exact h.elim
  rename_i m s' g hsrc
  cases hc : (Nat.beq s' te.size && Nat.blt 0 te.size && Nat.blt 0 te.bytes && Nat.beq te.zero.length te.size) with
  | false => rw [hc] at h; exact h.elim
  | true =>
    rw [hc] at h
    simp only [cond_true] at h
    simp only [Bool.and_eq_true] at hc
    have c1 := Nat.eq_of_beq_eq_true hc.1.1.1
    have c2 : 0 < te.size := Nat.le_of_ble_eq_true hc.1.1.2
    have c3 : 0 < te.bytes := Nat.le_of_ble_eq_true hc.1.2
    have c4 := Nat.eq_of_beq_eq_true hc.2
    subst c1
    obtain ⟨ie, z, hie, his, hib, hiz, hzc⟩ := hoke.infoZ
    have hzsz : z.cells.size = te.size := by rw [← Array.length_toList, hzc, c4]
    have run : ∀ (w' : World) (r : Value), (Builtin.append_ #[t, t] o.type #[a.eval x, a.eval y]).run P w = .ok r w' → (execOp a.eval o).run P w = .ok (.value r) w' := by
      intro w' r h
      simp [execOp, ho, resolve, invoke, builtin, h]
    split at h
    case h_2 => exact h.elim
    rename_i b s2 lo n
    split at h
    case h_2 => exact h.elim
    rename_i e' n0 s f hb
    cases hcc : (Nat.beq e' e && Nat.beq s te.size && Nat.beq s2 te.size) with
    | false => rw [hcc] at h; exact h.elim
    | true =>
      rw [hcc] at h
      simp only [cond_true] at h
      simp only [Bool.and_eq_true] at hcc
      have k1 := (Nat.eq_of_beq_eq_true hcc.1.1).symm
      have k2 := Nat.eq_of_beq_eq_true hcc.1.2
      have k3 := Nat.eq_of_beq_eq_true hcc.2
      subst k1; subst k2; subst k3
      obtain ⟨_, hbytes, hfit, hK1, hK2⟩ := h
      obtain ⟨k, c, o', e1, ex, hoo, hln, hcap⟩ := hrx actN cx N M β a w i
      obtain ⟨k', c', cur, e2, hh, hlen, hsz, hn0, hcm, hcell⟩ := i.box b _ hb
      rw [e1] at e2; cases e2
      obtain ⟨ad, cap, ey, hy⟩ := srcX.rep i hsrc (hry actN cx N M β a w i)
      by_cases hm0 : m = 0
      · subst hm0
        have hrunE : (Builtin.append_ #[t, t] o.type #[a.eval x, a.eval y]).run P w = .ok (.slice (some ⟨k, o', none⟩) (n + 0) (c.1 - lo)) w := by
          have hf : (Builtin.firstCells te.size 0 (.slice ad 0 cap)).run P w = .ok #[] w := by
            cases ad <;> simp [Builtin.firstCells, loadCells, loadCellsFrom]
          have hn : n ≤ c.1 - lo := by omega
          rw [ex, ey]
          simp [Builtin.append_, run_underlying hund, sizeOf, typeInfo, hie, his, Builtin.lenOf, hn, hf, storeCells]
        obtain ⟨β', hβd, hβle, hinv, hkeep⟩ := i.move (c' := (c.1, lo + n + 0)) (bc' := .row e (lo + n + 0) te.size (catF (lo + n) f g)) hb e1 hd
          (w' := w) rfl (fun j hj => rfl) rfl rfl rfl (by
            intro β' hβd _
            refine ⟨k, _, _, hβd, hh, rfl, hsz, by show lo + n + 0 ≤ c.1; omega, hcm, fun p j hp hj => ?_⟩
            obtain ⟨u, hu, hr⟩ := hcell p j (by omega) hj
            exact ⟨u, hu, by unfold catF; rw [if_pos (by omega)]; exact hr⟩)
        exact ⟨_, _, hK1, _, _, M, β', .inl (run _ _ hrunE), ⟨k, _, o', hβd, rfl, hoo, by show lo + (n + 0) ≤ lo + n + 0; omega, by show lo + n + 0 ≤ c.1; omega⟩, hinv, Grow.refl _ _, hkeep⟩
      have hm : 0 < m := by omega
      obtain ⟨bad, news, rfl, hl, hcells, hreps⟩ := newsOf c2 hm hy
      have hnm : lo + n + m ≤ 140737488355328 := Nat.le_trans (Nat.le_mul_of_pos_right _ c3) hbytes
      have h1 : ∀ u ∈ news, u.oneCell' = true := by
        intro u hu
        obtain ⟨j, hj⟩ := List.getElem?_of_mem hu
        have hjl : j < m * te.size := by have := (List.getElem?_eq_some_iff.1 hj).1; omega
        have h1 : j / te.size < m := Nat.div_lt_of_lt_mul (by rw [Nat.mul_comm]; exact hjl)
        obtain ⟨v, hv, hr⟩ := hreps (j / te.size) (j % te.size) h1 (Nat.mod_lt _ c2)
        have e : j / te.size * te.size + j % te.size = j := by rw [Nat.mul_comm]; exact Nat.div_add_mod j te.size
        rw [e, hj] at hv; cases hv
        have hft := hfit (j / te.size) (j % te.size) h1 (Nat.mod_lt _ c2)
        exact DV.Rep.oneCell hr (by cases hx : g (j / te.size) (j % te.size) <;> rw [hx] at hft <;> first | exact hft | rfl | cases hft)
      by_cases hroom : lo + n + m ≤ c.1
      · -- in place
        have hlo : lo < c.1 := by omega
        have ho' := hoo hlo
        subst ho'
        have htot : (lo + n) * te.size + m * te.size ≤ cur.size := by rw [hsz, ← Nat.add_mul]; exact Nat.mul_le_mul_right _ hroom
        have hmul : lo * te.size + n * te.size = (lo + n) * te.size := (Nat.add_mul _ _ _).symm
        have hrunE := run_append_room_at P w t o.type e ie hund hie k (lo * te.size) n (c.1 - lo) cur hh bad m cap news (by rw [his]; exact hl) hcells h1 (by omega) (by rw [his, hl, hmul]; exact htot)
        rw [his, hmul, ← ex, ← ey] at hrunE
        have htl : (cur.toList.take ((lo + n) * te.size)).length = (lo + n) * te.size := by simp; omega
        obtain ⟨β', hβd, hβle, hinv, hkeep⟩ := i.move (c' := (c.1, lo + n + m)) (bc' := .row e (lo + n + m) te.size (catF (lo + n) f g)) hb e1 hd
          (w' := w.setRow k (cur.toList.take ((lo + n) * te.size) ++ news ++ cur.toList.drop ((lo + n) * te.size + news.length)).toArray) (by simp) (fun j hj => setRow_other w k j _ hj) rfl rfl rfl (by
            intro β' hβd _
            refine ⟨k, _, _, hβd, setRow_heap w k cur _ e _ hh, rfl, by simp; omega, hroom, hcm, fun p j hp hj => ?_⟩
            simp only [List.getElem?_toArray, catF]
            by_cases hpn : p < lo + n
            · obtain ⟨u, hu, hr⟩ := hcell p j (by omega) hj
              have hlt : p * te.size + j < (lo + n) * te.size := by
                have : (p + 1) * te.size ≤ (lo + n) * te.size := Nat.mul_le_mul_right _ hpn
                rw [Nat.succ_mul] at this; omega
              refine ⟨u, ?_, by rw [if_pos hpn]; exact hr⟩
              rw [List.append_assoc, List.getElem?_append_left (by omega), List.getElem?_take_of_lt hlt]
              simpa using hu
            · obtain ⟨u, hu, hr⟩ := hreps (p - (lo + n)) j (by omega) hj
              refine ⟨u, ?_, by rw [if_neg hpn]; exact hr⟩
              have hpe : p * te.size + j = (lo + n) * te.size + ((p - (lo + n)) * te.size + j) := by
                have : p = lo + n + (p - (lo + n)) := by omega
                rw [← Nat.add_assoc, ← Nat.add_mul, ← this]
              have hlt : (p - (lo + n)) * te.size + j < m * te.size := by
                have : (p - (lo + n) + 1) * te.size ≤ m * te.size := Nat.mul_le_mul_right _ (by omega)
                rw [Nat.succ_mul] at this; omega
              rw [hpe, List.append_assoc, List.getElem?_append_right (by omega), htl, Nat.add_sub_cancel_left, List.getElem?_append_left (by omega)]
              exact hu)
        exact ⟨_, _, hK1, _, _, M, β', .inl (run _ _ hrunE), ⟨k, _, _, hβd, rfl, fun _ => rfl, by show lo + (n + m) ≤ lo + n + m; omega, hroom⟩, hinv, Grow.refl _ _, hkeep⟩
      · -- a new row
        have holdl : ((cur.toList.drop (lo * te.size)).take (n * te.size)).length = n * te.size := by
          have : (lo + n) * te.size ≤ c.1 * te.size := Nat.mul_le_mul_right _ (by omega)
          rw [Nat.add_mul] at this
          simp; omega
        have hgr := run_append_grow (P := P) w t o.type e ie z hund hie hiz ⟨k, o', none⟩ n (c.1 - lo) ((cur.toList.drop (lo * te.size)).take (n * te.size)) (by rw [his]; exact holdl) (by
          intro j v hv
          rw [List.getElem?_take] at hv
          split at hv
          · rename_i hj
            have hnpos : 0 < n := by
              rcases Nat.eq_zero_or_pos n with h0 | h0
              · rw [h0] at hj; simp at hj
              · exact h0
            rw [hoo (by omega), cell_add]
            rw [List.getElem?_drop] at hv
            simp [World.cell?, hh]; simpa using hv
          · cases hv) bad m cap news (by rw [his]; exact hl) hcells (by omega) (by omega) (by
          rw [hib]; exact growslice_fits (by omega) (Nat.le_trans (Nat.mul_le_mul_right _ (by omega)) hbytes))
        rw [← ex, ← ey] at hgr
        have hge := grownCap_ge w (n + m) (c.1 - lo) e
        have hcmx := grownCap_le_maxLen w (n + m) (c.1 - lo) e (by unfold maxLen; omega)
        have ik := i.kill hb
        have hd' : getB ((b, none) :: σ.box) d = none := by
          rw [getB_cons, if_neg (fun h => by subst h; rw [hd] at hb; cases hb)]
          exact hd
        obtain ⟨β', q1, q2, q3, q4⟩ := ik.new (σ := ⟨σ.env, (b, none) :: σ.box⟩) (c := (grownCap w (n + m) (c.1 - lo) e, n + m)) (w' := w.drew.alloc (.cells (((cur.toList.drop (lo * te.size)).take (n * te.size)).toArray ++ news.toArray ++ Builtin.zeroCells z.cells (grownCap w (n + m) (c.1 - lo) e - (n + m))) e)) hd' rfl rfl rfl rfl (bc := .row e (n + m) te.size (catF n (fun i => f (lo + i)) g)) (by
          intro β' hβd _
          refine ⟨_, _, _, hβd, heap_alloc_new w.drew _, rfl, ?_, hge, hcmx, fun p j hp hj => ?_⟩
          · simp only [Array.size_append, List.size_toArray, size_zeroCells, hzsz, hl, holdl, ← Nat.add_mul]
            congr 1; omega
          · have harr : (((cur.toList.drop (lo * te.size)).take (n * te.size)).toArray ++ news.toArray ++ Builtin.zeroCells z.cells (grownCap w (n + m) (c.1 - lo) e - (n + m)))[p * te.size + j]? = ((cur.toList.drop (lo * te.size)).take (n * te.size) ++ (news ++ (Builtin.zeroCells z.cells (grownCap w (n + m) (c.1 - lo) e - (n + m))).toList))[p * te.size + j]? := by
              rw [← Array.getElem?_toList]
              simp
            rw [harr]
            simp only [catF]
            by_cases hpn : p < n
            · obtain ⟨u, hu, hr⟩ := hcell (lo + p) j (by omega) hj
              have hlt : p * te.size + j < n * te.size := by
                have : (p + 1) * te.size ≤ n * te.size := Nat.mul_le_mul_right _ hpn
                rw [Nat.succ_mul] at this; omega
              refine ⟨u, ?_, by rw [if_pos hpn]; exact hr⟩
              rw [List.getElem?_append_left (by omega), List.getElem?_take_of_lt hlt, List.getElem?_drop]
              rw [show lo * te.size + (p * te.size + j) = (lo + p) * te.size + j by rw [Nat.add_mul]; omega]
              simpa using hu
            · obtain ⟨u, hu, hr⟩ := hreps (p - n) j (by omega) hj
              refine ⟨u, ?_, by rw [if_neg hpn]; exact hr⟩
              have hpe : p * te.size + j = n * te.size + ((p - n) * te.size + j) := by
                have : p = n + (p - n) := by omega
                rw [← Nat.add_assoc, ← Nat.add_mul, ← this]
              have hlt : (p - n) * te.size + j < m * te.size := by
                have : (p - n + 1) * te.size ≤ m * te.size := Nat.mul_le_mul_right _ (by omega)
                rw [Nat.succ_mul] at this; omega
              rw [hpe, List.getElem?_append_right (by omega), holdl, Nat.add_sub_cancel_left, List.getElem?_append_left (by omega)]
              exact hu)
        exact ⟨_, _, hK2, _, _, M, β', .inl (run _ _ hgr), ⟨_, _, 0, q1, rfl, fun _ => by simp, by show 0 + (n + m) ≤ n + m; omega, hge⟩, q3, Grow.refl _ _, q4⟩

/-- append(nil, make([]T, n)...), one cell an element. -/
def appMX (T : List (Nat × TyI)) (σ : St) (d t t' : Nat) (x y : Operand) (K : AV → Boxes → Prop) : Prop :=
  fe none (ev σ x) fun vx => fe none (ev σ y) fun vy => match vx, vy with
    | .s (.d (.val (.slice none 0 0))), .s (.d (.val (.int .i64 n))) => match getT T t with
      | some ti => match ti.und with
        | .slice e => match getT T e with
          | some te => bif isK T t' && Nat.beq te.size 1 && Nat.blt 0 te.bytes && Nat.beq te.zero.length 1 then match getB σ.box d with
            | none => 0 < n ∧ n * te.bytes ≤ 140737488355328 ∧ K (.s (.own d)) ((d, some (.row e n.toNat 1 fun _ j => match (zvs te.zero)[j]? with | some c => dOf c | none => .junk)) :: σ.box)
            | some _ => False
            else False
          | none => False
        | _ => False
      | none => False
    | _, _ => False
theorem appM.spec {T : List (Nat × TyI)} (hT : TabOK P T) {d t t' : Nat} {x y : Operand} (ho : o.op = .call { callee := .builtin .append, args := #[x, y], argTypes := #[t, t'] })
    (h : appMX T σ d t t' x y K) : ∃ r bx, K r bx ∧ Eff P o σ r bx := by
  unfold appMX at h
  replace h := fe.ev h
  obtain ⟨vx, h, hrx⟩ := h
  replace h := fe.ev h
  obtain ⟨vy, h, hry⟩ := h
  split at h
  case h_2 => exact h.elim
  rename_i n
  split at h
  case h_2 => exact h.elim
  rename_i ti hti
  split at h
  case h_2 => exact h.elim
  rename_i e hu
  have hund := (hT.get hti).isSlice hu
  split at h
  case h_2 => exact h.elim
  rename_i te hte
  have hoke := hT.get hte
  cases hc : (isK T t' && Nat.beq te.size 1 && Nat.blt 0 te.bytes && Nat.beq te.zero.length 1) with
  | false => rw [hc] at h; exact h.elim
  | true =>
    rw [hc] at h
    simp only [cond_true] at h
    simp only [Bool.and_eq_true] at hc
    have ht' := isK.spec hT hc.1.1.1
    have c2 := Nat.eq_of_beq_eq_true hc.1.1.2
    have c3 : 0 < te.bytes := Nat.le_of_ble_eq_true hc.1.2
    have c4 := Nat.eq_of_beq_eq_true hc.2
    split at h
    case h_2 => exact h.elim
    rename_i hd
    obtain ⟨h0, hb, h⟩ := h
    refine ⟨_, _, h, fun cx N M β a w i => ?_⟩
    obtain ⟨m, rfl⟩ := Int.eq_ofNat_of_zero_le (Int.le_of_lt h0)
    have hm : 0 < m := by omega
    have ex : a.eval x = .slice none 0 0 := hrx actN cx N M β a w i
    have ey : a.eval y = .int .i64 m := hry actN cx N M β a w i
    obtain ⟨ie, z, hie, his, hib, hiz, hzc⟩ := hoke.infoZ
    have hzs : z.cells.size = 1 := by rw [← Array.length_toList, hzc, c4]
    have hmb : m * te.bytes ≤ 140737488355328 := Int.ofNat_le.1 (by rw [Int.natCast_mul]; exact hb)
    have hml : m ≤ 140737488355328 := Nat.le_trans (Nat.le_mul_of_pos_right _ c3) hmb
    have hw : IntKind.i64.wrap (m : Int) = m := IntWalk.i64_in m ⟨by omega, by omega⟩
    have hrunA : (Builtin.append_ #[t, t'] o.type #[.slice none 0 0, .int .i64 m]).run P w = .ok (.slice (some ⟨w.heap.size, 0, none⟩) m (grownCap w m 0 e)) (w.drew.alloc (.cells (Builtin.zeroCells z.cells m ++ Builtin.zeroCells z.cells (grownCap w m 0 e - m)) e)) := by
      have t1 : ¬ ((m : Int) < 0) := by omega
      have t2 : ¬ ((281474976710656 : Int) < (m : Int) * te.bytes) := Int.not_lt.2 (Int.le_trans hb (by decide))
      have t3 : ¬ m = 0 := by omega
      have t4 : ¬ ((9223372036854775807 : Int) < (m : Int)) := by omega
      have t5 : ¬ (281474976710656 < Builtin.nextslicecap m 0 * te.bytes) := by rw [nextslicecap_zero hm]; omega
      simp [Builtin.append_, run_underlying hund, run_underlying ht', asInt, asIntOf, sizeOf, typeInfo, zeroValue, hie, hib, his, c2, hiz, hw, t1, t2, t3, t4, t5, Question.forced, run_firstCells_none, newRow, grownCap]
    have hrun : (execOp a.eval o).run P w = .ok (.value (.slice (some ⟨w.heap.size, 0, none⟩) m (grownCap w m 0 e))) (w.drew.alloc (.cells (Builtin.zeroCells z.cells m ++ Builtin.zeroCells z.cells (grownCap w m 0 e - m)) e)) := by
      simp [execOp, ho, resolve, invoke, builtin, ex, ey, hrunA]
    have hge := grownCap_ge w m 0 e
    have hcmx := grownCap_le_maxLen w m 0 e (by unfold maxLen; omega)
    have hcells : ∀ q, q < m → (Builtin.zeroCells z.cells m ++ Builtin.zeroCells z.cells (grownCap w m 0 e - m))[q]? = some z.cells[0] := by
      intro q hq
      have hsz : (Builtin.zeroCells z.cells m).size = m := by rw [size_zeroCells, hzs, Nat.mul_one]
      rw [Array.getElem?_append_left (by rw [hsz]; exact hq)]
      unfold Builtin.zeroCells
      simp only [Array.getElem?_map, Array.getElem?_range, hzs, Nat.mul_one, hq, if_true, Option.map_some, Nat.mod_one, getElem!_pos z.cells 0 (by omega)]
    obtain ⟨β', b1, b2, b3, b4⟩ := i.new (w' := w.drew.alloc (.cells (Builtin.zeroCells z.cells m ++ Builtin.zeroCells z.cells (grownCap w m 0 e - m)) e)) (c := (grownCap w m 0 e, m)) hd (ob := .cells (Builtin.zeroCells z.cells m ++ Builtin.zeroCells z.cells (grownCap w m 0 e - m)) e) rfl rfl rfl rfl
      (bc := .row e m 1 fun _ j => match (zvs te.zero)[j]? with | some c => dOf c | none => .junk) (by
      intro β' hβd _
      refine ⟨_, _, _, hβd, heap_alloc_new w.drew _, rfl, ?_, hge, hcmx, fun k j hk hj => ?_⟩
      · simp only [Array.size_append, size_zeroCells, hzs]; omega
      obtain rfl : j = 0 := by omega
      refine ⟨z.cells[0], by rw [Nat.mul_one, Nat.add_zero]; exact hcells k hk, ?_⟩
      have hjl : 0 < te.zero.length := by rw [c4]; omega
      have hzj : z.cells[0] = te.zero[0] := by
        have : z.cells.toList[0]? = te.zero[0]? := by rw [hzc]
        have hz0 : 0 < z.cells.size := by omega
        simpa [hz0, hjl] using this
      have hlen : (zvs te.zero).length = te.zero.length := by
        have := (zvs.rep M β te.zero).length
        omega
      obtain ⟨u, hu, hr⟩ := (zvs.rep M β te.zero).get (List.getElem?_eq_getElem (by rw [hlen]; exact hjl : 0 < (zvs te.zero).length))
      rw [List.getElem?_eq_getElem hjl] at hu
      cases hu
      simp only [List.getElem?_eq_getElem (by rw [hlen]; exact hjl : 0 < (zvs te.zero).length)]
      rw [hzj]
      have had : ∀ l : List Value, allD (zvs l) = true := by
        intro l
        induction l with
        | nil => rfl
        | cons v r ih => cases v <;> exact ih
      have := allD.dOf (had te.zero) (List.getElem?_eq_getElem (by rw [hlen]; exact hjl : 0 < (zvs te.zero).length))
      rw [this] at hr
      exact hr)
    exact ⟨_, _, M, β', .inl hrun, ⟨_, _, b1, rfl, hge⟩, b3, Grow.refl _ _, b4⟩
end
end Go.Ax

/- Calls that are handed boxes of the caller's, by contracts over names of their own. -/
namespace Go.Ax
open Go.RowKit

def look (ren : List (Nat × Nat)) (x : Nat) : Nat :=
  match ren with
  | [] => x
  | (a, b) :: r => bif Nat.beq a x then b else look r x

def renC (ren : List (Nat × Nat)) : CV → CV
  | .d x => .d x
  | .ptr x off => .ptr (look ren x) off
def renCs (ren : List (Nat × Nat)) : List CV → List CV
  | [] => []
  | x :: r => renC ren x :: renCs ren r
def renS (ren : List (Nat × Nat)) : SV → SV
  | .d x => .d x
  | .ptr x off => .ptr (look ren x) off
  | .own x => .own (look ren x)
  | .mo z x => .mo z (look ren x)
  | .rw x i s o => .rw (look ren x) i s o
  | .clo f cs => .clo f (renCs ren cs)
  | .osl x s lo n => .osl (look ren x) s lo n
  | .mp x => .mp (look ren x)
def renSs (ren : List (Nat × Nat)) : List SV → List SV
  | [] => []
  | x :: r => renS ren x :: renSs ren r
def renT (ren : List (Nat × Nat)) : TV → TV
  | .s x => .s (renS ren x)
  | .g cs => .g (renSs ren cs)
def renTs (ren : List (Nat × Nat)) : List TV → List TV
  | [] => []
  | x :: r => renT ren x :: renTs ren r
def renA (ren : List (Nat × Nat)) : AV → AV
  | .s x => .s (renS ren x)
  | .g cs => .g (renSs ren cs)
  | .ib b x => .ib b (renS ren x)
  | .ig b cs => .ig b (renSs ren cs)
  | .t ts => .t (renTs ren ts)
def renAs (ren : List (Nat × Nat)) : List AV → List AV
  | [] => []
  | x :: r => renA ren x :: renAs ren r
def renB (ren : List (Nat × Nat)) : Box → Box
  | .cells cs => .cells (renSs ren cs)
  | .row e n s f => .row e n s f
  | .mrow e n s f => .mrow e n s f
  | .map vk l => .map vk l
  | .iter m n seen => .iter (look ren m) n seen

/-- The names in a value are among xs. -/
def inC (xs : List Nat) : List CV → Bool
  | [] => true
  | .d _ :: r => inC xs r
  | .ptr x _ :: r => xs.contains x && inC xs r
def inS (xs : List Nat) : SV → Bool
  | .d _ => true
  | .ptr x _ => xs.contains x
  | .own x => xs.contains x
  | .mo _ x => xs.contains x
  | .rw x _ _ _ => xs.contains x
  | .clo _ cs => inC xs cs
  | .osl x _ _ _ => xs.contains x
  | .mp x => xs.contains x
def inSs (xs : List Nat) : List SV → Bool
  | [] => true
  | x :: r => inS xs x && inSs xs r
def inT (xs : List Nat) : TV → Bool
  | .s x => inS xs x
  | .g cs => inSs xs cs
def inTs (xs : List Nat) : List TV → Bool
  | [] => true
  | x :: r => inT xs x && inTs xs r
def inA (xs : List Nat) : AV → Bool
  | .s x => inS xs x
  | .g cs => inSs xs cs
  | .t ts => inTs xs ts
  | _ => false
def inAs (xs : List Nat) : List AV → Bool
  | [] => true
  | x :: r => inA xs x && inAs xs r
def inB (xs : List Nat) : Box → Bool
  | .cells cs => inSs xs cs
  | .row _ _ _ _ => true
  | .mrow _ _ _ _ => false
  | .map _ _ => true
  | .iter m _ _ => xs.contains m

section
variable {M : Mem} {ren : List (Nat × Nat)} {xs : List Nat} {β β' : Nm}

/-- From names to names: what β says of the renamed, β' says. -/
theorem renC.rep (h : ∀ x, x ∈ xs → ∀ p, β (look ren x) = some p → β' x = some p) : ∀ {cs : List CV} {vs : List Value}, inC xs cs = true → RepC M β (renCs ren cs) vs → RepC M β' cs vs
  | [], [], _, _ => trivial
  | .d _ :: _, _ :: _, hi, ⟨a, r⟩ => ⟨a, renC.rep h (by simpa [inC] using hi) r⟩
  | .ptr x off :: _, _ :: _, hi, ⟨⟨b, c, e, hv⟩, r⟩ => by
    simp only [inC, Bool.and_eq_true] at hi
    exact ⟨⟨b, c, h x (by simpa using hi.1) _ e, hv⟩, renC.rep h hi.2 r⟩
  | [], _ :: _, _, h => h.elim
  | _ :: _, [], _, h => h.elim
theorem renS.rep (h : ∀ x, x ∈ xs → ∀ p, β (look ren x) = some p → β' x = some p) {x : SV} {v : Value} (hi : inS xs x = true) (r : (renS ren x).Rep M β v) : x.Rep M β' v := by
  cases x with
  | d x => exact r
  | ptr x off => obtain ⟨b, c, e, hv⟩ := r; exact ⟨b, c, h x (by simpa [inS] using hi) _ e, hv⟩
  | own x => obtain ⟨b, c, e, hv⟩ := r; exact ⟨b, c, h x (by simpa [inS] using hi) _ e, hv⟩
  | mo z x => exact ⟨r.1, fun hz => let ⟨b, c, e, hv⟩ := r.2 hz; ⟨b, c, h x (by simpa [inS] using hi) _ e, hv⟩⟩
  | rw x i s o => obtain ⟨b, c, e, hv⟩ := r; exact ⟨b, c, h x (by simpa [inS] using hi) _ e, hv⟩
  | clo f cs => obtain ⟨vs, e, hv⟩ := r; exact ⟨vs, e, renC.rep h hi hv⟩
  | osl x s lo n => obtain ⟨b, c, o, e, hv⟩ := r; exact ⟨b, c, o, h x (by simpa [inS] using hi) _ e, hv⟩
  | mp x => obtain ⟨b, c, e, hv⟩ := r; exact ⟨b, c, h x (by simpa [inS] using hi) _ e, hv⟩
theorem renSs.rep (h : ∀ x, x ∈ xs → ∀ p, β (look ren x) = some p → β' x = some p) : ∀ {cs : List SV} {vs : List Value}, inSs xs cs = true → RepL M β (renSs ren cs) vs → RepL M β' cs vs
  | [], [], _, _ => trivial
  | _ :: _, _ :: _, hi, ⟨a, r⟩ => by
    simp only [inSs, Bool.and_eq_true] at hi
    exact ⟨renS.rep h hi.1 a, renSs.rep h hi.2 r⟩
  | [], _ :: _, _, h => h.elim
  | _ :: _, [], _, h => h.elim
theorem renA.rep (h : ∀ x, x ∈ xs → ∀ p, β (look ren x) = some p → β' x = some p) {x : AV} {v : Value} (hi : inA xs x = true) (r : (renA ren x).Rep M β v) : x.Rep M β' v := by
  cases x with
  | s x => exact renS.rep h hi r
  | g cs => obtain ⟨vs, e, hv⟩ := r; exact ⟨vs, e, renSs.rep h hi hv⟩
  | t ts =>
    obtain ⟨vs, e, hv⟩ := r
    refine ⟨vs, e, ?_⟩
    have : ∀ {ts : List TV} {vs : List Value}, inTs xs ts = true → RepT M β (renTs ren ts) vs → RepT M β' ts vs := by
      intro ts
      induction ts with
      | nil =>
        intro vs _ hr
        cases vs with
        | nil => trivial
        | cons _ _ => exact hr.elim
      | cons t r ih =>
        intro vs hi hr
        simp only [inTs, Bool.and_eq_true] at hi
        cases vs with
        | nil => exact hr.elim
        | cons u us =>
          refine ⟨?_, ih hi.2 hr.2⟩
          cases t with
          | s x => exact renS.rep h hi.1 hr.1
          | g cs => obtain ⟨q, e, hq⟩ := hr.1; exact ⟨q, e, renSs.rep h hi.1 hq⟩
    exact this hi hv
  | _ => cases hi
theorem renAs.rep (h : ∀ x, x ∈ xs → ∀ p, β (look ren x) = some p → β' x = some p) : ∀ {cs : List AV} {vs : List Value}, inAs xs cs = true → RepAs M β (renAs ren cs) vs → RepAs M β' cs vs
  | [], [], _, _ => trivial
  | _ :: _, _ :: _, hi, ⟨a, r⟩ => by
    simp only [inAs, Bool.and_eq_true] at hi
    exact ⟨renA.rep h hi.1 a, renAs.rep h hi.2 r⟩
  | [], _ :: _, _, h => h.elim
  | _ :: _, [], _, h => h.elim
theorem renB.rep (h : ∀ x, x ∈ xs → ∀ p, β (look ren x) = some p → β' x = some p) {w : World} {x : Nat} {b : Box} (hx : x ∈ xs) (hi : inB xs b = true) (r : RepBox M β w (look ren x) (renB ren b)) : RepBox M β' w x b := by
  cases b with
  | cells cs => obtain ⟨k, c, vs, T, e, hh, hr⟩ := r; exact ⟨k, c, vs, T, h x hx _ e, hh, renSs.rep h hi hr⟩
  | row e n s f => obtain ⟨k, c, cur, e', r⟩ := r; exact ⟨k, c, cur, h x hx _ e', r⟩
  | mrow e n s f => cases hi
  | map vk l => obtain ⟨k, c, e, hh⟩ := r; exact ⟨k, c, h x hx _ e, hh⟩
  | iter m n seen => obtain ⟨k, c, bm, cm, e, em, hh⟩ := r; exact ⟨k, c, bm, cm, h x hx _ e, h m (by simpa [inB] using hi) _ em, hh⟩

/-- And back. -/
theorem renC.back (h : ∀ x, x ∈ xs → ∀ p, β' x = some p → β (look ren x) = some p) : ∀ {cs : List CV} {vs : List Value}, inC xs cs = true → RepC M β' cs vs → RepC M β (renCs ren cs) vs
  | [], [], _, _ => trivial
  | .d _ :: _, _ :: _, hi, ⟨a, r⟩ => ⟨a, renC.back h (by simpa [inC] using hi) r⟩
  | .ptr x off :: _, _ :: _, hi, ⟨⟨b, c, e, hv⟩, r⟩ => by
    simp only [inC, Bool.and_eq_true] at hi
    exact ⟨⟨b, c, h x (by simpa using hi.1) _ e, hv⟩, renC.back h hi.2 r⟩
  | [], _ :: _, _, h => h.elim
  | _ :: _, [], _, h => h.elim
theorem renS.back (h : ∀ x, x ∈ xs → ∀ p, β' x = some p → β (look ren x) = some p) {x : SV} {v : Value} (hi : inS xs x = true) (r : x.Rep M β' v) : (renS ren x).Rep M β v := by
  cases x with
  | d x => exact r
  | ptr x off => obtain ⟨b, c, e, hv⟩ := r; exact ⟨b, c, h x (by simpa [inS] using hi) _ e, hv⟩
  | own x => obtain ⟨b, c, e, hv⟩ := r; exact ⟨b, c, h x (by simpa [inS] using hi) _ e, hv⟩
  | mo z x => exact ⟨r.1, fun hz => let ⟨b, c, e, hv⟩ := r.2 hz; ⟨b, c, h x (by simpa [inS] using hi) _ e, hv⟩⟩
  | rw x i s o => obtain ⟨b, c, e, hv⟩ := r; exact ⟨b, c, h x (by simpa [inS] using hi) _ e, hv⟩
  | clo f cs => obtain ⟨vs, e, hv⟩ := r; exact ⟨vs, e, renC.back h hi hv⟩
  | osl x s lo n => obtain ⟨b, c, o, e, hv⟩ := r; exact ⟨b, c, o, h x (by simpa [inS] using hi) _ e, hv⟩
  | mp x => obtain ⟨b, c, e, hv⟩ := r; exact ⟨b, c, h x (by simpa [inS] using hi) _ e, hv⟩
theorem renSs.back (h : ∀ x, x ∈ xs → ∀ p, β' x = some p → β (look ren x) = some p) : ∀ {cs : List SV} {vs : List Value}, inSs xs cs = true → RepL M β' cs vs → RepL M β (renSs ren cs) vs
  | [], [], _, _ => trivial
  | _ :: _, _ :: _, hi, ⟨a, r⟩ => by
    simp only [inSs, Bool.and_eq_true] at hi
    exact ⟨renS.back h hi.1 a, renSs.back h hi.2 r⟩
  | [], _ :: _, _, h => h.elim
  | _ :: _, [], _, h => h.elim
theorem renA.back (h : ∀ x, x ∈ xs → ∀ p, β' x = some p → β (look ren x) = some p) {x : AV} {v : Value} (hi : inA xs x = true) (r : x.Rep M β' v) : (renA ren x).Rep M β v := by
  cases x with
  | s x => exact renS.back h hi r
  | g cs => obtain ⟨vs, e, hv⟩ := r; exact ⟨vs, e, renSs.back h hi hv⟩
  | t ts =>
    obtain ⟨vs, e, hv⟩ := r
    refine ⟨vs, e, ?_⟩
    have : ∀ {ts : List TV} {vs : List Value}, inTs xs ts = true → RepT M β' ts vs → RepT M β (renTs ren ts) vs := by
      intro ts
      induction ts with
      | nil =>
        intro vs _ hr
        cases vs with
        | nil => trivial
        | cons _ _ => exact hr.elim
      | cons t r ih =>
        intro vs hi hr
        simp only [inTs, Bool.and_eq_true] at hi
        cases vs with
        | nil => exact hr.elim
        | cons u us =>
          refine ⟨?_, ih hi.2 hr.2⟩
          cases t with
          | s x => exact renS.back h hi.1 hr.1
          | g cs => obtain ⟨q, e, hq⟩ := hr.1; exact ⟨q, e, renSs.back h hi.1 hq⟩
    exact this hi hv
  | _ => cases hi
theorem renB.back (h : ∀ x, x ∈ xs → ∀ p, β' x = some p → β (look ren x) = some p) {w : World} {x : Nat} {b : Box} (hx : x ∈ xs) (hi : inB xs b = true) (r : RepBox M β' w x b) : RepBox M β w (look ren x) (renB ren b) := by
  cases b with
  | cells cs => obtain ⟨k, c, vs, T, e, hh, hr⟩ := r; exact ⟨k, c, vs, T, h x hx _ e, hh, renSs.back h hi hr⟩
  | row e n s f => obtain ⟨k, c, cur, e', r⟩ := r; exact ⟨k, c, cur, h x hx _ e', r⟩
  | mrow e n s f => cases hi
  | map vk l => obtain ⟨k, c, e, hh⟩ := r; exact ⟨k, c, h x hx _ e, hh⟩
  | iter m n seen => obtain ⟨k, c, bm, cm, e, em, hh⟩ := r; exact ⟨k, c, bm, cm, h x hx _ e, h m (by simpa [inB] using hi) _ em, hh⟩
end

abbrev BoxL := List (Nat × Box)
def names : BoxL → List Nat
  | [] => []
  | (x, _) :: r => x :: names r
theorem mem_names {x : Nat} {b : Box} : ∀ {bx : BoxL}, (x, b) ∈ bx → x ∈ names bx
  | [], h => by cases h
  | (y, c) :: r, h => by
    cases h with
    | head => simp [names]
    | tail _ h => exact List.mem_cons_of_mem _ (mem_names h)
theorem of_names {x : Nat} : ∀ {bx : BoxL}, x ∈ names bx → ∃ b, (x, b) ∈ bx
  | [], h => by cases h
  | (y, c) :: r, h => by
    simp only [names, List.mem_cons] at h
    rcases h with rfl | h
    · exact ⟨c, by simp⟩
    · obtain ⟨b, hb⟩ := of_names h; exact ⟨b, List.mem_cons_of_mem _ hb⟩

/-- These boxes are there. -/
structure BoxesOK (M : Mem) (β : Nm) (w : World) (bx : BoxL) : Prop where
  has : ∀ x, x ∈ names bx → ∃ b c, β x = some (b, c)
  rep : ∀ x b, (x, b) ∈ bx → RepBox M β w x b
  inj : ∀ x y b c c', x ∈ names bx → y ∈ names bx → β x = some (b, c) → β y = some (b, c') → x = y
  apart : ∀ x b c, x ∈ names bx → β x = some (b, c) → ∀ o, M b o = none

/-- THE CONTRACT of a function that is handed boxes: it returns r, and the boxes are then bx'. -/
def CallR (P : Program) (f : FuncId) (args : List AV) (bx : BoxL) (r : AV) (bx' : BoxL) : Prop :=
  (∀ vs w, (callFunc f vs).run P w = .ok (.enter f vs) w) ∧
  ∀ (M : Mem) (β : Nm) (w : World) (vs : List Value), RepAs M β args vs → MemOK M w → BoxesOK M β w bx → (∀ x p, β x = some p → x ∈ names bx) →
    Calls P f vs.toArray w fun e w' => ∃ v M' β', e = .returned v ∧ Nm.le β β' ∧ r.Rep M' β' v ∧ Grow w.heap.size M M' ∧ MemOK M' w' ∧ BoxesOK M' β' w' bx' ∧
      (∀ x b c, x ∈ names bx' → β' x = some (b, c) → w.heap.size ≤ b ∨ ∃ y c', β y = some (b, c')) ∧
      w'.os = w.os ∧ w'.tape = w.tape ∧ w'.output = w.output ∧ w.heap.size ≤ w'.heap.size ∧ (∀ k, k < w.heap.size → (∀ y c, β y ≠ some (k, c)) → w'.heap[k]? = w.heap[k]?) ∧ w.drawn ≤ w'.drawn


def matchB (ren : List (Nat × Nat)) (box : Boxes) : BoxL → Prop
  | [] => True
  | (x, b) :: r => getB box (look ren x) = some (some (renB ren b)) ∧ matchB ren box r
theorem matchB.get {ren : List (Nat × Nat)} {box : Boxes} {x : Nat} {b : Box} : ∀ {bx : BoxL}, matchB ren box bx → (x, b) ∈ bx → getB box (look ren x) = some (some (renB ren b))
  | [], _, h => by cases h
  | (y, c) :: r, ⟨h, hr⟩, hm => by
    cases hm with
    | head => exact h
    | tail _ hm => exact matchB.get hr hm
def addB (ren : List (Nat × Nat)) (box : Boxes) : BoxL → Boxes
  | [] => box
  | (x, b) :: r => (look ren x, some (renB ren b)) :: addB ren box r
def killB (ren : List (Nat × Nat)) (box : Boxes) : BoxL → Boxes
  | [] => box
  | (x, _) :: r => (look ren x, none) :: killB ren box r
theorem addB.get {ren : List (Nat × Nat)} {box : Boxes} {y : Nat} : ∀ {bx : BoxL}, (∃ x b, (x, b) ∈ bx ∧ look ren x = y ∧ getB (addB ren box bx) y = some (some (renB ren b))) ∨ ((∀ x, x ∈ names bx → look ren x ≠ y) ∧ getB (addB ren box bx) y = getB box y)
  | [] => .inr ⟨fun x h => (by cases h), rfl⟩
  | (x, b) :: r => by
    by_cases h : look ren x = y
    · exact .inl ⟨x, b, by simp, h, by simp only [addB]; rw [getB_cons, if_pos h]⟩
    · rcases addB.get (ren := ren) (box := box) (y := y) (bx := r) with ⟨x', b', h1, h2, h3⟩ | ⟨h1, h2⟩
      · exact .inl ⟨x', b', List.mem_cons_of_mem _ h1, h2, by simp only [addB]; rw [getB_cons, if_neg h]; exact h3⟩
      · refine .inr ⟨fun z hz => ?_, by simp only [addB]; rw [getB_cons, if_neg h]; exact h2⟩
        simp only [names, List.mem_cons] at hz
        rcases hz with rfl | hz
        · exact h
        · exact h1 z hz
theorem killB.get {ren : List (Nat × Nat)} {box : Boxes} {y : Nat} : ∀ {bx : BoxL}, ((∃ x, x ∈ names bx ∧ look ren x = y) ∧ getB (killB ren box bx) y = some none) ∨ ((∀ x, x ∈ names bx → look ren x ≠ y) ∧ getB (killB ren box bx) y = getB box y)
  | [] => .inr ⟨fun x h => (by cases h), rfl⟩
  | (x, b) :: r => by
    by_cases h : look ren x = y
    · exact .inl ⟨⟨x, by simp [names], h⟩, by simp only [killB]; rw [getB_cons, if_pos h]⟩
    · rcases killB.get (ren := ren) (box := box) (y := y) (bx := r) with ⟨⟨x', h1, h2⟩, h3⟩ | ⟨h1, h2⟩
      · exact .inl ⟨⟨x', List.mem_cons_of_mem _ h1, h2⟩, by simp only [killB]; rw [getB_cons, if_neg h]; exact h3⟩
      · refine .inr ⟨fun z hz => ?_, by simp only [killB]; rw [getB_cons, if_neg h]; exact h2⟩
        simp only [names, List.mem_cons] at hz
        rcases hz with rfl | hz
        · exact h
        · exact h1 z hz

def inBs (xs : List Nat) : BoxL → Bool
  | [] => true
  | (_, b) :: r => inB xs b && inBs xs r
theorem inB.real {xs : List Nat} {b : Box} (h : inB xs b = true) : b.real = true := by
  cases b with
  | mrow e n s f => cases h
  | _ => rfl
theorem inBs.get {xs : List Nat} {x : Nat} {b : Box} : ∀ {bx : BoxL}, inBs xs bx = true → (x, b) ∈ bx → inB xs b = true
  | [], _, h => by cases h
  | (y, c) :: r, h, hm => by
    simp only [inBs, Bool.and_eq_true] at h
    cases hm with
    | head => exact h.1
    | tail _ hm => exact inBs.get h.2 hm
def injL (ren : List (Nat × Nat)) (xs : List Nat) : Bool := xs.all fun x => xs.all fun y => Nat.beq x y || !(Nat.beq (look ren x) (look ren y))
def freshL (ren : List (Nat × Nat)) (box : Boxes) (xs : List Nat) : List Nat → Bool
  | [] => true
  | x :: r => (xs.contains x || (match getB box (look ren x) with | none => true | some _ => false)) && freshL ren box xs r
theorem freshL.get {ren : List (Nat × Nat)} {box : Boxes} {xs : List Nat} {x : Nat} : ∀ {l : List Nat}, freshL ren box xs l = true → x ∈ l → x ∉ xs → getB box (look ren x) = none
  | [], _, h, _ => by cases h
  | y :: r, h, hm, hx => by
    simp only [freshL, Bool.and_eq_true, Bool.or_eq_true] at h
    cases hm with
    | head =>
      rcases h.1 with h1 | h1
      · exact absurd (by simpa using h1) hx
      · split at h1
        · assumption
        · cases h1
    | tail _ hm => exact freshL.get h.2 hm hx

def renOK (ren : List (Nat × Nat)) (box : Boxes) (args : List AV) (bx : BoxL) (r : AV) (bx' : BoxL) : Bool :=
  inAs (names bx) args && inBs (names bx) bx && inA (names bx') r && inBs (names bx') bx' && injL ren (names bx ++ names bx') && freshL ren box (names bx) (names bx')

def doCallR (P : Program) (σ : St) (f : FuncId) (as : List AV) (K : AV → Boxes → Prop) : Prop :=
  ∃ ren args bx r bx', CallR P f args bx r bx' ∧ as = renAs ren args ∧ matchB ren σ.box bx ∧ renOK ren σ.box args bx r bx' = true ∧ K (renA ren r) (addB ren (killB ren σ.box bx) bx')
def callRX (P : Program) (σ : St) (vf : AV) (args : List AV) (K : AV → Boxes → Prop) : Prop :=
  match vf with
  | .s (.clo f cs) => doCallR P σ f (args ++ capA cs) K
  | _ => False

theorem Inv.afterR {P : Program} {cx : Cx} {N : Nat} {M : Mem} {β : Nm} {σ : St} {a : Act} {w : World} (i : Inv cx N M β σ a w) {ren : List (Nat × Nat)} {f : FuncId} {args : List AV} {bx : BoxL} {r : AV} {bx' : BoxL}
    (hc : CallR P f args bx r bx') (hm : matchB ren σ.box bx) (hok : renOK ren σ.box args bx r bx' = true) {vs : List Value} (hv : RepAs M β (renAs ren args) vs) :
    Calls P f vs.toArray w fun e w' => ∃ v M' β', e = .returned v ∧ (renA ren r).Rep M' β' v ∧ Inv cx N M' β' ⟨σ.env, addB ren (killB ren σ.box bx) bx'⟩ a w' ∧ Grow cx.B M M' ∧ Keep cx w w' ∧ ((∀ x, x ∈ names bx' → x ∈ names bx) → β' = β) := by
  classical
  simp only [renOK, Bool.and_eq_true] at hok
  obtain ⟨⟨⟨⟨⟨k1, k2⟩, k3⟩, k4⟩, k5⟩, k6⟩ := hok
  have hinj : ∀ x y, x ∈ names bx ++ names bx' → y ∈ names bx ++ names bx' → look ren x = look ren y → x = y := by
    intro x y hx hy e
    simp only [injL, List.all_eq_true] at k5
    have := k5 x hx y hy
    simp only [Bool.or_eq_true] at this
    rcases this with h | h
    · exact Nat.eq_of_beq_eq_true h
    · rw [e] at h; simp at h
  let βh : Nm := fun x => if x ∈ names bx then β (look ren x) else none
  have hβh : ∀ x, x ∈ names bx → ∀ p, β (look ren x) = some p → βh x = some p := fun x hx p e => by simp [βh, hx, e]
  have hβh' : ∀ x p, βh x = some p → x ∈ names bx ∧ β (look ren x) = some p := fun x p e => by
    simp only [βh] at e
    split at e
    · exact ⟨by assumption, e⟩
    · cases e
  have hlive : ∀ x, x ∈ names bx → ∃ b, getB σ.box (look ren x) = some (some b) := fun x hx => by
    obtain ⟨b, hb⟩ := of_names hx
    exact ⟨_, hm.get hb⟩
  have hboxes : BoxesOK M βh w bx := by
    have hrep : ∀ x b, (x, b) ∈ bx → RepBox M βh w x b := fun x b hb => renB.rep hβh (mem_names hb) (inBs.get k2 hb) (i.box _ _ (hm.get hb))
    refine ⟨fun x hx => let ⟨b, hb⟩ := of_names hx; (hrep x b hb).exb (inB.real (inBs.get k2 hb)), hrep, fun x y b c c' hx hy e1 e2 => ?_, fun x b c hx e o => ?_⟩
    · obtain ⟨bX, hX⟩ := hlive x hx
      obtain ⟨bY, hY⟩ := hlive y hy
      have := i.inj _ _ _ _ b c c' hX hY (hβh' x _ e1).2 (hβh' y _ e2).2
      exact hinj x y (List.mem_append_left _ hx) (List.mem_append_left _ hy) this
    · obtain ⟨bX, hX⟩ := hlive x hx
      exact i.apart _ _ b c hX (hβh' x _ e).2 o
  refine (hc.2 M βh w vs (renAs.rep hβh k1 hv) i.mem hboxes (fun x p e => (hβh' x p e).1)).mono ?_
  rintro e w' ⟨v, M', β1, rfl, hle, hr, hg, hmem, hbx', hblk, ho, htp, hou, hsz, hheap, hdr⟩
  let β2 : Nm := fun y => if h : ∃ x, x ∈ names bx' ∧ x ∉ names bx ∧ look ren x = y then β1 (Classical.choose h) else β y
  have hnew : ∀ x, x ∈ names bx' → x ∉ names bx → β2 (look ren x) = β1 x := by
    intro x hx hn
    have hex : ∃ z, z ∈ names bx' ∧ z ∉ names bx ∧ look ren z = look ren x := ⟨x, hx, hn, rfl⟩
    have hs := Classical.choose_spec hex
    have : Classical.choose hex = x := hinj _ _ (List.mem_append_right _ hs.1) (List.mem_append_right _ hx) hs.2.2
    simp only [β2, dif_pos hex, this]
  have holdn : ∀ y, (∀ x, x ∈ names bx' → x ∉ names bx → look ren x ≠ y) → β2 y = β y := by
    intro y hy
    have : ¬ ∃ x, x ∈ names bx' ∧ x ∉ names bx ∧ look ren x = y := fun ⟨x, h1, h2, h3⟩ => hy x h1 h2 h3
    simp only [β2, dif_neg this]
  have hβ2 : Nm.le β β2 := by
    intro y p e
    rw [holdn y (fun x h1 h2 h3 => ?_)]
    · exact e
    · obtain ⟨q, hq⟩ := i.keys y p e
      rw [← h3, freshL.get k6 h1 h2] at hq
      cases hq
  have hall : ∀ x, x ∈ names bx' → ∀ p, β1 x = some p → β2 (look ren x) = some p := by
    intro x hx p e
    by_cases hn : x ∈ names bx
    · obtain ⟨bX, hX⟩ := of_names hn
      obtain ⟨b, c, e'⟩ := hboxes.has x hn
      have := hle x _ e'
      rw [this] at e; cases e
      exact hβ2 _ _ (hβh' x _ e').2
    · rw [hnew x hx hn]; exact e
  have hall' : ∀ x, x ∈ names bx' → ∀ p, β2 (look ren x) = some p → β1 x = some p := by
    intro x hx p e
    by_cases hn : x ∈ names bx
    · obtain ⟨bX, hX⟩ := of_names hn
      obtain ⟨b, c, e'⟩ := hboxes.has x hn
      have h1 := hle x _ e'
      have h2 := hβ2 _ _ (hβh' x _ e').2
      rw [h2] at e; cases e
      exact h1
    · rw [hnew x hx hn] at e; exact e
  -- the live boxes afterwards
  have hcase : ∀ y bc, getB (addB ren (killB ren σ.box bx) bx') y = some (some bc) → (∃ x b, (x, b) ∈ bx' ∧ look ren x = y ∧ bc = renB ren b) ∨
      ((∀ x, x ∈ names bx' → look ren x ≠ y) ∧ (∀ x, x ∈ names bx → look ren x ≠ y) ∧ getB σ.box y = some (some bc)) := by
    intro y bc e
    rcases addB.get (ren := ren) (box := killB ren σ.box bx) (y := y) (bx := bx') with ⟨x, b, h1, h2, h3⟩ | ⟨h1, h2⟩
    · rw [h3] at e; cases e
      exact .inl ⟨x, b, h1, h2, rfl⟩
    · rw [h2] at e
      rcases killB.get (ren := ren) (box := σ.box) (y := y) (bx := bx) with ⟨_, h4⟩ | ⟨h3, h4⟩
      · rw [h4] at e; cases e
      · rw [h4] at e
        exact .inr ⟨h1, h3, e⟩
  have hfar : ∀ y bc b c, getB σ.box y = some (some bc) → (∀ x, x ∈ names bx → look ren x ≠ y) → β y = some (b, c) → ∀ z c', βh z ≠ some (b, c') := by
    intro y bc b c hy hny e z c' hz
    obtain ⟨hzn, hz2⟩ := hβh' z _ hz
    obtain ⟨bZ, hZ⟩ := hlive z hzn
    exact hny z hzn (i.inj _ _ _ _ b c' c hZ hy hz2 e)
  have hin : ∀ y bc b c, getB (addB ren (killB ren σ.box bx) bx') y = some (some bc) → β2 y = some (b, c) → (∃ x, x ∈ names bx' ∧ look ren x = y ∧ β1 x = some (b, c)) ∨
      ((∀ x, x ∈ names bx → look ren x ≠ y) ∧ getB σ.box y = some (some bc) ∧ β y = some (b, c)) := by
    intro y bc b c e e2
    rcases hcase y bc e with ⟨x, b', h1, rfl, _⟩ | ⟨h1, h2, h3⟩
    · exact .inl ⟨x, mem_names h1, rfl, hall' x (mem_names h1) _ e2⟩
    · rw [holdn y (fun x hx _ => h1 x hx)] at e2
      exact .inr ⟨h2, h3, e2⟩
  refine ⟨v, M', β2, rfl, renA.back (fun x hx p e => hall x hx p e) k3 hr, ⟨i.defers, i.tmps, Nat.le_trans i.heap hsz, fun t => AV.Rep.mono hg.le hβ2 (i.env t), hmem, ?_, ?_, ?_, ?_, ?_, ?_⟩,
    ⟨hg.le, fun b o u e => (hg.new b o u e).imp id (fun h => Nat.le_trans i.heap h)⟩, ⟨ho, htp, hou, hsz, ?_, hdr⟩, fun hsub => funext fun y => holdn y (fun x h1 h2 _ => h2 (hsub x h1))⟩
  · intro y p e
    rcases addB.get (ren := ren) (box := killB ren σ.box bx) (y := y) (bx := bx') with ⟨x, b, h1, h2, h3⟩ | ⟨h1, h2⟩
    · exact ⟨_, h3⟩
    · rw [holdn y (fun x hx _ => h1 x hx)] at e
      rcases killB.get (ren := ren) (box := σ.box) (y := y) (bx := bx) with ⟨_, h4⟩ | ⟨_, h4⟩
      · exact ⟨_, h2.trans h4⟩
      · obtain ⟨q, hq⟩ := i.keys y p e
        exact ⟨q, h2.trans (h4.trans hq)⟩
  · intro y bc e
    rcases hcase y bc e with ⟨x, b', h1, rfl, rfl⟩ | ⟨h1, h2, h3⟩
    · exact renB.back (fun z hz p e => hall z hz p e) (mem_names h1) (inBs.get k4 h1) (hbx'.rep x b' h1)
    · have hrr := i.box y bc h3
      exact RepBox.mono hg.le hβ2 (holdn y (fun x hx _ => h1 x hx)) (fun b c e' => hheap b (i.box_lt h3 e') (fun z c' => hfar y bc b c h3 h2 e' z c')) hrr
  · intro y z by' bz b c c' ey ez hy hz
    rcases hin y by' b c ey hy with ⟨x, h1, rfl, h3⟩ | ⟨h1, h2, h3⟩
    · rcases hin z bz b c' ez hz with ⟨x', k1', rfl, k3'⟩ | ⟨k1', k2', k3'⟩
      · rw [hbx'.inj x x' b c c' h1 k1' h3 k3']
      · exfalso
        rcases hblk x b c h1 h3 with hb | ⟨u, cu, hu⟩
        · have := i.box_lt k2' k3'; omega
        · exact hfar z bz b c' k2' k1' k3' u cu hu
    · rcases hin z bz b c' ez hz with ⟨x', k1', rfl, k3'⟩ | ⟨k1', k2', k3'⟩
      · exfalso
        rcases hblk x' b c' k1' k3' with hb | ⟨u, cu, hu⟩
        · have := i.box_lt h2 h3; omega
        · exact hfar y by' b c h2 h1 h3 u cu hu
      · exact i.inj y z by' bz b c c' h2 k2' h3 k3'
  · intro y bc b c e e2 o
    rcases hin y bc b c e e2 with ⟨x, h1, rfl, h3⟩ | ⟨h1, h2, h3⟩
    · exact hbx'.apart x b c h1 h3 o
    · cases hmm : M' b o with
      | none => rfl
      | some u =>
        rcases hg.new b o u hmm with h | h
        · rw [i.apart y bc b c h2 h3 o] at h; cases h
        · have := i.box_lt h2 h3; omega
  · intro y bc b c e e2
    rcases hin y bc b c e e2 with ⟨x, h1, rfl, h3⟩ | ⟨h1, h2, h3⟩
    · rcases hblk x b c h1 h3 with hb | ⟨u, cu, hu⟩
      · exact .inl (Nat.le_trans i.heap hb)
      · obtain ⟨hun, hu2⟩ := hβh' u _ hu
        obtain ⟨bU, hU⟩ := hlive u hun
        exact i.low _ _ b cu hU hu2
    · exact i.low y bc b c h2 h3
  · intro x hx
    obtain ⟨h1, p, h2⟩ := i.ref x hx
    have := hβ2 x p h2
    exact ⟨by rw [this, ← h1, h2], p, this⟩
  · intro k hk hmw
    refine hheap k (Nat.lt_of_lt_of_le hk i.heap) (fun z c hz => ?_)
    obtain ⟨hzn, hz2⟩ := hβh' z _ hz
    obtain ⟨bZ, hZ⟩ := hlive z hzn
    rcases i.low _ _ k c hZ hz2 with h | h
    · omega
    · exact hmw h

section
variable {P : Program} {σ : St} {o : Oper}
theorem callR.spec {fo : Operand} {l : List Operand} {K : AV → Boxes → Prop} (ho : ∃ args tys, o.op = .call { callee := .value fo, args := args, argTypes := tys } ∧ args.toList = l)
    (h : fe none (ev σ fo) fun vf => fetch none σ l fun as => callRX P σ vf as K) :
    ∃ r bx, K r bx ∧ ∀ cx N M β a w, Inv cx N M β σ a w → ∃ f vs, (execOp a.eval o).run P w = .ok (.enter f vs) w ∧
      Calls P f vs w fun e w' => ∃ v M' β', e = .returned v ∧ r.Rep M' β' v ∧ Inv cx N M' β' ⟨σ.env, bx⟩ a w' ∧ Grow cx.B M M' ∧ Keep cx w w' := by
  obtain ⟨args, tys, ho, rfl⟩ := ho
  replace h := fe.ev h
  obtain ⟨vf, h, hf⟩ := h
  replace h := fetch.spec h
  obtain ⟨as, h, has⟩ := h
  unfold callRX at h
  split at h
  case h_2 => exact h.elim
  rename_i f cs
  obtain ⟨ren, ar, bx, r, bx', hc, he, hm, hok, hk⟩ := h
  refine ⟨_, _, hk, fun cx N M β a w i => ?_⟩
  obtain ⟨us, eu, hus⟩ := hf actN cx N M β a w i
  have hargs := (has actN cx N M β a w i).append (capA.rep hus)
  rw [he] at hargs
  refine ⟨f, (args.toList.map a.eval ++ us).toArray, ?_, (Inv.afterR i hc hm hok hargs).mono fun e w' ⟨v, M', β', h1, h2, h3, h4, h5, _⟩ => ⟨v, M', β', h1, h2, h3, h4, h5⟩⟩
  have : (args.map a.eval ++ us.toArray) = (args.toList.map a.eval ++ us).toArray := by
    apply Array.ext'; simp
  simp [execOp, ho, resolve, eu, Deferred.ofValue, invoke, this, hc.1]
end

end Go.Ax

/- Calls that are handed boxes of the caller's and leave them as they are. -/
namespace Go.Ax
open Go.RowKit

def catL {α : Type} (f : α → List Nat) : List α → List Nat
  | [] => []
  | x :: r => f x ++ catL f r
theorem mem_catL {α : Type} {f : α → List Nat} {n : Nat} : ∀ {l : List α} {j : Nat} {c : α}, l[j]? = some c → n ∈ f c → n ∈ catL f l
  | [], _, _, h, _ => by simp at h
  | x :: r, 0, c, h, hn => by simp at h; subst h; exact List.mem_append_left _ hn
  | x :: r, j + 1, c, h, hn => List.mem_append_right _ (mem_catL (j := j) (by simpa using h) hn)

/-- The boxes that a value leads to. -/
def reach : Nat → St → SV → List Nat
  | _, _, .d _ => []
  | 0, _, .ptr x _ => [x]
  | n + 1, σ, .ptr x _ => x :: match getB σ.box x with
    | some (some (.cells cs)) => catL (reach n σ) cs
    | _ => []
  | _, _, .own x => [x]
  | _, _, .mo _ x => [x]
  | _, _, .rw x _ _ _ => [x]
  | _, _, .osl x _ _ _ => [x]
  | _, _, .mp x => [x]
  | 0, _, .clo _ _ => []
  | n + 1, σ, .clo _ cs => catL (fun c => match c with | .d _ => [] | .ptr x off => reach n σ (.ptr x off)) cs
def reachA (σ : St) : AV → List Nat
  | .s x => reach 4 σ x
  | .ib _ x => reach 4 σ x
  | .g cs => catL (reach 4 σ) cs
  | .ig _ cs => catL (reach 4 σ) cs
  | .t _ => []


def okK (ren : List (Nat × Nat)) (args : List AV) (bx : BoxL) : Bool := inAs (names bx) args && inBs (names bx) bx && injL ren (names bx)
/-- Called by a contract over boxes, which are then as they were. -/
def CallK (P : Program) (σ : St) (f : FuncId) (as : List AV) (r : AV) : Prop :=
  ∃ ren args bx, CallR P f args bx r bx ∧ as = renAs ren args ∧ matchB ren σ.box bx ∧ okK ren args bx = true ∧ flatA r = true ∧ ((names bx).all fun x => (catL (reachA σ) as).contains (look ren x)) = true

theorem addKill {ren : List (Nat × Nat)} {box : Boxes} {bx : BoxL} (hm : matchB ren box bx) (y : Nat) : getB (addB ren (killB ren box bx) bx) y = getB box y := by
  rcases addB.get (ren := ren) (box := killB ren box bx) (y := y) (bx := bx) with ⟨x, b, h1, rfl, h3⟩ | ⟨h1, h2⟩
  · rw [h3, hm.get h1]
  · rw [h2]
    rcases killB.get (ren := ren) (box := box) (y := y) (bx := bx) with ⟨⟨x, hx, hy⟩, _⟩ | ⟨_, h4⟩
    · exact absurd hy (h1 x hx)
    · exact h4
theorem Inv.boxes {cx : Cx} {N : Nat} {M : Mem} {β : Nm} {E : List (Nat × AV)} {b1 b2 : Boxes} {a : Act} {w : World} (i : Inv cx N M β ⟨E, b1⟩ a w) (h : ∀ y, getB b1 y = getB b2 y) : Inv cx N M β ⟨E, b2⟩ a w :=
  ⟨i.defers, i.tmps, i.heap, i.env, i.mem, fun x p e => by obtain ⟨y, hy⟩ := i.keys x p e; exact ⟨y, (h x).symm.trans hy⟩, fun x bc e => i.box x bc ((h x).trans e),
   fun x y bx bby b c c' ex ey => i.inj x y bx bby b c c' ((h x).trans ex) ((h y).trans ey), fun x bc b c e => i.apart x bc b c ((h x).trans e), fun x bc b c e => i.low x bc b c ((h x).trans e), i.ref⟩
theorem inA_flat {xs : List Nat} : ∀ {r : AV}, flatA r = true → inA xs r = true := by
  have h1 : ∀ x : SV, flatS x = true → inS xs x = true := fun x h => by cases x <;> first | rfl | cases h
  have h2 : ∀ cs : List SV, flatSs cs = true → inSs xs cs = true := by
    intro cs
    induction cs with
    | nil => intro _; rfl
    | cons c r ih => intro h; simp only [flatSs, Bool.and_eq_true] at h; simp only [inSs, Bool.and_eq_true]; exact ⟨h1 c h.1, ih h.2⟩
  have h3 : ∀ cs : List TV, flatTs cs = true → inTs xs cs = true := by
    intro cs
    induction cs with
    | nil => intro _; rfl
    | cons c r ih =>
      intro h
      simp only [flatTs, Bool.and_eq_true] at h
      simp only [inTs, Bool.and_eq_true]
      refine ⟨?_, ih h.2⟩
      cases c with
      | s x => exact h1 x h.1
      | g l => exact h2 l h.1
  intro r h
  cases r with
  | s x => exact h1 x h
  | g l => exact h2 l h
  | t l => exact h3 l h
  | _ => cases h
theorem CallK.spec {P : Program} {cx : Cx} {N : Nat} {M : Mem} {β : Nm} {σ : St} {a : Act} {w : World} (i : Inv cx N M β σ a w) {f : FuncId} {as : List AV} {r : AV} (h : CallK P σ f as r) {vs : List Value} (hv : RepAs M β as vs) :
    (∀ vs w, (callFunc f vs).run P w = .ok (.enter f vs) w) ∧ Calls P f vs.toArray w fun e w' => ∃ v M', e = .returned v ∧ r.Rep M' β v ∧ Inv cx N M' β σ a w' ∧ Grow cx.B M M' ∧ Keep cx w w' := by
  obtain ⟨ren, args, bx, hc, rfl, hm, hok, hf, _⟩ := h
  simp only [okK, Bool.and_eq_true] at hok
  obtain ⟨⟨k1, k2⟩, k3⟩ := hok
  have hok' : renOK ren σ.box args bx r bx = true := by
    simp only [renOK, Bool.and_eq_true]
    refine ⟨⟨⟨⟨⟨k1, k2⟩, inA_flat hf⟩, k2⟩, ?_⟩, ?_⟩
    · simp only [injL, List.all_append, Bool.and_eq_true] at k3 ⊢
      have h1 : ((names bx).all fun x => ((names bx).all fun y => Nat.beq x y || !(Nat.beq (look ren x) (look ren y))) && (names bx).all fun y => Nat.beq x y || !(Nat.beq (look ren x) (look ren y))) = true := by
        rw [List.all_eq_true] at k3 ⊢
        intro x hx
        simp [k3 x hx]
      exact ⟨h1, h1⟩
    · have : ∀ l : List Nat, (∀ x, x ∈ l → x ∈ names bx) → freshL ren σ.box (names bx) l = true := by
        intro l
        induction l with
        | nil => intro _; rfl
        | cons x r ih =>
          intro h
          simp only [freshL, Bool.and_eq_true, Bool.or_eq_true]
          exact ⟨.inl (by simpa using h x (by simp)), ih (fun y hy => h y (List.mem_cons_of_mem _ hy))⟩
      exact this _ (fun x hx => hx)
  refine ⟨hc.1, (Inv.afterR i hc hm hok' hv).mono ?_⟩
  rintro e w' ⟨v, M', β', h1, h2, h3, h4, h5, h6⟩
  obtain rfl := h6 (fun x hx => hx)
  refine ⟨v, M', h1, ?_, h3.boxes (addKill hm), h4, h5⟩
  have hr : renA ren r = r := by
    have q1 : ∀ x : SV, flatS x = true → renS ren x = x := fun x h => by cases x <;> first | rfl | cases h
    have q2 : ∀ cs : List SV, flatSs cs = true → renSs ren cs = cs := by
      intro cs
      induction cs with
      | nil => intro _; rfl
      | cons c r ih => intro h; simp only [flatSs, Bool.and_eq_true] at h; simp only [renSs]; rw [q1 c h.1, ih h.2]
    have q3 : ∀ cs : List TV, flatTs cs = true → renTs ren cs = cs := by
      intro cs
      induction cs with
      | nil => intro _; rfl
      | cons c r ih =>
        intro h
        simp only [flatTs, Bool.and_eq_true] at h
        simp only [renTs]
        rw [ih h.2]
        cases c with
        | s x => simp only [renT]; rw [q1 x h.1]
        | g l => simp only [renT]; rw [q2 l h.1]
    cases r with
    | s x => simp only [renA]; rw [q1 x hf]
    | g l => simp only [renA]; rw [q2 l hf]
    | t l => simp only [renA]; rw [q3 l hf]
    | _ => cases hf
  rw [hr] at h2
  exact h2

section
variable {P : Program} {σ : St} {g : Option Bool} {K : AV → Prop} {o : Oper}
def doCallK (P : Program) (σ : St) (g : Option Bool) (f : FuncId) (args : List AV) (K : AV → Prop) : Prop :=
  doCall P σ g f args K ∨ ∃ r, imp g (CallK P σ f args r) ∧ K r
def callVK (P : Program) (σ : St) (g : Option Bool) (vf : AV) (args : List AV) (K : AV → Prop) : Prop :=
  match vf with
  | .s (.clo f cs) => doCallK P σ g f (args ++ capA cs) K
  | .s (.d (.clo f k c)) => doCallK P σ g f (args ++ capD c k 0) K
  | _ => False
theorem callK.spec {fo : Operand} {args : Array Operand} {tys : Array TypeId} (ho : o.op = .call { callee := .value fo, args := args, argTypes := tys })
    (h : fe g (ev σ fo) fun vf => fetch g σ args.toList fun as => callVK P σ g vf as K) :
    ∃ r, K r ∧ (act g → ∀ cx N M β a w, Inv cx N M β σ a w → ∃ f vs, (execOp a.eval o).run P w = .ok (.enter f vs) w ∧
      Calls P f vs w fun e w' => ∃ v M', e = .returned v ∧ r.Rep M' β v ∧ Inv cx N M' β σ a w' ∧ Grow cx.B M M' ∧ Keep cx w w') := by
  replace h := fe.ev h
  obtain ⟨vf, h, hf⟩ := h
  replace h := fetch.spec h
  obtain ⟨as, h, has⟩ := h
  have key : ∀ (f : FuncId) (extra : List AV), doCallK P σ g f (as ++ extra) K →
      (act g → ∀ cx N M β a w, Inv cx N M β σ a w → ∃ us : List Value, a.eval fo = .func (.func f) #[] us.toArray ∧ RepAs M β extra us) →
      ∃ r, K r ∧ (act g → ∀ cx N M β a w, Inv cx N M β σ a w → ∃ f vs, (execOp a.eval o).run P w = .ok (.enter f vs) w ∧
      Calls P f vs w fun e w' => ∃ v M', e = .returned v ∧ r.Rep M' β v ∧ Inv cx N M' β σ a w' ∧ Grow cx.B M M' ∧ Keep cx w w') := by
    intro f extra hd hx
    rcases hd with hd | ⟨r, hc, hk⟩
    · exact call.key ho has hd hx
    · refine ⟨r, hk, fun ha cx N M β a w i => ?_⟩
      obtain ⟨us, eu, hus⟩ := hx ha cx N M β a w i
      have hargs := (has ha cx N M β a w i).append hus
      obtain ⟨henter, hcall⟩ := CallK.spec i (hc.get ha) hargs
      refine ⟨f, (args.toList.map a.eval ++ us).toArray, ?_, hcall⟩
      have : (args.map a.eval ++ us.toArray) = (args.toList.map a.eval ++ us).toArray := by
        apply Array.ext'; simp
      simp [execOp, ho, resolve, eu, Deferred.ofValue, invoke, this, henter]
  unfold callVK at h
  split at h
  case h_3 => exact h.elim
  · rename_i f cs
    refine key f _ h fun ha cx N M β a w i => ?_
    obtain ⟨vs, e, hv⟩ := hf ha cx N M β a w i
    exact ⟨vs, e, capA.rep hv⟩
  · rename_i f k c
    refine key f _ h fun ha cx N M β a w i => ?_
    obtain ⟨vs, e, hl, hv⟩ := hf ha cx N M β a w i
    exact ⟨vs, e, by rw [← hl]; exact capD.rep (fun i u hu => by rw [Nat.zero_add]; exact hv i u hu)⟩
end
end Go.Ax

/- A call that is handed own rows which nobody writes any more: they become data. -/
namespace Go.Ax
open Go.RowKit

def keepO (zs : List Nat) : Boxes → Boxes
  | [] => []
  | (x, b) :: r => (x, bif zs.contains x then b else none) :: keepO zs r
def killO (zs : List Nat) : Boxes → Boxes
  | [] => []
  | (x, b) :: r => (x, bif zs.contains x then none else b) :: killO zs r
theorem keepO.get {zs : List Nat} {x : Nat} {b : Box} : ∀ {box : Boxes}, getB (keepO zs box) x = some (some b) → zs.contains x = true ∧ getB box x = some (some b)
  | [], h => by cases h
  | (k, c) :: r, h => by
    rw [keepO, getB_cons] at h
    rw [getB_cons]
    by_cases e : k = x
    · subst e
      rw [if_pos rfl] at h
      cases hz : zs.contains k with
      | true => rw [hz] at h; exact ⟨rfl, by rw [if_pos rfl]; exact h⟩
      | false => rw [hz] at h; cases h
    · rw [if_neg e] at h ⊢
      exact keepO.get h
theorem killO.get {zs : List Nat} {x : Nat} {b : Box} : ∀ {box : Boxes}, getB (killO zs box) x = some (some b) → zs.contains x = false ∧ getB box x = some (some b)
  | [], h => by cases h
  | (k, c) :: r, h => by
    rw [killO, getB_cons] at h
    rw [getB_cons]
    by_cases e : k = x
    · subst e
      rw [if_pos rfl] at h
      cases hz : zs.contains k with
      | true => rw [hz] at h; cases h
      | false => rw [hz] at h; exact ⟨rfl, by rw [if_pos rfl]; exact h⟩
    · rw [if_neg e] at h ⊢
      exact killO.get h
theorem keepO.has {zs : List Nat} {x : Nat} {y : Option Box} : ∀ {box : Boxes}, getB box x = some y → ∃ y', getB (keepO zs box) x = some y'
  | [], h => by cases h
  | (k, c) :: r, h => by
    rw [getB_cons] at h
    rw [keepO, getB_cons]
    by_cases e : k = x
    · rw [if_pos e]; exact ⟨_, rfl⟩
    · rw [if_neg e] at h ⊢; exact keepO.has h
theorem killO.has {zs : List Nat} {x : Nat} {y : Option Box} : ∀ {box : Boxes}, getB box x = some y → ∃ y', getB (killO zs box) x = some y'
  | [], h => by cases h
  | (k, c) :: r, h => by
    rw [getB_cons] at h
    rw [killO, getB_cons]
    by_cases e : k = x
    · rw [if_pos e]; exact ⟨_, rfl⟩
    · rw [if_neg e] at h ⊢; exact killO.has h

section
variable {P : Program} {cx : Cx} {N : Nat} {σ : St} {M : Mem} {β : Nm} {a : Act} {w : World}
theorem Inv.keepO (i : Inv cx N M β σ a w) (zs : List Nat) : Inv cx N M β ⟨σ.env, keepO zs σ.box⟩ a w := by
  refine ⟨i.defers, i.tmps, i.heap, i.env, i.mem, ?_, ?_, ?_, ?_, ?_, i.ref⟩
  · intro x p e
    obtain ⟨y, hy⟩ := i.keys x p e
    exact keepO.has hy
  · exact fun x bc h => i.box x bc (keepO.get h).2
  · exact fun x y bx bby b c c' hx hy => i.inj x y bx bby b c c' (keepO.get hx).2 (keepO.get hy).2
  · exact fun x bc b c h => i.apart x bc b c (keepO.get h).2
  · exact fun x bc b c h => i.low x bc b c (keepO.get h).2
open Classical in
/-- Memory with the boxes zs in it. -/
noncomputable def eatM (σ : St) (zs : List Nat) (β : Nm) (M : Mem) (w : World) : Mem := fun b o => if ∃ x bc c, zs.contains x = true ∧ getB σ.box x = some (some bc) ∧ β x = some (b, c) then w.cell? ⟨b, o, none⟩ else M b o
theorem eatM.le (i : Inv cx N M β σ a w) (zs : List Nat) : Mem.le M (eatM σ zs β M w) := by
  intro b o u h
  unfold eatM
  by_cases hb : ∃ x bc c, zs.contains x = true ∧ getB σ.box x = some (some bc) ∧ β x = some (b, c)
  · obtain ⟨x, bc, c, _, hg, e⟩ := hb
    rw [i.apart x bc b c hg e o] at h; cases h
  · rw [if_neg hb]; exact h
theorem eatM.ok (i : Inv cx N M β σ a w) (zs : List Nat) : MemOK (eatM σ zs β M w) w := by
  intro b o u h
  unfold eatM at h
  by_cases hb : ∃ x bc c, zs.contains x = true ∧ getB σ.box x = some (some bc) ∧ β x = some (b, c)
  · rw [if_pos hb] at h; exact h
  · rw [if_neg hb] at h; exact i.mem b o u h
theorem Inv.eat (i : Inv cx N M β σ a w) (href : cx.ref = []) (zs : List Nat) : Inv cx N (eatM σ zs β M w) β ⟨σ.env, killO zs σ.box⟩ a w ∧ Grow cx.B M (eatM σ zs β M w) := by
  have hM := eatM.le i zs
  refine ⟨⟨i.defers, i.tmps, i.heap, fun t => AV.Rep.mono hM (Nm.le_refl β) (i.env t), eatM.ok i zs, ?_, ?_, ?_, ?_, ?_, i.ref⟩, ⟨hM, ?_⟩⟩
  · intro x p e
    obtain ⟨y, hy⟩ := i.keys x p e
    exact killO.has hy
  · exact fun x bc h => RepBox.mono hM (Nm.le_refl β) rfl (fun _ _ _ => rfl) (i.box x bc (killO.get h).2)
  · exact fun x y bx bby b c c' hx hy => i.inj x y bx bby b c c' (killO.get hx).2 (killO.get hy).2
  · intro x bc b c h e o
    obtain ⟨h1, h2⟩ := killO.get h
    unfold eatM
    have hn : ¬ ∃ x bc c, zs.contains x = true ∧ getB σ.box x = some (some bc) ∧ β x = some (b, c) := by
      rintro ⟨y, bc', c', hy, hg, e'⟩
      have := i.inj x y bc bc' b c c' h2 hg e e'
      subst this
      rw [h1] at hy; cases hy
    rw [if_neg hn]
    exact i.apart x bc b c h2 e o
  · exact fun x bc b c h => i.low x bc b c (killO.get h).2
  · intro b o u h
    unfold eatM at h
    by_cases hb : ∃ x bc c, zs.contains x = true ∧ getB σ.box x = some (some bc) ∧ β x = some (b, c)
    · obtain ⟨x, bc, c, _, hg, e⟩ := hb
      rcases i.low x bc b c hg e with h1 | ⟨y, c', hy, _⟩
      · exact .inr h1
      · rw [href] at hy; cases hy
    · rw [if_neg hb] at h; exact .inl h

def eatX (P : Program) (σ : St) (vf : AV) (args : List AV) (K : AV → Boxes → Prop) : Prop :=
  match vf with
  | .s (.clo f cs) => ∃ zs r, CallP P f (convAs ⟨σ.env, keepO zs σ.box⟩ (args ++ capA cs)) r ∧ K r (killO zs σ.box)
  | _ => False
/-- Such a call: its function's number and two millions stands in the list. -/
def isEat (rc ref : List Nat) (σ : St) (op : Op) : Option (Operand × List Operand) :=
  match op with
  | .call { callee := .value fo, args, .. } => match ev σ fo with
    | .s (.clo f _) => bif rc.contains (f + 2000000) && ref.isEmpty then some (fo, args.toList) else none
    | _ => none
  | _ => none
theorem isEat.op {rc ref : List Nat} {op : Op} {fo : Operand} {l : List Operand} (h : isEat rc ref σ op = some (fo, l)) : ref = [] ∧ ∃ args tys, op = .call { callee := .value fo, args := args, argTypes := tys } ∧ args.toList = l := by
  unfold isEat at h
  split at h
  · split at h
    · rename_i f cs hf
      cases hr : (rc.contains (f + 2000000) && ref.isEmpty) with
      | true =>
        rw [hr] at h
        cases h
        rw [Bool.and_eq_true] at hr
        exact ⟨List.isEmpty_iff.1 hr.2, _, _, rfl, rfl⟩
      | false => rw [hr] at h; cases h
    · cases h
  · cases h
theorem eat.spec {o : Oper} {fo : Operand} {l : List Operand} {K : AV → Boxes → Prop} (ho : ∃ args tys, o.op = .call { callee := .value fo, args := args, argTypes := tys } ∧ args.toList = l)
    (h : fe none (ev σ fo) fun vf => fetch none σ l fun as => eatX P σ vf as K) :
    ∃ r bx, K r bx ∧ ∀ cx N M β a w, cx.ref = [] → Inv cx N M β σ a w → ∃ f vs, (execOp a.eval o).run P w = .ok (.enter f vs) w ∧
      Calls P f vs w fun e w' => ∃ v M' β', e = .returned v ∧ r.Rep M' β' v ∧ Inv cx N M' β' ⟨σ.env, bx⟩ a w' ∧ Grow cx.B M M' ∧ Keep cx w w' := by
  obtain ⟨args, tys, ho, rfl⟩ := ho
  replace h := fe.ev h
  obtain ⟨vf, h, hf⟩ := h
  replace h := fetch.spec h
  obtain ⟨as, h, has⟩ := h
  unfold eatX at h
  split at h
  case h_2 => exact h.elim
  rename_i f cs
  obtain ⟨zs, r, ⟨henter, hcall⟩, hk⟩ := h
  refine ⟨_, _, hk, fun cx N M β a w href i => ?_⟩
  obtain ⟨us, eu, hus⟩ := hf actN cx N M β a w i
  have hargs := (has actN cx N M β a w i).append (capA.rep hus)
  have hM := eatM.le i zs
  have hconv := convAs.rep (i.keepO zs) hM (fun x bc b c hg e o u hu => by
    obtain ⟨h1, h2⟩ := keepO.get hg
    unfold eatM
    rw [if_pos ⟨x, bc, c, h1, h2, e⟩]; exact hu) hargs
  obtain ⟨i2, g2⟩ := i.eat href zs
  refine ⟨f, (args.toList.map a.eval ++ us).toArray, ?_, (hcall _ w _ hconv (eatM.ok i zs)).mono ?_⟩
  · have : (args.map a.eval ++ us.toArray) = (args.toList.map a.eval ++ us).toArray := by
      apply Array.ext'; simp
    simp [execOp, ho, resolve, eu, Deferred.ofValue, invoke, this, henter]
  · rintro e w' ⟨v, M', rfl, hrv, hg, hm, hbel⟩
    obtain ⟨i3, g3, k3⟩ := i2.after hbel hg hm
    exact ⟨v, M', β, rfl, AV.Rep.mono (Mem.le_refl _) (fun _ _ h => by cases h) hrv, i3, g2.trans g3, k3⟩
/-- Own rows that become data where they stand. -/
def eatV (zs : List Nat) (σ : St) (v : AV) : AV :=
  match v with
  | .s (.own b) => bif zs.contains b then convA ⟨σ.env, keepO zs σ.box⟩ (.s (.own b)) else .s (.own b)
  | .s (.mo z b) => bif zs.contains b then convA ⟨σ.env, keepO zs σ.box⟩ (.s (.mo z b)) else .s (.mo z b)
  | v => v
def eatE (zs : List Nat) (σ : St) : List (Nat × AV) → List (Nat × AV)
  | [] => []
  | (t, v) :: r => (t, eatV zs σ v) :: eatE zs σ r
def eatS (zs : List Nat) (σ : St) : St := ⟨eatE zs σ σ.env, killO zs σ.box⟩
theorem getE_eat {zs : List Nat} {t : Nat} : ∀ {l : List (Nat × AV)}, getE (eatE zs σ l) t = eatV zs σ (getE l t)
  | [] => rfl
  | (k, v) :: r => by
    rw [eatE]
    unfold getE
    cases Nat.beq k t with
    | true => rfl
    | false => exact getE_eat
theorem Inv.eatS (i : Inv cx N M β σ a w) (href : cx.ref = []) (zs : List Nat) : ∃ M', Inv cx N M' β (eatS zs σ) a w ∧ Grow cx.B M M' := by
  obtain ⟨i2, g2⟩ := i.eat href zs
  refine ⟨_, ⟨i2.defers, i2.tmps, i2.heap, fun t => ?_, i2.mem, i2.keys, i2.box, i2.inj, i2.apart, i2.low, i2.ref⟩, g2⟩
  have hM := eatM.le i zs
  have r0 := i.env t
  have conv : ∀ x : AV, x.Rep M β (a.tmps.getD t undef) → (convA ⟨σ.env, Go.Ax.keepO zs σ.box⟩ x).Rep (eatM σ zs β M w) (fun _ => none) (a.tmps.getD t undef) := fun x hx =>
    convA.rep (i.keepO zs) hM (fun x bc b c hg e o u hu => by
      obtain ⟨h1, h2⟩ := keepO.get hg
      unfold eatM
      rw [if_pos ⟨x, bc, c, h1, h2, e⟩]; exact hu) hx
  have e0 : getE (Go.Ax.eatS zs σ).env t = eatV zs σ (getE σ.env t) := getE_eat
  rw [e0]
  unfold eatV
  split
  · rename_i b hv
    rw [hv] at r0
    cases zs.contains b with
    | true => exact AV.Rep.mono (Mem.le_refl _) (fun _ _ h => by cases h) (conv _ r0)
    | false => exact AV.Rep.mono hM (Nm.le_refl β) r0
  · rename_i z b hv
    rw [hv] at r0
    cases zs.contains b with
    | true => exact AV.Rep.mono (Mem.le_refl _) (fun _ _ h => by cases h) (conv _ r0)
    | false => exact AV.Rep.mono hM (Nm.le_refl β) r0
  · exact AV.Rep.mono hM (Nm.le_refl β) r0
end
/-- Asked for by the temporary's number and three millions. -/
def isFz (rc ref : List Nat) (d : Nat) : Bool := rc.contains (d + 3000000) && ref.isEmpty
end Go.Ax

/- The executor: regions in the text's order, conditions, blocks; loops are left to their rule. -/
namespace Go.Ax
open Go.RowKit

/-- What an operation that leaves the state as it is yields; 'o' the operation, under guard g. -/
def opV (P : Program) (T : List (Nat × TyI)) (op : Op) (σ : St) (g : Option Bool) (K : AV → Prop) : Prop :=
  match op with
  | .move x => fe g (ev σ x) K
  | .assign x => fe g (ev σ x) K
  | .pick c x y => fe g (ev σ c) fun vc => pickV g vc (ev σ x) (ev σ y) K
  | .load t x => fe g (ev σ x) fun va => match getT T t with | some ti => loadV σ ti.agg ti.size g va K | none => False
  | .fieldAddr s x f => fe g (ev σ x) fun va => fieldV T s f va K
  | .binOp op t x y _ => fe g (ev σ x) fun va => fe g (ev σ y) fun vb => bin T op t g va vb K
  | .unOp op _ x => fe g (ev σ x) fun va => unV op va K
  | .convert src dst x => fe g (ev σ x) fun va => convV T src dst va K
  | .nilCheck x => fe g (ev σ x) fun va => nilV va K
  | .extract x k => extV k (ev σ x) K
  | .indexAddr t x y => fe g (ev σ x) fun va => fe g (ev σ y) fun vi => idxV T σ t g va vi K
  | .index t x y => fe g (ev σ x) fun va => fe g (ev σ y) fun vi => strV T t g va vi K
  | .lookup t x y ok => fe g (ev σ x) fun va => fe g (ev σ y) fun vi => lookV T σ t ok g va vi K
  | .slice t x lo hi none => fe g (ev σ x) fun va => sliceV T σ t g va lo hi K
  | .build t pa => parts g σ pa.toList fun ps => buildV T t ps K
  | .makeFunc (.func f) fs caps => match fs.toList with
    | [] => match toCVs σ caps.toList with | some cs => K (.s (.clo f cs)) | none => False
    | _ => False
  | .call c => match c.callee with
    | .value fo => fe g (ev σ fo) fun vf => fetch g σ c.args.toList fun as => callVK P σ g vf as K
    | .builtin .len => match c.args.toList, c.argTypes.toList with
      | [x], [t] => fe g (ev σ x) fun va => lenV T σ t va K
      | _, _ => False
    | .builtin .cap => match c.args.toList, c.argTypes.toList with
      | [x], [t] => fe g (ev σ x) fun va => capV T t va K
      | _, _ => False
    | .builtin .max => ints g σ c.args.toList fun l => match l with | (k, n) :: r => K (mmL true k n r) | [] => False
    | .builtin .min => ints g σ c.args.toList fun l => match l with | (k, n) :: r => K (mmL false k n r) | [] => False
    | _ => False
  | _ => False

/-- Carried out under a guard that holds: the state, with the value in its place. -/
def Does (P : Program) (o : Oper) (σ : St) (r : AV) : Prop :=
  ∀ cx N M β a w, Inv cx N M β σ a w →
    (∃ v, (execOp a.eval o).run P w = .ok (.value v) w ∧ r.Rep M β v) ∨
    (∃ f vs, (execOp a.eval o).run P w = .ok (.enter f vs) w ∧
      Calls P f vs w fun e w' => ∃ v M', e = .returned v ∧ r.Rep M' β v ∧ Inv cx N M' β σ a w' ∧ Grow cx.B M M' ∧ Keep cx w w')

theorem Pure1.does {P : Program} {o : Oper} {σ : St} {g : Option Bool} {r : AV} (h : Pure1 P o σ g r) (ha : act g) : Does P o σ r :=
  fun cx N M β a w i => .inl (h ha cx N M β a w i)

theorem opV.spec {P : Program} {T : List (Nat × TyI)} (hT : TabOK P T) {o : Oper} {σ : St} {g : Option Bool} {K : AV → Prop} (h : opV P T o.op σ g K) :
    ∃ r, K r ∧ (act g → Does P o σ r) := by
  have up : (∃ r, K r ∧ Pure1 P o σ g r) → ∃ r, K r ∧ (act g → Does P o σ r) := fun ⟨r, hk, hp⟩ => ⟨r, hk, hp.does⟩
  generalize hop : o.op = op at h
  cases op with
  | move x => exact up (move.spec (.inl hop) h)
  | assign x => exact up (move.spec (.inr hop) h)
  | pick c x y => exact up (pick.spec hop h)
  | load t x => exact up (load.spec hT hop h)
  | fieldAddr s x f => exact up (field.spec hT hop h)
  | binOp op t x y ty =>
    simp only [opV] at h
    replace h := fe.ev h
    obtain ⟨va, h, hra⟩ := h
    replace h := fe.ev h
    obtain ⟨vb, h, hrb⟩ := h
    obtain ⟨r, hk, hr⟩ := bin.spec hT hop h
    exact ⟨r, hk, fun ha cx N M β a w i => .inl (hr ha M β a w (hra ha cx N M β a w i) (hrb ha cx N M β a w i))⟩
  | unOp op t x => exact up (un.spec hop h)
  | convert src dst x => exact up (conv.spec hT hop h)
  | nilCheck x => exact up (nil.spec hop h)
  | extract x k => exact up (ext.spec hop h)
  | indexAddr t x y => exact up (idx.spec hT hop h)
  | index t x y => exact up (str.spec hT hop h)
  | lookup t x y ok => exact up (look.spec hT hop h)
  | slice t x lo hi mx =>
    cases mx with
    | none => exact up (sliceV.spec hT hop h)
    | some m => exact h.elim
  | build t pa => exact up (build.spec hT hop h)
  | makeFunc fn fs caps =>
    cases fn with
    | func f =>
      simp only [opV] at h
      split at h
      · rename_i hfs
        have : fs = #[] := by apply Array.ext'; simpa using hfs
        subst this
        exact up (mkf.spec hop h)
      · exact h.elim
    | _ => exact h.elim
  | call c =>
    obtain ⟨callee, args, tys⟩ := c
    simp only [opV] at h
    split at h
    · obtain ⟨r, hk, hr⟩ := callK.spec hop h
      exact ⟨r, hk, fun ha cx N M β a w i => .inr (hr ha cx N M β a w i)⟩
    · split at h
      · rename_i x t hx ht
        have e1 : args = #[x] := by apply Array.ext'; simpa using hx
        have e2 : tys = #[t] := by apply Array.ext'; simpa using ht
        subst e1; subst e2
        exact up (len.spec hT hop h)
      · exact h.elim
    · split at h
      · rename_i x t hx ht
        have e1 : args = #[x] := by apply Array.ext'; simpa using hx
        have e2 : tys = #[t] := by apply Array.ext'; simpa using ht
        subst e1; subst e2
        exact up (cap.spec hT hop h)
      · exact h.elim
    · exact up (mm.spec true hop h)
    · exact up (mm.spec false hop h)
    · exact h.elim
  | _ => exact h.elim

/-- The operations that change the state. -/
def opX (T : List (Nat × TyI)) (ref : List Nat) (d : Nat) (op : Op) (σ : St) (K : AV → Boxes → Prop) : Prop :=
  match op with
  | .alloc t => allocX T σ d t K
  | .box _ x => boxX σ d x K
  | .store t x y => storeX T σ t x y K
  | .buildSlice t len pa => bslX T σ d t len pa.toList K
  | .makeSlice t x y => mkX T σ d t x y K
  | .makeMap t none => mkMapX T σ d t K
  | .mapUpdate t x y z => updX T σ t x y z K
  | .range t x => rangeX T σ d t x K
  | .next x false => nextX σ x K
  | .entry x => fe none (ev σ x) fun va => entryV σ va fun v => K v σ.box
  | .call c => match c.callee with
    | .builtin .append => match c.args.toList, c.argTypes.toList with
      | [x, y], [t, t'] => bif Nat.beq t t' then (match ev σ x with
        | .s (.osl _ _ _ _) => appOX T σ d t x y K
        | _ => appX T σ ref d t x y K) else appMX T σ d t t' x y K
      | _, _ => False
    | .builtin .copy => match c.args.toList, c.argTypes.toList with
      | [x, y], [t, _] => copyX T σ t x y K
      | _, _ => False
    | _ => False
  | _ => False

/-- What such an operation has done. -/
def PostX (P : Program) (o : Oper) (σ : St) (K : AV → Boxes → Prop) (cx : Cx) (N : Nat) (M : Mem) (a : Act) (w : World) : Prop :=
  ∃ r bx, K r bx ∧ ∃ v w' M' β',
    ((execOp a.eval o).run P w = .ok (.value v) w' ∨ ((execOp a.eval o).run P w = .ok .skip w' ∧ v = undef)) ∧
    r.Rep M' β' v ∧ Inv cx N M' β' ⟨σ.env, bx⟩ a w' ∧ Grow cx.B M M' ∧ Keep cx w w'

theorem opX.spec {P : Program} {T : List (Nat × TyI)} (hT : TabOK P T) {ref : List Nat} {d : Nat} {o : Oper} {σ : St} {K : AV → Boxes → Prop} (h : opX T ref d o.op σ K)
    {cx : Cx} {N : Nat} {M : Mem} {β : Nm} {a : Act} {w : World} (href : cx.ref = ref) (i : Inv cx N M β σ a w) : PostX P o σ K cx N M a w := by
  have up : (∃ r bx, K r bx ∧ Eff P o σ r bx) → PostX P o σ K cx N M a w := fun ⟨r, bx, hk, hp⟩ => ⟨r, bx, hk, hp cx N M β a w i⟩
  generalize hop : o.op = op at h
  cases op with
  | alloc t => exact up (alloc.spec hT hop h)
  | box t x => exact up (box.spec hop h)
  | store t x y => exact up (store.spec hT hop h)
  | buildSlice t len pa => exact up (bsl.spec hT hop h)
  | makeSlice t x y => exact up (mk.spec hT hop h)
  | makeMap t r => cases r with
    | none => exact up (mkMap.spec hop h)
    | some x => exact h.elim
  | mapUpdate t x y z => exact up (upd.spec hT hop h)
  | range t x => exact up (range.spec hT hop h)
  | next x s => cases s with
    | true => exact h.elim
    | false =>
      obtain ⟨r, bx, hk, v, w', h1, h2, h3, h4⟩ := next.spec hop h i
      exact ⟨r, bx, hk, v, w', M, β, .inl h1, h2, h3, Grow.refl _ _, h4⟩
  | entry x =>
    obtain ⟨r, hk, hp⟩ := entry.spec (g := none) (K := fun v => K v σ.box) hop h
    obtain ⟨v, h1, h2⟩ := hp actN cx N M β a w i
    exact ⟨r, σ.box, hk, v, w, M, β, .inl h1, h2, i, Grow.refl _ _, Keep.refl _ _⟩
  | call c =>
    obtain ⟨callee, args, tys⟩ := c
    simp only [opX] at h
    split at h
    · split at h
      · rename_i x y t t' hx ht
        have e1 : args = #[x, y] := by apply Array.ext'; simpa using hx
        have e2 : tys = #[t, t'] := by apply Array.ext'; simpa using ht
        subst e1; subst e2
        cases htt : Nat.beq t t' with
        | false =>
          rw [htt] at h
          exact up (appM.spec hT hop h)
        | true =>
          rw [htt] at h
          have e0 := Nat.eq_of_beq_eq_true htt
          subst e0
          simp only [cond_true] at h
          split at h
          · exact appO.spec hT hop h i
          · obtain ⟨r, bx, hk, hs⟩ := app.spec hT hop h
            exact ⟨r, bx, hk, hs cx N M β a w href i⟩
      · exact h.elim
    · split at h
      · rename_i x y t t' hx ht
        have e1 : args = #[x, y] := by apply Array.ext'; simpa using hx
        have e2 : tys = #[t, t'] := by apply Array.ext'; simpa using ht
        subst e1; subst e2
        exact up (copy.spec hT hop h)
      · exact h.elim
    · exact h.elim
  | _ => exact h.elim

def isX : Op → Bool
  | .alloc _ => true
  | .box _ _ => true
  | .store _ _ _ => true
  | .buildSlice _ _ _ => true
  | .makeSlice _ _ _ => true
  | .makeMap _ _ => true
  | .mapUpdate _ _ _ _ => true
  | .range _ _ => true
  | .next _ _ => true
  | .entry _ => true
  | .call c => match c.callee with
    | .builtin .append => true
    | .builtin .copy => true
    | _ => false
  | _ => false

/-- A value under a condition. -/
def wrapG (b : Bool) : AV → AV
  | .s x => .ib b x
  | .g cs => .ig b cs
  | _ => .s (.d .junk)

def setE (σ : St) (d : Nat) (v : AV) : St := ⟨(d, v) :: σ.env, σ.box⟩

/-- A call that is handed boxes. -/
def isR (rc : List Nat) (σ : St) (op : Op) : Option (Operand × List Operand) :=
  match op with
  | .call { callee := .value fo, args, .. } => match ev σ fo with
    | .s (.clo f _) => bif rc.contains f then some (fo, args.toList) else none
    | _ => none
  | _ => none

/-- A slice that is data, compared with nil: its length, and the answer that nil gives. -/
def isNilQ (T : List (Nat × TyI)) (σ : St) (op : Op) : Option (Nat × Bool) :=
  match op with
  | .binOp bo t x y _ => match bo with
    | .eql => match getT T t with
      | some i => match i.und with
        | .slice _ => match ev σ x, ev σ y with
          | .s (.d (.slc n _ _)), .s (.d (.val (.slice none 0 0))) => some (n, true)
          | _, _ => none
        | _ => none
      | none => none
    | .neq => match getT T t with
      | some i => match i.und with
        | .slice _ => match ev σ x, ev σ y with
          | .s (.d (.slc n _ _)), .s (.d (.val (.slice none 0 0))) => some (n, false)
          | _, _ => none
        | _ => none
      | none => none
    | _ => none
  | _ => none
theorem isNilQ.spec {P : Program} {T : List (Nat × TyI)} (hT : TabOK P T) {o : Oper} {σ : St} {n : Nat} {p : Bool} (h : isNilQ T σ o.op = some (n, p)) {cx : Cx} {N : Nat} {M : Mem} {β : Nm} {a : Act} {w : World} (iv : Inv cx N M β σ a w) :
    ∃ b : Bool, (b = p → n = 0) ∧ (execOp a.eval o).run P w = .ok (.value (.bool b)) w := by
  have key : ∀ (v : Value) (m s : Nat) (f : Nat → Nat → DV), (DV.slc m s f).Rep M v → ∃ (ad : Option Addr) (k c : Nat), v = .slice ad k c ∧ (ad.isNone = true → m = 0) := by
    rintro v m s f ⟨ad, cap, e, _, h⟩
    refine ⟨ad, m, cap, e, fun h0 => ?_⟩
    rcases h with h | ⟨b, o, h, _⟩
    · exact h
    · subst h; cases h0
  unfold isNilQ at h
  split at h
  case h_2 => cases h
  rename_i bo t x y ty hop
  split at h
  case h_3 => cases h
  · split at h
    case h_2 => cases h
    rename_i i hi
    split at h
    case h_2 => cases h
    rename_i e hu
    split at h
    case h_2 => cases h
    rename_i m s f hx hy
    cases h
    have rx := ev.rep iv x
    have ry := ev.rep iv y
    rw [hx] at rx; rw [hy] at ry
    obtain ⟨ad, k, c, ex, h0⟩ := key _ _ _ _ rx
    have ey : a.eval y = .slice none 0 0 := ry
    refine ⟨ad.isNone, h0, ?_⟩
    simp only [execOp, hop, ex, ey, Sem.run_bind, eqGuard_plain BinOp.eql t x y (.slice ad k c) (.slice none 0 0) w (by simp) (by simp), Result.andThen, run_sl_nil w ((hT.get hi).isSlice0 hu), Sem.run_pure]
  · split at h
    case h_2 => cases h
    rename_i i hi
    split at h
    case h_2 => cases h
    rename_i e hu
    split at h
    case h_2 => cases h
    rename_i m s f hx hy
    cases h
    have rx := ev.rep iv x
    have ry := ev.rep iv y
    rw [hx] at rx; rw [hy] at ry
    obtain ⟨ad, k, c, ex, h0⟩ := key _ _ _ _ rx
    have ey : a.eval y = .slice none 0 0 := ry
    refine ⟨!ad.isNone, fun hb => h0 (by simpa using hb), ?_⟩
    simp only [execOp, hop, ex, ey, Sem.run_bind, eqGuard_plain BinOp.neq t x y (.slice ad k c) (.slice none 0 0) w (by simp) (by simp), Result.andThen, run_sl_nil' w ((hT.get hi).isSlice0 hu), Sem.run_pure]

/-- One operation, in the text's order. -/
def op1 (P : Program) (T : List (Nat × TyI)) (N : Nat) (ref rc : List Nat) (o : Oper) (σ : St) (K : St → Prop) : Prop :=
  match o.dst with
  | some d => bif Nat.blt d N then
      (bif isX o.op then (bif isFz rc ref d then ∃ zs, opX T ref d o.op (eatS zs σ) fun v bx => K ⟨(d, v) :: (eatS zs σ).env, bx⟩ else opX T ref d o.op σ fun v bx => K ⟨(d, v) :: σ.env, bx⟩)
      else match isR rc σ o.op with
        | some (fo, args) => fe none (ev σ fo) fun vf => fetch none σ args fun as => callRX P σ vf as fun v bx => K ⟨(d, v) :: σ.env, bx⟩
        | none => match isEat rc ref σ o.op with
          | some (fo, args) => fe none (ev σ fo) fun vf => fetch none σ args fun as => eatX P σ vf as fun v bx => K ⟨(d, v) :: σ.env, bx⟩
          | none => match isNilQ T σ o.op with
            | some (n, p) => ∀ b : Bool, (b = p → n = 0) → K (setE σ d (vbool b))
            | none => opV P T o.op σ none fun v => K (setE σ d v)) else False
  | none => bif isX o.op then opX T ref 0 o.op σ fun _ bx => K ⟨σ.env, bx⟩ else False

def skip1 (N : Nat) (o : Oper) (σ : St) (K : St → Prop) : Prop :=
  match o.dst with
  | some d => bif Nat.blt d N then K (setE σ d (.s (.d .junk))) else False
  | none => K σ

def guardTmp (all : List Oper) (j : Nat) : Option Nat := (all[j]?).bind (·.dst)

/-- An operation before which a condition that is not known is cut in two. -/
def isS (rc : List Nat) (σ : St) (op : Op) : Bool := match isX op with
  | true => true
  | false => match isR rc σ op with
    | some _ => true
    | none => false

def gpol (pol b : Bool) : Bool := match pol with | true => b | false => !b

def stepO (P : Program) (T : List (Nat × TyI)) (N : Nat) (ref rc : List Nat) (all : List Oper) (o : Oper) (next : St → (St → Prop) → Prop) (σ : St) (K : St → Prop) : Prop :=
    match o.guard with
    | none => op1 P T N ref rc o σ fun σ' => next σ' K
    | some (j, pol) => match guardTmp all j with
      | none => False
      | some t => match getE σ.env t with
        | .s (.d (.lit b)) => match b, pol with
          | true, true => op1 P T N ref rc o σ fun σ' => next σ' K
          | false, false => op1 P T N ref rc o σ fun σ' => next σ' K
          | _, _ => skip1 N o σ fun σ' => next σ' K
        | .s (.d (.val (.bool b))) => match isS rc σ o.op with
          | true =>
            (b = pol → op1 P T N ref rc o (setE σ t (.s (.d (.lit pol)))) fun σ' => next σ' K) ∧
            (b = !pol → skip1 N o (setE σ t (.s (.d (.lit (!pol))))) fun σ' => next σ' K)
          | false => match o.dst with
            | some d => bif Nat.blt d N then opV P T o.op σ (some (gpol pol b)) fun v =>
                next (setE σ d (wrapG (gpol pol b) v)) K else False
            | none => False
        | .ib c (.d (.val (.bool b))) => match isS rc σ o.op with
          | true =>
            (c = true → b = pol → op1 P T N ref rc o (setE σ t (.s (.d (.lit pol)))) fun σ' => next σ' K) ∧
            (c = true → b = !pol → skip1 N o (setE σ t (.s (.d (.lit (!pol))))) fun σ' => next σ' K) ∧
            (c = false → skip1 N o σ fun σ' => next σ' K)
          | false => match o.dst with
            | some d => bif Nat.blt d N then opV P T o.op σ (some (c && gpol pol b)) fun v =>
                next (setE σ d (wrapG (c && gpol pol b) v)) K else False
            | none => False
        | _ => False
/-- By the recursor itself: the elaborator and the kernel unfold it alike. -/
def runOps (P : Program) (T : List (Nat × TyI)) (N : Nat) (ref rc : List Nat) (all : List Oper) (l : List Oper) : St → (St → Prop) → Prop :=
  @List.rec Oper (fun _ => St → (St → Prop) → Prop) (fun σ K => K σ) (fun o _ ih σ K => stepO P T N ref rc all o ih σ K) l

end Go.Ax

/- The executor is sound. -/
namespace Go.Ax
open Go.RowKit

section
variable {P : Program} {T : List (Nat × TyI)} {N : Nat} {ref rc : List Nat} {cx : Cx} {M : Mem} {β : Nm} {σ : St} {a : Act} {w : World}

theorem Inv.put (i : Inv cx N M β σ a w) {d : Nat} {r : AV} {v : Value} (hd : d < N) (hr : r.Rep M β v) : Inv cx N M β (setE σ d r) (a.put (some d) v) w := by
  refine ⟨i.defers, by simp [Act.put, i.tmps], i.heap, fun t => ?_, i.mem, i.keys, i.box, i.inj, i.apart, i.low, i.ref⟩
  simp only [setE]
  rw [getE_cons]
  by_cases h : d = t
  · subst h
    rw [if_pos rfl]
    have : d < a.tmps.size := by rw [i.tmps]; exact hd
    simpa [Act.put, this] using hr
  · rw [if_neg h]
    have := i.env t
    simpa [Act.put, Array.getElem?_setIfInBounds_ne h] using this

/-- After a piece of code: some state of which K holds. -/
def Post (cx : Cx) (N : Nat) (M : Mem) (w : World) (K : St → Prop) (a' : Act) (w' : World) : Prop :=
  ∃ σ' M' β', K σ' ∧ Inv cx N M' β' σ' a' w' ∧ Grow cx.B M M' ∧ Keep cx w w'

theorem does_wp {o : Oper} {r : AV} {d : Nat} {K : St → Prop} {Q : Exit → Act → World → Prop} (hd : o.dst = some d) (hN : d < N) (h : Does P o σ r) (i : Inv cx N M β σ a w) (hk : K (setE σ d r)) :
    o.wp P a w (Post cx N M w K) Q := by
  unfold Oper.wp
  rcases h cx N M β a w i with ⟨v, e, hr⟩ | ⟨f, vs, e, hc⟩
  · rw [e, Oper.upon_value, hd]
    exact ⟨_, M, β, hk, i.put hN hr, Grow.refl _ _, Keep.refl _ _⟩
  · rw [e, Oper.upon_enter]
    refine hc.mono ?_
    rintro e' w' ⟨v, M', rfl, hr, i', hg, hkp⟩
    simp only [hd]
    exact ⟨_, M', β, hk, i'.put hN hr, hg, hkp⟩

theorem isR.op {rc : List Nat} {σ : St} {o : Oper} {fo : Operand} {l : List Operand} (h : isR rc σ o.op = some (fo, l)) : ∃ args tys, o.op = .call { callee := .value fo, args := args, argTypes := tys } ∧ args.toList = l := by
  unfold isR at h
  split at h
  · rename_i fo' args tys hop
    split at h
    · rename_i f cs hv
      cases hc : rc.contains f with
      | false => rw [hc] at h; cases h
      | true => rw [hc] at h; simp only [cond_true, Option.some.injEq, Prod.mk.injEq] at h; obtain ⟨rfl, rfl⟩ := h; exact ⟨_, _, hop, rfl⟩
    · cases h
  · cases h

theorem op1.sound (hT : TabOK P T) {o : Oper} {K : St → Prop} {Q : Exit → Act → World → Prop} (h : op1 P T N ref rc o σ K) (href : cx.ref = ref) (i : Inv cx N M β σ a w) :
    o.wp P a w (Post cx N M w K) Q := by
  unfold op1 at h
  split at h
  · rename_i d hd
    cases hN : Nat.blt d N with
    | false => rw [hN] at h; exact h.elim
    | true =>
      rw [hN] at h
      have hN : d < N := Nat.le_of_ble_eq_true hN
      simp only [cond_true] at h
      cases hx : isX o.op with
      | true =>
        rw [hx] at h
        simp only [cond_true] at h
        cases hfz : isFz rc ref d with
        | true =>
          rw [hfz] at h
          simp only [cond_true] at h
          obtain ⟨zs, h⟩ := h
          unfold isFz at hfz
          rw [Bool.and_eq_true] at hfz
          obtain ⟨M1, i1, g1⟩ := i.eatS (href.trans (List.isEmpty_iff.1 hfz.2)) zs
          obtain ⟨r, bx, hk, v, w', M', β', hrun, hr, hi, hg, hkp⟩ := opX.spec hT h href i1
          unfold Oper.wp
          rcases hrun with hrun | ⟨hrun, rfl⟩
          · rw [hrun, Oper.upon_value, hd]
            exact ⟨_, M', β', hk, hi.put (σ := ⟨(eatS zs σ).env, bx⟩) hN hr, g1.trans hg, hkp⟩
          · rw [hrun, Oper.upon_skip, hd]
            exact ⟨_, M', β', hk, hi.put (σ := ⟨(eatS zs σ).env, bx⟩) hN hr, g1.trans hg, hkp⟩
        | false =>
        rw [hfz] at h
        simp only [cond_false] at h
        obtain ⟨r, bx, hk, v, w', M', β', hrun, hr, hi, hg, hkp⟩ := opX.spec hT h href i
        unfold Oper.wp
        rcases hrun with hrun | ⟨hrun, rfl⟩
        · rw [hrun, Oper.upon_value, hd]
          exact ⟨_, M', β', hk, hi.put (σ := ⟨σ.env, bx⟩) hN hr, hg, hkp⟩
        · rw [hrun, Oper.upon_skip, hd]
          exact ⟨_, M', β', hk, hi.put (σ := ⟨σ.env, bx⟩) hN hr, hg, hkp⟩
      | false =>
        rw [hx] at h
        simp only [cond_false] at h
        split at h
        · rename_i fo args hR
          obtain ⟨v, bx, hk, hs⟩ := callR.spec (isR.op hR) h
          obtain ⟨f, vs, hrun, hcall⟩ := hs cx N M β a w i
          unfold Oper.wp
          rw [hrun, Oper.upon_enter]
          refine hcall.mono ?_
          rintro e' w' ⟨v', M', β', rfl, hr, i', hg, hkp⟩
          simp only [hd]
          exact ⟨_, M', β', hk, i'.put (σ := ⟨σ.env, bx⟩) hN hr, hg, hkp⟩
        · split at h
          · rename_i fo args hR
            obtain ⟨hr0, hR⟩ := isEat.op hR
            obtain ⟨v, bx, hk, hs⟩ := eat.spec hR h
            obtain ⟨f, vs, hrun, hcall⟩ := hs cx N M β a w (by rw [href, hr0]) i
            unfold Oper.wp
            rw [hrun, Oper.upon_enter]
            refine hcall.mono ?_
            rintro e' w' ⟨v', M', β', rfl, hr, i', hg, hkp⟩
            simp only [hd]
            exact ⟨_, M', β', hk, i'.put (σ := ⟨σ.env, bx⟩) hN hr, hg, hkp⟩
          split at h
          · rename_i n p hq
            obtain ⟨b, hb, hrun⟩ := isNilQ.spec hT hq i
            unfold Oper.wp
            rw [hrun, Oper.upon_value, hd]
            exact ⟨_, M, β, h b hb, i.put hN rfl, Grow.refl _ _, Keep.refl _ _⟩
          · obtain ⟨r, hk, hs⟩ := opV.spec hT h
            exact does_wp hd hN (hs actN) i hk
  · rename_i hd
    cases hx : isX o.op with
    | false => rw [hx] at h; exact h.elim
    | true =>
      rw [hx] at h
      obtain ⟨r, bx, hk, v, w', M', β', hrun, hr, hi, hg, hkp⟩ := opX.spec hT h href i
      unfold Oper.wp
      rcases hrun with hrun | ⟨hrun, rfl⟩
      · rw [hrun, Oper.upon_value, hd]
        exact ⟨_, M', β', hk, hi, hg, hkp⟩
      · rw [hrun, Oper.upon_skip, hd]
        exact ⟨_, M', β', hk, hi, hg, hkp⟩

theorem skip1.sound {o : Oper} {K : St → Prop} (h : skip1 N o σ K) (i : Inv cx N M β σ a w) :
    Post cx N M w K (a.put o.dst undef) w := by
  unfold skip1 at h
  split at h
  · rename_i d hd
    cases hN : Nat.blt d N with
    | false => rw [hN] at h; exact h.elim
    | true =>
      rw [hN] at h
      have hN : d < N := Nat.le_of_ble_eq_true hN
      rw [hd]
      exact ⟨_, M, β, h, i.put hN trivial, Grow.refl _ _, Keep.refl _ _⟩
  · rename_i hd
    rw [hd]
    exact ⟨_, M, β, h, i, Grow.refl _ _, Keep.refl _ _⟩

theorem getD_bool {A : Array Value} {t : Nat} {b : Bool} (h : A.getD t undef = .bool b) : A[t]? = some (.bool b) := by
  by_cases ht : t < A.size
  · simp [ht] at h ⊢; exact h
  · simp [ht, undef] at h

theorem wanted_eq {all : List Oper} {o : Oper} {j t : Nat} {pol b : Bool} (hg : o.guard = some (j, pol)) (hj : guardTmp all j = some t) (hb : a.tmps.getD t undef = .bool b) :
    Region.wanted o (yielded all.toArray a.tmps) = (b == pol) := by
  have h1 : ((all[j]?).bind (·.dst)) = some t := hj
  simp [Region.wanted, hg, yielded, h1, getD_bool hb]

theorem wanted_undef {all : List Oper} {o : Oper} {j t : Nat} {pol : Bool} (hg : o.guard = some (j, pol)) (hj : guardTmp all j = some t) (hb : a.tmps.getD t undef = undef) :
    Region.wanted o (yielded all.toArray a.tmps) = false := by
  have h1 : ((all[j]?).bind (·.dst)) = some t := hj
  have h2 : ∀ b, a.tmps[t]? ≠ some (.bool b) := by
    intro b e
    simp [e, undef] at hb
  simp only [Region.wanted, hg, yielded]
  simp [h1]
theorem setLit {t : Nat} {b pol : Bool} (i : Inv cx N M β σ a w) (hv : getE σ.env t = .s (.d (.val (.bool b)))) (hb : b = pol) : Inv cx N M β (setE σ t (.s (.d (.lit pol)))) a w := by
  refine ⟨i.defers, i.tmps, i.heap, fun u => ?_, i.mem, i.keys, i.box, i.inj, i.apart, i.low, i.ref⟩
  simp only [setE]
  rw [getE_cons]
  split
  · rename_i h
    subst h
    have := i.env t
    rw [hv] at this
    rw [← hb]
    exact this
  · exact i.env u

theorem setLit' {t : Nat} {b pol c : Bool} (i : Inv cx N M β σ a w) (hv : getE σ.env t = .ib c (.d (.val (.bool b)))) (hc : c = true) (hb : b = pol) : Inv cx N M β (setE σ t (.s (.d (.lit pol)))) a w := by
  refine ⟨i.defers, i.tmps, i.heap, fun u => ?_, i.mem, i.keys, i.box, i.inj, i.apart, i.low, i.ref⟩
  simp only [setE]
  rw [getE_cons]
  split
  · rename_i h
    subst h
    have := i.env t
    rw [hv] at this
    rw [← hb]
    exact this.1 hc
  · exact i.env u

theorem Post.trans {K : St → Prop} {M1 : Mem} {w1 : World} {a' : Act} {w' : World} (hg : Grow cx.B M M1) (hk : Keep cx w w1) (h : Post cx N M1 w1 K a' w') : Post cx N M w K a' w' := by
  obtain ⟨σ', M', β', h1, h2, h3, h4⟩ := h
  exact ⟨σ', M', β', h1, h2, hg.trans h3, hk.trans h4⟩

theorem runOps.sound (hT : TabOK P T) {all : List Oper} {K : St → Prop} {Q : Exit → Act → World → Prop} (href : cx.ref = ref) : ∀ (l : List Oper) {M : Mem} {β : Nm} {σ : St} {a : Act} {w : World},
    runOps P T N ref rc all l σ K → Inv cx N M β σ a w → (∀ a' w', Post cx N M w K a' w' → Q .normal a' w') → wpList P all.toArray Q l a w
  | [], M, β, σ, a, w, h, i, hQ => wpList_nil (hQ a w ⟨σ, M, β, h, i, Grow.refl _ _, Keep.refl _ _⟩)
  | o :: rest, M, β, σ, a, w, h, i, hQ => by
    have next : ∀ {a' w'}, Post cx N M w (fun σ' => runOps P T N ref rc all rest σ' K) a' w' → wpList P all.toArray Q rest a' w' := by
      rintro a' w' ⟨σ', M', β', h1, h2, h3, h4⟩
      exact runOps.sound hT href rest h1 h2 fun a2 w2 hp => hQ a2 w2 (hp.trans h3 h4)
    have yes : ∀ {σ0 : St}, Inv cx N M β σ0 a w → op1 P T N ref rc o σ0 (fun σ' => runOps P T N ref rc all rest σ' K) → Region.wanted o (yielded all.toArray a.tmps) = true → wpList P all.toArray Q (o :: rest) a w := by
      intro σ0 i0 h hw
      unfold wpList
      rw [if_pos hw]
      exact .inl (Oper.wp_mono (fun a' w' hp => next hp) (op1.sound hT h href i0))
    have no : ∀ {σ0 : St}, Inv cx N M β σ0 a w → skip1 N o σ0 (fun σ' => runOps P T N ref rc all rest σ' K) → Region.wanted o (yielded all.toArray a.tmps) = false → wpList P all.toArray Q (o :: rest) a w := by
      intro σ0 i0 h hw
      unfold wpList
      rw [if_neg (by simp [hw])]
      exact next (skip1.sound h i0)
    have part : ∀ {d : Nat} {gb : Bool}, o.dst = some d → d < N → opV P T o.op σ (some gb) (fun v => runOps P T N ref rc all rest (setE σ d (wrapG gb v)) K) →
        Region.wanted o (yielded all.toArray a.tmps) = gb → wpList P all.toArray Q (o :: rest) a w := by
      intro d gb hd hN h hw
      obtain ⟨r, hk, hs⟩ := opV.spec hT h
      unfold wpList
      cases hgb : gb with
      | true =>
        rw [if_pos (by rw [hw, hgb])]
        refine .inl ?_
        have hact : act (some gb) := fun c e => by cases e; exact hgb
        have hdo : Does P o σ (wrapG gb r) := by
          intro cx N M β a w i
          have hwr : ∀ {M β v}, r.Rep M β v → (wrapG gb r).Rep M β v := by
            intro M β v hr
            cases r with
            | s x => exact ⟨fun _ => hr, fun h => by rw [hgb] at h; cases h⟩
            | g cs => exact ⟨fun _ => hr, fun h => by rw [hgb] at h; cases h⟩
            | _ => exact trivial
          rcases hs hact cx N M β a w i with ⟨v, e, hr⟩ | ⟨f, vs, e, hc⟩
          · exact .inl ⟨v, e, hwr hr⟩
          · exact .inr ⟨f, vs, e, hc.mono fun e' w' ⟨v, M', h1, h2, h3⟩ => ⟨v, M', h1, hwr h2, h3⟩⟩
        exact Oper.wp_mono (fun a' w' hp => next hp) (does_wp hd hN hdo i hk)
      | false =>
        rw [if_neg (by rw [hw, hgb]; simp)]
        refine next ⟨_, M, β, hk, ?_, Grow.refl _ _, Keep.refl _ _⟩
        rw [hd]
        refine i.put hN ?_
        cases r with
        | s x => exact ⟨fun h => (by rw [hgb] at h; cases h), fun _ => rfl⟩
        | g cs => exact ⟨fun h => (by rw [hgb] at h; cases h), fun _ => rfl⟩
        | _ => exact trivial
    replace h : stepO P T N ref rc all o (runOps P T N ref rc all rest) σ K := h
    unfold stepO at h
    split at h
    · rename_i hg
      exact yes i h (by simp [Region.wanted, hg])
    · rename_i j pol hg
      split at h
      · exact h.elim
      · rename_i t ht
        split at h
        · rename_i b hv
          have hb : a.tmps.getD t undef = .bool b := by have := i.env t; rw [hv] at this; exact this
          have hw := wanted_eq hg ht hb
          cases b <;> cases pol
          · exact yes i h hw
          · exact no i h hw
          · exact no i h hw
          · exact yes i h hw
        · rename_i b hv
          have hb : a.tmps.getD t undef = .bool b := by have := i.env t; rw [hv] at this; exact this
          have hw := wanted_eq hg ht hb
          cases hx : isS rc σ o.op with
          | true =>
            rw [hx] at h
            by_cases hbp : b = pol
            · exact yes (setLit i hv hbp) (h.1 hbp) (by rw [hw, hbp]; simp)
            · have hbn : b = !pol := by cases b <;> cases pol <;> first | rfl | exact absurd rfl hbp
              exact no (setLit i hv hbn) (h.2 hbn) (by rw [hw, hbn]; cases pol <;> rfl)
          | false =>
            rw [hx] at h
            simp only at h
            split at h
            · rename_i d hd
              cases hN : Nat.blt d N with
              | false => rw [hN] at h; exact h.elim
              | true =>
                rw [hN] at h
                exact part hd (Nat.le_of_ble_eq_true hN) h (by rw [hw]; cases b <;> cases pol <;> rfl)
            · exact h.elim
        · rename_i c b hv
          have hr : (AV.ib c (.d (.val (.bool b)))).Rep M β (a.tmps.getD t undef) := by have := i.env t; rw [hv] at this; exact this
          have hw : Region.wanted o (yielded all.toArray a.tmps) = (c && gpol pol b) := by
            cases c with
            | true => rw [wanted_eq hg ht (hr.1 rfl)]; cases b <;> cases pol <;> rfl
            | false => exact wanted_undef hg ht (hr.2 rfl)
          split at h
          · obtain ⟨h1, h2, h3⟩ := h
            cases c with
            | false => exact no i (h3 rfl) (by rw [hw]; rfl)
            | true =>
              by_cases hbp : b = pol
              · exact yes (setLit' i hv rfl hbp) (h1 rfl hbp) (by rw [hw, hbp]; cases pol <;> rfl)
              · have hbn : b = !pol := by cases b <;> cases pol <;> first | rfl | exact absurd rfl hbp
                exact no (setLit' i hv rfl hbn) (h2 rfl hbn) (by rw [hw, hbn]; cases pol <;> rfl)
          · split at h
            · rename_i d hd
              cases hN : Nat.blt d N with
              | false => rw [hN] at h; exact h.elim
              | true =>
                rw [hN] at h
                exact part hd (Nat.le_of_ble_eq_true hN) h hw
            · exact h.elim
        · exact h.elim

end

end Go.Ax

/- Regions that draw their order: operations that touch different temporaries and boxes may be exchanged. -/
namespace Go.Ax
open Go.RowKit

/-- Two states that agree on some boxes. -/
def AgB (xs : List Nat) (σ σ' : St) : Prop := ∀ x, x ∈ xs → getB σ'.box x = getB σ.box x

theorem dS.congr {σ σ' : St} : ∀ (n : Nat) (x : SV), AgB (reach n σ x) σ σ' → dS n σ' x = dS n σ x := by
  intro n
  induction n with
  | zero =>
    intro x h
    cases x with
    | own x => simp only [dS, h x (by simp [reach])]
    | mo z x => simp only [dS, h x (by simp [reach])]
    | osl x s lo m => simp only [dS, h x (by simp [reach])]
    | _ => rfl
  | succ n ih =>
    intro x h
    cases x with
    | d x => rfl
    | ptr x off =>
      simp only [dS, h x (by simp [reach])]
      cases hb : getB σ.box x with
      | none => rfl
      | some y => cases y with
        | none => rfl
        | some bc => cases bc with
          | row e n s f => rfl
          | mrow e n s f => rfl
          | map vk l => rfl
          | iter q n t => rfl
          | cells cs =>
            simp only
            congr 1
            funext j
            cases hc : cs[off + j]? with
            | none => rfl
            | some c => exact ih c (fun m hm => h m (by simp only [reach, hb]; exact List.mem_cons_of_mem _ (mem_catL hc hm)))
    | own x => simp only [dS, h x (by simp [reach])]
    | mo z x => simp only [dS, h x (by simp [reach])]
    | rw x i s o => rfl
    | mp x => rfl
    | osl x s lo m => simp only [dS, h x (by simp [reach])]
    | clo f cs =>
      simp only [dS]
      congr 1
      funext i
      cases hc : cs[i]? with
      | none => rfl
      | some c => cases c with
        | d x => rfl
        | ptr x off => exact ih (.ptr x off) (fun m hm => h m (mem_catL (f := fun c => match c with | .d _ => [] | .ptr x off => reach n σ (.ptr x off)) hc hm))

theorem AgB.mono {xs ys : List Nat} {σ σ' : St} (h : AgB xs σ σ') (hs : ∀ x, x ∈ ys → x ∈ xs) : AgB ys σ σ' := fun x hx => h x (hs x hx)
theorem reach_up {σ : St} : ∀ (n : Nat) (x : SV) (m : Nat), m ∈ reach n σ x → m ∈ reach (n + 1) σ x := by
  intro n
  induction n with
  | zero => 
    intro x m h
    cases x with
    | ptr x off => simp [reach] at h; subst h; simp [reach]
    | clo f cs => simp [reach] at h
    | _ => exact h
  | succ n ih =>
    intro x m h
    have lift : ∀ {α : Type} {f g : α → List Nat} (_ : ∀ c, m ∈ f c → m ∈ g c) {l : List α}, m ∈ catL f l → m ∈ catL g l := by
      intro α f g hfg l
      induction l with
      | nil => exact fun h => h
      | cons c r ihl =>
        intro h
        simp only [catL, List.mem_append] at h ⊢
        exact h.imp (hfg c) ihl
    cases x with
    | ptr x off =>
      simp only [reach, List.mem_cons] at h ⊢
      refine h.imp id ?_
      cases hb : getB σ.box x with
      | none => simp
      | some y => cases y with
        | none => simp
        | some bc => cases bc with
          | row e n s f => simp
          | mrow e n s f => simp
          | map vk l => simp
          | iter q n t => simp
          | cells cs => exact lift (fun c hc => ih c m hc)
    | clo f cs =>
      simp only [reach] at h ⊢
      refine lift (fun c hc => ?_) h
      cases c with
      | d x => exact hc
      | ptr x off => exact ih _ m hc
    | _ => exact h

theorem convS.congr {σ σ' : St} {x : SV} (h : AgB (reach 4 σ x) σ σ') : convS σ' x = convS σ x := by
  unfold convS
  rw [dS.congr 3 x (h.mono (fun m hm => reach_up 3 x m hm))]
theorem convSs.congr {σ σ' : St} : ∀ {cs : List SV}, AgB (catL (reach 4 σ) cs) σ σ' → convSs σ' cs = convSs σ cs
  | [], _ => rfl
  | c :: r, h => by
    simp only [convSs]
    rw [convS.congr (h.mono fun m hm => List.mem_append_left _ hm), convSs.congr (cs := r) (h.mono fun m hm => List.mem_append_right _ hm)]
theorem convA.congr {σ σ' : St} {x : AV} (h : AgB (reachA σ x) σ σ') : convA σ' x = convA σ x := by
  cases x with
  | s x => simp only [convA]; rw [convS.congr h]
  | g cs => simp only [convA]; rw [convSs.congr h]
  | _ => rfl
theorem convAs.congr {σ σ' : St} : ∀ {l : List AV}, AgB (catL (reachA σ) l) σ σ' → convAs σ' l = convAs σ l
  | [], _ => rfl
  | c :: r, h => by
    simp only [convAs]
    rw [convA.congr (h.mono fun m hm => List.mem_append_left _ hm), convAs.congr (l := r) (h.mono fun m hm => List.mem_append_right _ hm)]

def Strip (v r : AV) : Prop := v = r ∨ (∃ b x, v = .ib b x ∧ r = .s x) ∨ (∃ b cs, v = .ig b cs ∧ r = .g cs)
theorem Strip.reach {v r : AV} (h : Strip v r) (σ : St) : reachA σ r = reachA σ v := by
  rcases h with rfl | ⟨b, x, rfl, rfl⟩ | ⟨b, cs, rfl, rfl⟩ <;> rfl
theorem fe.imp {g : Option Bool} {v : AV} {K K' : AV → Prop} (hk : ∀ r, Strip v r → K r → K' r) (h : fe g v K) : fe g v K' := by
  cases v with
  | s x => exact hk _ (.inl rfl) h
  | g cs => exact hk _ (.inl rfl) h
  | t ts => exact hk _ (.inl rfl) h
  | ib b x => cases g with
    | none => exact ⟨h.1, hk _ (.inr (.inl ⟨b, x, rfl, rfl⟩)) h.2⟩
    | some gb => exact ⟨h.1, hk _ (.inr (.inl ⟨b, x, rfl, rfl⟩)) h.2⟩
  | ig b cs => cases g with
    | none => exact ⟨h.1, hk _ (.inr (.inr ⟨b, cs, rfl, rfl⟩)) h.2⟩
    | some gb => exact ⟨h.1, hk _ (.inr (.inr ⟨b, cs, rfl, rfl⟩)) h.2⟩

section
variable {P : Program} {T : List (Nat × TyI)} {σ σ' : St} {g : Option Bool} {K : AV → Prop}

theorem loadV.congr {agg : Bool} {size : Nat} {va : AV} (h : AgB (reachA σ va) σ σ') (k : loadV σ agg size g va K) : loadV σ' agg size g va K := by
  unfold loadV at *
  cases va with
  | s x => cases x with
    | ptr x off => simp only [h x (by simp [reachA, reach])]; exact k
    | rw x i s o => simp only [h x (by simp [reachA, reach])]; exact k
    | d x => cases x <;> exact k
    | _ => exact k
  | _ => exact k
theorem idxV.congr {t : Nat} {va vi : AV} (h : AgB (reachA σ va) σ σ') (k : idxV T σ t g va vi K) : idxV T σ' t g va vi K := by
  have e : idxV T σ' t g va vi K = idxV T σ t g va vi K := by
    unfold idxV
    cases va with
    | s x => cases x with
      | own x =>
        have hh := h x (by simp [reachA, reach])
        cases getT T t with
        | none => rfl
        | some ti =>
          simp only
          generalize ti.und = u
          cases u with
          | slice e =>
            simp only
            cases getT T e with
            | none => rfl
            | some te =>
              cases vi with
              | s y => cases y with
                | d z => cases z with
                  | val v => cases v <;> first | rfl | simp only [hh]
                  | _ => rfl
                | _ => rfl
              | _ => rfl
          | _ => rfl
      | mo z x =>
        have hh := h x (by simp [reachA, reach])
        cases getT T t with
        | none => rfl
        | some ti =>
          simp only
          generalize ti.und = u
          cases u with
          | slice e =>
            simp only
            cases getT T e with
            | none => rfl
            | some te =>
              cases vi with
              | s y => cases y with
                | d z => cases z with
                  | val v => cases v <;> first | rfl | simp only [hh]
                  | _ => rfl
                | _ => rfl
              | _ => rfl
          | _ => rfl
      | d x => cases x <;> rfl
      | _ => rfl
    | _ => rfl
  rw [e]; exact k
theorem lenV.congr {t : Nat} {va : AV} (h : AgB (reachA σ va) σ σ') (k : lenV T σ t va K) : lenV T σ' t va K := by
  have e : lenV T σ' t va K = lenV T σ t va K := by
    unfold lenV
    cases getT T t with
    | none => rfl
    | some ti =>
      simp only
      generalize ti.und = u
      cases va with
      | s x => cases x with
        | own x =>
          have hh := h x (by simp [reachA, reach])
          cases u <;> first | rfl | simp only [hh]
        | mo z x =>
          have hh := h x (by simp [reachA, reach])
          cases u <;> first | rfl | simp only [hh]
        | d x => cases x with
          | val v => cases v <;> cases u <;> rfl
          | _ => cases u <;> rfl
        | _ => cases u <;> rfl
      | _ => cases u <;> rfl
  rw [e]; exact k

theorem doCall.congr {f : FuncId} {args : List AV} (h : AgB (catL (reachA σ) args) σ σ') (k : doCall P σ g f args K) : doCall P σ' g f args K := by
  unfold doCall at *
  rw [convAs.congr h]
  exact k
theorem reach.congr : ∀ (n : Nat) (x : SV), AgB (reach n σ x) σ σ' → reach n σ' x = reach n σ x := by
  intro n
  induction n with
  | zero => intro x _; cases x <;> rfl
  | succ n ih =>
    intro x h
    have cat : ∀ {α : Type} (f f' : α → List Nat) (l : List α), (∀ c, c ∈ l → f' c = f c) → catL f' l = catL f l := by
      intro α f f' l hl
      induction l with
      | nil => rfl
      | cons c r ihl => simp only [catL]; rw [hl c (by simp), ihl (fun c hc => hl c (List.mem_cons_of_mem _ hc))]
    cases x with
    | ptr x off =>
      simp only [reach, h x (by simp [reach])]
      congr 1
      cases hb : getB σ.box x with
      | none => rfl
      | some y => cases y with
        | none => rfl
        | some bc => cases bc with
          | row e n s f => rfl
          | mrow e n s f => rfl
          | map vk l => rfl
          | iter q n t => rfl
          | cells cs =>
            simp only
            refine cat _ _ cs (fun c hc => ih c (fun m hm => h m ?_))
            simp only [reach, hb]
            obtain ⟨j, hj⟩ := List.getElem?_of_mem hc
            exact List.mem_cons_of_mem _ (mem_catL hj hm)
    | clo f cs =>
      simp only [reach]
      refine cat _ _ cs (fun c hc => ?_)
      cases c with
      | d x => rfl
      | ptr x off =>
        refine ih _ (fun m hm => h m ?_)
        obtain ⟨j, hj⟩ := List.getElem?_of_mem hc
        exact mem_catL (f := fun c => match c with | .d _ => [] | .ptr x off => reach n σ (.ptr x off)) hj hm
    | _ => rfl
theorem reachA.congr (v : AV) : AgB (reachA σ v) σ σ' → reachA σ' v = reachA σ v := by
  have hcs : ∀ cs : List SV, AgB (catL (reach 4 σ) cs) σ σ' → catL (reach 4 σ') cs = catL (reach 4 σ) cs := by
    intro cs
    induction cs with
    | nil => intro _; rfl
    | cons c r ih => intro h; simp only [catL]; rw [reach.congr 4 c (h.mono fun m hm => List.mem_append_left _ hm), ih (h.mono fun m hm => List.mem_append_right _ hm)]
  intro h
  cases v with
  | s x => exact reach.congr 4 x h
  | ib b x => exact reach.congr 4 x h
  | g cs => exact hcs cs h
  | ig b cs => exact hcs cs h
  | t ts => rfl
theorem reachL.congr : ∀ (l : List AV), AgB (catL (reachA σ) l) σ σ' → catL (reachA σ') l = catL (reachA σ) l
  | [], _ => rfl
  | v :: r, h => by
    simp only [catL]
    rw [reachA.congr v (h.mono fun m hm => List.mem_append_left _ hm), reachL.congr r (h.mono fun m hm => List.mem_append_right _ hm)]
theorem matchB.congr {ren : List (Nat × Nat)} : ∀ {bx : BoxL}, (∀ x, x ∈ names bx → getB σ'.box (look ren x) = getB σ.box (look ren x)) → matchB ren σ.box bx → matchB ren σ'.box bx
  | [], _, _ => trivial
  | (x, b) :: r, h, ⟨h1, h2⟩ => ⟨(h x (by simp [names])).trans h1, matchB.congr (fun y hy => h y (by simp only [names]; exact List.mem_cons_of_mem _ hy)) h2⟩
theorem CallK.congr {f : FuncId} {args : List AV} {r : AV} (h : AgB (catL (reachA σ) args) σ σ') (k : CallK P σ f args r) : CallK P σ' f args r := by
  obtain ⟨ren, ar, bx, hc, he, hm, hok, hf, hx⟩ := k
  have hx' : ∀ x, x ∈ names bx → look ren x ∈ catL (reachA σ) args := fun x hm' => by
    rw [List.all_eq_true] at hx
    simpa using hx x hm'
  refine ⟨ren, ar, bx, hc, he, hm.congr (fun x hm' => h _ (hx' x hm')), hok, hf, ?_⟩
  rw [reachL.congr args h]
  exact hx
theorem doCallK.congr {f : FuncId} {args : List AV} (h : AgB (catL (reachA σ) args) σ σ') (k : doCallK P σ g f args K) : doCallK P σ' g f args K := by
  rcases k with k | ⟨r, h1, h2⟩
  · exact .inl (doCall.congr h k)
  · refine .inr ⟨r, ?_, h2⟩
    cases g with
    | none => exact CallK.congr h h1
    | some b => exact fun hb => CallK.congr h (h1 hb)
theorem catL_append {α : Type} (f : α → List Nat) : ∀ (a b : List α), catL f (a ++ b) = catL f a ++ catL f b
  | [], b => rfl
  | x :: a, b => by simp only [List.cons_append, catL, catL_append f a b, List.append_assoc]
theorem reach_cap (n : Nat) : ∀ (cs : List CV) (m : Nat), m ∈ catL (reachA σ) (capA cs) → n = 4 → m ∈ catL (fun c => match c with | .d _ => [] | .ptr x off => reach 4 σ (.ptr x off)) cs
  | [], _, h, _ => h
  | .d _ :: r, m, h, hn => by
    simp only [capA, catL, reachA, reach, List.nil_append] at h ⊢
    exact reach_cap n r m h hn
  | .ptr x off :: r, m, h, hn => by
    simp only [capA, catL, List.mem_append] at h ⊢
    exact h.imp id (fun h => reach_cap n r m h hn)
theorem capD_reach (c : Nat → DV) : ∀ (k j m : Nat), m ∈ catL (reachA σ) (capD c k j) → False
  | 0, _, _, h => by simp [capD, catL] at h
  | k + 1, j, m, h => by
    simp only [capD, catL, reachA, reach, List.nil_append] at h
    exact capD_reach c k (j + 1) m h

/-- The boxes behind captured variables too. -/
def reachF (σ : St) : AV → List Nat
  | .s (.clo _ cs) => catL (fun c => match c with | .d _ => [] | .ptr x off => reach 4 σ (.ptr x off)) cs
  | .ib _ (.clo _ cs) => catL (fun c => match c with | .d _ => [] | .ptr x off => reach 4 σ (.ptr x off)) cs
  | _ => []
theorem Strip.reachF {v r : AV} (h : Strip v r) (σ : St) : reachF σ r = reachF σ v := by
  rcases h with rfl | ⟨b, x, rfl, rfl⟩ | ⟨b, cs, rfl, rfl⟩
  · rfl
  · cases x <;> rfl
  · rfl

theorem callVK.congr {vf : AV} {args : List AV} (h : AgB (reachF σ vf ++ catL (reachA σ) args) σ σ') (k : callVK P σ g vf args K) : callVK P σ' g vf args K := by
  unfold callVK at *
  split at k
  · refine doCallK.congr (fun m hm => h m ?_) k
    rw [catL_append, List.mem_append] at hm
    rcases hm with hm | hm
    · exact List.mem_append_right _ hm
    · exact List.mem_append_left _ (reach_cap 4 _ m hm rfl)
  · refine doCallK.congr (fun m hm => h m ?_) k
    rw [catL_append, List.mem_append] at hm
    rcases hm with hm | hm
    · exact List.mem_append_right _ hm
    · exact (capD_reach _ _ _ m hm).elim
  · exact k.elim

/-- The operands agree. -/
def AgE (xs : List Operand) (σ σ' : St) : Prop := ∀ x, x ∈ xs → ev σ' x = ev σ x

theorem fetch.congr : ∀ {l : List Operand} {K K' : List AV → Prop}, AgE l σ σ' → (∀ as, (∀ m, m ∈ catL (reachA σ) as → m ∈ catL (fun x => reachA σ (ev σ x)) l) → K as → K' as) → fetch g σ l K → fetch g σ' l K'
  | [], _, _, _, hk, h => hk [] (fun m hm => hm) h
  | x :: r, K, K', he, hk, h => by
    simp only [fetch] at *
    rw [he x (by simp)]
    refine fe.imp (fun va hs h => ?_) h
    refine fetch.congr (fun y hy => he y (List.mem_cons_of_mem _ hy)) (fun as hm h => hk _ ?_ h) h
    intro m hm'
    simp only [catL, List.mem_append] at hm' ⊢
    rcases hm' with h1 | h1
    · rw [hs.reach σ] at h1; exact .inl h1
    · exact .inr (hm m h1)

theorem ints.congr : ∀ {l : List Operand} {K : List (IntKind × Int) → Prop}, AgE l σ σ' → ints g σ l K → ints g σ' l K
  | [], _, _, h => h
  | x :: r, K, he, h => by
    simp only [ints] at *
    rw [he x (by simp)]
    refine fe.imp (fun va hs h => ?_) h
    split at h
    · exact ints.congr (fun y hy => he y (List.mem_cons_of_mem _ hy)) h
    · exact h.elim
theorem parts.congr : ∀ {l : List (Nat × Operand)} {K : List (Nat × List SV) → Prop}, AgE (l.map (·.2)) σ σ' → parts g σ l K → parts g σ' l K
  | [], _, _, h => h
  | (i, x) :: r, K, he, h => by
    simp only [parts] at *
    rw [he x (by simp)]
    refine fe.imp (fun va hs h => ?_) h
    split at h
    · rename_i cs hcs
      try simp only [hcs]
      cases ho : allOne cs with
      | false => rw [ho] at h; exact h.elim
      | true =>
        rw [ho] at h
        exact parts.congr (fun y hy => he y (List.mem_cons_of_mem _ hy)) h
    · exact h.elim
theorem toCVs.congr : ∀ {l : List Operand}, AgE l σ σ' → toCVs σ' l = toCVs σ l
  | [], _ => rfl
  | x :: r, he => by
    simp only [toCVs]
    rw [he x (by simp), toCVs.congr (l := r) (fun y hy => he y (List.mem_cons_of_mem _ hy))]
theorem optI.congr {x : Option Operand} {K : Option Int → Prop} (he : AgE x.toList σ σ') (h : optI g σ x K) : optI g σ' x K := by
  cases x with
  | none => exact h
  | some x =>
    simp only [optI] at *
    rw [he x (by simp)]
    exact h

/-- The boxes that an operation may read. -/
def rdOp (σ : St) (op : Op) : List Nat :=
  match op with
  | .call { callee := .value fo, args, .. } => reachF σ (ev σ fo) ++ catL (fun x => reachA σ (ev σ x)) args.toList
  | .move _ => []
  | .assign _ => []
  | .pick _ _ _ => []
  | .fieldAddr _ _ _ => []
  | .nilCheck _ => []
  | .binOp _ _ _ _ _ => []
  | .unOp _ _ _ => []
  | .convert _ _ _ => []
  | .extract _ _ => []
  | .build _ _ => []
  | .makeFunc _ _ _ => []
  | .store _ _ _ => []
  | .box _ _ => []
  | .alloc _ => []
  | .buildSlice _ _ _ => []
  | op => catL (fun x => reachA σ (ev σ x)) op.operands.toList

theorem opV.congr {op : Op} (he : AgE op.operands.toList σ σ') (hb : AgB (rdOp σ op) σ σ') (h : opV P T op σ g K) : opV P T op σ' g K := by
  cases op with
  | move x => simp only [opV] at *; rw [he x (by simp [Op.operands])]; exact h
  | assign x => simp only [opV] at *; rw [he x (by simp [Op.operands])]; exact h
  | pick c x y => simp only [opV] at *; rw [he c (by simp [Op.operands]), he x (by simp [Op.operands]), he y (by simp [Op.operands])]; exact h
  | load t x =>
    simp only [opV] at *
    rw [he x (by simp [Op.operands])]
    refine fe.imp (fun va hs h => ?_) h
    split at h
    · exact loadV.congr (hb.mono (fun m hm => by rw [hs.reach σ] at hm; simp [rdOp, Op.operands, catL, hm])) h
    · exact h.elim
  | fieldAddr s x f => simp only [opV] at *; rw [he x (by simp [Op.operands])]; exact h
  | binOp op t x y ty => simp only [opV] at *; rw [he x (by simp [Op.operands]), he y (by simp [Op.operands])]; exact h
  | unOp op t x => simp only [opV] at *; rw [he x (by simp [Op.operands])]; exact h
  | convert src dst x => simp only [opV] at *; rw [he x (by simp [Op.operands])]; exact h
  | nilCheck x => simp only [opV] at *; rw [he x (by simp [Op.operands])]; exact h
  | extract x k => simp only [opV] at *; rw [he x (by simp [Op.operands])]; exact h
  | indexAddr t x y =>
    simp only [opV] at *
    rw [he x (by simp [Op.operands]), he y (by simp [Op.operands])]
    refine fe.imp (fun va hs h => ?_) h
    refine fe.imp (fun vi _ h => ?_) h
    exact idxV.congr (hb.mono (fun m hm => by rw [hs.reach σ] at hm; simp [rdOp, Op.operands, catL, hm])) h
  | index t x y => simp only [opV] at *; rw [he x (by simp [Op.operands]), he y (by simp [Op.operands])]; exact h
  | lookup t x y ok =>
    simp only [opV] at *
    rw [he x (by simp [Op.operands]), he y (by simp [Op.operands])]
    refine fe.imp (fun va hs h1 => ?_) h
    refine fe.imp (fun vi hv h2 => ?_) h1
    have hb' : AgB (reachA σ va) σ σ' := hb.mono (fun m hm => by rw [hs.reach σ] at hm; simp [rdOp, Op.operands, catL, hm])
    clear h h1
    unfold lookV at h2 ⊢
    split at h2
    case h_2 => exact h2.elim
    rename_i b k
    simp only [hb' b (by simp [reachA, reach])]
    exact h2
  | slice t x lo hi mx =>
    cases mx with
    | some m => exact h.elim
    | none =>
      simp only [opV] at *
      rw [he x (by simp [Op.operands])]
      refine fe.imp (fun va hs h => ?_) h
      have hlo : AgE lo.toList σ σ' := fun y hy => he y (by simp [Op.operands]; exact .inr (.inl (by simpa using hy)))
      have hhi : AgE hi.toList σ σ' := fun y hy => he y (by simp [Op.operands]; exact .inr (.inr (by simpa using hy)))
      unfold sliceV at *
      split at h <;> try (exact h.elim)
      rename_i ti hti
      try simp only [hti]
      split at h
      · rename_i e hu
        try simp only [hu]
        split at h <;> try (exact h.elim)
        rename_i te hte
        try simp only [hte]
        split at h
        case h_5 => exact h.elim
        case h_4 =>
          cases lo with
          | none =>
            simp only [optI] at h ⊢
            cases hi with
            | none => exact h
            | some y => simp only at h ⊢; rw [hhi y (by simp)]; exact h
          | some y =>
            simp only [optI] at h ⊢
            rw [hlo y (by simp)]
            cases hi with
            | none => exact h
            | some z => simp only at h ⊢; rw [hhi z (by simp)]; exact h
        · rename_i n s f
          try simp only
          cases hs : Nat.beq s te.size with
          | false => rw [hs] at h; exact h.elim
          | true =>
            rw [hs] at h
            simp only [cond_true] at *
            cases lo with
            | none =>
              simp only [optI] at h ⊢
              cases hi with
              | none => exact h
              | some y => simp only at h ⊢; rw [hhi y (by simp)]; exact h
            | some y =>
              simp only [optI] at h ⊢
              rw [hlo y (by simp)]
              cases hi with
              | none => exact h
              | some z => simp only at h ⊢; rw [hhi z (by simp)]; exact h
        · rename_i x'
          have hgb : getB σ'.box x' = getB σ.box x' := hb x' (mem_catL (j := 0) (c := x) (by simp [Op.operands]) (by have := hs.reach σ; simp only [← this]; simp [reachA, reach]))
          simp only [hgb]
          split at h
          case h_2 => exact h.elim
          rename_i e' n s f hbx
          cases hs : Nat.beq s te.size with
          | false => rw [hs] at h; exact h.elim
          | true =>
            rw [hs] at h
            simp only [cond_true] at *
            cases lo with
            | none =>
              simp only [optI] at h ⊢
              cases hi with
              | none => exact h
              | some y => simp only at h ⊢; rw [hhi y (by simp)]; exact h
            | some y =>
              simp only [optI] at h ⊢
              rw [hlo y (by simp)]
              cases hi with
              | none => exact h
              | some z => simp only at h ⊢; rw [hhi z (by simp)]; exact h
        · rename_i x' s lo0 n
          try simp only
          cases hs : Nat.beq s te.size with
          | false => rw [hs] at h; exact h.elim
          | true =>
            rw [hs] at h
            simp only [cond_true] at *
            cases lo with
            | none =>
              simp only [optI] at h ⊢
              cases hi with
              | none => exact h
              | some y => simp only at h ⊢; rw [hhi y (by simp)]; exact h
            | some y =>
              simp only [optI] at h ⊢
              rw [hlo y (by simp)]
              cases hi with
              | none => exact h
              | some z => simp only at h ⊢; rw [hhi z (by simp)]; exact h
      · rename_i hu
        try simp only [hu]
        split at h <;> try (exact h.elim)
        rename_i s
        try simp only
        cases lo with
        | none =>
          simp only [optI] at h ⊢
          cases hi with
          | none => exact h
          | some y => simp only at h ⊢; rw [hhi y (by simp)]; exact h
        | some y =>
          simp only [optI] at h ⊢
          rw [hlo y (by simp)]
          cases hi with
          | none => exact h
          | some z => simp only at h ⊢; rw [hhi z (by simp)]; exact h
      · exact h.elim
  | build t pa =>
    simp only [opV] at *
    exact parts.congr (fun y hy => he y (by simpa [Op.operands] using hy)) h
  | makeFunc fn fs caps =>
    cases fn with
    | func f =>
      simp only [opV] at *
      split at h
      · rename_i hfs
        try simp only [hfs]
        rw [toCVs.congr (l := caps.toList) (fun y hy => he y (by simp [Op.operands]; exact .inr (by simpa using hy)))]
        exact h
      · exact h.elim
    | _ => exact h.elim
  | call c =>
    obtain ⟨callee, args, tys⟩ := c
    simp only [opV] at *
    split at h
    · rename_i fo
      try simp only
      rw [he fo (by simp [Op.operands, Call.operands])]
      refine fe.imp (fun vf hs h => ?_) h
      refine fetch.congr (fun y hy => he y (by simp [Op.operands, Call.operands]; exact .inr (by simpa using hy))) (fun as hm h => ?_) h
      refine callVK.congr (fun m hm' => hb m ?_) h
      simp only [rdOp]
      rw [List.mem_append] at hm' ⊢
      rcases hm' with h1 | h1
      · rw [hs.reachF σ] at h1; exact .inl h1
      · exact .inr (hm m h1)
    · try simp only
      split at h
      · rename_i x t hx ht
        try simp only [hx, ht]
        have hxm : x ∈ args.toList := by rw [hx]; simp
        rw [he x (by simp [Op.operands, Call.operands]; simpa using hxm)]
        refine fe.imp (fun va hs h => ?_) h
        refine lenV.congr (hb.mono (fun m hm => ?_)) h
        rw [hs.reach σ] at hm
        have : args = #[x] := by apply Array.ext'; simpa using hx
        subst this
        simp [rdOp, Op.operands, Call.operands, catL, hm]
      · exact h.elim
    · try simp only
      split at h
      · rename_i x t hx ht
        try simp only [hx, ht]
        have hxm : x ∈ args.toList := by rw [hx]; simp
        rw [he x (by simp [Op.operands, Call.operands]; simpa using hxm)]
        exact h
      · exact h.elim
    · exact ints.congr (fun y hy => he y (by simp [Op.operands, Call.operands]; simpa using hy)) h
    · exact ints.congr (fun y hy => he y (by simp [Op.operands, Call.operands]; simpa using hy)) h
    · exact h.elim
  | _ => exact h.elim

end
end Go.Ax
