/- Part Ch26: lemmas that the proofs of this seat share; by itself it claims nothing. -/
import Derived.Test.YtfdgbddmggoilaaCh25
namespace Go.Ch
open Go Go.Ax Go.Proofs Go.Proofs.Try
set_option maxRecDepth 100000
set_option pp.maxSteps 400
set_option maxHeartbeats 1000000

structure Three where
  a : Grid
  b : Grid
  c : Grid
  l : List Int
abbrev threeL (t : Three) : List SV := [.d (dI t.a.x), .d (dI t.a.y), .d (dI t.a.side), .d (dI t.a.cols), .d (dI t.a.rows), .d (dInts t.a.levels), .d (dI t.b.x), .d (dI t.b.y), .d (dI t.b.side), .d (dI t.b.cols), .d (dI t.b.rows), .d (dInts t.b.levels), .d (dI t.c.x), .d (dI t.c.y), .d (dI t.c.side), .d (dI t.c.cols), .d (dI t.c.rows), .d (dInts t.c.levels), .d (dInts t.l)]
abbrev threeA (t : Three) : AV := .g (threeL t)
abbrev threeB (t : Three) : Box := .cells (threeL t)
structure Three.ok (t : Three) : Prop where
  a : t.a.ok
  b : t.b.ok
  c : t.c.ok
  l : t.l.length ≤ 9223372036854775807
theorem rGr : Rd Try.prog 24 6 (fun g : Grid => [.d (dI g.x), .d (dI g.y), .d (dI g.side), .d (dI g.cols), .d (dI g.rows), .d (dInts g.levels)]) Grid.ok :=
  (rd_struct Try.underlying24 rfl (by kernel_rfl) (rdf_cons rfl rI (rdf_cons rfl rI (rdf_cons rfl rI (rdf_cons rfl rI (rdf_cons rfl rI (rdf_cons rfl rInts rdf_nil))))))).to (fun a => ⟨a.1, a.2.1, a.2.2.1, a.2.2.2.1, a.2.2.2.2.1, a.2.2.2.2.2.1⟩) (fun _ => rfl)
    (fun _ h => ⟨h.1, h.2.1, h.2.2.1, h.2.2.2.1, h.2.2.2.2.1, h.2.2.2.2.2.1.1, h.2.2.2.2.2.1.2⟩)
theorem rThree : RdA Try.prog 64 threeA Three.ok :=
  rda_agg (k := 19) Try.underlying64 ((rd_struct Try.underlying64 rfl (by kernel_rfl) (rdf_cons rfl rGr (rdf_cons rfl rGr (rdf_cons rfl rGr (rdf_cons rfl rInts rdf_nil))))).to (fun a => ⟨a.1, a.2.1, a.2.2.1, a.2.2.2.1⟩) (fun _ => rfl)
    (fun _ h => ⟨h.1, h.2.1, h.2.2.1, h.2.2.2.1.1⟩))
theorem sameC_side {a b : Grid} (h : sameC a b = true) : a.side = b.side := by
  unfold sameC at h
  simp only [Bool.and_eq_true, beq_iff_eq] at h
  exact h.2.2.1
theorem sameC_comm {a b : Grid} (h : sameC a b = true) : sameC b a = true := by
  unfold sameC at h ⊢
  simp only [Bool.and_eq_true, beq_iff_eq] at h ⊢
  exact ⟨h.1.symm, h.2.1.symm, h.2.2.1.symm, h.2.2.2.1.symm, h.2.2.2.2.1.symm, trivial⟩
theorem err2_comm {a b : Grid} (h : err2 a b = 0) : err2 b a = 0 := by
  obtain ⟨h1, h2, h3⟩ := err2_zero h
  unfold err2
  rw [h1, h2, sameC_comm h3]
  rfl
attribute [local irreducible] err2 few lvErr in
theorem Adds (t : Three) (ht : t.ok) : CallP Try.prog 7 [threeA t] (vB true) := by
  obtain ⟨a, b, c, l⟩ := t
  obtain ⟨ha, hb, hc, hl0⟩ := ht
  simp only at ha hb hc hl0
  refine callP_of_ex (rc := []) (N := 198) Try.func7 rfl rfl Try.call7 tab_ok mix rfl rfl (fun cx href => ?_)
  refine callN bawake ?_
  refine And.intro (fun h => by cases h) (fun _ => ?_)
  refine callN (Few a ha.levels) ?_
  repeat first | refine sk ?_ | refine st ?_ | refine sg ?_ | refine sh ?_ | refine su ?_ | refine sn1 ?_ | refine sn0 ?_
  refine callG (Few b hb.levels) ?_
  repeat first | refine sk ?_ | refine st ?_ | refine sg ?_ | refine sh ?_ | refine su ?_ | refine sn1 ?_ | refine sn0 ?_
  refine callG (Few c hc.levels) ?_
  repeat first | refine sk ?_ | refine st ?_ | refine sg ?_ | refine sh ?_ | refine su ?_ | refine sn1 ?_ | refine sn0 ?_
  refine And.intro (fun _ => SubR.lit rfl) (fun h1 => ?_)
  have h1 : (((!few a || !few b) || !few c) || decide ((l.length : Int) > 20)) = false := h1
  rw [Bool.or_eq_false_iff] at h1
  have hl : l.length ≤ 1000000 := by have := decF h1.2; omega
  refine callN (gCompare a b ha hb) ?_
  refine callN (gStrips a b ha hb) ?_
  refine callN (gSlices a b l ha hb hl) ?_
  refine callN (gCompare b a hb ha) ?_
  cases he : (err2 a b != 0) with
  | true =>
    have e1 : cmpR a b = (⟨0, 0, 0⟩, err2 a b) := by unfold cmpR; rw [he]; rfl
    have e2 : stripsE a b = ([], err2 a b) := by unfold stripsE; rw [he]; rfl
    rw [e1, e2]
    repeat first | refine sk ?_ | refine st ?_ | refine sg ?_ | refine sh ?_ | refine su ?_ | refine sn1 ?_ | refine sn0 ?_
    refine And.intro (fun h => ?_) (fun h => ?_)
    · refine SubR.of_eq ?_
      show vB (err2 a b == err2 a b) = vB true
      simp
    · have h : (((err2 a b != 0) || (err2 a b != 0)) || ((cmpR b a).2 == 10)) = false := h
      rw [he] at h; cases h
  | false =>
    have e1 : cmpR a b = (chF a b (-20000) 20000 a.levels.length, 0) := by unfold cmpR; rw [he]; rfl
    have e2 : stripsE a b = (stripsL a b a.cols.toNat, 0) := by unfold stripsE; rw [he]; rfl
    have h0 : err2 a b = 0 := by simpa using he
    obtain ⟨z1, z2, z3⟩ := err2_zero h0
    have ga := GVal.of z1
    have gb := GVal.of z2
    have hlen := sameC_len ga gb z3
    have hside := sameC_side z3
    have hna := ga.n
    have hcol := ga.cols
    have e3 : cmpR b a = (⟨(chF a b (-20000) 20000 a.levels.length).fill, (chF a b (-20000) 20000 a.levels.length).cut, (chF a b (-20000) 20000 a.levels.length).unk⟩, 0) := by
      unfold cmpR; rw [err2_comm h0, swap_chg hside hlen]; rfl
    rw [e1, e2, e3]
    repeat first | refine sk ?_ | refine st ?_ | refine sg ?_ | refine sh ?_ | refine su ?_ | refine sn1 ?_ | refine sn0 ?_
    refine And.intro (fun h => by cases h) (fun _ => ?_)
    have hsl := stripsL_len (a := a) (b := b) (m := a.cols.toNat)
    have hst := strips_sum (b := b) ga
    generalize hgc : chF a b (-20000) 20000 a.levels.length = C at *
    generalize hgs : stripsL a b a.cols.toNat = S at *
    have hsc : S.length = a.cols.toNat := hsl
    have hll : (layersE a b l).1.length ≤ 1000 := by
      unfold layersE
      rw [he, cond_false]
      cases hlv : (lvErr l != 0) with
      | true => show 0 ≤ 1000; omega
      | false =>
        have := lvErr_len hlv
        show (layersL a b l (l.length + 1)).length ≤ 1000
        rw [layersL_len]; omega
    have hlay : (layersE a b l).2 = 0 → (foldC (layersE a b l).1 (layersE a b l).1.length).cut = C.cut ∧ (foldC (layersE a b l).1 (layersE a b l).1.length).fill = C.fill := by
      unfold layersE
      rw [he, cond_false]
      cases hlv : (lvErr l != 0) with
      | true =>
        intro h
        have h : lvErr l = 0 := h
        rw [h] at hlv; cases hlv
      | false =>
        intro _
        have := layers_sum ga gb hlen hlv
        rw [hgc] at this
        show (foldC (layersL a b l (l.length + 1)) (layersL a b l (l.length + 1)).length).cut = _ ∧ (foldC (layersL a b l (l.length + 1)) (layersL a b l (l.length + 1)).length).fill = _
        rw [layersL_len]
        exact this
    generalize (layersE a b l).1 = L at *
    generalize (layersE a b l).2 = E at *
    refine AW.loopI (fun i : Nat => ⟨[(1, .s (.ptr 1 0)), (3, .s (.ptr 3 0)), (5, vChgs S), (7, vChgs L), (8, vI E), (9, .s (.ptr 9 0)), (10, vI 0), (11, .s (.ptr 11 0)), (12, .s (.ptr 12 0)), (13, vI i)],
        [(1, some (threeB ⟨a, b, c, l⟩)), (3, some (chgB C)), (9, some (chgB ⟨C.fill, C.cut, C.unk⟩)), (11, some (chgB (foldC S i))), (12, some (chgB ⟨0, 0, 0⟩))]⟩)
      (fun i => i ≤ S.length) (fun i => S.length - i) 0 (Nat.zero_le _) ?_ ?_
    · exact SubI.of0 href [] rfl ⟨⟨rfl, LeBx.rfl⟩, ⟨rfl, LeBx.rfl⟩, ⟨rfl, LeBx.rfl⟩, ⟨rfl, LeBx.rfl⟩, ⟨rfl, LeBx.rfl⟩, trivial⟩ ⟨⟨rfl, LeQ.rfl⟩, ⟨rfl, LeQ.rfl⟩, ⟨rfl, LeQ.rfl⟩, ⟨rfl, LeQ.rfl⟩, ⟨rfl, LeQ.rfl⟩, ⟨rfl, LeQ.rfl⟩, ⟨rfl, LeQ.rfl⟩, ⟨rfl, LeQ.rfl⟩, ⟨rfl, LeQ.rfl⟩, ⟨rfl, LeQ.rfl⟩, trivial⟩
    intro i hi
    refine ex.sound (rc := []) tab_ok mix href _ ?_
    refine And.intro (fun h => ?_) (fun h => ?_)
    · have h : (i : Int) < S.length := decT h
      refine oi ⟨by omega, by omega⟩ ?_
      refine callN (rPlus (foldC S i) (S.getD i default)) ?_
      refine And.intro (by kernel_rfl) ?_
      refine ⟨i + 1, by omega, by omega, ?_⟩
      exact SubI.of0 href [] rfl ⟨⟨rfl, LeBx.rfl⟩, ⟨rfl, LeBx.rfl⟩, ⟨rfl, LeBx.rfl⟩, ⟨rfl, LeBx.rfl⟩, ⟨rfl, LeBx.rfl⟩, trivial⟩ ⟨⟨rfl, LeQ.rfl⟩, ⟨rfl, LeQ.rfl⟩, ⟨rfl, LeQ.rfl⟩, ⟨rfl, LeQ.rfl⟩, ⟨rfl, LeQ.rfl⟩, ⟨rfl, LeQ.rfl⟩, ⟨rfl, LeQ.rfl⟩, ⟨rfl, LeQ.rfl⟩, ⟨rfl, LeQ.rfl⟩, ⟨rfl, LeQ.int (w64_of (by omega) (by omega))⟩, trivial⟩
    have h : ¬ (i : Int) < S.length := decF h
    obtain rfl : i = S.length := by omega
    rw [hsc, hst]
    refine AW.loopI (fun i : Nat => ⟨[(1, .s (.ptr 1 0)), (3, .s (.ptr 3 0)), (7, vChgs L), (8, vI E), (9, .s (.ptr 9 0)), (10, vI 0), (11, .s (.ptr 11 0)), (12, .s (.ptr 12 0)), (14, vI i)],
        [(1, some (threeB ⟨a, b, c, l⟩)), (3, some (chgB C)), (9, some (chgB ⟨C.fill, C.cut, C.unk⟩)), (11, some (chgB C)), (12, some (chgB (foldC L i)))]⟩)
      (fun i => i ≤ L.length) (fun i => L.length - i) 0 (Nat.zero_le _) ?_ ?_
    · exact SubI.of0 href [] rfl ⟨⟨rfl, LeBx.rfl⟩, ⟨rfl, LeBx.rfl⟩, ⟨rfl, LeBx.rfl⟩, ⟨rfl, LeBx.rfl⟩, ⟨rfl, LeBx.rfl⟩, trivial⟩ ⟨⟨rfl, LeQ.rfl⟩, ⟨rfl, LeQ.rfl⟩, ⟨rfl, LeQ.rfl⟩, ⟨rfl, LeQ.rfl⟩, ⟨rfl, LeQ.rfl⟩, ⟨rfl, LeQ.rfl⟩, ⟨rfl, LeQ.rfl⟩, ⟨rfl, LeQ.rfl⟩, ⟨rfl, LeQ.rfl⟩, trivial⟩
    intro i hi
    refine ex.sound (rc := []) tab_ok mix href _ ?_
    refine And.intro (fun h => ?_) (fun h => ?_)
    · have h : (i : Int) < L.length := decT h
      refine oi ⟨by omega, by omega⟩ ?_
      refine callN (rPlus (foldC L i) (L.getD i default)) ?_
      refine And.intro (by kernel_rfl) ?_
      refine ⟨i + 1, by omega, by omega, ?_⟩
      exact SubI.of0 href [] rfl ⟨⟨rfl, LeBx.rfl⟩, ⟨rfl, LeBx.rfl⟩, ⟨rfl, LeBx.rfl⟩, ⟨rfl, LeBx.rfl⟩, ⟨rfl, LeBx.rfl⟩, trivial⟩ ⟨⟨rfl, LeQ.rfl⟩, ⟨rfl, LeQ.rfl⟩, ⟨rfl, LeQ.rfl⟩, ⟨rfl, LeQ.rfl⟩, ⟨rfl, LeQ.rfl⟩, ⟨rfl, LeQ.rfl⟩, ⟨rfl, LeQ.rfl⟩, ⟨rfl, LeQ.rfl⟩, ⟨rfl, LeQ.int (w64_of (by omega) (by omega))⟩, trivial⟩
    have h : ¬ (i : Int) < L.length := decF h
    obtain rfl : i = L.length := by omega
    repeat first | refine sk ?_ | refine st ?_ | refine sg ?_ | refine sh ?_ | refine su ?_ | refine sn1 ?_ | refine sn0 ?_
    refine And.intro (fun h => ?_) (fun _ => ?_)
    · exfalso
      have hz : (E == 0 && ((foldC L L.length).cut != C.cut || (foldC L L.length).fill != C.fill)) = false := by
        cases hE : (E == 0) with
        | false => rfl
        | true =>
          obtain ⟨q1, q2⟩ := hlay (by simpa using hE)
          rw [q1, q2]; simp
      have h : ((!(C.cut == C.cut && (C.fill == C.fill && (C.unk == C.unk && true))) || (0 : Int) != 0 || !(C.fill == C.fill && (C.cut == C.cut && (C.unk == C.unk && true)))) || (E == 0 && ((foldC L L.length).cut != C.cut || (foldC L L.length).fill != C.fill))) = true := h
      rw [hz] at h
      simp at h
    refine callN (gCompare a c ha hc) ?_
    refine callN (gCompare b c hb hc) ?_
    repeat first | refine sk ?_ | refine st ?_ | refine sg ?_ | refine sh ?_ | refine su ?_ | refine sn1 ?_ | refine sn0 ?_
    refine And.intro (fun _ => SubR.lit rfl) (fun h => ?_)
    have h : ((((cmpR a c).2 != 0) || ((cmpR b c).2 != 0)) || decide (w64 (w64 (C.unk + (cmpR a c).1.unk) + (cmpR b c).1.unk) > 0)) = false := h
    rw [Bool.or_eq_false_iff, Bool.or_eq_false_iff] at h
    obtain ⟨⟨k1, k2⟩, k3⟩ := h
    have k3 := decF k3
    have r1 : err2 a c = 0 ∧ cmpR a c = (chF a c (-20000) 20000 a.levels.length, 0) := by
      unfold cmpR at k1 ⊢
      cases hx : (err2 a c != 0) with
      | true => rw [hx] at k1; rw [cond_true] at k1; rw [hx] at k1; cases k1
      | false => exact ⟨by simpa using hx, rfl⟩
    have r2 : err2 b c = 0 ∧ cmpR b c = (chF b c (-20000) 20000 b.levels.length, 0) := by
      unfold cmpR at k2 ⊢
      cases hx : (err2 b c != 0) with
      | true => rw [hx] at k2; rw [cond_true] at k2; rw [hx] at k2; cases k2
      | false => exact ⟨by simpa using hx, rfl⟩
    obtain ⟨y1, y2, y3⟩ := err2_zero r1.1
    have gc := GVal.of y2
    have hlc := sameC_len ga gc y3
    rw [r1.2, r2.2] at k3 ⊢
    have u1 := unk_all (a := a) (b := b) hna
    have u2 := unk_all (a := a) (b := c) hna
    have u3 := unk_all (a := b) (b := c) gb.n
    rw [hgc] at u1
    have k3 : ¬ w64 (w64 (C.unk + (chF a c (-20000) 20000 a.levels.length).unk) + (chF b c (-20000) 20000 b.levels.length).unk) > 0 := k3
    rw [w64_of (n := C.unk + _) (by omega) (by omega), w64_of (by omega) (by omega)] at k3
    refine SubR.of_eq ?_
    have hnet := net_third ga gb gc hside hlen hlc (u1.2.2 (by omega)) (u2.2.2 (by omega))
    rw [hgc] at hnet
    show vB (w64 ((chF a c (-20000) 20000 a.levels.length).cut - (chF a c (-20000) 20000 a.levels.length).fill) == w64 (w64 (w64 (C.cut - C.fill) + (chF b c (-20000) 20000 b.levels.length).cut) - (chF b c (-20000) 20000 b.levels.length).fill)) = vB true
    rw [hnet, beq_self_eq_true]
end Go.Ch

namespace Go.Ch
open Go Go.Ax Go.Proofs Go.Proofs.Try
set_option maxRecDepth 100000
set_option pp.maxSteps 400
set_option maxHeartbeats 1000000

def insV (l : List Pt) (p : Pt) : Int := bif anyB l.length (onEdge l p) then 0 else bif parF (rHit l p) l.length then 1 else -1
theorem rInside (l : List Pt) (p : Pt) (h3 : 3 ≤ l.length) (h40 : l.length ≤ 40) : CallP Try.prog 107 [pts l, pt p] (vI (insV l p)) := by
  have hne : l ≠ [] := by rintro rfl; cases h3
  have hpc : ∀ i, i < l.length → cor l i = pAt l i := fun i hi => by
    show l.getD (i % l.length) default = l.getD i default
    rw [Nat.mod_eq_of_lt hi]
  refine callP_of_ex (rc := []) (N := 53) Try.func107 rfl rfl Try.call107 tab_ok mix rfl rfl (fun cx href => ?_)
  refine AW.loopI (fun i : Nat => ⟨[(0, pts l), (3, .s (.ptr 3 0)), (5, vB (parF (rHit l p) i)), (6, vI i)], [(3, some (ptB p))]⟩) (fun i => i ≤ l.length ∧ ∀ j, j < i → onEdge l p j = false) (fun i => l.length - i) 0 ⟨Nat.zero_le _, fun j hj => absurd hj (Nat.not_lt_zero j)⟩ ?_ ?_
  · exact SubI.of0 href [] rfl ⟨⟨rfl, LeBx.rfl⟩, trivial⟩ ⟨⟨rfl, LeQ.rfl⟩, ⟨rfl, LeQ.rfl⟩, ⟨rfl, LeQ.lit rfl⟩, ⟨rfl, LeQ.rfl⟩, trivial⟩
  · rintro i ⟨hi, hj⟩
    refine ex.sound (rc := []) tab_ok mix href _ ?_
    refine And.intro (fun h => ?_) (fun h => ?_)
    · have h : (i : Int) < l.length := decT h
      have hi' : i < l.length := by omega
      have e1 : w64 ((i : Int) + 1) = ((i + 1 : Nat) : Int) := w64_of (by omega) (by omega)
      have c1 : CallP Try.prog 104 [pts l, vI i] (pt (pAt l i)) := by rw [← hpc i hi']; exact corner l i hne
      have c2 : CallP Try.prog 104 [pts l, vI (w64 ((i : Int) + 1))] (pt (cor l (i + 1))) := by rw [e1]; exact corner l (i + 1) hne
      refine callN c1 ?_
      refine callN c2 ?_
      refine callN (Between (pAt l i) (cor l (i + 1)) p) ?_
      refine And.intro (fun h2 => ?_) (fun h2 => ?_)
      · have h2 : onEdge l p i = true := h2
        have e : insV l p = 0 := by unfold insV; rw [anyB_true hi' h2]; rfl
        rw [e]; exact fun _ _ r => r
      have h2 : onEdge l p i = false := h2
      have hj' : ∀ j, j < i + 1 → onEdge l p j = false := fun j hj' => by
        by_cases hji : j = i
        · rw [hji]; exact h2
        · exact hj j (by omega)
      repeat first | refine sk ?_ | refine st ?_ | refine sg ?_ | refine sh ?_ | refine su ?_ | refine sn1 ?_ | refine sn0 ?_
      refine callG (Orient (pAt l i) (cor l (i + 1)) p) ?_
      repeat first | refine sk ?_ | refine st ?_ | refine sg ?_ | refine sh ?_ | refine su ?_ | refine sn1 ?_ | refine sn0 ?_
      refine And.intro (by kernel_rfl) ?_
      refine And.intro (fun h3 => ?_) (fun h3 => ?_)
      · have h3 : rHit l p i = true := h3
        have e : parF (rHit l p) (i + 1) = !parF (rHit l p) i := by rw [parF, h3]; cases parF (rHit l p) i <;> rfl
        refine ⟨i + 1, ⟨by omega, hj'⟩, by omega, ?_⟩
        exact SubI.of0 href [] rfl ⟨⟨rfl, LeBx.rfl⟩, trivial⟩ ⟨⟨rfl, LeQ.rfl⟩, ⟨rfl, LeQ.rfl⟩, ⟨rfl, LeQ.bool e.symm⟩, ⟨rfl, LeQ.int e1⟩, trivial⟩
      · have h3 : rHit l p i = false := h3
        have e : parF (rHit l p) (i + 1) = parF (rHit l p) i := by rw [parF, h3]; cases parF (rHit l p) i <;> rfl
        refine ⟨i + 1, ⟨by omega, hj'⟩, by omega, ?_⟩
        exact SubI.of0 href [] rfl ⟨⟨rfl, LeBx.rfl⟩, trivial⟩ ⟨⟨rfl, LeQ.rfl⟩, ⟨rfl, LeQ.rfl⟩, ⟨rfl, LeQ.bool e.symm⟩, ⟨rfl, LeQ.int e1⟩, trivial⟩
    · have h : ¬ (i : Int) < l.length := decF h
      obtain rfl : i = l.length := by omega
      have ea : anyB l.length (onEdge l p) = false := anyB_false hj
      refine And.intro (fun h2 => ?_) (fun h2 => ?_)
      · have h2 : parF (rHit l p) l.length = true := h2
        have e : insV l p = 1 := by unfold insV; rw [ea, h2]; rfl
        rw [e]; exact fun _ _ r => r
      · have h2 : parF (rHit l p) l.length = false := h2
        have e : insV l p = -1 := by unfold insV; rw [ea, h2]; rfl
        rw [e]; exact fun _ _ r => r
theorem ginside (l : List Pt) (p : Pt) (h3 : 3 ≤ l.length) (h40 : l.length ≤ 40) (hg : ∀ i, i < l.length → good (l.getD i default) = true) (hp : good p = true) : CallP Try.prog 143 [pts l, pt p] (vI (insV l p)) := by
  have hne : l ≠ [] := by rintro rfl; cases h3
  refine callP_of_ex (rc := []) (N := 54) Try.func143 rfl rfl Try.call143 tab_ok mix rfl rfl (fun cx href => ?_)
  refine AW.loopI (fun i : Nat => ⟨[(0, pts l), (3, .s (.ptr 3 0)), (5, vI (sgnP (parF (gHit l p) i))), (9, pts l), (10, vI l.length), (11, vI i)], [(3, some (ptB p))]⟩) (fun i => i ≤ l.length ∧ ∀ j, j < i → onEdge l p j = false) (fun i => l.length - i) 0 ⟨Nat.zero_le _, fun j hj => absurd hj (Nat.not_lt_zero j)⟩ ?_ ?_
  · exact SubI.of0 href [] rfl ⟨⟨rfl, LeBx.rfl⟩, trivial⟩ ⟨⟨rfl, LeQ.rfl⟩, ⟨rfl, LeQ.rfl⟩, ⟨rfl, LeQ.rfl⟩, ⟨rfl, LeQ.rfl⟩, ⟨rfl, LeQ.rfl⟩, ⟨rfl, LeQ.rfl⟩, trivial⟩
  · rintro i ⟨hi, hj⟩
    refine ex.sound (rc := []) tab_ok mix href _ ?_
    refine And.intro (fun h => ?_) (fun h => ?_)
    · have h : (i : Int) < l.length := decT h
      have hi' : i < l.length := by omega
      have e1 : w64 ((i : Int) + 1) = ((i + 1 : Nat) : Int) := w64_of (by omega) (by omega)
      have c2 : CallP Try.prog 159 [pts l, vI (w64 ((i : Int) + 1))] (pt (cor l (i + 1))) := by rw [e1]; exact gcorner l (i + 1) hne
      refine oi ⟨by omega, by omega⟩ ?_
      refine callN c2 ?_
      refine callN (on (pAt l i) (cor l (i + 1)) p) ?_
      refine And.intro (fun h2 => ?_) (fun h2 => ?_)
      · have h2 : onEdge l p i = true := h2
        have e : insV l p = 0 := by unfold insV; rw [anyB_true hi' h2]; rfl
        rw [e]; exact fun _ _ r => r
      have h2 : onEdge l p i = false := h2
      have hj' : ∀ j, j < i + 1 → onEdge l p j = false := fun j hj' => by
        by_cases hji : j = i
        · rw [hji]; exact h2
        · exact hj j (by omega)
      have yes : gHit l p i = true → w64 (0 - sgnP (parF (gHit l p) i)) = sgnP (parF (gHit l p) (i + 1)) := fun h3 => by
        rw [parF, h3]; cases parF (gHit l p) i <;> rfl
      have no : gHit l p i = false → sgnP (parF (gHit l p) i) = sgnP (parF (gHit l p) (i + 1)) := fun h3 => by
        rw [parF, h3]; cases parF (gHit l p) i <;> rfl
      refine And.intro (fun hs => ?_) (fun hs => ?_)
      · have hs : decide ((pAt l i).y > (cor l (i + 1)).y) = true := hs
        have eh : gHit l p i = hG0 (cor l (i + 1)) (pAt l i) p := by unfold gHit hG; rw [hs]; rfl
        repeat first | refine sk ?_ | refine st ?_ | refine sg ?_ | refine sh ?_ | refine su ?_ | refine sn1 ?_ | refine sn0 ?_
        refine callG (gcross (cor l (i + 1)) (pAt l i) p) ?_
        repeat first | refine sk ?_ | refine st ?_ | refine sg ?_ | refine sh ?_ | refine su ?_ | refine sn1 ?_ | refine sn0 ?_
        refine And.intro (fun h3 => ?_) (fun h3 => ?_)
        · have h3 := eh.trans h3
          refine ⟨i + 1, ⟨by omega, hj'⟩, by omega, ?_⟩
          exact SubI.of0 href [] rfl ⟨⟨rfl, LeBx.rfl⟩, trivial⟩ ⟨⟨rfl, LeQ.rfl⟩, ⟨rfl, LeQ.rfl⟩, ⟨rfl, LeQ.int (yes h3)⟩, ⟨rfl, LeQ.rfl⟩, ⟨rfl, LeQ.rfl⟩, ⟨rfl, LeQ.int e1⟩, trivial⟩
        · have h3 := eh.trans h3
          refine ⟨i + 1, ⟨by omega, hj'⟩, by omega, ?_⟩
          exact SubI.of0 href [] rfl ⟨⟨rfl, LeBx.rfl⟩, trivial⟩ ⟨⟨rfl, LeQ.rfl⟩, ⟨rfl, LeQ.rfl⟩, ⟨rfl, LeQ.int (no h3)⟩, ⟨rfl, LeQ.rfl⟩, ⟨rfl, LeQ.rfl⟩, ⟨rfl, LeQ.int e1⟩, trivial⟩
      · have hs : decide ((pAt l i).y > (cor l (i + 1)).y) = false := hs
        have eh : gHit l p i = hG0 (pAt l i) (cor l (i + 1)) p := by unfold gHit hG; rw [hs]; rfl
        repeat first | refine sk ?_ | refine st ?_ | refine sg ?_ | refine sh ?_ | refine su ?_ | refine sn1 ?_ | refine sn0 ?_
        refine callG (gcross (pAt l i) (cor l (i + 1)) p) ?_
        repeat first | refine sk ?_ | refine st ?_ | refine sg ?_ | refine sh ?_ | refine su ?_ | refine sn1 ?_ | refine sn0 ?_
        refine And.intro (fun h3 => ?_) (fun h3 => ?_)
        · have h3 := eh.trans h3
          refine ⟨i + 1, ⟨by omega, hj'⟩, by omega, ?_⟩
          exact SubI.of0 href [] rfl ⟨⟨rfl, LeBx.rfl⟩, trivial⟩ ⟨⟨rfl, LeQ.rfl⟩, ⟨rfl, LeQ.rfl⟩, ⟨rfl, LeQ.int (yes h3)⟩, ⟨rfl, LeQ.rfl⟩, ⟨rfl, LeQ.rfl⟩, ⟨rfl, LeQ.int e1⟩, trivial⟩
        · have h3 := eh.trans h3
          refine ⟨i + 1, ⟨by omega, hj'⟩, by omega, ?_⟩
          exact SubI.of0 href [] rfl ⟨⟨rfl, LeBx.rfl⟩, trivial⟩ ⟨⟨rfl, LeQ.rfl⟩, ⟨rfl, LeQ.rfl⟩, ⟨rfl, LeQ.int (no h3)⟩, ⟨rfl, LeQ.rfl⟩, ⟨rfl, LeQ.rfl⟩, ⟨rfl, LeQ.int e1⟩, trivial⟩
    · have h : ¬ (i : Int) < l.length := decF h
      obtain rfl : i = l.length := by omega
      refine SubR.of_eq (congrArg vI ?_)
      unfold insV
      rw [anyB_false hj, ← par_eq h3 hg hp hj]; rfl
attribute [local irreducible] errPoly in
theorem gInside (l : List Pt) (p : Pt) (he : errPoly l = 0) (hp : good p = true) : CallP Try.prog 102 [pts l, pt p] (rIE (insV l p) 0) := by
  obtain ⟨h3, h40, hg⟩ := errPoly_zero he
  refine callP_of_ex (rc := []) (N := 18) Try.func102 rfl rfl Try.call102 tab_ok mix rfl rfl (fun cx href => ?_)
  refine callN (gCheckPolygon l (by omega)) ?_
  refine And.intro (fun h => ?_) (fun _ => ?_)
  · have h : (errPoly l != 0) = true := h
    rw [he] at h; cases h
  refine callN ((goutside [p] (by simp)).conv (args' := _) ⟨LeD.slc fun i j hi hj => LeD.of_eq ?_, trivial⟩) ?_
  · have hi : i < 1 := hi
    have hj : j < 2 := hj
    match i, j, hi, hj with
    | 0, 0, _, _ => rfl
    | 0, 1, _, _ => rfl
  refine And.intro (fun h => ?_) (fun _ => ?_)
  · simp [hp] at h
  refine callN (ginside l p h3 h40 hg hp) ?_
  exact SubR.t ⟨LeD.refl _, fun _ _ r => r, trivial⟩
def witC (g : Grid) (l : List Pt) (i : Nat) : Bool := decide (insV l (centreG g i) ≥ 0)
def witL (g : Grid) (l : List Pt) (i : Nat) : List Int := (List.range i).filterMap fun k => bif witC g l k then some (k : Int) else none
theorem witL_succ (g : Grid) (l : List Pt) (i : Nat) : witL g l (i + 1) = bif witC g l i then witL g l i ++ [(i : Int)] else witL g l i := by
  unfold witL
  rw [filterMap_range_succ]
  cases witC g l i <;> simp
theorem witL_len (g : Grid) (l : List Pt) (i : Nat) : (witL g l i).length ≤ i := by
  have := List.length_filterMap_le (fun k => bif witC g l k then some (k : Int) else none) (List.range i)
  rw [List.length_range] at this
  exact this
theorem rWithin (g : Grid) (l : List Pt) (gv : GVal g) (h3 : 3 ≤ l.length) (h40 : l.length ≤ 40) : CallP Try.prog 55 [grid g, pts l] (vInts (witL g l g.levels.length)) := by
  have hn := gv.n
  refine callP_of_ex (rc := []) (N := 25) Try.func55 rfl rfl Try.call55 tab_ok mix rfl rfl (fun cx href => ?_)
  refine AW.loopI (fun i : Nat => ⟨[(1, pts l), (2, .s (.ptr 2 0)), (5, .s (.mo (witL g l i).isEmpty 100)), (6, vI i)],
      [(2, some (gridB g)), (100, some (.mrow 3 (witL g l i).length 1 (intEl (witL g l i))))]⟩)
    (fun i => i ≤ g.levels.length) (fun i => g.levels.length - i) 0 (Nat.zero_le _) ?_ ?_
  · exact SubI.of0 href [(100, 1000)] rfl ⟨⟨rfl, LeBx.rfl⟩, ⟨rfl, rfl⟩, trivial⟩ ⟨⟨rfl, LeQ.rfl⟩, ⟨rfl, LeQ.rfl⟩, ⟨rfl, LeQ.nil rfl⟩, ⟨rfl, LeQ.rfl⟩, trivial⟩
  · intro i hi
    have hlen := witL_len g l i
    refine ex.sound (rc := []) tab_ok mix href _ ?_
    refine And.intro (fun h => ?_) (fun h => ?_)
    · have h : (i : Int) < g.levels.length := decT h
      have hi' : i < g.levels.length := by omega
      refine callN (Centre g i (by have := gv.cols; omega)) ?_
      refine callN (rInside l (centreG g i) h3 h40) ?_
      refine And.intro (fun h2 => ?_) (fun h2 => ?_)
      · have h2 : witC g l i = true := h2
        have e : witL g l (i + 1) = witL g l i ++ [(i : Int)] := by rw [witL_succ, h2]; rfl
        refine ob (by decide) ?_
        refine ob (by rw [bif_len]; show _ * 8 ≤ _; omega) ?_
        refine ob (fit1 (lt1 rfl)) ?_
        refine ⟨i + 1, by omega, by omega, ?_⟩
        refine SubI.of0 href [(100, 23)] rfl ⟨⟨rfl, LeBx.rfl⟩, ⟨rfl, ?_⟩, trivial⟩ ⟨⟨rfl, LeQ.rfl⟩, ⟨rfl, LeQ.rfl⟩, ⟨rfl, LeQ.mo ?_⟩, ⟨rfl, LeQ.int (w64_of (by omega) (by omega))⟩, trivial⟩
        · show LeBx _ (.mrow 3 (witL g l (i + 1)).length 1 (intEl (witL g l (i + 1))))
          rw [e]
          exact RowIs.mrow (el := fun x _ => dI x) (RowIs.snoc intRow (lt1 rfl))
        · rw [e]; exact isEmpty_snoc _ _
      · have h2 : witC g l i = false := h2
        have e : witL g l (i + 1) = witL g l i := by rw [witL_succ, h2]; rfl
        refine ⟨i + 1, by omega, by omega, ?_⟩
        exact SubI.of0 href [] rfl ⟨⟨rfl, LeBx.rfl⟩, ⟨rfl, LeBx.of_eq (by rw [e]; rfl)⟩, trivial⟩ ⟨⟨rfl, LeQ.rfl⟩, ⟨rfl, LeQ.rfl⟩, ⟨rfl, LeQ.of_eq (by rw [e]; rfl)⟩, ⟨rfl, LeQ.int (w64_of (by omega) (by omega))⟩, trivial⟩
    · have h : ¬ (i : Int) < g.levels.length := decF h
      obtain rfl : i = g.levels.length := by omega
      exact SubR.mo
end Go.Ch

namespace Go.Ch
open Go Go.Ax Go.Proofs Go.Proofs.Try
set_option maxRecDepth 100000
set_option pp.maxSteps 400
set_option maxHeartbeats 1000000

theorem ptRow1 {l : List Pt} : RowIs 2 (0 + l.length) (catF 0 (rowF 2 []) fun i => ptD (l.getD i default)) ptD l := by
  rw [Nat.zero_add, catF0]; exact RowIs.refl
def withinE (g : Grid) (l : List Pt) : List Int × Int := bif errG g != 0 then ([], errG g) else bif errPoly l != 0 then ([], errPoly l) else (witL g l g.levels.length, 0)
theorem gWithin (g : Grid) (l : List Pt) (hg : g.ok) (hl : l.length ≤ 1000000) : CallP Try.prog 52 [grid g, pts l] (.t [.s (.d (dInts (withinE g l).1)), .s (.d (dI (withinE g l).2))]) := by
  refine callP_of_ex (rc := []) (N := 44) Try.func52 rfl rfl Try.call52 tab_ok mix rfl rfl (fun cx href => ?_)
  refine callN (bcheck g hg.levels) ?_
  unfold withinE
  refine And.intro (fun h => ?_) (fun h => ?_)
  · have h : (errG g != 0) = true := h
    rw [h, cond_true]
    exact SubR.t ⟨LeD.nil, LeD.refl _, trivial⟩
  have h : (errG g != 0) = false := h
  rw [h, cond_false]
  have gv := GVal.of (show errG g = 0 by simpa using h)
  have hn := gv.n
  refine callN (gCheckPolygon l (by omega)) ?_
  refine And.intro (fun h2 => ?_) (fun h2 => ?_)
  · have h2 : (errPoly l != 0) = true := h2
    rw [h2, cond_true]
    exact SubR.t ⟨LeD.nil, LeD.refl _, trivial⟩
  have h2 : (errPoly l != 0) = false := h2
  rw [h2, cond_false]
  have he : errPoly l = 0 := by simpa using h2
  refine AW.loopI (fun i : Nat => ⟨[(1, pts l), (2, .s (.ptr 2 0)), (8, .s (.mo (witL g l i).isEmpty 100)), (24, vI g.levels.length), (25, vI i)],
      [(2, some (gridB g)), (100, some (.mrow 3 (witL g l i).length 1 (intEl (witL g l i))))]⟩)
    (fun i => i ≤ g.levels.length) (fun i => g.levels.length - i) 0 (Nat.zero_le _) ?_ ?_
  · exact SubI.of0 href [(100, 1000)] rfl ⟨⟨rfl, LeBx.rfl⟩, ⟨rfl, rfl⟩, trivial⟩ ⟨⟨rfl, LeQ.rfl⟩, ⟨rfl, LeQ.rfl⟩, ⟨rfl, LeQ.nil rfl⟩, ⟨rfl, LeQ.rfl⟩, ⟨rfl, LeQ.rfl⟩, trivial⟩
  · intro i hi
    have hlen := witL_len g l i
    refine ex.sound (rc := []) tab_ok mix href _ ?_
    refine And.intro (fun h => ?_) (fun h => ?_)
    · have h : (i : Int) < g.levels.length := decT h
      have hi' : i < g.levels.length := by omega
      refine callN (bcentre g i (by have := gv.cols; omega)) ?_
      refine callN (gInside l (centreG g i) he (centre_good gv hi').1) ?_
      refine And.intro (fun h2 => ?_) (fun h2 => ?_)
      · have h2 : witC g l i = true := h2
        have e : witL g l (i + 1) = witL g l i ++ [(i : Int)] := by rw [witL_succ, h2]; rfl
        refine ob (by decide) ?_
        refine ob (by rw [bif_len]; show _ * 8 ≤ _; omega) ?_
        refine ob (fit1 (lt1 rfl)) ?_
        refine ⟨i + 1, by omega, by omega, ?_⟩
        refine SubI.of0 href [(100, 41)] rfl ⟨⟨rfl, LeBx.rfl⟩, ⟨rfl, ?_⟩, trivial⟩ ⟨⟨rfl, LeQ.rfl⟩, ⟨rfl, LeQ.rfl⟩, ⟨rfl, LeQ.mo ?_⟩, ⟨rfl, LeQ.rfl⟩, ⟨rfl, LeQ.int (w64_of (by omega) (by omega))⟩, trivial⟩
        · show LeBx _ (.mrow 3 (witL g l (i + 1)).length 1 (intEl (witL g l (i + 1))))
          rw [e]
          exact RowIs.mrow (el := fun x _ => dI x) (RowIs.snoc intRow (lt1 rfl))
        · rw [e]; exact isEmpty_snoc _ _
      · have h2 : witC g l i = false := h2
        have e : witL g l (i + 1) = witL g l i := by rw [witL_succ, h2]; rfl
        refine ⟨i + 1, by omega, by omega, ?_⟩
        exact SubI.of0 href [] rfl ⟨⟨rfl, LeBx.rfl⟩, ⟨rfl, LeBx.of_eq (by rw [e]; rfl)⟩, trivial⟩ ⟨⟨rfl, LeQ.rfl⟩, ⟨rfl, LeQ.rfl⟩, ⟨rfl, LeQ.of_eq (by rw [e]; rfl)⟩, ⟨rfl, LeQ.rfl⟩, ⟨rfl, LeQ.int (w64_of (by omega) (by omega))⟩, trivial⟩
    · have h : ¬ (i : Int) < g.levels.length := decF h
      obtain rfl : i = g.levels.length := by omega
      exact SubR.t ⟨LeD.slc' (bif_len _) fun _ _ _ _ => LeD.refl _, LeD.refl _, trivial⟩

/-! The highest of some cells. -/
theorem knownG_F (g : Grid) (k : Int) : knownG g k = knownF g k := by
  unfold knownG knownF there within levelAt lv
  rw [show decide (k ≤ (g.levels.length : Int) - 1) = decide (k < (g.levels.length : Int)) by rw [Bool.eq_iff_iff, decide_eq_true_eq, decide_eq_true_eq]; omega]
def highE (g : Grid) (l : List Int) : Int × Int := bif errG g != 0 then (0, errG g) else bif !l.all (there g) then (0, 6) else bif decide (hiF g l < 0) then (0, 12) else (hiF g l, 0)
theorem all_no {g : Grid} {l : List Int} {i : Nat} (hi : i < l.length) (h : there g (l.getD i 0) = false) : l.all (there g) = false := by
  rw [List.all_eq_false]
  refine ⟨l[i], List.getElem_mem hi, ?_⟩
  rw [List.getD_eq_getElem?_getD, List.getElem?_eq_getElem hi, Option.getD_some] at h
  rw [h]; decide
theorem all_yes {g : Grid} {l : List Int} (h : ∀ j, j < l.length → there g (l.getD j 0) = true) : l.all (there g) = true := by
  rw [List.all_eq_true]
  intro x hx
  obtain ⟨j, hj, rfl⟩ := List.getElem_of_mem hx
  have := h j hj
  rwa [List.getD_eq_getElem?_getD, List.getElem?_eq_getElem hj, Option.getD_some] at this
attribute [local irreducible] errG in
theorem gHighest (g : Grid) (l : List Int) (hg : g.ok) (hl : l.length ≤ 1000000) : CallP Try.prog 53 [grid g, vInts l] (.t [.s (.d (dI (highE g l).1)), .s (.d (dI (highE g l).2))]) := by
  refine callP_of_ex (rc := []) (N := 71) Try.func53 rfl rfl Try.call53 tab_ok mix rfl rfl (fun cx href => ?_)
  refine callN (bcheck g hg.levels) ?_
  unfold highE
  refine And.intro (fun h => ?_) (fun h => ?_)
  · have h : (errG g != 0) = true := h
    rw [h, cond_true]
    exact SubR.t ⟨LeD.refl _, LeD.refl _, trivial⟩
  have he : (errG g != 0) = false := h
  rw [he, cond_false]
  have gv := GVal.of (show errG g = 0 by simpa using he)
  have hn := gv.n
  refine AW.loopI (fun i : Nat => ⟨[(2, .s (.ptr 2 0)), (6, vI (hiF g (l.take i))), (16, vInts l), (17, vI l.length), (18, vI i)], [(2, some (gridB g))]⟩)
    (fun i => i ≤ l.length ∧ (∀ j, j < i → there g (l.getD j 0) = true) ∧ -1 ≤ hiF g (l.take i) ∧ (0 ≤ hiF g (l.take i) → hiF g (l.take i) < g.levels.length)) (fun i => l.length - i) 0 ⟨Nat.zero_le _, fun j hj => absurd hj (Nat.not_lt_zero j), by simp [hiF], by simp [hiF]⟩ ?_ ?_
  · exact SubI.of0 href [] rfl ⟨⟨rfl, LeBx.rfl⟩, trivial⟩ ⟨⟨rfl, LeQ.rfl⟩, ⟨rfl, LeQ.rfl⟩, ⟨rfl, LeQ.rfl⟩, ⟨rfl, LeQ.rfl⟩, ⟨rfl, LeQ.rfl⟩, trivial⟩
  · rintro i ⟨hi, hj, hb0, hb1⟩
    refine ex.sound (rc := []) tab_ok mix href _ ?_
    refine And.intro (fun h => ?_) (fun h => ?_)
    · have h : (i : Int) < l.length := decT h
      have hi' : i < l.length := by omega
      refine oi ⟨by omega, by omega⟩ ?_
      refine callN (hasG g (l.getD i 0) hg) ?_
      rw [he, cond_false]
      cases ht : there g (l.getD i 0) with
      | false =>
        have ht' : within (l.getD i 0) 0 ((g.levels.length : Int) - 1) = false := ht
        rw [ht', cond_false, all_no hi' ht]
        refine And.intro (fun _ => ?_) (fun h => by cases h)
        exact SubR.t ⟨LeD.refl _, LeD.refl _, trivial⟩
      | true =>
      have ht' : within (l.getD i 0) 0 ((g.levels.length : Int) - 1) = true := ht
      rw [ht', cond_true]
      refine And.intro (fun h => by cases h) (fun _ => ?_)
      have hk := there_iff.1 ht
      refine callN (knownI g (l.getD i 0) (by omega)) ?_
      rw [knownG_F]
      repeat first | refine sk ?_ | refine st ?_ | refine sg ?_ | refine sh ?_ | refine su ?_ | refine sn1 ?_ | refine sn0 ?_
      have hx : ∀ (x : Bool), (x && !decide (hiF g (l.take i) < 0)) = true → 0 ≤ hiF g (l.take i) ∧ hiF g (l.take i) < (g.levels.length : Int) := by
        intro x hx
        simp only [Bool.and_eq_true, Bool.not_eq_true', decide_eq_false_iff_not] at hx
        exact ⟨by omega, hb1 (by omega)⟩
      have hy : ∀ (x y : Bool), (x && !(decide (hiF g (l.take i) < 0) || y)) = true → 0 ≤ hiF g (l.take i) ∧ hiF g (l.take i) < (g.levels.length : Int) := by
        intro x y hx
        simp only [Bool.and_eq_true, Bool.not_eq_true', Bool.or_eq_false_iff, decide_eq_false_iff_not] at hx
        exact ⟨by omega, hb1 (by omega)⟩
      refine og (fun _ => hk) ?_
      repeat first | refine sk ?_ | refine st ?_ | refine sg ?_ | refine sh ?_ | refine su ?_ | refine sn1 ?_ | refine sn0 ?_
      refine og (fun hb => hx _ hb) ?_
      repeat first | refine sk ?_ | refine st ?_ | refine sg ?_ | refine sh ?_ | refine su ?_ | refine sn1 ?_ | refine sn0 ?_
      refine og (fun _ => hk) ?_
      repeat first | refine sk ?_ | refine st ?_ | refine sg ?_ | refine sh ?_ | refine su ?_ | refine sn1 ?_ | refine sn0 ?_
      refine og (fun hb => hy _ _ hb) ?_
      repeat first | refine sk ?_ | refine st ?_ | refine sg ?_ | refine sh ?_ | refine su ?_ | refine sn1 ?_ | refine sn0 ?_
      refine And.intro (by kernel_rfl) ?_
      have et := hiF_take (g := g) hi'
      have hj' : ∀ j, j < i + 1 → there g (l.getD j 0) = true := fun j hj' => by
        by_cases e : j = i
        · rw [e]; exact ht
        · exact hj j (by omega)
      refine And.intro (fun h3 => ?_) (fun h3 => ?_)
      · have h3 : (knownF g (l.getD i 0) && ((decide (hiF g (l.take i) < 0) || decide (lv g (l.getD i 0) > lv g (hiF g (l.take i)))) || (lv g (l.getD i 0) == lv g (hiF g (l.take i)) && decide (l.getD i 0 < hiF g (l.take i))))) = true := h3
        rw [hiStep, h3] at et
        simp only [cond_true] at et
        refine ⟨i + 1, ⟨by omega, hj', by rw [et]; omega, by rw [et]; omega⟩, by omega, ?_⟩
        exact SubI.of0 href [] rfl ⟨⟨rfl, LeBx.rfl⟩, trivial⟩ ⟨⟨rfl, LeQ.rfl⟩, ⟨rfl, LeQ.int et.symm⟩, ⟨rfl, LeQ.rfl⟩, ⟨rfl, LeQ.rfl⟩, ⟨rfl, LeQ.int (w64_of (by omega) (by omega))⟩, trivial⟩
      · have h3 : (knownF g (l.getD i 0) && ((decide (hiF g (l.take i) < 0) || decide (lv g (l.getD i 0) > lv g (hiF g (l.take i)))) || (lv g (l.getD i 0) == lv g (hiF g (l.take i)) && decide (l.getD i 0 < hiF g (l.take i))))) = false := h3
        rw [hiStep, h3] at et
        simp only [cond_false] at et
        refine ⟨i + 1, ⟨by omega, hj', by rw [et]; omega, by rw [et]; exact hb1⟩, by omega, ?_⟩
        exact SubI.of0 href [] rfl ⟨⟨rfl, LeBx.rfl⟩, trivial⟩ ⟨⟨rfl, LeQ.rfl⟩, ⟨rfl, LeQ.int et.symm⟩, ⟨rfl, LeQ.rfl⟩, ⟨rfl, LeQ.rfl⟩, ⟨rfl, LeQ.int (w64_of (by omega) (by omega))⟩, trivial⟩
    · have h : ¬ (i : Int) < l.length := decF h
      obtain rfl : i = l.length := by omega
      rw [all_yes hj, List.take_length]
      refine And.intro (fun h => ?_) (fun h => ?_)
      · have h : decide (hiF g l < 0) = true := h
        rw [h]
        exact SubR.t ⟨LeD.refl _, LeD.refl _, trivial⟩
      · have h : decide (hiF g l < 0) = false := h
        rw [h]
        exact SubR.t ⟨LeD.refl _, LeD.refl _, trivial⟩
end Go.Ch

namespace Go.Ch
open Go Go.Ax Go.Proofs Go.Proofs.Try
set_option maxRecDepth 100000
set_option pp.maxSteps 400
set_option maxHeartbeats 1000000

theorem there_eq2 {g : Grid} {k : Int} : (decide (k ≥ 0) && decide (k < (g.levels.length : Int))) = there g k := by
  unfold there within
  rw [show decide (k ≤ (g.levels.length : Int) - 1) = decide (k < (g.levels.length : Int)) by rw [Bool.eq_iff_iff, decide_eq_true_eq, decide_eq_true_eq]; omega]
attribute [local irreducible] errG few errPoly in
theorem BWithin (g : Grid) (l : List Pt) (ks : List Int) (hg : g.ok) (_hl : l.length ≤ 9223372036854775807 ∧ ∀ a ∈ l, a.ok) (_hk : ks.length ≤ 9223372036854775807 ∧ ∀ a ∈ ks, i64ok a) : CallP Try.prog 10 [grid g, pts l, vInts ks] (vB true) := by
  refine callP_of_ex (rc := [2000052]) (N := 125) Try.func10 rfl rfl Try.call10 tab_ok mix rfl rfl (fun cx href => ?_)
  refine callN bawake ?_
  refine And.intro (fun h => by cases h) (fun _ => ?_)
  refine callN (Few g hg.levels) ?_
  repeat first | refine sk ?_ | refine st ?_ | refine sg ?_ | refine sh ?_ | refine su ?_ | refine sn1 ?_ | refine sn0 ?_
  refine And.intro (fun _ => SubR.lit rfl) (fun h1 => ?_)
  have h1 : ((!few g || decide ((l.length : Int) > 8)) || decide ((ks.length : Int) > 40)) = false := h1
  rw [Bool.or_eq_false_iff, Bool.or_eq_false_iff] at h1
  have hl8 := decF h1.1.2
  have hk40 := decF h1.2
  refine ob (show (0 + l.length) * 16 ≤ _ by omega) ?_
  refine ob (fun i j _ _ => ?_) ?_
  · match j, (show j < 2 from ‹_›) with
    | 0, _ => rfl
    | 1, _ => rfl
  refine ⟨[34], _, rfl, (gWithin g l hg (by omega)).conv (args' := _) ⟨⟨LeD.refl _, LeD.refl _, LeD.refl _, LeD.refl _, LeD.refl _, LeD.refl _, trivial⟩, RowIs.slc (el := ptD) ptRow1, trivial⟩, ?_⟩
  refine And.intro (by kernel_rfl) ?_
  refine callN (CopyInts ks (by omega)) ?_
  refine callN (gHighest g ks hg (by omega)) ?_
  refine And.intro (by kernel_rfl) ?_
  refine callN (RCheck g hg.levels) ?_
  refine And.intro (fun h => ?_) (fun h => ?_)
  · have h : (errG g != 0) = true := h
    have e1 : withinE g l = ([], errG g) := by unfold withinE; rw [h]; rfl
    have e2 : highE g ks = (0, errG g) := by unfold highE; rw [h]; rfl
    rw [e1, e2]
    repeat first | refine sk ?_ | refine st ?_ | refine sg ?_ | refine sh ?_ | refine su ?_ | refine sn1 ?_ | refine sn0 ?_
    refine SubR.of_eq ?_
    show vB ((((errG g == errG g) && (errG g == errG g)) && ((0 : Int) == 0)) && ((0 : Int) == 0)) = vB true
    simp
  have h : (errG g != 0) = false := h
  have gv := GVal.of (show errG g = 0 by simpa using h)
  have hn := gv.n
  refine callN (rCheckPolygon l (by omega)) ?_
  have hE : highE g ks = bif !ks.all (there g) then (0, 6) else bif decide (hiF g ks < 0) then (0, 12) else (hiF g ks, 0) := by unfold highE; rw [h]; rfl
  refine And.intro (fun h2 => ?_) (fun h2 => ?_)
  · have h2 : (errPoly l != 0) = true := h2
    have e1 : withinE g l = ([], errPoly l) := by unfold withinE; rw [h, h2]; rfl
    rw [e1]
    repeat first | refine sk ?_ | refine st ?_ | refine sg ?_ | refine sh ?_ | refine su ?_ | refine sn1 ?_ | refine sn0 ?_
    refine And.intro (fun h3 => ?_) (fun _ => ?_)
    · exfalso
      have h3 : ((errPoly l != errPoly l) || ((0 : Int) != 0)) = true := h3
      simp at h3
    refine AW.loopI (fun i : Nat => ⟨[(2, vInts ks), (3, .s (.ptr 3 0)), (9, vI (highE g ks).1), (10, vI (highE g ks).2), (13, vI i)], [(3, some (gridB g))]⟩)
      (fun i => i ≤ ks.length ∧ ∀ j, j < i → there g (ks.getD j 0) = true) (fun i => ks.length - i) 0 ⟨Nat.zero_le _, fun j hj => absurd hj (Nat.not_lt_zero j)⟩ ?_ ?_
    · exact SubI.of0 href [] rfl ⟨⟨rfl, LeBx.rfl⟩, trivial⟩ ⟨⟨rfl, LeQ.rfl⟩, ⟨rfl, LeQ.rfl⟩, ⟨rfl, LeQ.rfl⟩, ⟨rfl, LeQ.rfl⟩, ⟨rfl, LeQ.rfl⟩, trivial⟩
    rintro i ⟨hi, hj⟩
    refine ex.sound (rc := []) tab_ok mix href _ ?_
    refine And.intro (fun h => ?_) (fun h => ?_)
    · have h : (i : Int) < ks.length := decT h
      have hi' : i < ks.length := by omega
      refine oi ⟨by omega, by omega⟩ ?_
      refine callN (rThere g (ks.getD i 0)) ?_
      refine And.intro (by kernel_rfl) ?_
      rw [there_eq2]
      refine And.intro (fun h3 => ?_) (fun h3 => ?_)
      · have h3 : (!there g (ks.getD i 0)) = true := h3
        have e : highE g ks = (0, 6) := by
          rw [hE, all_no hi' (by simpa using h3)]; rfl
        rw [e]
        repeat first | refine sk ?_ | refine st ?_ | refine sg ?_ | refine sh ?_ | refine su ?_ | refine sn1 ?_ | refine sn0 ?_
        exact SubR.lit rfl
      · have h3 : (!there g (ks.getD i 0)) = false := h3
        have h3 : there g (ks.getD i 0) = true := by simpa using h3
        refine ⟨i + 1, ⟨by omega, fun j hj' => ?_⟩, by omega, ?_⟩
        · by_cases e : j = i
          · rw [e]; exact h3
          · exact hj j (by omega)
        · exact SubI.of0 href [] rfl ⟨⟨rfl, LeBx.rfl⟩, trivial⟩ ⟨⟨rfl, LeQ.rfl⟩, ⟨rfl, LeQ.rfl⟩, ⟨rfl, LeQ.rfl⟩, ⟨rfl, LeQ.rfl⟩, ⟨rfl, LeQ.int (w64_of (by omega) (by omega))⟩, trivial⟩
    have h : ¬ (i : Int) < ks.length := decF h
    obtain rfl : i = ks.length := by omega
    refine callN (rHighest g ks (by omega) (fun i hi => there_iff.1 (hj i hi))) ?_
    refine And.intro (fun h3 => ?_) (fun h3 => ?_)
    · have h3 : decide (hiF g ks < 0) = true := h3
      have e : highE g ks = (0, 12) := by rw [hE, all_yes hj, h3]; rfl
      rw [e]
      repeat first | refine sk ?_ | refine st ?_ | refine sg ?_ | refine sh ?_ | refine su ?_ | refine sn1 ?_ | refine sn0 ?_
      exact SubR.lit rfl
    · have h3 : decide (hiF g ks < 0) = false := h3
      have e : highE g ks = (hiF g ks, 0) := by rw [hE, all_yes hj, h3]; rfl
      rw [e]
      repeat first | refine sk ?_ | refine st ?_ | refine sg ?_ | refine sh ?_ | refine su ?_ | refine sn1 ?_ | refine sn0 ?_
      refine SubR.of_eq ?_
      show vB (((0 : Int) == 0) && (hiF g ks == hiF g ks)) = vB true
      simp
  · have h2 : (errPoly l != 0) = false := h2
    have e1 : withinE g l = (witL g l g.levels.length, 0) := by unfold withinE; rw [h, h2]; rfl
    have hp : 3 ≤ l.length ∧ l.length ≤ 40 := ⟨(errPoly_zero (by simpa using h2)).1, (errPoly_zero (by simpa using h2)).2.1⟩
    have hw := witL_len g l g.levels.length
    rw [e1]
    repeat first | refine sk ?_ | refine st ?_ | refine sg ?_ | refine sh ?_ | refine su ?_ | refine sn1 ?_ | refine sn0 ?_
    refine callG (rWithin g l gv hp.1 hp.2) ?_
    repeat first | refine sk ?_ | refine st ?_ | refine sg ?_ | refine sh ?_ | refine su ?_ | refine sn1 ?_ | refine sn0 ?_
    refine callG (rIntsEq (witL g l g.levels.length) (by omega)) ?_
    repeat first | refine sk ?_ | refine st ?_ | refine sg ?_ | refine sh ?_ | refine su ?_ | refine sn1 ?_ | refine sn0 ?_
    refine And.intro (fun h3 => by cases h3) (fun _ => ?_)
    refine AW.loopI (fun i : Nat => ⟨[(2, vInts ks), (3, .s (.ptr 3 0)), (9, vI (highE g ks).1), (10, vI (highE g ks).2), (13, vI i)], [(3, some (gridB g))]⟩)
      (fun i => i ≤ ks.length ∧ ∀ j, j < i → there g (ks.getD j 0) = true) (fun i => ks.length - i) 0 ⟨Nat.zero_le _, fun j hj => absurd hj (Nat.not_lt_zero j)⟩ ?_ ?_
    · exact SubI.of0 href [] rfl ⟨⟨rfl, LeBx.rfl⟩, trivial⟩ ⟨⟨rfl, LeQ.rfl⟩, ⟨rfl, LeQ.rfl⟩, ⟨rfl, LeQ.rfl⟩, ⟨rfl, LeQ.rfl⟩, ⟨rfl, LeQ.rfl⟩, trivial⟩
    rintro i ⟨hi, hj⟩
    refine ex.sound (rc := []) tab_ok mix href _ ?_
    refine And.intro (fun h => ?_) (fun h => ?_)
    · have h : (i : Int) < ks.length := decT h
      have hi' : i < ks.length := by omega
      refine oi ⟨by omega, by omega⟩ ?_
      refine callN (rThere g (ks.getD i 0)) ?_
      refine And.intro (by kernel_rfl) ?_
      rw [there_eq2]
      refine And.intro (fun h3 => ?_) (fun h3 => ?_)
      · have h3 : (!there g (ks.getD i 0)) = true := h3
        have e : highE g ks = (0, 6) := by
          rw [hE, all_no hi' (by simpa using h3)]; rfl
        rw [e]
        repeat first | refine sk ?_ | refine st ?_ | refine sg ?_ | refine sh ?_ | refine su ?_ | refine sn1 ?_ | refine sn0 ?_
        exact SubR.lit rfl
      · have h3 : (!there g (ks.getD i 0)) = false := h3
        have h3 : there g (ks.getD i 0) = true := by simpa using h3
        refine ⟨i + 1, ⟨by omega, fun j hj' => ?_⟩, by omega, ?_⟩
        · by_cases e : j = i
          · rw [e]; exact h3
          · exact hj j (by omega)
        · exact SubI.of0 href [] rfl ⟨⟨rfl, LeBx.rfl⟩, trivial⟩ ⟨⟨rfl, LeQ.rfl⟩, ⟨rfl, LeQ.rfl⟩, ⟨rfl, LeQ.rfl⟩, ⟨rfl, LeQ.rfl⟩, ⟨rfl, LeQ.int (w64_of (by omega) (by omega))⟩, trivial⟩
    have h : ¬ (i : Int) < ks.length := decF h
    obtain rfl : i = ks.length := by omega
    refine callN (rHighest g ks (by omega) (fun i hi => there_iff.1 (hj i hi))) ?_
    refine And.intro (fun h3 => ?_) (fun h3 => ?_)
    · have h3 : decide (hiF g ks < 0) = true := h3
      have e : highE g ks = (0, 12) := by rw [hE, all_yes hj, h3]; rfl
      rw [e]
      repeat first | refine sk ?_ | refine st ?_ | refine sg ?_ | refine sh ?_ | refine su ?_ | refine sn1 ?_ | refine sn0 ?_
      exact SubR.lit rfl
    · have h3 : decide (hiF g ks < 0) = false := h3
      have e : highE g ks = (hiF g ks, 0) := by rw [hE, all_yes hj, h3]; rfl
      rw [e]
      repeat first | refine sk ?_ | refine st ?_ | refine sg ?_ | refine sh ?_ | refine su ?_ | refine sn1 ?_ | refine sn0 ?_
      refine SubR.of_eq ?_
      show vB (((0 : Int) == 0) && (hiF g ks == hiF g ks)) = vB true
      simp
end Go.Ch

namespace Go.Ch
open Go Go.Ax Go.Proofs Go.Proofs.Try
set_option maxRecDepth 100000
set_option pp.maxSteps 400
set_option maxHeartbeats 1000000

/-- Is the cell (x, y) there, known, and as high as lv? -/
def highB (g : Grid) (lv x y : Int) : Bool :=
  (within x 0 (g.cols - 1) && within y 0 (g.rows - 1)) && (g.levels.getD (y * g.cols + x).toNat 0 != 30000 && decide (g.levels.getD (y * g.cols + x).toNat 0 ≥ lv))
theorem cell_in {g : Grid} (gv : GVal g) {x y : Int} (hx : within x 0 (g.cols - 1) = true) (hy : within y 0 (g.rows - 1) = true) : 0 ≤ y * g.cols + x ∧ y * g.cols + x < g.levels.length ∧ 0 ≤ y * g.cols ∧ y * g.cols ≤ 1024 := by
  unfold within at hx hy
  simp at hx hy
  have hlen := gv.len
  have hc := gv.cols
  have hm := gv.most
  have h1 : 0 ≤ y * g.cols := Int.mul_nonneg (by omega) (by omega)
  have h2 : y * g.cols ≤ (g.rows - 1) * g.cols := Int.mul_le_mul_of_nonneg_right (by omega) (by omega)
  rw [Int.sub_mul, Int.mul_comm g.rows] at h2
  omega
theorem high_eq {g : Grid} (gv : GVal g) (lv x y : Int) :
    (((within x 0 (w64 (g.cols - 1)) && within y 0 (w64 (g.rows - 1))) && knownF g (w64 (w64 (y * g.cols) + x))) && decide (g.levels.getD (w64 (w64 (y * g.cols) + x)).toNat 0 ≥ lv)) = highB g lv x y := by
  have hc := gv.cols
  have hr := gv.rows
  unfold highB
  rw [w64_of (n := g.cols - 1) (by omega) (by omega), w64_of (n := g.rows - 1) (by omega) (by omega)]
  cases hx : within x 0 (g.cols - 1) with
  | false => rfl
  | true =>
    cases hy : within y 0 (g.rows - 1) with
    | false => rfl
    | true =>
      obtain ⟨h1, h2, h3, h4⟩ := cell_in gv hx hy
      have hn := gv.n
      rw [w64_of (n := y * g.cols) (by omega) (by omega), w64_of (by omega) (by omega)]
      unfold knownF Ch.lv
      rw [decide_eq_true (by omega), decide_eq_true (by omega)]
      rfl
theorem rHigh (g : Grid) (gv : GVal g) (x y lv : Int) : CallP Try.prog 112 [grid g, vI x, vI y, vI lv] (vB (highB g lv x y)) := by
  rw [← high_eq gv]
  refine callP_of_ex (rc := []) (N := 45) Try.func112 rfl rfl Try.call112 tab_ok mix rfl rfl (fun cx href => ?_)
  refine callN (Within x 0 (w64 (g.cols - 1))) ?_
  repeat first | refine sk ?_ | refine st ?_ | refine sg ?_ | refine sh ?_ | refine su ?_ | refine sn1 ?_ | refine sn0 ?_
  refine callG (Within y 0 (w64 (g.rows - 1))) ?_
  repeat first | refine sk ?_ | refine st ?_ | refine sg ?_ | refine sh ?_ | refine su ?_ | refine sn1 ?_ | refine sn0 ?_
  refine callG (rKnown g (w64 (w64 (y * g.cols) + x))) ?_
  repeat first | refine sk ?_ | refine st ?_ | refine sg ?_ | refine sh ?_ | refine su ?_ | refine sn1 ?_ | refine sn0 ?_
  refine og (fun h => ?_) ?_
  · have h : ((within x 0 (w64 (g.cols - 1)) && within y 0 (w64 (g.rows - 1))) && knownF g (w64 (w64 (y * g.cols) + x))) = true := h
    simp only [Bool.and_eq_true] at h
    have h := h.2
    unfold knownF at h
    simp only [Bool.and_eq_true, decide_eq_true_eq] at h
    exact ⟨by have := h.1.1; omega, h.1.2⟩
  repeat first | refine sk ?_ | refine st ?_ | refine sg ?_ | refine sh ?_ | refine su ?_ | refine sn1 ?_ | refine sn0 ?_
  exact SubR.refl _
theorem betw1 (x hi : Int) (b : Bool) (h : within x 0 hi = b) : CallP Try.prog 84 [vI 0, vI hi, .s (.d (.slc 1 1 (rowF 1 [.d (dI x)])))] (.s (.d (.lit b))) := by
  refine CallP.res ((bbetween 0 hi [x] (by simp)).conv (args' := _) ⟨LeD.refl _, LeD.refl _, LeD.slc fun i j hi hj => ?_, trivial⟩) ?_
  · obtain rfl : i = 0 := by have : i < 1 := hi; omega
    obtain rfl : j = 0 := by have : j < 1 := hj; omega
    exact LeD.of_eq rfl
  · have e : (!outL 0 hi [x]) = b := by simp [outL, h]
    rw [e]
    exact fun _ _ r => r
theorem gHigh (g : Grid) (gv : GVal g) (x y lv : Int) (f h : Nat → DV) (hf : ∀ j, j < 6 → f j = gridD g j) (hh : h 0 = dI lv) : CallP Try.prog 109 [vI x, vI y, .s (.d (.rp 6 f)), .s (.d (.rp 1 h))] (vB (highB g lv x y)) := by
  have h1 : LeAs [vI x, vI y, .s (.d (.rp 6 f)), .s (.d (.rp 1 h))] [vI x, vI y, .s (.d (.rp 6 (gridD g))), .s (.d (.rp 1 fun _ => dI lv))] :=
    ⟨LeD.refl _, LeD.refl _, LeD.rp fun j hj => LeD.of_eq (hf j hj), LeD.rp fun j hj => LeD.of_eq (by rw [show j = 0 by omega]; exact hh), trivial⟩
  refine CallP.conv ?_ h1
  rw [← high_eq gv]
  have hn := gv.n
  refine callP_of_ex (rc := []) (N := 42) Try.func109 rfl rfl Try.call109 tab_ok mix rfl rfl (fun cx href => ?_)
  cases hx : within x 0 (w64 (g.cols - 1)) with
  | false =>
    refine callN (betw1 x (w64 (g.cols - 1)) false hx) ?_
    refine And.intro (by kernel_rfl) ?_
    exact SubR.lit rfl
  | true =>
    refine callN (betw1 x (w64 (g.cols - 1)) true hx) ?_
    cases hy : within y 0 (w64 (g.rows - 1)) with
    | false =>
      refine callN (betw1 y (w64 (g.rows - 1)) false hy) ?_
      refine And.intro (by kernel_rfl) ?_
      exact SubR.lit rfl
    | true =>
      refine callN (betw1 y (w64 (g.rows - 1)) true hy) ?_
      refine callN (knownI g (w64 (w64 (y * g.cols) + x)) (by omega)) ?_
      rw [knownG_F]
      repeat first | refine sk ?_ | refine st ?_ | refine sg ?_ | refine sh ?_ | refine su ?_ | refine sn1 ?_ | refine sn0 ?_
      refine og (fun h => ?_) ?_
      · have h : knownF g (w64 (w64 (y * g.cols) + x)) = true := h
        unfold knownF at h
        simp only [Bool.and_eq_true, decide_eq_true_eq] at h
        exact ⟨by have := h.1.1; omega, h.1.2⟩
      repeat first | refine sk ?_ | refine st ?_ | refine sg ?_ | refine sh ?_ | refine su ?_ | refine sn1 ?_ | refine sn0 ?_
      refine And.intro (by kernel_rfl) ?_
      exact SubR.refl _
end Go.Ch

namespace Go.Ch
open Go Go.Ax Go.Proofs Go.Proofs.Try
set_option maxRecDepth 100000
set_option pp.maxSteps 400
set_option maxHeartbeats 1000000

/-- Column and row of a cell, the corners of a cell. -/
def xi (g : Grid) (i : Nat) : Int := (i : Int).tmod g.cols
def yi (g : Grid) (i : Nat) : Int := (i : Int).tdiv g.cols
def dxk : Nat → Int
  | 1 => 1
  | 2 => 1
  | _ => 0
def dyk : Nat → Int
  | 2 => 1
  | 3 => 1
  | _ => 0
def cornP (g : Grid) (x y : Int) (k : Nat) : Pt := ⟨g.x + (x + dxk k) * g.side, g.y + (y + dyk k) * g.side⟩
structure CellOK (g : Grid) (i : Nat) : Prop where
  x : 0 ≤ xi g i ∧ xi g i < g.cols
  y : 0 ≤ yi g i ∧ yi g i < g.rows
  ix : yi g i * g.cols + xi g i = i
  px : -1000000 ≤ g.x + xi g i * g.side ∧ g.x + xi g i * g.side ≤ 1000000
  py : -1000000 ≤ g.y + yi g i * g.side ∧ g.y + yi g i * g.side ≤ 1000000
  mx : 0 ≤ xi g i * g.side ∧ xi g i * g.side ≤ 2000000
  my : 0 ≤ yi g i * g.side ∧ yi g i * g.side ≤ 2000000
theorem CellOK.of {g : Grid} (gv : GVal g) {i : Nat} (hi : i < g.levels.length) : CellOK g i := by
  obtain ⟨hx, hy, hs, hc, hr, hm, hR, hT, hl, _⟩ := gv
  have i0 : (0 : Int) ≤ (i : Int) := by omega
  have e1 : (i : Int).tmod g.cols = (i : Int) % g.cols := Int.tmod_eq_emod_of_nonneg i0
  have e2 : (i : Int).tdiv g.cols = (i : Int) / g.cols := Int.tdiv_eq_ediv_of_nonneg i0
  have m0 := Int.emod_nonneg (i : Int) (show g.cols ≠ 0 by omega)
  have m1 := Int.emod_lt_of_pos (i : Int) (show 0 < g.cols by omega)
  have d0 := Int.ediv_nonneg i0 (show 0 ≤ g.cols by omega)
  have d1 : (i : Int) / g.cols < g.rows := by
    apply Int.ediv_lt_of_lt_mul (by omega)
    rw [Int.mul_comm g.rows, ← hl]; omega
  have p1 : (i : Int) % g.cols * g.side ≤ g.cols * g.side := Int.mul_le_mul_of_nonneg_right (by omega) (by omega)
  have p0 : 0 ≤ (i : Int) % g.cols * g.side := Int.mul_nonneg m0 (by omega)
  have p2 : (i : Int) / g.cols * g.side ≤ g.rows * g.side := Int.mul_le_mul_of_nonneg_right (by omega) (by omega)
  have p3 : 0 ≤ (i : Int) / g.cols * g.side := Int.mul_nonneg d0 (by omega)
  have dm := Int.emod_add_mul_ediv (i : Int) g.cols
  rw [Int.mul_comm] at dm
  refine ⟨?_, ?_, ?_, ?_, ?_, ?_, ?_⟩ <;> simp only [xi, yi, e1, e2] <;> omega
theorem cornerG_eq {g : Grid} (gv : GVal g) {i : Nat} (hi : i < g.levels.length) : cornerG g i = ⟨g.x + xi g i * g.side, g.y + yi g i * g.side⟩ := by
  obtain ⟨cx, cy, _, px, py, mx, my⟩ := CellOK.of gv hi
  have hx := gv.x
  have hy := gv.y
  have hc := gv.cols
  have hr := gv.rows
  unfold cornerG
  rw [show (i : Int).tmod g.cols = xi g i from rfl, show (i : Int).tdiv g.cols = yi g i from rfl]
  rw [w64_of (n := yi g i) (by omega) (by omega), w64_of (n := xi g i * g.side) (by omega) (by omega), w64_of (n := yi g i * g.side) (by omega) (by omega), w64_of (by omega) (by omega), w64_of (by omega) (by omega)]
def cornD : Nat → DV
  | 0 => dI 0
  | 1 => dI 0
  | 2 => dI 1
  | 3 => dI 0
  | 4 => dI 1
  | 5 => dI 1
  | 6 => dI 0
  | 7 => dI 1
  | _ => .junk
theorem gCorner (g : Grid) (gv : GVal g) (i : Nat) (hi : i < g.levels.length) (k : Nat) (hk : k ≤ 4) (f h t : Nat → DV) (hf : ∀ j, j < 6 → f j = gridD g j) (hh : h 0 = dI i) (ht : ∀ j, j < 8 → t j = cornD j) :
    CallP Try.prog 110 [vI k, .s (.d (.rp 6 f)), .s (.d (.rp 1 h)), .s (.d (.rp 8 t))] (pt (cornP g (xi g i) (yi g i) k)) := by
  have h1 : LeAs [vI k, .s (.d (.rp 6 f)), .s (.d (.rp 1 h)), .s (.d (.rp 8 t))] [vI k, .s (.d (.rp 6 (gridD g))), .s (.d (.rp 1 fun _ => dI i)), .s (.d (.rp 8 cornD))] :=
    ⟨LeD.refl _, LeD.rp fun j hj => LeD.of_eq (hf j hj), LeD.rp fun j hj => LeD.of_eq (by rw [show j = 0 by omega]; exact hh), LeD.rp fun j hj => LeD.of_eq (ht j hj), trivial⟩
  refine CallP.conv ?_ h1
  have hc := gv.cols
  have hs := gv.side
  obtain ⟨cx, cy, _, px, py, mx, my⟩ := CellOK.of gv hi
  have hcg := cornerG_eq gv hi
  have z0 : w64 (0 * g.side) = 0 := by rw [Int.zero_mul]; exact w64_of (by decide) (by decide)
  have z1 : w64 (1 * g.side) = g.side := by rw [Int.one_mul]; exact w64_of (by omega) (by omega)
  have e0 : ∀ a : Int, (a + 0) * g.side = a * g.side := fun a => by rw [Int.add_zero]
  have e1 : ∀ a : Int, (a + 1) * g.side = a * g.side + g.side := fun a => by rw [Int.add_mul, Int.one_mul]
  refine callP_of_ex (rc := []) (N := 33) Try.func110 rfl rfl Try.call110 tab_ok mix rfl rfl (fun cx href => ?_)
  refine callN (bcorner g i (by omega)) ?_
  rw [hcg]
  have fin : ∀ (k : Nat) (a b : Int), a = dxk k → b = dyk k → (a = 0 ∨ a = 1) → (b = 0 ∨ b = 1) →
      pt ⟨w64 (g.x + xi g i * g.side + w64 (a * g.side)), w64 (g.y + yi g i * g.side + w64 (b * g.side))⟩ = pt (cornP g (xi g i) (yi g i) k) := by
    intro k a b ha hb ha' hb'
    unfold cornP
    rw [← ha, ← hb]
    rcases ha' with rfl | rfl <;> rcases hb' with rfl | rfl <;> simp only [z0, z1, e0, e1] <;> rw [w64_of (by omega) (by omega), w64_of (by omega) (by omega)] <;> simp only [Int.add_zero, Int.add_assoc]
  match k, hk with
  | 0, _ =>
    refine oi (by decide) ?_
    refine oi ⟨by decide, by decide⟩ ?_
    refine oi ⟨by decide, by decide⟩ ?_
    refine oi (by decide) ?_
    refine oi ⟨by decide, by decide⟩ ?_
    refine oi ⟨by decide, by decide⟩ ?_
    refine And.intro (by kernel_rfl) ?_
    exact SubR.of_eq (fin 0 0 0 rfl rfl (.inl rfl) (.inl rfl))
  | 1, _ =>
    refine oi (by decide) ?_
    refine oi ⟨by decide, by decide⟩ ?_
    refine oi ⟨by decide, by decide⟩ ?_
    refine oi (by decide) ?_
    refine oi ⟨by decide, by decide⟩ ?_
    refine oi ⟨by decide, by decide⟩ ?_
    refine And.intro (by kernel_rfl) ?_
    exact SubR.of_eq (fin 1 1 0 rfl rfl (.inr rfl) (.inl rfl))
  | 2, _ =>
    refine oi (by decide) ?_
    refine oi ⟨by decide, by decide⟩ ?_
    refine oi ⟨by decide, by decide⟩ ?_
    refine oi (by decide) ?_
    refine oi ⟨by decide, by decide⟩ ?_
    refine oi ⟨by decide, by decide⟩ ?_
    refine And.intro (by kernel_rfl) ?_
    exact SubR.of_eq (fin 2 1 1 rfl rfl (.inr rfl) (.inr rfl))
  | 3, _ =>
    refine oi (by decide) ?_
    refine oi ⟨by decide, by decide⟩ ?_
    refine oi ⟨by decide, by decide⟩ ?_
    refine oi (by decide) ?_
    refine oi ⟨by decide, by decide⟩ ?_
    refine oi ⟨by decide, by decide⟩ ?_
    refine And.intro (by kernel_rfl) ?_
    exact SubR.of_eq (fin 3 0 1 rfl rfl (.inl rfl) (.inr rfl))
  | 4, _ =>
    refine oi (by decide) ?_
    refine oi ⟨by decide, by decide⟩ ?_
    refine oi ⟨by decide, by decide⟩ ?_
    refine oi (by decide) ?_
    refine oi ⟨by decide, by decide⟩ ?_
    refine oi ⟨by decide, by decide⟩ ?_
    refine And.intro (by kernel_rfl) ?_
    exact SubR.of_eq (fin 4 0 0 rfl rfl (.inl rfl) (.inl rfl))
end Go.Ch

namespace Go.Ch
open Go Go.Ax Go.Proofs Go.Proofs.Try
set_option maxRecDepth 100000
set_option pp.maxSteps 400
set_option maxHeartbeats 2000000

/-- A side of a contour, the contour. -/
structure Sd where
  a : Pt
  b : Pt
instance : Inhabited Sd := ⟨⟨default, default⟩⟩
def sideD (s : Sd) : Nat → DV
  | 0 => dI s.a.x
  | 1 => dI s.a.y
  | 2 => dI s.b.x
  | 3 => dI s.b.y
  | _ => .junk
def sideEl (l : List Sd) : Nat → Nat → DV := fun i => sideD (l.getD i default)
def dSides (l : List Sd) : DV := .slc l.length 4 (sideEl l)
abbrev vSides (l : List Sd) : AV := .s (.d (dSides l))
abbrev sideR (l : List Sd) : Box := .mrow 92 l.length 4 (sideEl l)
def nbx : Nat → Int
  | 1 => 1
  | 3 => -1
  | _ => 0
def nby : Nat → Int
  | 0 => -1
  | 2 => 1
  | _ => 0
def sideC (g : Grid) (x y : Int) (k : Nat) : Sd := ⟨cornP g x y k, cornP g x y (k + 1)⟩
def contK (g : Grid) (lv x y : Int) (l : List Sd) : Nat → List Sd
  | 0 => l
  | k + 1 => bif !highB g lv (x + nbx k) (y + nby k) then contK g lv x y l k ++ [sideC g x y k] else contK g lv x y l k
theorem contK_succ {g : Grid} {lv x y : Int} {l : List Sd} (k : Nat) : contK g lv x y l (k + 1) = bif !highB g lv (x + nbx k) (y + nby k) then contK g lv x y l k ++ [sideC g x y k] else contK g lv x y l k := rfl
def contL (g : Grid) (lv : Int) : Nat → List Sd
  | 0 => []
  | i + 1 => bif highB g lv (xi g i) (yi g i) then contK g lv (xi g i) (yi g i) (contL g lv i) 4 else contL g lv i
theorem contK_len {g : Grid} {lv x y : Int} {l : List Sd} : ∀ k, (contK g lv x y l k).length ≤ l.length + k
  | 0 => Nat.le_refl _
  | k + 1 => by
    have := contK_len (g := g) (lv := lv) (x := x) (y := y) (l := l) k
    rw [contK]
    cases highB g lv (x + nbx k) (y + nby k) <;> simp <;> omega
theorem contL_len {g : Grid} {lv : Int} : ∀ i, (contL g lv i).length ≤ 4 * i
  | 0 => Nat.le_refl _
  | i + 1 => by
    have h1 := contL_len (g := g) (lv := lv) i
    have h2 := contK_len (g := g) (lv := lv) (x := xi g i) (y := yi g i) (l := contL g lv i) 4
    rw [contL]
    cases highB g lv (xi g i) (yi g i) <;> simp <;> omega
def contE (g : Grid) (lv : Int) : List Sd × Int := bif errG g != 0 then ([], errG g) else bif !within lv (-20000) 20000 then ([], 2) else (contL g lv g.levels.length, 0)
theorem lt6 {p : Nat → Prop} (h0 : p 0) (h1 : p 1) (h2 : p 2) (h3 : p 3) (h4 : p 4) (h5 : p 5) : ∀ j, j < 6 → p j := fun j hj => by
  match j, hj with
  | 0, _ => exact h0
  | 1, _ => exact h1
  | 2, _ => exact h2
  | 3, _ => exact h3
  | 4, _ => exact h4
  | 5, _ => exact h5
theorem lt8 {p : Nat → Prop} (h0 : p 0) (h1 : p 1) (h2 : p 2) (h3 : p 3) (h4 : p 4) (h5 : p 5) (h6 : p 6) (h7 : p 7) : ∀ j, j < 8 → p j := fun j hj => by
  match j, hj with
  | 0, _ => exact h0
  | 1, _ => exact h1
  | 2, _ => exact h2
  | 3, _ => exact h3
  | 4, _ => exact h4
  | 5, _ => exact h5
  | 6, _ => exact h6
  | 7, _ => exact h7
theorem sideRow {l : List Sd} : RowIs 4 (bif l.isEmpty then 0 else l.length) (sideEl l) sideD l := ⟨bif_len l, fun _ _ _ _ => rfl⟩
abbrev dirC : List SV := [.d (dI 0), .d (dI (-1)), .d (dI 1), .d (dI 0), .d (dI 0), .d (dI 1), .d (dI (-1)), .d (dI 0)]
abbrev corC : List SV := [.d (dI 0), .d (dI 0), .d (dI 1), .d (dI 0), .d (dI 1), .d (dI 1), .d (dI 0), .d (dI 1)]

attribute [local irreducible] errG in
theorem gContour (g : Grid) (lv : Int) (hg : g.ok) : CallP Try.prog 60 [grid g, vI lv] (.t [.s (.d (dSides (contE g lv).1)), .s (.d (dI (contE g lv).2))]) := by
  refine callP_of_ex (rc := []) (N := 86) Try.func60 rfl rfl Try.call60 tab_ok mix rfl rfl (fun cx href => ?_)
  refine callN (bcheck g hg.levels) ?_
  unfold contE
  refine And.intro (fun h => ?_) (fun h => ?_)
  · have h : (errG g != 0) = true := h
    rw [h, cond_true]
    exact SubR.t ⟨LeD.nil, LeD.refl _, trivial⟩
  have h : (errG g != 0) = false := h
  rw [h, cond_false]
  have gv := GVal.of (show errG g = 0 by simpa using h)
  have hn := gv.n
  have hcol := gv.cols
  have hrow := gv.rows
  refine callN (isLevel lv) ?_
  refine And.intro (fun h2 => ?_) (fun h2 => ?_)
  · have h2 : (!within lv (-20000) 20000) = true := h2
    rw [h2, cond_true]
    exact SubR.t ⟨LeD.nil, LeD.refl _, trivial⟩
  have h2 : (!within lv (-20000) 20000) = false := h2
  rw [h2, cond_false]
  refine AW.loopI (fun i : Nat => ⟨[(2, .s (.ptr 2 0)), (7, .s (.clo 109 [.ptr 2 0, .ptr 3 0])), (8, .s (.ptr 8 0)), (9, .s (.ptr 9 0)), (10, .s (.mo (contL g lv i).isEmpty 100)), (38, vI g.levels.length), (39, vI i)],
      [(2, some (gridB g)), (3, some (.cells [.d (dI lv)])), (8, some (.cells dirC)), (9, some (.cells corC)), (100, some (sideR (contL g lv i)))]⟩)
    (fun i => i ≤ g.levels.length) (fun i => g.levels.length - i) 0 (Nat.zero_le _) ?_ ?_
  · exact SubI.of0 href [(100, 1000)] rfl ⟨⟨rfl, LeBx.rfl⟩, ⟨rfl, LeBx.rfl⟩, ⟨rfl, LeBx.rfl⟩, ⟨rfl, LeBx.rfl⟩, ⟨rfl, rfl⟩, trivial⟩ ⟨⟨rfl, LeQ.rfl⟩, ⟨rfl, LeQ.rfl⟩, ⟨rfl, LeQ.rfl⟩, ⟨rfl, LeQ.rfl⟩, ⟨rfl, LeQ.nil rfl⟩, ⟨rfl, LeQ.rfl⟩, ⟨rfl, LeQ.rfl⟩, trivial⟩
  · intro i hi
    have hlen := contL_len (g := g) (lv := lv) i
    refine ex.sound (rc := []) tab_ok mix href _ ?_
    refine And.intro (fun h => ?_) (fun h => ?_)
    · have h : (i : Int) < g.levels.length := decT h
      have hi' : i < g.levels.length := by omega
      obtain ⟨cx1, cy1, _, px, py, mx, my⟩ := CellOK.of gv hi'
      have hw : w64 (yi g i) = yi g i := w64_of (by omega) (by omega)
      refine oi (by omega) ?_
      refine oi (by omega) ?_
      refine And.intro (by kernel_rfl) ?_
      refine callN (gHigh g gv (xi g i) (w64 (yi g i)) lv _ _ (lt6 rfl rfl rfl rfl rfl rfl) rfl) ?_
      rw [hw]
      refine And.intro (fun h2 => ?_) (fun h2 => ?_)
      · have h2 : (!highB g lv (xi g i) (yi g i)) = true := h2
        have e : contL g lv (i + 1) = contL g lv i := by rw [contL, show highB g lv (xi g i) (yi g i) = false by simpa using h2]; rfl
        refine ⟨i + 1, by omega, by omega, ?_⟩
        exact SubI.of0 href [] rfl ⟨⟨rfl, LeBx.rfl⟩, ⟨rfl, LeBx.rfl⟩, ⟨rfl, LeBx.rfl⟩, ⟨rfl, LeBx.rfl⟩, ⟨rfl, LeBx.of_eq (by rw [e]; rfl)⟩, trivial⟩ ⟨⟨rfl, LeQ.rfl⟩, ⟨rfl, LeQ.rfl⟩, ⟨rfl, LeQ.rfl⟩, ⟨rfl, LeQ.rfl⟩, ⟨rfl, LeQ.of_eq (by rw [e]; rfl)⟩, ⟨rfl, LeQ.rfl⟩, ⟨rfl, LeQ.int (w64_of (by omega) (by omega))⟩, trivial⟩
      have h2 : (!highB g lv (xi g i) (yi g i)) = false := h2
      have e : contL g lv (i + 1) = contK g lv (xi g i) (yi g i) (contL g lv i) 4 := by rw [contL, show highB g lv (xi g i) (yi g i) = true by simpa using h2]; rfl
      refine AW.loopI (fun k : Nat => ⟨[(2, .s (.ptr 2 0)), (7, .s (.clo 109 [.ptr 2 0, .ptr 3 0])), (8, .s (.ptr 8 0)), (9, .s (.ptr 9 0)), (10, .s (.mo (contK g lv (xi g i) (yi g i) (contL g lv i) k).isEmpty 100)), (12, vI (xi g i)), (13, vI (yi g i)), (14, .s (.clo 110 [.ptr 2 0, .ptr 11 0, .ptr 9 0])), (38, vI g.levels.length), (39, vI i), (56, .g dirC), (57, vI k)],
          [(2, some (gridB g)), (3, some (.cells [.d (dI lv)])), (8, some (.cells dirC)), (9, some (.cells corC)), (11, some (.cells [.d (dI i)])), (100, some (sideR (contK g lv (xi g i) (yi g i) (contL g lv i) k)))]⟩)
        (fun k => k ≤ 4) (fun k => 4 - k) 0 (Nat.zero_le _) ?_ ?_
      · exact SubI.of0 href [] rfl ⟨⟨rfl, LeBx.rfl⟩, ⟨rfl, LeBx.rfl⟩, ⟨rfl, LeBx.rfl⟩, ⟨rfl, LeBx.rfl⟩, ⟨rfl, LeBx.rfl⟩, ⟨rfl, LeBx.rfl⟩, trivial⟩ ⟨⟨rfl, LeQ.rfl⟩, ⟨rfl, LeQ.rfl⟩, ⟨rfl, LeQ.rfl⟩, ⟨rfl, LeQ.rfl⟩, ⟨rfl, LeQ.rfl⟩, ⟨rfl, LeQ.rfl⟩, ⟨rfl, LeQ.int hw⟩, ⟨rfl, LeQ.rfl⟩, ⟨rfl, LeQ.rfl⟩, ⟨rfl, LeQ.rfl⟩, ⟨rfl, LeQ.rfl⟩, ⟨rfl, LeQ.rfl⟩, trivial⟩
      · intro k hk
        have hlk := contK_len (g := g) (lv := lv) (x := xi g i) (y := yi g i) (l := contL g lv i) k
        refine ex.sound (rc := []) tab_ok mix href _ ?_
        refine And.intro (fun h => ?_) (fun h => ?_)
        · have h : (k : Int) < 4 := decT h
          have hk4 : k < 4 := by omega
          match k, hk4 with
          | 0, _ =>
            refine oi ⟨by decide, by decide⟩ ?_
            refine oi ⟨by decide, by decide⟩ ?_
            refine oi ⟨by decide, by decide⟩ ?_
            refine callN (gHigh g gv (w64 (xi g i + (0))) (w64 (yi g i + (-1))) lv _ _ (lt6 rfl rfl rfl rfl rfl rfl) rfl) ?_
            rw [w64_of (n := xi g i + (0)) (by omega) (by omega), w64_of (n := yi g i + (-1)) (by omega) (by omega)]
            refine And.intro (fun h3 => ?_) (fun h3 => ?_)
            · have h3 : (!highB g lv (xi g i + nbx 0) (yi g i + nby 0)) = true := h3
              have e2 : contK g lv (xi g i) (yi g i) (contL g lv i) (0 + 1) = contK g lv (xi g i) (yi g i) (contL g lv i) 0 ++ [sideC g (xi g i) (yi g i) 0] := (contK_succ 0).trans (by rw [h3]; rfl)
              refine callN (gCorner g gv i hi' 0 (by decide) _ _ _ (lt6 rfl rfl rfl rfl rfl rfl) rfl (lt8 rfl rfl rfl rfl rfl rfl rfl rfl)) ?_
              refine callN (gCorner g gv i hi' 1 (by decide) _ _ _ (lt6 rfl rfl rfl rfl rfl rfl) rfl (lt8 rfl rfl rfl rfl rfl rfl rfl rfl)) ?_
              refine ob (by decide) ?_
              refine ob (by rw [bif_len]; show _ * 32 ≤ _; omega) ?_
              refine ob (fit1 (lt4 rfl rfl rfl rfl)) ?_
              refine ⟨0 + 1, by omega, by omega, ?_⟩
              rw [e2]
              refine SubI.of0 href [(100, 82)] rfl ⟨⟨rfl, LeBx.rfl⟩, ⟨rfl, LeBx.rfl⟩, ⟨rfl, LeBx.rfl⟩, ⟨rfl, LeBx.rfl⟩, ⟨rfl, LeBx.rfl⟩, ⟨rfl, ?_⟩, trivial⟩ ⟨⟨rfl, LeQ.rfl⟩, ⟨rfl, LeQ.rfl⟩, ⟨rfl, LeQ.rfl⟩, ⟨rfl, LeQ.rfl⟩, ⟨rfl, LeQ.mo (isEmpty_snoc _ _)⟩, ⟨rfl, LeQ.rfl⟩, ⟨rfl, LeQ.rfl⟩, ⟨rfl, LeQ.rfl⟩, ⟨rfl, LeQ.rfl⟩, ⟨rfl, LeQ.rfl⟩, ⟨rfl, LeQ.rfl⟩, ⟨rfl, LeQ.rfl⟩, trivial⟩
              exact RowIs.mrow (el := sideD) (RowIs.snoc sideRow (lt4 rfl rfl rfl rfl))
            · have h3 : (!highB g lv (xi g i + nbx 0) (yi g i + nby 0)) = false := h3
              have e2 : contK g lv (xi g i) (yi g i) (contL g lv i) (0 + 1) = contK g lv (xi g i) (yi g i) (contL g lv i) 0 := (contK_succ 0).trans (by rw [h3]; rfl)
              refine ⟨0 + 1, by omega, by omega, ?_⟩
              rw [e2]
              exact SubI.of0 href [] rfl ⟨⟨rfl, LeBx.rfl⟩, ⟨rfl, LeBx.rfl⟩, ⟨rfl, LeBx.rfl⟩, ⟨rfl, LeBx.rfl⟩, ⟨rfl, LeBx.rfl⟩, ⟨rfl, LeBx.rfl⟩, trivial⟩ ⟨⟨rfl, LeQ.rfl⟩, ⟨rfl, LeQ.rfl⟩, ⟨rfl, LeQ.rfl⟩, ⟨rfl, LeQ.rfl⟩, ⟨rfl, LeQ.rfl⟩, ⟨rfl, LeQ.rfl⟩, ⟨rfl, LeQ.rfl⟩, ⟨rfl, LeQ.rfl⟩, ⟨rfl, LeQ.rfl⟩, ⟨rfl, LeQ.rfl⟩, ⟨rfl, LeQ.rfl⟩, ⟨rfl, LeQ.rfl⟩, trivial⟩
          | 1, _ =>
            refine oi ⟨by decide, by decide⟩ ?_
            refine oi ⟨by decide, by decide⟩ ?_
            refine oi ⟨by decide, by decide⟩ ?_
            refine callN (gHigh g gv (w64 (xi g i + (1))) (w64 (yi g i + (0))) lv _ _ (lt6 rfl rfl rfl rfl rfl rfl) rfl) ?_
            rw [w64_of (n := xi g i + (1)) (by omega) (by omega), w64_of (n := yi g i + (0)) (by omega) (by omega)]
            refine And.intro (fun h3 => ?_) (fun h3 => ?_)
            · have h3 : (!highB g lv (xi g i + nbx 1) (yi g i + nby 1)) = true := h3
              have e2 : contK g lv (xi g i) (yi g i) (contL g lv i) (1 + 1) = contK g lv (xi g i) (yi g i) (contL g lv i) 1 ++ [sideC g (xi g i) (yi g i) 1] := (contK_succ 1).trans (by rw [h3]; rfl)
              refine callN (gCorner g gv i hi' 1 (by decide) _ _ _ (lt6 rfl rfl rfl rfl rfl rfl) rfl (lt8 rfl rfl rfl rfl rfl rfl rfl rfl)) ?_
              refine callN (gCorner g gv i hi' 2 (by decide) _ _ _ (lt6 rfl rfl rfl rfl rfl rfl) rfl (lt8 rfl rfl rfl rfl rfl rfl rfl rfl)) ?_
              refine ob (by decide) ?_
              refine ob (by rw [bif_len]; show _ * 32 ≤ _; omega) ?_
              refine ob (fit1 (lt4 rfl rfl rfl rfl)) ?_
              refine ⟨1 + 1, by omega, by omega, ?_⟩
              rw [e2]
              refine SubI.of0 href [(100, 82)] rfl ⟨⟨rfl, LeBx.rfl⟩, ⟨rfl, LeBx.rfl⟩, ⟨rfl, LeBx.rfl⟩, ⟨rfl, LeBx.rfl⟩, ⟨rfl, LeBx.rfl⟩, ⟨rfl, ?_⟩, trivial⟩ ⟨⟨rfl, LeQ.rfl⟩, ⟨rfl, LeQ.rfl⟩, ⟨rfl, LeQ.rfl⟩, ⟨rfl, LeQ.rfl⟩, ⟨rfl, LeQ.mo (isEmpty_snoc _ _)⟩, ⟨rfl, LeQ.rfl⟩, ⟨rfl, LeQ.rfl⟩, ⟨rfl, LeQ.rfl⟩, ⟨rfl, LeQ.rfl⟩, ⟨rfl, LeQ.rfl⟩, ⟨rfl, LeQ.rfl⟩, ⟨rfl, LeQ.rfl⟩, trivial⟩
              exact RowIs.mrow (el := sideD) (RowIs.snoc sideRow (lt4 rfl rfl rfl rfl))
            · have h3 : (!highB g lv (xi g i + nbx 1) (yi g i + nby 1)) = false := h3
              have e2 : contK g lv (xi g i) (yi g i) (contL g lv i) (1 + 1) = contK g lv (xi g i) (yi g i) (contL g lv i) 1 := (contK_succ 1).trans (by rw [h3]; rfl)
              refine ⟨1 + 1, by omega, by omega, ?_⟩
              rw [e2]
              exact SubI.of0 href [] rfl ⟨⟨rfl, LeBx.rfl⟩, ⟨rfl, LeBx.rfl⟩, ⟨rfl, LeBx.rfl⟩, ⟨rfl, LeBx.rfl⟩, ⟨rfl, LeBx.rfl⟩, ⟨rfl, LeBx.rfl⟩, trivial⟩ ⟨⟨rfl, LeQ.rfl⟩, ⟨rfl, LeQ.rfl⟩, ⟨rfl, LeQ.rfl⟩, ⟨rfl, LeQ.rfl⟩, ⟨rfl, LeQ.rfl⟩, ⟨rfl, LeQ.rfl⟩, ⟨rfl, LeQ.rfl⟩, ⟨rfl, LeQ.rfl⟩, ⟨rfl, LeQ.rfl⟩, ⟨rfl, LeQ.rfl⟩, ⟨rfl, LeQ.rfl⟩, ⟨rfl, LeQ.rfl⟩, trivial⟩
          | 2, _ =>
            refine oi ⟨by decide, by decide⟩ ?_
            refine oi ⟨by decide, by decide⟩ ?_
            refine oi ⟨by decide, by decide⟩ ?_
            refine callN (gHigh g gv (w64 (xi g i + (0))) (w64 (yi g i + (1))) lv _ _ (lt6 rfl rfl rfl rfl rfl rfl) rfl) ?_
            rw [w64_of (n := xi g i + (0)) (by omega) (by omega), w64_of (n := yi g i + (1)) (by omega) (by omega)]
            refine And.intro (fun h3 => ?_) (fun h3 => ?_)
            · have h3 : (!highB g lv (xi g i + nbx 2) (yi g i + nby 2)) = true := h3
              have e2 : contK g lv (xi g i) (yi g i) (contL g lv i) (2 + 1) = contK g lv (xi g i) (yi g i) (contL g lv i) 2 ++ [sideC g (xi g i) (yi g i) 2] := (contK_succ 2).trans (by rw [h3]; rfl)
              refine callN (gCorner g gv i hi' 2 (by decide) _ _ _ (lt6 rfl rfl rfl rfl rfl rfl) rfl (lt8 rfl rfl rfl rfl rfl rfl rfl rfl)) ?_
              refine callN (gCorner g gv i hi' 3 (by decide) _ _ _ (lt6 rfl rfl rfl rfl rfl rfl) rfl (lt8 rfl rfl rfl rfl rfl rfl rfl rfl)) ?_
              refine ob (by decide) ?_
              refine ob (by rw [bif_len]; show _ * 32 ≤ _; omega) ?_
              refine ob (fit1 (lt4 rfl rfl rfl rfl)) ?_
              refine ⟨2 + 1, by omega, by omega, ?_⟩
              rw [e2]
              refine SubI.of0 href [(100, 82)] rfl ⟨⟨rfl, LeBx.rfl⟩, ⟨rfl, LeBx.rfl⟩, ⟨rfl, LeBx.rfl⟩, ⟨rfl, LeBx.rfl⟩, ⟨rfl, LeBx.rfl⟩, ⟨rfl, ?_⟩, trivial⟩ ⟨⟨rfl, LeQ.rfl⟩, ⟨rfl, LeQ.rfl⟩, ⟨rfl, LeQ.rfl⟩, ⟨rfl, LeQ.rfl⟩, ⟨rfl, LeQ.mo (isEmpty_snoc _ _)⟩, ⟨rfl, LeQ.rfl⟩, ⟨rfl, LeQ.rfl⟩, ⟨rfl, LeQ.rfl⟩, ⟨rfl, LeQ.rfl⟩, ⟨rfl, LeQ.rfl⟩, ⟨rfl, LeQ.rfl⟩, ⟨rfl, LeQ.rfl⟩, trivial⟩
              exact RowIs.mrow (el := sideD) (RowIs.snoc sideRow (lt4 rfl rfl rfl rfl))
            · have h3 : (!highB g lv (xi g i + nbx 2) (yi g i + nby 2)) = false := h3
              have e2 : contK g lv (xi g i) (yi g i) (contL g lv i) (2 + 1) = contK g lv (xi g i) (yi g i) (contL g lv i) 2 := (contK_succ 2).trans (by rw [h3]; rfl)
              refine ⟨2 + 1, by omega, by omega, ?_⟩
              rw [e2]
              exact SubI.of0 href [] rfl ⟨⟨rfl, LeBx.rfl⟩, ⟨rfl, LeBx.rfl⟩, ⟨rfl, LeBx.rfl⟩, ⟨rfl, LeBx.rfl⟩, ⟨rfl, LeBx.rfl⟩, ⟨rfl, LeBx.rfl⟩, trivial⟩ ⟨⟨rfl, LeQ.rfl⟩, ⟨rfl, LeQ.rfl⟩, ⟨rfl, LeQ.rfl⟩, ⟨rfl, LeQ.rfl⟩, ⟨rfl, LeQ.rfl⟩, ⟨rfl, LeQ.rfl⟩, ⟨rfl, LeQ.rfl⟩, ⟨rfl, LeQ.rfl⟩, ⟨rfl, LeQ.rfl⟩, ⟨rfl, LeQ.rfl⟩, ⟨rfl, LeQ.rfl⟩, ⟨rfl, LeQ.rfl⟩, trivial⟩
          | 3, _ =>
            refine oi ⟨by decide, by decide⟩ ?_
            refine oi ⟨by decide, by decide⟩ ?_
            refine oi ⟨by decide, by decide⟩ ?_
            refine callN (gHigh g gv (w64 (xi g i + (-1))) (w64 (yi g i + (0))) lv _ _ (lt6 rfl rfl rfl rfl rfl rfl) rfl) ?_
            rw [w64_of (n := xi g i + (-1)) (by omega) (by omega), w64_of (n := yi g i + (0)) (by omega) (by omega)]
            refine And.intro (fun h3 => ?_) (fun h3 => ?_)
            · have h3 : (!highB g lv (xi g i + nbx 3) (yi g i + nby 3)) = true := h3
              have e2 : contK g lv (xi g i) (yi g i) (contL g lv i) (3 + 1) = contK g lv (xi g i) (yi g i) (contL g lv i) 3 ++ [sideC g (xi g i) (yi g i) 3] := (contK_succ 3).trans (by rw [h3]; rfl)
              refine callN (gCorner g gv i hi' 3 (by decide) _ _ _ (lt6 rfl rfl rfl rfl rfl rfl) rfl (lt8 rfl rfl rfl rfl rfl rfl rfl rfl)) ?_
              refine callN (gCorner g gv i hi' 4 (by decide) _ _ _ (lt6 rfl rfl rfl rfl rfl rfl) rfl (lt8 rfl rfl rfl rfl rfl rfl rfl rfl)) ?_
              refine ob (by decide) ?_
              refine ob (by rw [bif_len]; show _ * 32 ≤ _; omega) ?_
              refine ob (fit1 (lt4 rfl rfl rfl rfl)) ?_
              refine ⟨3 + 1, by omega, by omega, ?_⟩
              rw [e2]
              refine SubI.of0 href [(100, 82)] rfl ⟨⟨rfl, LeBx.rfl⟩, ⟨rfl, LeBx.rfl⟩, ⟨rfl, LeBx.rfl⟩, ⟨rfl, LeBx.rfl⟩, ⟨rfl, LeBx.rfl⟩, ⟨rfl, ?_⟩, trivial⟩ ⟨⟨rfl, LeQ.rfl⟩, ⟨rfl, LeQ.rfl⟩, ⟨rfl, LeQ.rfl⟩, ⟨rfl, LeQ.rfl⟩, ⟨rfl, LeQ.mo (isEmpty_snoc _ _)⟩, ⟨rfl, LeQ.rfl⟩, ⟨rfl, LeQ.rfl⟩, ⟨rfl, LeQ.rfl⟩, ⟨rfl, LeQ.rfl⟩, ⟨rfl, LeQ.rfl⟩, ⟨rfl, LeQ.rfl⟩, ⟨rfl, LeQ.rfl⟩, trivial⟩
              exact RowIs.mrow (el := sideD) (RowIs.snoc sideRow (lt4 rfl rfl rfl rfl))
            · have h3 : (!highB g lv (xi g i + nbx 3) (yi g i + nby 3)) = false := h3
              have e2 : contK g lv (xi g i) (yi g i) (contL g lv i) (3 + 1) = contK g lv (xi g i) (yi g i) (contL g lv i) 3 := (contK_succ 3).trans (by rw [h3]; rfl)
              refine ⟨3 + 1, by omega, by omega, ?_⟩
              rw [e2]
              exact SubI.of0 href [] rfl ⟨⟨rfl, LeBx.rfl⟩, ⟨rfl, LeBx.rfl⟩, ⟨rfl, LeBx.rfl⟩, ⟨rfl, LeBx.rfl⟩, ⟨rfl, LeBx.rfl⟩, ⟨rfl, LeBx.rfl⟩, trivial⟩ ⟨⟨rfl, LeQ.rfl⟩, ⟨rfl, LeQ.rfl⟩, ⟨rfl, LeQ.rfl⟩, ⟨rfl, LeQ.rfl⟩, ⟨rfl, LeQ.rfl⟩, ⟨rfl, LeQ.rfl⟩, ⟨rfl, LeQ.rfl⟩, ⟨rfl, LeQ.rfl⟩, ⟨rfl, LeQ.rfl⟩, ⟨rfl, LeQ.rfl⟩, ⟨rfl, LeQ.rfl⟩, ⟨rfl, LeQ.rfl⟩, trivial⟩
        · have h : ¬ (k : Int) < 4 := decF h
          obtain rfl : k = 4 := by omega
          refine ⟨i + 1, by omega, by omega, ?_⟩
          rw [e]
          exact SubI.of0 href [] rfl ⟨⟨rfl, LeBx.rfl⟩, ⟨rfl, LeBx.rfl⟩, ⟨rfl, LeBx.rfl⟩, ⟨rfl, LeBx.rfl⟩, ⟨rfl, LeBx.rfl⟩, trivial⟩ ⟨⟨rfl, LeQ.rfl⟩, ⟨rfl, LeQ.rfl⟩, ⟨rfl, LeQ.rfl⟩, ⟨rfl, LeQ.rfl⟩, ⟨rfl, LeQ.rfl⟩, ⟨rfl, LeQ.rfl⟩, ⟨rfl, LeQ.int (w64_of (by omega) (by omega))⟩, trivial⟩
    · have h : ¬ (i : Int) < g.levels.length := decF h
      obtain rfl : i = g.levels.length := by omega
      exact SubR.t ⟨LeD.slc' (bif_len _) fun _ _ _ _ => LeD.refl _, LeD.refl _, trivial⟩
end Go.Ch

namespace Go.Ch
open Go Go.Ax Go.Proofs Go.Proofs.Try
set_option maxRecDepth 100000
set_option pp.maxSteps 400
set_option maxHeartbeats 2000000

def nbD (x y : Int) (k : Nat) : Nat → DV
  | 0 => dI (x + nbx k)
  | 1 => dI (y + nby k)
  | _ => .junk
theorem rContour (g : Grid) (lv : Int) (gv : GVal g) : CallP Try.prog 61 [grid g, vI lv] (vSides (contL g lv g.levels.length)) := by
  have hn := gv.n
  have hcol := gv.cols
  have hrow := gv.rows
  have hside := gv.side
  refine callP_of_ex (rc := []) (N := 126) Try.func61 rfl rfl Try.call61 tab_ok mix rfl rfl (fun cx href => ?_)
  refine AW.loopI (fun i : Nat => ⟨[(1, vI lv), (2, .s (.ptr 2 0)), (5, .s (.mo (contL g lv i).isEmpty 100)), (6, vI i)], [(2, some (gridB g)), (100, some (sideR (contL g lv i)))]⟩)
    (fun i => i ≤ g.levels.length) (fun i => g.levels.length - i) 0 (Nat.zero_le _) ?_ ?_
  · exact SubI.of0 href [(100, 1000)] rfl ⟨⟨rfl, LeBx.rfl⟩, ⟨rfl, rfl⟩, trivial⟩ ⟨⟨rfl, LeQ.rfl⟩, ⟨rfl, LeQ.rfl⟩, ⟨rfl, LeQ.nil rfl⟩, ⟨rfl, LeQ.rfl⟩, trivial⟩
  · intro i hi
    have hlen := contL_len (g := g) (lv := lv) i
    refine ex.sound (rc := []) tab_ok mix href _ ?_
    refine And.intro (fun h => ?_) (fun h => ?_)
    · have h : (i : Int) < g.levels.length := decT h
      have hi' : i < g.levels.length := by omega
      obtain ⟨cx1, cy1, _, px, py, mx, my⟩ := CellOK.of gv hi'
      have hw : w64 (yi g i) = yi g i := w64_of (by omega) (by omega)
      refine oi (by omega) ?_
      refine oi (by omega) ?_
      refine And.intro (by kernel_rfl) ?_
      refine callN (rHigh g gv (xi g i) (w64 (yi g i)) lv) ?_
      rw [hw]
      refine And.intro (fun h2 => ?_) (fun h2 => ?_)
      · have h2 : (!highB g lv (xi g i) (yi g i)) = true := h2
        have e : contL g lv (i + 1) = contL g lv i := by rw [contL, show highB g lv (xi g i) (yi g i) = false by simpa using h2]; rfl
        refine ⟨i + 1, by omega, by omega, ?_⟩
        exact SubI.of0 href [] rfl ⟨⟨rfl, LeBx.rfl⟩, ⟨rfl, LeBx.of_eq (by rw [e]; rfl)⟩, trivial⟩ ⟨⟨rfl, LeQ.rfl⟩, ⟨rfl, LeQ.rfl⟩, ⟨rfl, LeQ.of_eq (by rw [e]; rfl)⟩, ⟨rfl, LeQ.int (w64_of (by omega) (by omega))⟩, trivial⟩
      have h2 : (!highB g lv (xi g i) (yi g i)) = false := h2
      have e : contL g lv (i + 1) = contK g lv (xi g i) (yi g i) (contL g lv i) 4 := by rw [contL, show highB g lv (xi g i) (yi g i) = true by simpa using h2]; rfl
      refine And.intro (by kernel_rfl) ?_
      refine AW.loopI (fun k : Nat => ⟨[(1, vI lv), (2, .s (.ptr 2 0)), (5, .s (.mo (contK g lv (xi g i) (yi g i) (contL g lv i) k).isEmpty 100)), (6, vI i), (11, .s (.own 76)), (12, .s (.own 93)), (13, vI k)],
          [(2, some (gridB g)), (76, some (.row 26 5 2 fun k => ptD (cornP g (xi g i) (yi g i) k))), (93, some (.row 146 4 2 (nbD (xi g i) (yi g i)))), (100, some (sideR (contK g lv (xi g i) (yi g i) (contL g lv i) k)))]⟩)
        (fun k => k ≤ 4) (fun k => 4 - k) 0 (Nat.zero_le _) ?_ ?_
      · have hX : w64 (g.x + w64 (xi g i * g.side)) = g.x + xi g i * g.side := by rw [w64_of (n := xi g i * g.side) (by omega) (by omega), w64_of (by omega) (by omega)]
        have hY : w64 (g.y + w64 (yi g i * g.side)) = g.y + yi g i * g.side := by rw [w64_of (n := yi g i * g.side) (by omega) (by omega), w64_of (by omega) (by omega)]
        have hX1 : w64 (w64 (g.x + w64 (xi g i * g.side)) + g.side) = g.x + (xi g i + 1) * g.side := by rw [hX, w64_of (by omega) (by omega), Int.add_mul]; omega
        have hY1 : w64 (w64 (g.y + w64 (yi g i * g.side)) + g.side) = g.y + (yi g i + 1) * g.side := by rw [hY, w64_of (by omega) (by omega), Int.add_mul]; omega
        have hX0 : w64 (g.x + w64 (xi g i * g.side)) = g.x + (xi g i + 0) * g.side := by rw [hX, Int.add_zero]
        have hY0 : w64 (g.y + w64 (w64 (yi g i) * g.side)) = g.y + (yi g i + 0) * g.side := by rw [hw, hY, Int.add_zero]
        have hY1 : w64 (w64 (g.y + w64 (w64 (yi g i) * g.side)) + g.side) = g.y + (yi g i + 1) * g.side := by rw [hw]; exact hY1
        refine SubI.of0 href [] rfl ⟨⟨rfl, LeBx.rfl⟩, ⟨rfl, LeBx.row rfl fun k j hk hj => LeD.of_eq ?_⟩, ⟨rfl, LeBx.row rfl fun k j hk hj => LeD.of_eq ?_⟩, ⟨rfl, LeBx.rfl⟩, trivial⟩ ⟨⟨rfl, LeQ.rfl⟩, ⟨rfl, LeQ.rfl⟩, ⟨rfl, LeQ.rfl⟩, ⟨rfl, LeQ.rfl⟩, ⟨rfl, LeQ.rfl⟩, ⟨rfl, LeQ.rfl⟩, ⟨rfl, LeQ.rfl⟩, trivial⟩
        · match k, j, (show k < 5 from hk), (show j < 2 from hj) with
          | 0, 0, _, _ => exact congrArg dI hX0
          | 0, 1, _, _ => exact congrArg dI hY0
          | 1, 0, _, _ => exact congrArg dI hX1
          | 1, 1, _, _ => exact congrArg dI hY0
          | 2, 0, _, _ => exact congrArg dI hX1
          | 2, 1, _, _ => exact congrArg dI hY1
          | 3, 0, _, _ => exact congrArg dI hX0
          | 3, 1, _, _ => exact congrArg dI hY1
          | 4, 0, _, _ => exact congrArg dI hX0
          | 4, 1, _, _ => exact congrArg dI hY0
        · match k, j, (show k < 4 from hk), (show j < 2 from hj) with
          | 0, 0, _, _ => exact congrArg dI (show xi g i = xi g i + 0 by omega)
          | 0, 1, _, _ => exact congrArg dI (show w64 (w64 (yi g i) - 1) = yi g i + -1 from (by rw [hw, w64_of (by omega) (by omega)]; omega))
          | 1, 0, _, _ => exact congrArg dI (show w64 (xi g i + 1) = xi g i + 1 from w64_of (by omega) (by omega))
          | 1, 1, _, _ => exact congrArg dI (show w64 (yi g i) = yi g i + 0 by rw [hw]; omega)
          | 2, 0, _, _ => exact congrArg dI (show xi g i = xi g i + 0 by omega)
          | 2, 1, _, _ => exact congrArg dI (show w64 (w64 (yi g i) + 1) = yi g i + 1 from (by rw [hw, w64_of (by omega) (by omega)]))
          | 3, 0, _, _ => exact congrArg dI (show w64 (xi g i - 1) = xi g i + -1 from (w64_of (by omega) (by omega)).trans (by omega))
          | 3, 1, _, _ => exact congrArg dI (show w64 (yi g i) = yi g i + 0 by rw [hw]; omega)
      · intro k hk
        have hlk := contK_len (g := g) (lv := lv) (x := xi g i) (y := yi g i) (l := contL g lv i) k
        refine ex.sound (rc := []) tab_ok mix href _ ?_
        refine And.intro (fun h => ?_) (fun h => ?_)
        · have h : (k : Int) < 4 := decT h
          have hk1 : w64 ((k : Int) + 1) = ((k + 1 : Nat) : Int) := w64_of (by omega) (by omega)
          refine oi ⟨by omega, by show (k : Int) < 4; omega⟩ ?_
          refine oi ⟨by decide, by decide⟩ ?_
          refine oi (show (k : Int).toNat < 4 by omega) ?_
          refine oi ⟨by omega, by show (k : Int) < 4; omega⟩ ?_
          refine oi ⟨by decide, by decide⟩ ?_
          refine oi (show (k : Int).toNat < 4 by omega) ?_
          refine callN (rHigh g gv (xi g i + nbx k) (yi g i + nby k) lv) ?_
          refine And.intro (by kernel_rfl) ?_
          refine And.intro (fun h3 => ?_) (fun h3 => ?_)
          · have h3 : (!highB g lv (xi g i + nbx k) (yi g i + nby k)) = true := h3
            have e2 : contK g lv (xi g i) (yi g i) (contL g lv i) (k + 1) = contK g lv (xi g i) (yi g i) (contL g lv i) k ++ [sideC g (xi g i) (yi g i) k] := (contK_succ k).trans (by rw [h3]; rfl)
            refine oi ⟨by omega, by show (k : Int) < 5; omega⟩ ?_
            refine oi (show (k : Int).toNat < 5 by omega) ?_
            refine oi ⟨by show 0 ≤ w64 ((k : Int) + 1); omega, by show w64 ((k : Int) + 1) < 5; omega⟩ ?_
            refine oi (show (w64 ((k : Int) + 1)).toNat < 5 by omega) ?_
            refine ob (by decide) ?_
            refine ob (by rw [bif_len]; show _ * 32 ≤ _; omega) ?_
            refine ob (fit1 (lt4 rfl rfl rfl rfl)) ?_
            refine And.intro (by kernel_rfl) ?_
            refine ⟨k + 1, by omega, by omega, ?_⟩
            rw [e2]
            refine SubI.of0 href [(100, 124)] rfl ⟨⟨rfl, LeBx.rfl⟩, ⟨rfl, LeBx.rfl⟩, ⟨rfl, LeBx.rfl⟩, ⟨rfl, ?_⟩, trivial⟩ ⟨⟨rfl, LeQ.rfl⟩, ⟨rfl, LeQ.rfl⟩, ⟨rfl, LeQ.mo (isEmpty_snoc _ _)⟩, ⟨rfl, LeQ.rfl⟩, ⟨rfl, LeQ.rfl⟩, ⟨rfl, LeQ.rfl⟩, ⟨rfl, LeQ.int hk1⟩, trivial⟩
            have et : (w64 ((k : Int) + 1)).toNat = k + 1 := by rw [hk1]; rfl
            exact RowIs.mrow (el := sideD) (RowIs.snoc sideRow (lt4 rfl rfl (congrArg (fun n => dI (cornP g (xi g i) (yi g i) n).x) et) (congrArg (fun n => dI (cornP g (xi g i) (yi g i) n).y) et)))
          · have h3 : (!highB g lv (xi g i + nbx k) (yi g i + nby k)) = false := h3
            have e2 : contK g lv (xi g i) (yi g i) (contL g lv i) (k + 1) = contK g lv (xi g i) (yi g i) (contL g lv i) k := (contK_succ k).trans (by rw [h3]; rfl)
            refine ⟨k + 1, by omega, by omega, ?_⟩
            rw [e2]
            exact SubI.of0 href [] rfl ⟨⟨rfl, LeBx.rfl⟩, ⟨rfl, LeBx.rfl⟩, ⟨rfl, LeBx.rfl⟩, ⟨rfl, LeBx.rfl⟩, trivial⟩ ⟨⟨rfl, LeQ.rfl⟩, ⟨rfl, LeQ.rfl⟩, ⟨rfl, LeQ.rfl⟩, ⟨rfl, LeQ.rfl⟩, ⟨rfl, LeQ.rfl⟩, ⟨rfl, LeQ.rfl⟩, ⟨rfl, LeQ.int hk1⟩, trivial⟩
        · have h : ¬ (k : Int) < 4 := decF h
          obtain rfl : k = 4 := by omega
          refine ⟨i + 1, by omega, by omega, ?_⟩
          rw [e]
          exact SubI.of0 href [] rfl ⟨⟨rfl, LeBx.rfl⟩, ⟨rfl, LeBx.rfl⟩, trivial⟩ ⟨⟨rfl, LeQ.rfl⟩, ⟨rfl, LeQ.rfl⟩, ⟨rfl, LeQ.rfl⟩, ⟨rfl, LeQ.int (w64_of (by omega) (by omega))⟩, trivial⟩
    · have h : ¬ (i : Int) < g.levels.length := decF h
      obtain rfl : i = g.levels.length := by omega
      exact SubR.le (LeD.slc' (bif_len _) fun _ _ _ _ => LeD.refl _)
end Go.Ch
