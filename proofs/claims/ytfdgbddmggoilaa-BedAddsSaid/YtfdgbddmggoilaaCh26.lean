/- Part Ch26: lemmas that the proofs of this seat share; by itself it claims nothing. -/
import Derived.Test.YtfdgbddmggoilaaCh25
namespace Go.Ch
open Go Go.Ax Go.Proofs Go.Proofs.Try
set_option maxRecDepth 100000
set_option pp.maxSteps 400
set_option maxHeartbeats 1000000

structure Three where
  a : Grid
  b : Grid
  c : Grid
  l : List Int
abbrev threeL (t : Three) : List SV := [.d (dI t.a.x), .d (dI t.a.y), .d (dI t.a.side), .d (dI t.a.cols), .d (dI t.a.rows), .d (dInts t.a.levels), .d (dI t.b.x), .d (dI t.b.y), .d (dI t.b.side), .d (dI t.b.cols), .d (dI t.b.rows), .d (dInts t.b.levels), .d (dI t.c.x), .d (dI t.c.y), .d (dI t.c.side), .d (dI t.c.cols), .d (dI t.c.rows), .d (dInts t.c.levels), .d (dInts t.l)]
abbrev threeA (t : Three) : AV := .g (threeL t)
abbrev threeB (t : Three) : Box := .cells (threeL t)
structure Three.ok (t : Three) : Prop where
  a : t.a.ok
  b : t.b.ok
  c : t.c.ok
  l : t.l.length ≤ 9223372036854775807
theorem rGr : Rd Try.prog 24 6 (fun g : Grid => [.d (dI g.x), .d (dI g.y), .d (dI g.side), .d (dI g.cols), .d (dI g.rows), .d (dInts g.levels)]) Grid.ok :=
  (rd_struct Try.underlying24 rfl (by kernel_rfl) (rdf_cons rfl rI (rdf_cons rfl rI (rdf_cons rfl rI (rdf_cons rfl rI (rdf_cons rfl rI (rdf_cons rfl rInts rdf_nil))))))).to (fun a => ⟨a.1, a.2.1, a.2.2.1, a.2.2.2.1, a.2.2.2.2.1, a.2.2.2.2.2.1⟩) (fun _ => rfl)
    (fun _ h => ⟨h.1, h.2.1, h.2.2.1, h.2.2.2.1, h.2.2.2.2.1, h.2.2.2.2.2.1.1, h.2.2.2.2.2.1.2⟩)
theorem rThree : RdA Try.prog 64 threeA Three.ok :=
  rda_agg (k := 19) Try.underlying64 ((rd_struct Try.underlying64 rfl (by kernel_rfl) (rdf_cons rfl rGr (rdf_cons rfl rGr (rdf_cons rfl rGr (rdf_cons rfl rInts rdf_nil))))).to (fun a => ⟨a.1, a.2.1, a.2.2.1, a.2.2.2.1⟩) (fun _ => rfl)
    (fun _ h => ⟨h.1, h.2.1, h.2.2.1, h.2.2.2.1.1⟩))
theorem sameC_side {a b : Grid} (h : sameC a b = true) : a.side = b.side := by
  unfold sameC at h
  simp only [Bool.and_eq_true, beq_iff_eq] at h
  exact h.2.2.1
theorem sameC_comm {a b : Grid} (h : sameC a b = true) : sameC b a = true := by
  unfold sameC at h ⊢
  simp only [Bool.and_eq_true, beq_iff_eq] at h ⊢
  exact ⟨h.1.symm, h.2.1.symm, h.2.2.1.symm, h.2.2.2.1.symm, h.2.2.2.2.1.symm, trivial⟩
theorem err2_comm {a b : Grid} (h : err2 a b = 0) : err2 b a = 0 := by
  obtain ⟨h1, h2, h3⟩ := err2_zero h
  unfold err2
  rw [h1, h2, sameC_comm h3]
  rfl
attribute [local irreducible] err2 few lvErr in
theorem Adds (t : Three) (ht : t.ok) : CallP Try.prog 7 [threeA t] (vB true) := by
  obtain ⟨a, b, c, l⟩ := t
  obtain ⟨ha, hb, hc, hl0⟩ := ht
  simp only at ha hb hc hl0
  refine callP_of_ex (rc := []) (N := 198) Try.func7 rfl rfl Try.call7 tab_ok mix rfl rfl (fun cx href => ?_)
  refine callN bawake ?_
  refine And.intro (fun h => by cases h) (fun _ => ?_)
  refine callN (Few a ha.levels) ?_
  repeat first | refine sk ?_ | refine st ?_ | refine sg ?_ | refine sh ?_ | refine su ?_ | refine sn1 ?_ | refine sn0 ?_
  refine callG (Few b hb.levels) ?_
  repeat first | refine sk ?_ | refine st ?_ | refine sg ?_ | refine sh ?_ | refine su ?_ | refine sn1 ?_ | refine sn0 ?_
  refine callG (Few c hc.levels) ?_
  repeat first | refine sk ?_ | refine st ?_ | refine sg ?_ | refine sh ?_ | refine su ?_ | refine sn1 ?_ | refine sn0 ?_
  refine And.intro (fun _ => SubR.lit rfl) (fun h1 => ?_)
  have h1 : (((!few a || !few b) || !few c) || decide ((l.length : Int) > 20)) = false := h1
  rw [Bool.or_eq_false_iff] at h1
  have hl : l.length ≤ 1000000 := by have := decF h1.2; omega
  refine callN (gCompare a b ha hb) ?_
  refine callN (gStrips a b ha hb) ?_
  refine callN (gSlices a b l ha hb hl) ?_
  refine callN (gCompare b a hb ha) ?_
  cases he : (err2 a b != 0) with
  | true =>
    have e1 : cmpR a b = (⟨0, 0, 0⟩, err2 a b) := by unfold cmpR; rw [he]; rfl
    have e2 : stripsE a b = ([], err2 a b) := by unfold stripsE; rw [he]; rfl
    rw [e1, e2]
    repeat first | refine sk ?_ | refine st ?_ | refine sg ?_ | refine sh ?_ | refine su ?_ | refine sn1 ?_ | refine sn0 ?_
    refine And.intro (fun h => ?_) (fun h => ?_)
    · refine SubR.of_eq ?_
      show vB (err2 a b == err2 a b) = vB true
      simp
    · have h : (((err2 a b != 0) || (err2 a b != 0)) || ((cmpR b a).2 == 10)) = false := h
      rw [he] at h; cases h
  | false =>
    have e1 : cmpR a b = (chF a b (-20000) 20000 a.levels.length, 0) := by unfold cmpR; rw [he]; rfl
    have e2 : stripsE a b = (stripsL a b a.cols.toNat, 0) := by unfold stripsE; rw [he]; rfl
    have h0 : err2 a b = 0 := by simpa using he
    obtain ⟨z1, z2, z3⟩ := err2_zero h0
    have ga := GVal.of z1
    have gb := GVal.of z2
    have hlen := sameC_len ga gb z3
    have hside := sameC_side z3
    have hna := ga.n
    have hcol := ga.cols
    have e3 : cmpR b a = (⟨(chF a b (-20000) 20000 a.levels.length).fill, (chF a b (-20000) 20000 a.levels.length).cut, (chF a b (-20000) 20000 a.levels.length).unk⟩, 0) := by
      unfold cmpR; rw [err2_comm h0, swap_chg hside hlen]; rfl
    rw [e1, e2, e3]
    repeat first | refine sk ?_ | refine st ?_ | refine sg ?_ | refine sh ?_ | refine su ?_ | refine sn1 ?_ | refine sn0 ?_
    refine And.intro (fun h => by cases h) (fun _ => ?_)
    have hsl := stripsL_len (a := a) (b := b) (m := a.cols.toNat)
    have hst := strips_sum (b := b) ga
    generalize hgc : chF a b (-20000) 20000 a.levels.length = C at *
    generalize hgs : stripsL a b a.cols.toNat = S at *
    have hsc : S.length = a.cols.toNat := hsl
    have hll : (layersE a b l).1.length ≤ 1000 := by
      unfold layersE
      rw [he, cond_false]
      cases hlv : (lvErr l != 0) with
      | true => show 0 ≤ 1000; omega
      | false =>
        have := lvErr_len hlv
        show (layersL a b l (l.length + 1)).length ≤ 1000
        rw [layersL_len]; omega
    have hlay : (layersE a b l).2 = 0 → (foldC (layersE a b l).1 (layersE a b l).1.length).cut = C.cut ∧ (foldC (layersE a b l).1 (layersE a b l).1.length).fill = C.fill := by
      unfold layersE
      rw [he, cond_false]
      cases hlv : (lvErr l != 0) with
      | true =>
        intro h
        have h : lvErr l = 0 := h
        rw [h] at hlv; cases hlv
      | false =>
        intro _
        have := layers_sum ga gb hlen hlv
        rw [hgc] at this
        show (foldC (layersL a b l (l.length + 1)) (layersL a b l (l.length + 1)).length).cut = _ ∧ (foldC (layersL a b l (l.length + 1)) (layersL a b l (l.length + 1)).length).fill = _
        rw [layersL_len]
        exact this
    generalize (layersE a b l).1 = L at *
    generalize (layersE a b l).2 = E at *
    refine AW.loopI (fun i : Nat => ⟨[(1, .s (.ptr 1 0)), (3, .s (.ptr 3 0)), (5, vChgs S), (7, vChgs L), (8, vI E), (9, .s (.ptr 9 0)), (10, vI 0), (11, .s (.ptr 11 0)), (12, .s (.ptr 12 0)), (13, vI i)],
        [(1, some (threeB ⟨a, b, c, l⟩)), (3, some (chgB C)), (9, some (chgB ⟨C.fill, C.cut, C.unk⟩)), (11, some (chgB (foldC S i))), (12, some (chgB ⟨0, 0, 0⟩))]⟩)
      (fun i => i ≤ S.length) (fun i => S.length - i) 0 (Nat.zero_le _) ?_ ?_
    · exact SubI.of0 href [] rfl ⟨⟨rfl, LeBx.rfl⟩, ⟨rfl, LeBx.rfl⟩, ⟨rfl, LeBx.rfl⟩, ⟨rfl, LeBx.rfl⟩, ⟨rfl, LeBx.rfl⟩, trivial⟩ ⟨⟨rfl, LeQ.rfl⟩, ⟨rfl, LeQ.rfl⟩, ⟨rfl, LeQ.rfl⟩, ⟨rfl, LeQ.rfl⟩, ⟨rfl, LeQ.rfl⟩, ⟨rfl, LeQ.rfl⟩, ⟨rfl, LeQ.rfl⟩, ⟨rfl, LeQ.rfl⟩, ⟨rfl, LeQ.rfl⟩, ⟨rfl, LeQ.rfl⟩, trivial⟩
    intro i hi
    refine ex.sound (rc := []) tab_ok mix href _ ?_
    refine And.intro (fun h => ?_) (fun h => ?_)
    · have h : (i : Int) < S.length := decT h
      refine oi ⟨by omega, by omega⟩ ?_
      refine callN (rPlus (foldC S i) (S.getD i default)) ?_
      refine And.intro (by kernel_rfl) ?_
      refine ⟨i + 1, by omega, by omega, ?_⟩
      exact SubI.of0 href [] rfl ⟨⟨rfl, LeBx.rfl⟩, ⟨rfl, LeBx.rfl⟩, ⟨rfl, LeBx.rfl⟩, ⟨rfl, LeBx.rfl⟩, ⟨rfl, LeBx.rfl⟩, trivial⟩ ⟨⟨rfl, LeQ.rfl⟩, ⟨rfl, LeQ.rfl⟩, ⟨rfl, LeQ.rfl⟩, ⟨rfl, LeQ.rfl⟩, ⟨rfl, LeQ.rfl⟩, ⟨rfl, LeQ.rfl⟩, ⟨rfl, LeQ.rfl⟩, ⟨rfl, LeQ.rfl⟩, ⟨rfl, LeQ.rfl⟩, ⟨rfl, LeQ.int (w64_of (by omega) (by omega))⟩, trivial⟩
    have h : ¬ (i : Int) < S.length := decF h
    obtain rfl : i = S.length := by omega
    rw [hsc, hst]
    refine AW.loopI (fun i : Nat => ⟨[(1, .s (.ptr 1 0)), (3, .s (.ptr 3 0)), (7, vChgs L), (8, vI E), (9, .s (.ptr 9 0)), (10, vI 0), (11, .s (.ptr 11 0)), (12, .s (.ptr 12 0)), (14, vI i)],
        [(1, some (threeB ⟨a, b, c, l⟩)), (3, some (chgB C)), (9, some (chgB ⟨C.fill, C.cut, C.unk⟩)), (11, some (chgB C)), (12, some (chgB (foldC L i)))]⟩)
      (fun i => i ≤ L.length) (fun i => L.length - i) 0 (Nat.zero_le _) ?_ ?_
    · exact SubI.of0 href [] rfl ⟨⟨rfl, LeBx.rfl⟩, ⟨rfl, LeBx.rfl⟩, ⟨rfl, LeBx.rfl⟩, ⟨rfl, LeBx.rfl⟩, ⟨rfl, LeBx.rfl⟩, trivial⟩ ⟨⟨rfl, LeQ.rfl⟩, ⟨rfl, LeQ.rfl⟩, ⟨rfl, LeQ.rfl⟩, ⟨rfl, LeQ.rfl⟩, ⟨rfl, LeQ.rfl⟩, ⟨rfl, LeQ.rfl⟩, ⟨rfl, LeQ.rfl⟩, ⟨rfl, LeQ.rfl⟩, ⟨rfl, LeQ.rfl⟩, trivial⟩
    intro i hi
    refine ex.sound (rc := []) tab_ok mix href _ ?_
    refine And.intro (fun h => ?_) (fun h => ?_)
    · have h : (i : Int) < L.length := decT h
      refine oi ⟨by omega, by omega⟩ ?_
      refine callN (rPlus (foldC L i) (L.getD i default)) ?_
      refine And.intro (by kernel_rfl) ?_
      refine ⟨i + 1, by omega, by omega, ?_⟩
      exact SubI.of0 href [] rfl ⟨⟨rfl, LeBx.rfl⟩, ⟨rfl, LeBx.rfl⟩, ⟨rfl, LeBx.rfl⟩, ⟨rfl, LeBx.rfl⟩, ⟨rfl, LeBx.rfl⟩, trivial⟩ ⟨⟨rfl, LeQ.rfl⟩, ⟨rfl, LeQ.rfl⟩, ⟨rfl, LeQ.rfl⟩, ⟨rfl, LeQ.rfl⟩, ⟨rfl, LeQ.rfl⟩, ⟨rfl, LeQ.rfl⟩, ⟨rfl, LeQ.rfl⟩, ⟨rfl, LeQ.rfl⟩, ⟨rfl, LeQ.int (w64_of (by omega) (by omega))⟩, trivial⟩
    have h : ¬ (i : Int) < L.length := decF h
    obtain rfl : i = L.length := by omega
    repeat first | refine sk ?_ | refine st ?_ | refine sg ?_ | refine sh ?_ | refine su ?_ | refine sn1 ?_ | refine sn0 ?_
    refine And.intro (fun h => ?_) (fun _ => ?_)
    · exfalso
      have hz : (E == 0 && ((foldC L L.length).cut != C.cut || (foldC L L.length).fill != C.fill)) = false := by
        cases hE : (E == 0) with
        | false => rfl
        | true =>
          obtain ⟨q1, q2⟩ := hlay (by simpa using hE)
          rw [q1, q2]; simp
      have h : ((!(C.cut == C.cut && (C.fill == C.fill && (C.unk == C.unk && true))) || (0 : Int) != 0 || !(C.fill == C.fill && (C.cut == C.cut && (C.unk == C.unk && true)))) || (E == 0 && ((foldC L L.length).cut != C.cut || (foldC L L.length).fill != C.fill))) = true := h
      rw [hz] at h
      simp at h
    refine callN (gCompare a c ha hc) ?_
    refine callN (gCompare b c hb hc) ?_
    repeat first | refine sk ?_ | refine st ?_ | refine sg ?_ | refine sh ?_ | refine su ?_ | refine sn1 ?_ | refine sn0 ?_
    refine And.intro (fun _ => SubR.lit rfl) (fun h => ?_)
    have h : ((((cmpR a c).2 != 0) || ((cmpR b c).2 != 0)) || decide (w64 (w64 (C.unk + (cmpR a c).1.unk) + (cmpR b c).1.unk) > 0)) = false := h
    rw [Bool.or_eq_false_iff, Bool.or_eq_false_iff] at h
    obtain ⟨⟨k1, k2⟩, k3⟩ := h
    have k3 := decF k3
    have r1 : err2 a c = 0 ∧ cmpR a c = (chF a c (-20000) 20000 a.levels.length, 0) := by
      unfold cmpR at k1 ⊢
      cases hx : (err2 a c != 0) with
      | true => rw [hx] at k1; rw [cond_true] at k1; rw [hx] at k1; cases k1
      | false => exact ⟨by simpa using hx, rfl⟩
    have r2 : err2 b c = 0 ∧ cmpR b c = (chF b c (-20000) 20000 b.levels.length, 0) := by
      unfold cmpR at k2 ⊢
      cases hx : (err2 b c != 0) with
      | true => rw [hx] at k2; rw [cond_true] at k2; rw [hx] at k2; cases k2
      | false => exact ⟨by simpa using hx, rfl⟩
    obtain ⟨y1, y2, y3⟩ := err2_zero r1.1
    have gc := GVal.of y2
    have hlc := sameC_len ga gc y3
    rw [r1.2, r2.2] at k3 ⊢
    have u1 := unk_all (a := a) (b := b) hna
    have u2 := unk_all (a := a) (b := c) hna
    have u3 := unk_all (a := b) (b := c) gb.n
    rw [hgc] at u1
    have k3 : ¬ w64 (w64 (C.unk + (chF a c (-20000) 20000 a.levels.length).unk) + (chF b c (-20000) 20000 b.levels.length).unk) > 0 := k3
    rw [w64_of (n := C.unk + _) (by omega) (by omega), w64_of (by omega) (by omega)] at k3
    refine SubR.of_eq ?_
    have hnet := net_third ga gb gc hside hlen hlc (u1.2.2 (by omega)) (u2.2.2 (by omega))
    rw [hgc] at hnet
    show vB (w64 ((chF a c (-20000) 20000 a.levels.length).cut - (chF a c (-20000) 20000 a.levels.length).fill) == w64 (w64 (w64 (C.cut - C.fill) + (chF b c (-20000) 20000 b.levels.length).cut) - (chF b c (-20000) 20000 b.levels.length).fill)) = vB true
    rw [hnet, beq_self_eq_true]
end Go.Ch
