/- Part 6: lemmas that the proofs of this seat share; by itself it claims nothing. -/
import Derived.Test.YtgkghihpebdpgaaGreatPt5
namespace Go.Ch
open Go Go.Ax Go.Proofs Go.Proofs.Tryz
set_option maxRecDepth 100000
set_option pp.maxSteps 400
set_option maxHeartbeats 1000000

/-- How many cells the first lists have. -/
def lensL (l : List (List Int)) : Nat → Nat
  | 0 => 0
  | i + 1 => lensL l i + (l.getD i default).length
theorem lensL_take {l : List (List Int)} : ∀ i, i ≤ l.length → lensL l i = ((l.take i).flatten).length
  | 0, _ => rfl
  | i + 1, hi => by
    have hi' : i < l.length := by omega
    rw [lensL, lensL_take i (by omega), List.take_succ_eq_append_getElem hi', List.flatten_append, List.length_append, getD_of hi']
    simp
theorem lensL_le {l : List (List Int)} : ∀ j i, i ≤ j → lensL l i ≤ lensL l j
  | 0, i, h => by obtain rfl : i = 0 := by omega
                  exact Nat.le_refl _
  | j + 1, i, h => by
    by_cases hij : i = j + 1
    · rw [hij]; exact Nat.le_refl _
    · have := lensL_le (l := l) j i (by omega)
      rw [lensL]; omega
abbrev intsEl (l : List (List Int)) : Nat → Nat → DV := fun i _ => dInts (l.getD i default)
theorem ConcatR (l : List (List Int)) (f0 : Nat → Nat → DV) (hf0 : ∀ i j, i < l.length → j < 1 → LeD (f0 i j) (intsEl l i j)) (hpos : 0 < lensL l l.length) (hn : lensL l l.length ≤ 1000000) (hl : l.length ≤ 1000) :
    CallR Tryz.prog 70 [.s (.own 1001)] [(1001, .row 23 l.length 1 f0)] (vInts l.flatten) [(1001, .row 23 l.length 1 (intsEl l))] := by
  refine callR_of_ex (rc := [88]) (N := 36) Tryz.func70 rfl rfl Tryz.call70 tab_ok mix rfl rfl rfl rfl (fun cx href => ?_)
  refine AW.loopI (fun i : Nat => ⟨[(0, .s (.own 1001)), (3, vI (lensL l i)), (9, .s (.own 1001)), (10, vI l.length), (11, vI i)], [(1001, some (.row 23 l.length 1 (intsEl l)))]⟩)
    (fun i => i ≤ l.length) (fun i => l.length - i) 0 (Nat.zero_le _) ?_ ?_
  · exact SubI.of [] (by rw [href]; rfl) rfl ⟨⟨rfl, LeBx.row rfl hf0⟩, trivial⟩ ⟨⟨rfl, LeQ.rfl⟩, ⟨rfl, LeQ.rfl⟩, ⟨rfl, LeQ.rfl⟩, ⟨rfl, LeQ.rfl⟩, ⟨rfl, LeQ.rfl⟩, trivial⟩
  · intro i hi
    refine ex.sound (rc := [88]) tab_ok mix href _ ?_
    refine And.intro (fun h => ?_) (fun h => ?_)
    · have h : (i : Int) < l.length := decT h
      have hle := lensL_le (l := l) l.length (i + 1) (by omega)
      have ew : w64 ((lensL l i : Int) + ((l.getD i default).length : Int)) = (lensL l (i + 1) : Int) := by
        rw [lensL] at hle ⊢
        rw [w64_of (by omega) (by omega)]; omega
      refine oi ⟨by omega, by omega⟩ ?_
      refine oi (show (i : Int).toNat < l.length by omega) ?_
      refine And.intro (fun h2 => ?_) (fun _ => ?_)
      · exfalso
        have h2 : w64 ((lensL l i : Int) + ((l.getD i default).length : Int)) < 0 := decT h2
        rw [ew] at h2; omega
      refine ⟨i + 1, by omega, by omega, ?_⟩
      exact SubI.of [] (by rw [href]; rfl) rfl ⟨⟨rfl, LeBx.rfl⟩, trivial⟩ ⟨⟨rfl, LeQ.rfl⟩, ⟨rfl, LeQ.int ew⟩, ⟨rfl, LeQ.rfl⟩, ⟨rfl, LeQ.rfl⟩, ⟨rfl, LeQ.int (w64_of (by omega) (by omega))⟩, trivial⟩
    · have h : ¬ (i : Int) < l.length := decF h
      obtain rfl : i = l.length := by omega
      refine ⟨[(22, 100)], _, _, _, _, GrowO (lensL l l.length) hpos hn, rfl, trivial, rfl, ?_⟩
      refine AW.loopI (fun s : Nat × Nat × (Nat → Nat → DV) => ⟨[(6, .s (.osl 100 1 0 (lensL l s.1))), (25, .s (.own 1001)), (26, vI l.length), (27, vI s.1)], [(1001, some (.row 23 l.length 1 (intsEl l))), (100, some (.row 3 s.2.1 1 s.2.2))]⟩)
        (fun s => s.1 ≤ l.length ∧ lensL l s.1 ≤ s.2.1 ∧ ∀ k, k < lensL l s.1 → s.2.2 k 0 = dI (((l.take s.1).flatten).getD k 0)) (fun s => l.length - s.1) (0, lensL l l.length, zeroF) ⟨Nat.zero_le _, Nat.zero_le _, fun k hk => absurd hk (Nat.not_lt_zero k)⟩ ?_ ?_
      · exact SubI.of [] (by rw [href]; rfl) rfl ⟨⟨rfl, LeBx.rfl⟩, ⟨rfl, LeBx.rfl⟩, trivial⟩ ⟨⟨rfl, LeQ.rfl⟩, ⟨rfl, LeQ.rfl⟩, ⟨rfl, LeQ.rfl⟩, ⟨rfl, LeQ.rfl⟩, trivial⟩
      · rintro ⟨i, R, f⟩ ⟨hi, hR, hf⟩
        simp only at hi hR hf ⊢
        refine ex.sound (rc := [88]) tab_ok mix href _ ?_
        refine And.intro (fun h => ?_) (fun h => ?_)
        · have h : (i : Int) < l.length := decT h
          have hi' : i < l.length := by omega
          have hle := lensL_le (l := l) l.length (i + 1) (by omega)
          have hs : lensL l (i + 1) = lensL l i + (l.getD i default).length := rfl
          have hcell : ∀ k, k < lensL l (i + 1) → catF (lensL l i) f (intEl (l.getD i default)) k 0 = dI (((l.take (i + 1)).flatten).getD k 0) := by
            intro k hk
            rw [List.take_succ_eq_append_getElem hi', List.flatten_append]
            have hlt := lensL_take i hi
            unfold catF
            by_cases hk2 : k < lensL l i
            · rw [if_pos hk2, hf k hk2]
              simp only [List.getD_eq_getElem?_getD]
              rw [List.getElem?_append_left (by omega)]
            · rw [if_neg hk2]
              show dI ((l.getD i default).getD (k - lensL l i) 0) = _
              simp only [List.getD_eq_getElem?_getD]
              rw [List.getElem?_append_right (by omega), ← hlt]
              simp [hi']
          refine oi ⟨by omega, by omega⟩ ?_
          refine oi (show (i : Int).toNat < l.length by omega) ?_
          refine ob (Nat.zero_le _) ?_
          refine ob (show (0 + lensL l i + (l.getD i default).length) * 8 ≤ _ by omega) ?_
          refine ob (fun k j _ _ => rfl) ?_
          refine And.intro ?_ ?_
          · refine ⟨(i + 1, 0 + lensL l i + (l.getD i default).length, catF (0 + lensL l i) f (intEl (l.getD i default))), ⟨by simp only; omega, by simp only; omega, fun k hk => ?_⟩, by simp only; omega, ?_⟩
            · simp only [Nat.zero_add] at hk ⊢
              exact hcell k hk
            · exact SubI.of [(100, 33)] (by rw [href]; rfl) rfl ⟨⟨rfl, LeBx.rfl⟩, ⟨rfl, LeBx.rfl⟩, trivial⟩ ⟨⟨rfl, LeQ.rfl⟩, ⟨rfl, LeQ.rfl⟩, ⟨rfl, LeQ.rfl⟩, ⟨rfl, LeQ.int (w64_of (by omega) (by omega))⟩, trivial⟩
          · refine ⟨(i + 1, lensL l i + (l.getD i default).length, catF (lensL l i) (fun i => f (0 + i)) (intEl (l.getD i default))), ⟨by simp only; omega, by simp only; omega, fun k hk => ?_⟩, by simp only; omega, ?_⟩
            · simp only [Nat.zero_add] at hk ⊢
              exact hcell k hk
            · exact SubI.of [(100, 33)] (by rw [href]; rfl) rfl ⟨⟨rfl, LeBx.rfl⟩, ⟨rfl, LeBx.rfl⟩, trivial⟩ ⟨⟨rfl, LeQ.rfl⟩, ⟨rfl, LeQ.rfl⟩, ⟨rfl, LeQ.rfl⟩, ⟨rfl, LeQ.int (w64_of (by omega) (by omega))⟩, trivial⟩
        · have h : ¬ (i : Int) < l.length := decF h
          obtain rfl : i = l.length := by omega
          have hlt := lensL_take l.length (Nat.le_refl l.length)
          rw [List.take_length] at hlt
          refine ⟨?_, ?_⟩
          rotate_left
          · exact ⟨rfl, trivial⟩
          refine SubR.le (LeD.slc' hlt fun k j hk hj => LeD.of_eq ?_)
          have hj : j = 0 := by have : j < 1 := hj; omega
          subst hj
          have := hf k hk
          rw [List.take_length] at this
          show f (0 + k) 0 = _
          rw [Nat.zero_add, this]; rfl
end Go.Ch

namespace Go.Ch
open Go Go.Ax Go.Proofs Go.Proofs.Tryz
set_option maxRecDepth 100000
set_option pp.maxSteps 400
set_option maxHeartbeats 1000000

def idxI (l : List Int) (x : Int) : Nat → Nat → Int
  | 0, _ => -1
  | n + 1, i => bif x == l.getD i 0 then (i : Int) else idxI l x n (i + 1)
theorem IndexI (l : List Int) (x : Int) (hl : l.length ≤ 1000000) : CallP Tryz.prog 75 [vInts l, vI x] (vI (idxI l x l.length 0)) := by
  refine callP_of_ex (rc := []) (N := 19) Tryz.func75 rfl rfl Tryz.call75 tab_ok mix rfl rfl (fun cx href => ?_)
  refine AW.loopI (fun i : Nat => ⟨[(0, vInts l), (1, vI x), (7, vI l.length), (8, vI i)], []⟩) (fun i => i ≤ l.length ∧ idxI l x l.length 0 = idxI l x (l.length - i) i) (fun i => l.length - i) 0 ⟨Nat.zero_le _, rfl⟩ ?_ ?_
  · exact SubI.of0 href [] rfl trivial ⟨⟨rfl, LeQ.rfl⟩, ⟨rfl, LeQ.rfl⟩, ⟨rfl, LeQ.rfl⟩, ⟨rfl, LeQ.rfl⟩, trivial⟩
  · rintro i ⟨hi, hj⟩
    refine ex.sound (rc := []) tab_ok mix href _ ?_
    refine And.intro (fun h => ?_) (fun h => ?_)
    · have h : (i : Int) < l.length := decT h
      rw [show l.length - i = (l.length - (i + 1)) + 1 by omega, idxI] at hj
      refine oi ⟨by omega, by omega⟩ ?_
      refine And.intro (fun h2 => ?_) (fun h2 => ?_)
      · have h2 : (x == l.getD i 0) = true := h2
        exact SubR.of_eq (by rw [hj, h2]; rfl)
      · have h2 : (x == l.getD i 0) = false := h2
        refine ⟨i + 1, ⟨by omega, by rw [hj, h2]; rfl⟩, by omega, ?_⟩
        exact SubI.of0 href [] rfl trivial ⟨⟨rfl, LeQ.rfl⟩, ⟨rfl, LeQ.rfl⟩, ⟨rfl, LeQ.rfl⟩, ⟨rfl, LeQ.int (w64_of (by omega) (by omega))⟩, trivial⟩
    · have h : ¬ (i : Int) < l.length := decF h
      rw [show l.length - i = 0 by omega] at hj
      exact SubR.of_eq (by rw [hj]; rfl)
theorem idxI_mem {l : List Int} {x : Int} : ∀ n i, i + n = l.length → decide (idxI l x n i ≥ 0) = (l.drop i).contains x
  | 0, i, h => by
    rw [List.drop_eq_nil_of_le (by omega)]; rfl
  | n + 1, i, h => by
    have hi : i < l.length := by omega
    rw [idxI, List.drop_eq_getElem_cons hi]
    have e : l.getD i 0 = l[i] := by simp [hi]
    rw [e]
    cases hx : x == l[i] with
    | true =>
      simp only [cond_true, List.contains_cons, hx, Bool.true_or]
      exact decide_eq_true (by omega)
    | false =>
      simp only [cond_false, List.contains_cons, hx, Bool.false_or]
      exact idxI_mem n (i + 1) (by omega)
theorem ContainsI (l : List Int) (x : Int) (hl : l.length ≤ 1000000) : CallP Tryz.prog 52 [vInts l, vI x] (vB (l.contains x)) := by
  refine callP_of_ex (rc := []) (N := 9) Tryz.func52 rfl rfl Tryz.call52 tab_ok mix rfl rfl (fun cx href => ?_)
  refine callN (IndexI l x hl) ?_
  refine SubR.of_eq ?_
  show vB (decide (idxI l x l.length 0 ≥ 0)) = _
  rw [idxI_mem l.length 0 (by omega)]; rfl
end Go.Ch

namespace Go.Ch
open Go Go.Ax Go.Proofs Go.Proofs.Tryz
set_option maxRecDepth 100000
set_option pp.maxSteps 400
set_option maxHeartbeats 1000000

theorem hasG (g : Grid) (i : Int) (hg : g.ok) : CallP Tryz.prog 71 [grid g, vI i] (vI (bif errG g != 0 then errG g else bif within i 0 ((g.levels.length : Int) - 1) then 0 else 6)) := by
  have hl := hg.levels
  refine callP_of_ex (rc := []) (N := 19) Tryz.func71 rfl rfl Tryz.call71 tab_ok mix rfl rfl (fun cx _ => ?_)
  refine callN (bcheck g hl) ?_
  refine And.intro (fun h => ?_) (fun h => ?_)
  · have h : (errG g != 0) = true := h
    exact SubR.of_eq (by rw [h]; rfl)
  have h : (errG g != 0) = false := h
  have hn : g.levels.length ≤ 1024 := (GVal.of (show errG g = 0 by simpa using h)).n
  have e : outL 0 (w64 ((g.levels.length : Int) - 1)) [i] = !within i 0 ((g.levels.length : Int) - 1) := by
    rw [w64_of (by omega) (by omega)]; simp [outL]
  refine callN ((bbetween 0 (w64 ((g.levels.length : Int) - 1)) [i] (by simp)).conv (args' := _) ⟨LeD.refl _, LeD.refl _, LeD.slc fun i j hi hj => ?_, trivial⟩) ?_
  · obtain rfl : i = 0 := by have : i < 1 := hi; omega
    obtain rfl : j = 0 := by have : j < 1 := hj; omega
    exact LeD.of_eq rfl
  rw [e, h]
  refine And.intro (fun h2 => ?_) (fun h2 => ?_)
  · have h2 : (!(!(!within i 0 ((g.levels.length : Int) - 1)))) = true := h2
    rw [Bool.not_not] at h2
    have h3 : within i 0 ((g.levels.length : Int) - 1) = false := by simpa using h2
    exact SubR.of_eq (by rw [h3]; rfl)
  · have h2 : (!(!(!within i 0 ((g.levels.length : Int) - 1)))) = false := h2
    rw [Bool.not_not] at h2
    have h3 : within i 0 ((g.levels.length : Int) - 1) = true := by simpa using h2
    exact SubR.of_eq (by rw [h3]; rfl)
end Go.Ch

namespace Go.Ch
open Go Go.Ax Go.Proofs Go.Proofs.Tryz
set_option maxRecDepth 100000
set_option pp.maxSteps 400
set_option maxHeartbeats 1000000

/-- The neighbours of a cell. -/
def nearL (g : Grid) (i : Int) : List Int :=
  (((bif decide (i ≥ g.cols) then [i - g.cols] else []) ++ (bif decide (i % g.cols > 0) then [i - 1] else [])) ++ (bif decide (i % g.cols < g.cols - 1) then [i + 1] else [])) ++ (bif decide (i + g.cols < g.levels.length) then [i + g.cols] else [])
abbrev nearS (g : Grid) (i : Int) (l : List Int) : St := ⟨[(2, .s (.ptr 2 0)), (1, vI i), (5, .s (.mo l.isEmpty 100))], [(2, some (gridB g)), (100, some (.mrow 3 l.length 1 (intEl l)))]⟩
theorem nearRow {l : List Int} {n : Nat} {f g : Nat → Nat → DV} (h : RowIs 1 n f (fun x _ => dI x) l) {y : Int} (hy : g 0 0 = dI y) :
    LeBx (.row 3 (n + 1) 1 (catF n f g)) (.mrow 3 (l ++ [y]).length 1 (intEl (l ++ [y]))) :=
  RowIs.mrow (el := fun x _ => dI x) (RowIs.snoc h (lt1 hy))
theorem len1 {b : Bool} {x : Int} : (bif b then [x] else []).length ≤ 1 := by cases b <;> simp
theorem nearMe (g : Grid) (i : Int) (hg : GVal g) (h0 : 0 ≤ i) (hi : i < g.levels.length) : g.cols ≠ 0 ∧ i.tmod g.cols = i % g.cols ∧ w64 (g.cols - 1) = g.cols - 1 ∧ w64 (i - g.cols) = i - g.cols ∧ w64 (i + g.cols) = i + g.cols ∧ w64 (i + 1) = i + 1 ∧ w64 (i - 1) = i - 1 := by
  have hn := hg.n
  have hc := hg.cols
  have hm := Int.emod_lt_of_pos i (show 0 < g.cols by omega)
  have hp := Int.emod_nonneg i (show g.cols ≠ 0 by omega)
  refine ⟨by omega, ?_, w64_of (by omega) (by omega), w64_of (by omega) (by omega), w64_of (by omega) (by omega), w64_of (by omega) (by omega), w64_of (by omega) (by omega)⟩
  exact Int.tmod_eq_emod_of_nonneg h0
theorem near (g : Grid) (i : Int) (hg : GVal g) (h0 : 0 ≤ i) (hi : i < g.levels.length) : CallP Tryz.prog 73 [grid g, vI i] (vInts (nearL g i)) := by
  have hn := hg.n
  obtain ⟨hc0, er, ec, es, ea, ea1, es1⟩ := nearMe g i hg h0 hi
  refine callP_of_aw Tryz.func73 rfl rfl Tryz.call73 tab_ok rfl rfl (fun cx href => ?_)
  refine AW.seq (ex.sound (rc := []) tab_ok mix href _ ?_)
  refine AW.seq (ex.sound (rc := []) tab_ok mix href _ ?_)
  refine AW.cut (σ' := nearS g i (bif decide (i ≥ g.cols) then [i - g.cols] else [])) (ex.sound (rc := []) tab_ok mix href _ ?_) ?_
  · refine And.intro (fun h => ?_) (fun h => ?_)
    · have h : decide (i ≥ g.cols) = true := h
      rw [h]
      refine ob (by decide) ?_
      refine ob (by decide) ?_
      refine ⟨rfl, SubI.of0 href [(100, 16)] rfl ⟨⟨rfl, LeBx.rfl⟩, ⟨rfl, ?_⟩, trivial⟩ ⟨⟨rfl, LeQ.rfl⟩, ⟨rfl, LeQ.rfl⟩, ⟨rfl, LeQ.mo rfl⟩, trivial⟩⟩
      exact RowIs.mrow (el := fun x _ => dI x) (RowIs.one (lt1 (congrArg dI es)))
    · have h : decide (i ≥ g.cols) = false := h
      rw [h]
      refine ⟨rfl, SubI.of0 href [(100, 1000)] rfl ⟨⟨rfl, LeBx.rfl⟩, ⟨rfl, rfl⟩, trivial⟩ ⟨⟨rfl, LeQ.rfl⟩, ⟨rfl, LeQ.rfl⟩, ⟨rfl, LeQ.nil rfl⟩, trivial⟩⟩
  have l1 := len1 (b := decide (i ≥ g.cols)) (x := i - g.cols)
  have l2 := len1 (b := decide (i % g.cols > 0)) (x := i - 1)
  have l3 := len1 (b := decide (i % g.cols < g.cols - 1)) (x := i + 1)
  have l4 := len1 (b := decide (i + g.cols < g.levels.length)) (x := i + g.cols)
  unfold nearL
  generalize hA : (bif decide (i ≥ g.cols) then [i - g.cols] else []) = A at l1 ⊢
  clear hA
  generalize hB : (bif decide (i % g.cols > 0) then [i - 1] else []) = B at l2 ⊢
  refine AW.cut (σ' := nearS g i (A ++ B)) (ex.sound (rc := []) tab_ok mix href _ ?_) ?_
  · refine oi hc0 ?_
    refine And.intro (fun h => ?_) (fun h => ?_)
    · have h : decide (i.tmod g.cols > 0) = true := h
      rw [er] at h
      rw [h, cond_true] at hB
      subst hB
      refine ob (by decide) ?_
      refine ob (by rw [bif_len]; show _ * 8 ≤ _; omega) ?_
      refine ob (fit1 (lt1 rfl)) ?_
      refine ⟨rfl, SubI.of0 href [(100, 26)] rfl ⟨⟨rfl, LeBx.rfl⟩, ⟨rfl, nearRow intRow (congrArg dI es1)⟩, trivial⟩ ⟨⟨rfl, LeQ.rfl⟩, ⟨rfl, LeQ.rfl⟩, ⟨rfl, LeQ.mo (isEmpty_snoc _ _)⟩, trivial⟩⟩
    · have h : decide (i.tmod g.cols > 0) = false := h
      rw [er] at h
      rw [h] at hB
      subst hB
      rw [cond_false, List.append_nil]
      exact ⟨rfl, SubI.of0 href [] rfl ⟨⟨rfl, LeBx.rfl⟩, ⟨rfl, LeBx.rfl⟩, trivial⟩ ⟨⟨rfl, LeQ.rfl⟩, ⟨rfl, LeQ.rfl⟩, ⟨rfl, LeQ.rfl⟩, trivial⟩⟩
  have l12 : (A ++ B).length ≤ 2 := by rw [List.length_append]; omega
  clear hB l1 l2
  generalize A ++ B = A at l12 ⊢
  generalize hB : (bif decide (i % g.cols < g.cols - 1) then [i + 1] else []) = B at l3 ⊢
  refine AW.cut (σ' := nearS g i (A ++ B)) (ex.sound (rc := []) tab_ok mix href _ ?_) ?_
  · refine oi hc0 ?_
    refine And.intro (by kernel_rfl) ?_
    refine And.intro (fun h => ?_) (fun h => ?_)
    · have h : decide (i.tmod g.cols < w64 (g.cols - 1)) = true := h
      rw [er, ec] at h
      rw [h, cond_true] at hB
      subst hB
      refine ob (by decide) ?_
      refine ob (by rw [bif_len]; show _ * 8 ≤ _; omega) ?_
      refine ob (fit1 (lt1 rfl)) ?_
      refine ⟨rfl, SubI.of0 href [(100, 39)] rfl ⟨⟨rfl, LeBx.rfl⟩, ⟨rfl, nearRow intRow (congrArg dI ea1)⟩, trivial⟩ ⟨⟨rfl, LeQ.rfl⟩, ⟨rfl, LeQ.rfl⟩, ⟨rfl, LeQ.mo (isEmpty_snoc _ _)⟩, trivial⟩⟩
    · have h : decide (i.tmod g.cols < w64 (g.cols - 1)) = false := h
      rw [er, ec] at h
      rw [h] at hB
      subst hB
      rw [cond_false, List.append_nil]
      exact ⟨rfl, SubI.of0 href [] rfl ⟨⟨rfl, LeBx.rfl⟩, ⟨rfl, LeBx.rfl⟩, trivial⟩ ⟨⟨rfl, LeQ.rfl⟩, ⟨rfl, LeQ.rfl⟩, ⟨rfl, LeQ.rfl⟩, trivial⟩⟩
  have l13 : (A ++ B).length ≤ 3 := by rw [List.length_append]; omega
  clear hB l3 l12
  generalize A ++ B = A at l13 ⊢
  generalize hB : (bif decide (i + g.cols < g.levels.length) then [i + g.cols] else []) = B at l4 ⊢
  refine AW.cut (σ' := nearS g i (A ++ B)) (ex.sound (rc := []) tab_ok mix href _ ?_) ?_
  · refine And.intro (fun h => ?_) (fun h => ?_)
    · have h : decide (w64 (i + g.cols) < (g.levels.length : Int)) = true := h
      rw [ea] at h
      rw [h, cond_true] at hB
      subst hB
      refine ob (by decide) ?_
      refine ob (by rw [bif_len]; show _ * 8 ≤ _; omega) ?_
      refine ob (fit1 (lt1 rfl)) ?_
      refine ⟨rfl, SubI.of0 href [(100, 54)] rfl ⟨⟨rfl, LeBx.rfl⟩, ⟨rfl, nearRow intRow (congrArg dI ea)⟩, trivial⟩ ⟨⟨rfl, LeQ.rfl⟩, ⟨rfl, LeQ.rfl⟩, ⟨rfl, LeQ.mo (isEmpty_snoc _ _)⟩, trivial⟩⟩
    · have h : decide (w64 (i + g.cols) < (g.levels.length : Int)) = false := h
      rw [ea] at h
      rw [h] at hB
      subst hB
      rw [cond_false, List.append_nil]
      exact ⟨rfl, SubI.of0 href [] rfl ⟨⟨rfl, LeBx.rfl⟩, ⟨rfl, LeBx.rfl⟩, trivial⟩ ⟨⟨rfl, LeQ.rfl⟩, ⟨rfl, LeQ.rfl⟩, ⟨rfl, LeQ.rfl⟩, trivial⟩⟩
  clear hB
  generalize A ++ B = A
  refine ex.sound (rc := []) tab_ok mix href _ ?_
  exact SubR.mo
end Go.Ch

namespace Go.Ch
open Go Go.Ax Go.Proofs Go.Proofs.Tryz
set_option maxRecDepth 100000
set_option pp.maxSteps 400
set_option maxHeartbeats 1000000

def there (g : Grid) (i : Int) : Bool := within i 0 ((g.levels.length : Int) - 1)
def levelAt (g : Grid) (i : Int) : Int := g.levels.getD i.toNat 0
def knownG (g : Grid) (i : Int) : Bool := there g i && levelAt g i != 30000
theorem there_iff {g : Grid} {i : Int} : there g i = true ↔ 0 ≤ i ∧ i < g.levels.length := by
  unfold there within
  simp; omega
theorem knownI (g : Grid) (i : Int) (hl : g.levels.length ≤ 1000000) : CallP Tryz.prog 36 [grid g, vI i] (vB (knownG g i)) := by
  refine callP_of_ex (rc := []) (N := 20) Tryz.func36 rfl rfl Tryz.call36 tab_ok mix rfl rfl (fun cx _ => ?_)
  have e : outL 0 (w64 ((g.levels.length : Int) - 1)) [i] = !there g i := by
    rw [w64_of (by omega) (by omega)]
    simp [outL, there]
  refine callN ((bbetween 0 (w64 ((g.levels.length : Int) - 1)) [i] (by simp)).conv (args' := _) ⟨LeD.refl _, LeD.refl _, LeD.slc fun i j hi hj => ?_, trivial⟩) ?_
  · obtain rfl : i = 0 := by have : i < 1 := hi; omega
    obtain rfl : j = 0 := by have : j < 1 := hj; omega
    exact LeD.of_eq rfl
  repeat first | refine sk ?_ | refine st ?_ | refine sg ?_ | refine sh ?_ | refine su ?_ | refine sn1 ?_ | refine sn0 ?_
  refine og (fun h => ?_) ?_
  · rw [e, Bool.not_not] at h
    have := there_iff.1 h
    exact ⟨by omega, by omega⟩
  repeat first | refine sk ?_ | refine st ?_ | refine sg ?_ | refine sh ?_ | refine su ?_ | refine sn1 ?_ | refine sn0 ?_
  refine SubR.of_eq ?_
  show vB ((!outL 0 (w64 ((g.levels.length : Int) - 1)) [i]) && (g.levels.getD i.toNat 0 != 30000)) = _
  rw [e, Bool.not_not]; rfl

/-- The first error of the ends of a way. -/
def endsErr (g : Grid) (l : List Int) : Int := bif l.all (there g) then 0 else 6
def endsG (g : Grid) (fr to : List Int) : Int := bif errG g != 0 then errG g else bif fr.isEmpty || to.isEmpty then 10 else endsErr g (fr ++ to)
theorem len0 {α : Type} {l : List α} : ((l.length : Int) == 0) = l.isEmpty := by
  cases l with
  | nil => rfl
  | cons a r => simp; omega
theorem ends (g : Grid) (fr to : List Int) (hg : g.ok) (hf : fr.length ≤ 1000) (ht : to.length ≤ 1000) : CallP Tryz.prog 46 [grid g, vInts fr, vInts to] (vI (endsG g fr to)) := by
  have hl := hg.levels
  refine callP_of_ex (rc := [70]) (N := 40) Tryz.func46 rfl rfl Tryz.call46 tab_ok mix rfl rfl (fun cx href => ?_)
  refine callN (bcheck g hl) ?_
  refine And.intro (fun h => ?_) (fun h => ?_)
  · have h : (errG g != 0) = true := h
    exact SubR.of_eq (by unfold endsG; rw [h]; rfl)
  have h : (errG g != 0) = false := h
  repeat first | refine sk ?_ | refine st ?_ | refine sg ?_ | refine sh ?_ | refine su ?_ | refine sn1 ?_ | refine sn0 ?_
  refine And.intro (fun h2 => ?_) (fun h2 => ?_)
  · have h2 : (((fr.length : Int) == 0) || ((to.length : Int) == 0)) = true := h2
    rw [len0, len0] at h2
    exact SubR.of_eq (by unfold endsG; rw [h, h2]; rfl)
  have h2 : (((fr.length : Int) == 0) || ((to.length : Int) == 0)) = false := h2
  rw [len0, len0] at h2
  have hne : 0 < fr.length ∧ 0 < to.length := by
    rw [Bool.or_eq_false_iff] at h2
    constructor
    · cases fr with
      | nil => cases h2.1
      | cons => simp
    · cases to with
      | nil => cases h2.2
      | cons => simp
  have hj : [fr, to].flatten = fr ++ to := by simp
  refine ⟨[(1001, 26)], _, _, _, _, ConcatR [fr, to] _ (fun i j hi hj => ?_) (by show 0 < 0 + fr.length + to.length; have := hne.1; omega) (by show 0 + fr.length + to.length ≤ _; omega) (by simp), rfl, ⟨rfl, trivial⟩, rfl, ?_⟩
  · have hi : i < 2 := hi
    obtain rfl : j = 0 := by omega
    match i, hi with
    | 0, _ => exact LeD.of_eq rfl
    | 1, _ => exact LeD.of_eq rfl
  rw [hj]
  have hlen : (fr ++ to).length ≤ 2000 := by rw [List.length_append]; omega
  have hres : endsG g fr to = endsErr g (fr ++ to) := by unfold endsG; rw [h, h2]; rfl
  rw [hres]
  generalize fr ++ to = l at hlen ⊢
  refine AW.loopI (fun i : Nat => ⟨[(3, .s (.ptr 3 0)), (27, vInts l), (28, vI l.length), (29, vI i)], [(3, some (gridB g))]⟩)
    (fun i => i ≤ l.length ∧ endsErr g l = endsErr g (l.drop i)) (fun i => l.length - i) 0 ⟨Nat.zero_le _, rfl⟩ ?_ ?_
  · exact SubI.of0 href [] rfl ⟨⟨rfl, LeBx.rfl⟩, trivial⟩ ⟨⟨rfl, LeQ.rfl⟩, ⟨rfl, LeQ.rfl⟩, ⟨rfl, LeQ.rfl⟩, ⟨rfl, LeQ.rfl⟩, trivial⟩
  · rintro i ⟨hi, hj⟩
    refine ex.sound (rc := [70]) tab_ok mix href _ ?_
    refine And.intro (fun h3 => ?_) (fun h3 => ?_)
    · have h3 : (i : Int) < l.length := decT h3
      have hi' : i < l.length := by omega
      rw [List.drop_eq_getElem_cons hi'] at hj
      have hx : l.getD i 0 = l[i] := by simp [hi']
      refine oi ⟨by omega, by omega⟩ ?_
      refine callN (hasG g (l.getD i 0) hg) ?_
      rw [hx, h, cond_false]
      cases ht : within l[i] 0 ((g.levels.length : Int) - 1) with
      | true =>
        have ht' : there g l[i] = true := ht
        refine And.intro (fun h4 => by cases h4) (fun _ => ?_)
        refine ⟨i + 1, ⟨by omega, ?_⟩, by omega, ?_⟩
        · rw [hj]; unfold endsErr; rw [List.all_cons, ht']; rfl
        · exact SubI.of0 href [] rfl ⟨⟨rfl, LeBx.rfl⟩, trivial⟩ ⟨⟨rfl, LeQ.rfl⟩, ⟨rfl, LeQ.rfl⟩, ⟨rfl, LeQ.rfl⟩, ⟨rfl, LeQ.int (w64_of (by omega) (by omega))⟩, trivial⟩
      | false =>
        have ht' : there g l[i] = false := ht
        refine And.intro (fun _ => ?_) (fun h4 => by cases h4)
        refine SubR.of_eq ?_
        rw [hj]; unfold endsErr; rw [List.all_cons, ht']; rfl
    · have h3 : ¬ (i : Int) < l.length := decF h3
      obtain rfl : i = l.length := by omega
      refine SubR.of_eq ?_
      rw [hj, List.drop_length]; rfl
end Go.Ch

namespace Go.Ch
open Go Go.Ax Go.Proofs Go.Proofs.Tryz
set_option maxRecDepth 100000
set_option pp.maxSteps 400
set_option maxHeartbeats 1000000

/-- The row while it is turned round: the outer k cells on each side are done. -/
def revF (l : List Int) (k : Nat) : Nat → Nat → DV := fun i _ => dI (if i < k ∨ l.length - 1 - k < i then l.getD (l.length - 1 - i) 0 else l.getD i 0)
theorem revF_step {l : List Int} {k : Nat} (hk : 2 * k + 1 < l.length) (i : Nat) (hi : i < l.length) :
    rowSet (rowSet (revF l k) k 0 [.d (dI (l.getD (l.length - 1 - k) 0))]) (l.length - 1 - k) 0 [.d (dI (l.getD k 0))] i 0 = revF l (k + 1) i 0 := by
  by_cases h1 : i = l.length - 1 - k
  · subst h1
    rw [rowSet_self]
    unfold revF
    rw [if_pos (by omega)]
    congr 2; omega
  · rw [rowSet_ne h1]
    by_cases h2 : i = k
    · subst h2
      rw [rowSet_self]
      unfold revF
      rw [if_pos (by omega)]
    · rw [rowSet_ne h2]
      unfold revF
      by_cases h3 : i < k ∨ l.length - 1 - k < i
      · rw [if_pos h3, if_pos (by omega)]
      · rw [if_neg h3, if_neg (by omega)]
theorem revF_end {l : List Int} {i : Nat} (hi : i < l.length) : revF l (l.length / 2) i 0 = intEl l.reverse i 0 := by
  unfold revF
  show dI _ = dI (l.reverse.getD i 0)
  simp only [List.getD_eq_getElem?_getD]
  rw [List.getElem?_reverse hi]
  by_cases h : i < l.length / 2 ∨ l.length - 1 - l.length / 2 < i
  · rw [if_pos h]
  · rw [if_neg h, show l.length - 1 - i = i by omega]
theorem ReverseR (l : List Int) (f0 : Nat → Nat → DV) (hf0 : ∀ i j, i < l.length → j < 1 → LeD (f0 i j) (intEl l i j)) (h0 : 0 < l.length) (hl : l.length ≤ 1000000) :
    CallR Tryz.prog 74 [.s (.own 1001)] [(1001, .row 3 l.length 1 f0)] (.t []) [(1001, .row 3 l.length 1 (revF l (l.length / 2)))] := by
  refine callQ_of_ex (rc := []) (N := 28) Tryz.func74 rfl rfl Tryz.call74 tab_ok mix rfl rfl rfl (fun cx href => ?_)
  have el : w64 ((l.length : Int) - 1) = ((l.length - 1 - 0 : Nat) : Int) := by rw [w64_of (by omega) (by omega)]; omega
  refine AW.loopI (fun k : Nat => ⟨[(0, .s (.own 1001)), (2, vI k), (3, vI ((l.length : Int) - 1 - k))], [(1001, some (.row 3 l.length 1 (revF l k)))]⟩)
    (fun k => 2 * k ≤ l.length) (fun k => l.length - k) 0 (Nat.zero_le _) ?_ ?_
  · refine SubI.of [] (by rw [href]; rfl) rfl ⟨⟨rfl, LeBx.row rfl fun i j hi hj => ?_⟩, trivial⟩ ⟨⟨rfl, LeQ.rfl⟩, ⟨rfl, LeQ.rfl⟩, ⟨rfl, LeQ.int ?_⟩, trivial⟩
    · obtain rfl : j = 0 := by omega
      have e : revF l 0 i 0 = intEl l i 0 := by unfold revF; rw [if_neg (by omega)]; rfl
      rw [e]; exact hf0 i 0 hi hj
    · exact (w64_of (by omega) (by omega)).trans (by omega)
  · intro k hk
    refine ex.sound (rc := []) tab_ok mix href _ ?_
    refine And.intro (fun h => ?_) (fun h => ?_)
    · have h : (k : Int) < (l.length : Int) - 1 - k := decT h
      refine oi ⟨by omega, by omega⟩ ?_
      refine oi (show ((l.length : Int) - 1 - k).toNat < l.length by omega) ?_
      refine oi ⟨by omega, by omega⟩ ?_
      refine oi (show ((k : Int)).toNat < l.length by omega) ?_
      refine oi ⟨by omega, by omega⟩ ?_
      refine ob (show ((k : Int)).toNat < l.length by omega) ?_
      refine oi ⟨by omega, by omega⟩ ?_
      refine ob (show ((l.length : Int) - 1 - k).toNat < l.length by omega) ?_
      refine And.intro (by kernel_rfl) ?_
      refine ⟨k + 1, by omega, by omega, ?_⟩
      refine SubI.of [] (by rw [href]; rfl) rfl ⟨⟨rfl, ?_⟩, trivial⟩ ⟨⟨rfl, LeQ.rfl⟩, ⟨rfl, LeQ.int (w64_of (by omega) (by omega))⟩, ⟨rfl, LeQ.int ?_⟩, trivial⟩
      · refine LeBx.row rfl fun i j hi hj => LeD.of_eq ?_
        obtain rfl : j = 0 := by omega
        have := revF_step (l := l) (k := k) (by omega) i hi
        rw [← this]
        show rowSet (rowSet (revF l k) ((k : Int)).toNat 0 [.d (revF l k ((l.length : Int) - 1 - k).toNat 0)]) ((l.length : Int) - 1 - k).toNat 0 [.d (revF l k ((k : Int)).toNat 0)] i 0 = _
        have e1 : ((l.length : Int) - 1 - k).toNat = l.length - 1 - k := by omega
        have e2 : revF l k (l.length - 1 - k) 0 = dI (l.getD (l.length - 1 - k) 0) := by unfold revF; rw [if_neg (by omega)]
        have e3 : revF l k k 0 = dI (l.getD k 0) := by unfold revF; rw [if_neg (by omega)]
        rw [e1, natOf, e2, e3]
      · exact (w64_of (by omega) (by omega)).trans (by omega)
    · have h : ¬ (k : Int) < (l.length : Int) - 1 - k := decF h
      obtain rfl : k = l.length / 2 := by omega
      exact ⟨rfl, trivial⟩
end Go.Ch
