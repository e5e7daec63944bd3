/- Part Ch20: lemmas that the proofs of this seat share; by itself it claims nothing. -/
import Derived.Test.YtbocnnfadfbmeaaGreatCh8
namespace Go.Ch
open Go Go.Ax Go.Proofs Go.Proofs.Tryz
set_option maxRecDepth 100000
set_option pp.maxSteps 400
set_option maxHeartbeats 1000000

abbrev zeroF : Nat → Nat → DV := fun _ j => match (zvs ty3.zero)[j]? with | some c => dOf c | none => .junk
theorem GrowO (n : Nat) (h0 : 0 < n) (hn : n ≤ 1000000) : CallR Tryz.prog 119 [.s (.d (.val (.slice none 0 0))), vI n] [] (.s (.osl 22 1 0 0)) [(22, .row 3 n 1 zeroF)] := by
  have e : w64 ((n : Int) - w64 (0 - 0)) = n := by rw [w64_of (n := 0 - 0) (by decide) (by decide), w64_of (by omega) (by omega)]; omega
  refine callO_of_ex (rc := []) (N := 27) Tryz.func119 rfl rfl Tryz.call119 tab_ok mix rfl rfl rfl rfl (fun cx href => ?_)
  refine And.intro (fun h => absurd (decT h) (by omega)) (fun _ => ?_)
  refine And.intro (fun _ => ?_) (fun h => ?_)
  · refine oi ⟨rfl, rfl⟩ ?_
    refine ob (show 0 < w64 ((n : Int) - w64 (0 - 0)) by omega) ?_
    refine ob (show w64 ((n : Int) - w64 (0 - 0)) * ((8 : Nat) : Int) ≤ _ by omega) ?_
    refine oi ⟨Int.le_refl _, Int.le_refl _, by show (0 : Int) ≤ _; omega⟩ ?_
    refine ⟨LeQ.rfl, ?_, trivial⟩
    show some (some (Box.row 3 (w64 ((n : Int) - w64 (0 - 0))).toNat 1 _)) = _
    rw [e]; rfl
  · exfalso
    have h : decide (w64 ((n : Int) - w64 (0 - 0)) > 0) = false := h
    rw [e] at h
    simp at h; omega
end Go.Ch

namespace Go.Ch
open Go Go.Ax Go.Proofs Go.Proofs.Tryz
set_option maxRecDepth 100000
set_option pp.maxSteps 400
set_option maxHeartbeats 1000000

/-- How many cells the first lists have. -/
def lensL (l : List (List Int)) : Nat → Nat
  | 0 => 0
  | i + 1 => lensL l i + (l.getD i default).length
theorem lensL_take {l : List (List Int)} : ∀ i, i ≤ l.length → lensL l i = ((l.take i).flatten).length
  | 0, _ => rfl
  | i + 1, hi => by
    have hi' : i < l.length := by omega
    rw [lensL, lensL_take i (by omega), List.take_succ_eq_append_getElem hi', List.flatten_append, List.length_append, getD_of hi']
    simp
theorem lensL_le {l : List (List Int)} : ∀ j i, i ≤ j → lensL l i ≤ lensL l j
  | 0, i, h => by obtain rfl : i = 0 := by omega
                  exact Nat.le_refl _
  | j + 1, i, h => by
    by_cases hij : i = j + 1
    · rw [hij]; exact Nat.le_refl _
    · have := lensL_le (l := l) j i (by omega)
      rw [lensL]; omega
abbrev intsEl (l : List (List Int)) : Nat → Nat → DV := fun i _ => dInts (l.getD i default)
theorem ConcatR (l : List (List Int)) (f0 : Nat → Nat → DV) (hf0 : ∀ i j, i < l.length → j < 1 → LeD (f0 i j) (intsEl l i j)) (hpos : 0 < lensL l l.length) (hn : lensL l l.length ≤ 1000000) (hl : l.length ≤ 1000) :
    CallR Tryz.prog 97 [.s (.own 1001)] [(1001, .row 26 l.length 1 f0)] (vInts l.flatten) [(1001, .row 26 l.length 1 (intsEl l))] := by
  refine callR_of_ex (rc := [119]) (N := 36) Tryz.func97 rfl rfl Tryz.call97 tab_ok mix rfl rfl rfl rfl (fun cx href => ?_)
  refine AW.loopI (fun i : Nat => ⟨[(0, .s (.own 1001)), (3, vI (lensL l i)), (9, .s (.own 1001)), (10, vI l.length), (11, vI i)], [(1001, some (.row 26 l.length 1 (intsEl l)))]⟩)
    (fun i => i ≤ l.length) (fun i => l.length - i) 0 (Nat.zero_le _) ?_ ?_
  · exact SubI.of [] (by rw [href]; rfl) rfl ⟨⟨rfl, LeBx.row rfl hf0⟩, trivial⟩ ⟨⟨rfl, LeQ.rfl⟩, ⟨rfl, LeQ.rfl⟩, ⟨rfl, LeQ.rfl⟩, ⟨rfl, LeQ.rfl⟩, ⟨rfl, LeQ.rfl⟩, trivial⟩
  · intro i hi
    refine ex.sound (rc := [119]) tab_ok mix href _ ?_
    refine And.intro (fun h => ?_) (fun h => ?_)
    · have h : (i : Int) < l.length := decT h
      have hle := lensL_le (l := l) l.length (i + 1) (by omega)
      have ew : w64 ((lensL l i : Int) + ((l.getD i default).length : Int)) = (lensL l (i + 1) : Int) := by
        rw [lensL] at hle ⊢
        rw [w64_of (by omega) (by omega)]; omega
      refine oi ⟨by omega, by omega⟩ ?_
      refine oi (show (i : Int).toNat < l.length by omega) ?_
      refine And.intro (fun h2 => ?_) (fun _ => ?_)
      · exfalso
        have h2 : w64 ((lensL l i : Int) + ((l.getD i default).length : Int)) < 0 := decT h2
        rw [ew] at h2; omega
      refine ⟨i + 1, by omega, by omega, ?_⟩
      exact SubI.of [] (by rw [href]; rfl) rfl ⟨⟨rfl, LeBx.rfl⟩, trivial⟩ ⟨⟨rfl, LeQ.rfl⟩, ⟨rfl, LeQ.int ew⟩, ⟨rfl, LeQ.rfl⟩, ⟨rfl, LeQ.rfl⟩, ⟨rfl, LeQ.int (w64_of (by omega) (by omega))⟩, trivial⟩
    · have h : ¬ (i : Int) < l.length := decF h
      obtain rfl : i = l.length := by omega
      refine ⟨[(22, 100)], _, _, _, _, GrowO (lensL l l.length) hpos hn, rfl, trivial, rfl, ?_⟩
      refine AW.loopI (fun s : Nat × Nat × (Nat → Nat → DV) => ⟨[(6, .s (.osl 100 1 0 (lensL l s.1))), (25, .s (.own 1001)), (26, vI l.length), (27, vI s.1)], [(1001, some (.row 26 l.length 1 (intsEl l))), (100, some (.row 3 s.2.1 1 s.2.2))]⟩)
        (fun s => s.1 ≤ l.length ∧ lensL l s.1 ≤ s.2.1 ∧ ∀ k, k < lensL l s.1 → s.2.2 k 0 = dI (((l.take s.1).flatten).getD k 0)) (fun s => l.length - s.1) (0, lensL l l.length, zeroF) ⟨Nat.zero_le _, Nat.zero_le _, fun k hk => absurd hk (Nat.not_lt_zero k)⟩ ?_ ?_
      · exact SubI.of [] (by rw [href]; rfl) rfl ⟨⟨rfl, LeBx.rfl⟩, ⟨rfl, LeBx.rfl⟩, trivial⟩ ⟨⟨rfl, LeQ.rfl⟩, ⟨rfl, LeQ.rfl⟩, ⟨rfl, LeQ.rfl⟩, ⟨rfl, LeQ.rfl⟩, trivial⟩
      · rintro ⟨i, R, f⟩ ⟨hi, hR, hf⟩
        simp only at hi hR hf ⊢
        refine ex.sound (rc := [119]) tab_ok mix href _ ?_
        refine And.intro (fun h => ?_) (fun h => ?_)
        · have h : (i : Int) < l.length := decT h
          have hi' : i < l.length := by omega
          have hle := lensL_le (l := l) l.length (i + 1) (by omega)
          have hs : lensL l (i + 1) = lensL l i + (l.getD i default).length := rfl
          have hcell : ∀ k, k < lensL l (i + 1) → catF (lensL l i) f (intEl (l.getD i default)) k 0 = dI (((l.take (i + 1)).flatten).getD k 0) := by
            intro k hk
            rw [List.take_succ_eq_append_getElem hi', List.flatten_append]
            have hlt := lensL_take i hi
            unfold catF
            by_cases hk2 : k < lensL l i
            · rw [if_pos hk2, hf k hk2]
              simp only [List.getD_eq_getElem?_getD]
              rw [List.getElem?_append_left (by omega)]
            · rw [if_neg hk2]
              show dI ((l.getD i default).getD (k - lensL l i) 0) = _
              simp only [List.getD_eq_getElem?_getD]
              rw [List.getElem?_append_right (by omega), ← hlt]
              simp [hi']
          refine oi ⟨by omega, by omega⟩ ?_
          refine oi (show (i : Int).toNat < l.length by omega) ?_
          refine ob (Nat.zero_le _) ?_
          refine ob (show (0 + lensL l i + (l.getD i default).length) * 8 ≤ _ by omega) ?_
          refine ob (fun k j _ _ => rfl) ?_
          refine And.intro ?_ ?_
          · refine ⟨(i + 1, 0 + lensL l i + (l.getD i default).length, catF (0 + lensL l i) f (intEl (l.getD i default))), ⟨by simp only; omega, by simp only; omega, fun k hk => ?_⟩, by simp only; omega, ?_⟩
            · simp only [Nat.zero_add] at hk ⊢
              exact hcell k hk
            · exact SubI.of [(100, 33)] (by rw [href]; rfl) rfl ⟨⟨rfl, LeBx.rfl⟩, ⟨rfl, LeBx.rfl⟩, trivial⟩ ⟨⟨rfl, LeQ.rfl⟩, ⟨rfl, LeQ.rfl⟩, ⟨rfl, LeQ.rfl⟩, ⟨rfl, LeQ.int (w64_of (by omega) (by omega))⟩, trivial⟩
          · refine ⟨(i + 1, lensL l i + (l.getD i default).length, catF (lensL l i) (fun i => f (0 + i)) (intEl (l.getD i default))), ⟨by simp only; omega, by simp only; omega, fun k hk => ?_⟩, by simp only; omega, ?_⟩
            · simp only [Nat.zero_add] at hk ⊢
              exact hcell k hk
            · exact SubI.of [(100, 33)] (by rw [href]; rfl) rfl ⟨⟨rfl, LeBx.rfl⟩, ⟨rfl, LeBx.rfl⟩, trivial⟩ ⟨⟨rfl, LeQ.rfl⟩, ⟨rfl, LeQ.rfl⟩, ⟨rfl, LeQ.rfl⟩, ⟨rfl, LeQ.int (w64_of (by omega) (by omega))⟩, trivial⟩
        · have h : ¬ (i : Int) < l.length := decF h
          obtain rfl : i = l.length := by omega
          have hlt := lensL_take l.length (Nat.le_refl l.length)
          rw [List.take_length] at hlt
          refine ⟨?_, ?_⟩
          rotate_left
          · exact ⟨rfl, trivial⟩
          refine SubR.le (LeD.slc' hlt fun k j hk hj => LeD.of_eq ?_)
          have hj : j = 0 := by have : j < 1 := hj; omega
          subst hj
          have := hf k hk
          rw [List.take_length] at this
          show f (0 + k) 0 = _
          rw [Nat.zero_add, this]; rfl
end Go.Ch

namespace Go.Ch
open Go Go.Ax Go.Proofs Go.Proofs.Tryz
set_option maxRecDepth 100000
set_option pp.maxSteps 400
set_option maxHeartbeats 1000000

def idxI (l : List Int) (x : Int) : Nat → Nat → Int
  | 0, _ => -1
  | n + 1, i => bif x == l.getD i 0 then (i : Int) else idxI l x n (i + 1)
theorem IndexI (l : List Int) (x : Int) (hl : l.length ≤ 1000000) : CallP Tryz.prog 122 [vInts l, vI x] (vI (idxI l x l.length 0)) := by
  refine callP_of_ex (rc := []) (N := 19) Tryz.func122 rfl rfl Tryz.call122 tab_ok mix rfl rfl (fun cx href => ?_)
  refine AW.loopI (fun i : Nat => ⟨[(0, vInts l), (1, vI x), (7, vI l.length), (8, vI i)], []⟩) (fun i => i ≤ l.length ∧ idxI l x l.length 0 = idxI l x (l.length - i) i) (fun i => l.length - i) 0 ⟨Nat.zero_le _, rfl⟩ ?_ ?_
  · exact SubI.of0 href [] rfl trivial ⟨⟨rfl, LeQ.rfl⟩, ⟨rfl, LeQ.rfl⟩, ⟨rfl, LeQ.rfl⟩, ⟨rfl, LeQ.rfl⟩, trivial⟩
  · rintro i ⟨hi, hj⟩
    refine ex.sound (rc := []) tab_ok mix href _ ?_
    refine And.intro (fun h => ?_) (fun h => ?_)
    · have h : (i : Int) < l.length := decT h
      rw [show l.length - i = (l.length - (i + 1)) + 1 by omega, idxI] at hj
      refine oi ⟨by omega, by omega⟩ ?_
      refine And.intro (fun h2 => ?_) (fun h2 => ?_)
      · have h2 : (x == l.getD i 0) = true := h2
        exact SubR.of_eq (by rw [hj, h2]; rfl)
      · have h2 : (x == l.getD i 0) = false := h2
        refine ⟨i + 1, ⟨by omega, by rw [hj, h2]; rfl⟩, by omega, ?_⟩
        exact SubI.of0 href [] rfl trivial ⟨⟨rfl, LeQ.rfl⟩, ⟨rfl, LeQ.rfl⟩, ⟨rfl, LeQ.rfl⟩, ⟨rfl, LeQ.int (w64_of (by omega) (by omega))⟩, trivial⟩
    · have h : ¬ (i : Int) < l.length := decF h
      rw [show l.length - i = 0 by omega] at hj
      exact SubR.of_eq (by rw [hj]; rfl)
theorem idxI_mem {l : List Int} {x : Int} : ∀ n i, i + n = l.length → decide (idxI l x n i ≥ 0) = (l.drop i).contains x
  | 0, i, h => by
    rw [List.drop_eq_nil_of_le (by omega)]; rfl
  | n + 1, i, h => by
    have hi : i < l.length := by omega
    rw [idxI, List.drop_eq_getElem_cons hi]
    have e : l.getD i 0 = l[i] := by simp [hi]
    rw [e]
    cases hx : x == l[i] with
    | true =>
      simp only [cond_true, List.contains_cons, hx, Bool.true_or]
      exact decide_eq_true (by omega)
    | false =>
      simp only [cond_false, List.contains_cons, hx, Bool.false_or]
      exact idxI_mem n (i + 1) (by omega)
theorem ContainsI (l : List Int) (x : Int) (hl : l.length ≤ 1000000) : CallP Tryz.prog 99 [vInts l, vI x] (vB (l.contains x)) := by
  refine callP_of_ex (rc := []) (N := 9) Tryz.func99 rfl rfl Tryz.call99 tab_ok mix rfl rfl (fun cx href => ?_)
  refine callN (IndexI l x hl) ?_
  refine SubR.of_eq ?_
  show vB (decide (idxI l x l.length 0 ≥ 0)) = _
  rw [idxI_mem l.length 0 (by omega)]; rfl
end Go.Ch

namespace Go.Ch
open Go Go.Ax Go.Proofs Go.Proofs.Tryz
set_option maxRecDepth 100000
set_option pp.maxSteps 400
set_option maxHeartbeats 1000000

theorem hasG (g : Grid) (i : Int) (hg : g.ok) : CallP Tryz.prog 88 [grid g, vI i] (vI (bif errG g != 0 then errG g else bif within i 0 ((g.levels.length : Int) - 1) then 0 else 6)) := by
  have hl := hg.levels
  refine callP_of_ex (rc := []) (N := 19) Tryz.func88 rfl rfl Tryz.call88 tab_ok mix rfl rfl (fun cx _ => ?_)
  refine callN (bcheck g hl) ?_
  refine And.intro (fun h => ?_) (fun h => ?_)
  · have h : (errG g != 0) = true := h
    exact SubR.of_eq (by rw [h]; rfl)
  have h : (errG g != 0) = false := h
  have hn : g.levels.length ≤ 1024 := (GVal.of (show errG g = 0 by simpa using h)).n
  have e : outL 0 (w64 ((g.levels.length : Int) - 1)) [i] = !within i 0 ((g.levels.length : Int) - 1) := by
    rw [w64_of (by omega) (by omega)]; simp [outL]
  refine callN ((bbetween 0 (w64 ((g.levels.length : Int) - 1)) [i] (by simp)).conv (args' := _) ⟨LeD.refl _, LeD.refl _, LeD.slc fun i j hi hj => ?_, trivial⟩) ?_
  · obtain rfl : i = 0 := by have : i < 1 := hi; omega
    obtain rfl : j = 0 := by have : j < 1 := hj; omega
    exact LeD.of_eq rfl
  rw [e, h]
  refine And.intro (fun h2 => ?_) (fun h2 => ?_)
  · have h2 : (!(!(!within i 0 ((g.levels.length : Int) - 1)))) = true := h2
    rw [Bool.not_not] at h2
    have h3 : within i 0 ((g.levels.length : Int) - 1) = false := by simpa using h2
    exact SubR.of_eq (by rw [h3]; rfl)
  · have h2 : (!(!(!within i 0 ((g.levels.length : Int) - 1)))) = false := h2
    rw [Bool.not_not] at h2
    have h3 : within i 0 ((g.levels.length : Int) - 1) = true := by simpa using h2
    exact SubR.of_eq (by rw [h3]; rfl)
end Go.Ch

namespace Go.Ch
open Go Go.Ax Go.Proofs Go.Proofs.Tryz
set_option maxRecDepth 100000
set_option pp.maxSteps 400
set_option maxHeartbeats 1000000

/-- The neighbours of a cell. -/
def nearL (g : Grid) (i : Int) : List Int :=
  (((bif decide (i ≥ g.cols) then [i - g.cols] else []) ++ (bif decide (i % g.cols > 0) then [i - 1] else [])) ++ (bif decide (i % g.cols < g.cols - 1) then [i + 1] else [])) ++ (bif decide (i + g.cols < g.levels.length) then [i + g.cols] else [])
abbrev nearS (g : Grid) (i : Int) (l : List Int) : St := ⟨[(2, .s (.ptr 2 0)), (1, vI i), (5, .s (.mo l.isEmpty 100))], [(2, some (gridB g)), (100, some (.mrow 3 l.length 1 (intEl l)))]⟩
theorem nearRow {l : List Int} {n : Nat} {f g : Nat → Nat → DV} (h : RowIs 1 n f (fun x _ => dI x) l) {y : Int} (hy : g 0 0 = dI y) :
    LeBx (.row 3 (n + 1) 1 (catF n f g)) (.mrow 3 (l ++ [y]).length 1 (intEl (l ++ [y]))) :=
  RowIs.mrow (el := fun x _ => dI x) (RowIs.snoc h (lt1 hy))
theorem len1 {b : Bool} {x : Int} : (bif b then [x] else []).length ≤ 1 := by cases b <;> simp
theorem nearMe (g : Grid) (i : Int) (hg : GVal g) (h0 : 0 ≤ i) (hi : i < g.levels.length) : g.cols ≠ 0 ∧ i.tmod g.cols = i % g.cols ∧ w64 (g.cols - 1) = g.cols - 1 ∧ w64 (i - g.cols) = i - g.cols ∧ w64 (i + g.cols) = i + g.cols ∧ w64 (i + 1) = i + 1 ∧ w64 (i - 1) = i - 1 := by
  have hn := hg.n
  have hc := hg.cols
  have hm := Int.emod_lt_of_pos i (show 0 < g.cols by omega)
  have hp := Int.emod_nonneg i (show g.cols ≠ 0 by omega)
  refine ⟨by omega, ?_, w64_of (by omega) (by omega), w64_of (by omega) (by omega), w64_of (by omega) (by omega), w64_of (by omega) (by omega), w64_of (by omega) (by omega)⟩
  exact Int.tmod_eq_emod_of_nonneg h0
theorem near (g : Grid) (i : Int) (hg : GVal g) (h0 : 0 ≤ i) (hi : i < g.levels.length) : CallP Tryz.prog 100 [grid g, vI i] (vInts (nearL g i)) := by
  have hn := hg.n
  obtain ⟨hc0, er, ec, es, ea, ea1, es1⟩ := nearMe g i hg h0 hi
  refine callP_of_aw Tryz.func100 rfl rfl Tryz.call100 tab_ok rfl rfl (fun cx href => ?_)
  refine AW.seq (ex.sound (rc := []) tab_ok mix href _ ?_)
  refine AW.seq (ex.sound (rc := []) tab_ok mix href _ ?_)
  refine AW.cut (σ' := nearS g i (bif decide (i ≥ g.cols) then [i - g.cols] else [])) (ex.sound (rc := []) tab_ok mix href _ ?_) ?_
  · refine And.intro (fun h => ?_) (fun h => ?_)
    · have h : decide (i ≥ g.cols) = true := h
      rw [h]
      refine ob (by decide) ?_
      refine ob (by decide) ?_
      refine ⟨rfl, SubI.of0 href [(100, 16)] rfl ⟨⟨rfl, LeBx.rfl⟩, ⟨rfl, ?_⟩, trivial⟩ ⟨⟨rfl, LeQ.rfl⟩, ⟨rfl, LeQ.rfl⟩, ⟨rfl, LeQ.mo rfl⟩, trivial⟩⟩
      exact RowIs.mrow (el := fun x _ => dI x) (RowIs.one (lt1 (congrArg dI es)))
    · have h : decide (i ≥ g.cols) = false := h
      rw [h]
      refine ⟨rfl, SubI.of0 href [(100, 1000)] rfl ⟨⟨rfl, LeBx.rfl⟩, ⟨rfl, rfl⟩, trivial⟩ ⟨⟨rfl, LeQ.rfl⟩, ⟨rfl, LeQ.rfl⟩, ⟨rfl, LeQ.nil rfl⟩, trivial⟩⟩
  have l1 := len1 (b := decide (i ≥ g.cols)) (x := i - g.cols)
  have l2 := len1 (b := decide (i % g.cols > 0)) (x := i - 1)
  have l3 := len1 (b := decide (i % g.cols < g.cols - 1)) (x := i + 1)
  have l4 := len1 (b := decide (i + g.cols < g.levels.length)) (x := i + g.cols)
  unfold nearL
  generalize hA : (bif decide (i ≥ g.cols) then [i - g.cols] else []) = A at l1 ⊢
  clear hA
  generalize hB : (bif decide (i % g.cols > 0) then [i - 1] else []) = B at l2 ⊢
  refine AW.cut (σ' := nearS g i (A ++ B)) (ex.sound (rc := []) tab_ok mix href _ ?_) ?_
  · refine oi hc0 ?_
    refine And.intro (fun h => ?_) (fun h => ?_)
    · have h : decide (i.tmod g.cols > 0) = true := h
      rw [er] at h
      rw [h, cond_true] at hB
      subst hB
      refine ob (by decide) ?_
      refine ob (by rw [bif_len]; show _ * 8 ≤ _; omega) ?_
      refine ob (fit1 (lt1 rfl)) ?_
      refine ⟨rfl, SubI.of0 href [(100, 26)] rfl ⟨⟨rfl, LeBx.rfl⟩, ⟨rfl, nearRow intRow (congrArg dI es1)⟩, trivial⟩ ⟨⟨rfl, LeQ.rfl⟩, ⟨rfl, LeQ.rfl⟩, ⟨rfl, LeQ.mo (isEmpty_snoc _ _)⟩, trivial⟩⟩
    · have h : decide (i.tmod g.cols > 0) = false := h
      rw [er] at h
      rw [h] at hB
      subst hB
      rw [cond_false, List.append_nil]
      exact ⟨rfl, SubI.of0 href [] rfl ⟨⟨rfl, LeBx.rfl⟩, ⟨rfl, LeBx.rfl⟩, trivial⟩ ⟨⟨rfl, LeQ.rfl⟩, ⟨rfl, LeQ.rfl⟩, ⟨rfl, LeQ.rfl⟩, trivial⟩⟩
  have l12 : (A ++ B).length ≤ 2 := by rw [List.length_append]; omega
  clear hB l1 l2
  generalize A ++ B = A at l12 ⊢
  generalize hB : (bif decide (i % g.cols < g.cols - 1) then [i + 1] else []) = B at l3 ⊢
  refine AW.cut (σ' := nearS g i (A ++ B)) (ex.sound (rc := []) tab_ok mix href _ ?_) ?_
  · refine oi hc0 ?_
    refine And.intro (by kernel_rfl) ?_
    refine And.intro (fun h => ?_) (fun h => ?_)
    · have h : decide (i.tmod g.cols < w64 (g.cols - 1)) = true := h
      rw [er, ec] at h
      rw [h, cond_true] at hB
      subst hB
      refine ob (by decide) ?_
      refine ob (by rw [bif_len]; show _ * 8 ≤ _; omega) ?_
      refine ob (fit1 (lt1 rfl)) ?_
      refine ⟨rfl, SubI.of0 href [(100, 39)] rfl ⟨⟨rfl, LeBx.rfl⟩, ⟨rfl, nearRow intRow (congrArg dI ea1)⟩, trivial⟩ ⟨⟨rfl, LeQ.rfl⟩, ⟨rfl, LeQ.rfl⟩, ⟨rfl, LeQ.mo (isEmpty_snoc _ _)⟩, trivial⟩⟩
    · have h : decide (i.tmod g.cols < w64 (g.cols - 1)) = false := h
      rw [er, ec] at h
      rw [h] at hB
      subst hB
      rw [cond_false, List.append_nil]
      exact ⟨rfl, SubI.of0 href [] rfl ⟨⟨rfl, LeBx.rfl⟩, ⟨rfl, LeBx.rfl⟩, trivial⟩ ⟨⟨rfl, LeQ.rfl⟩, ⟨rfl, LeQ.rfl⟩, ⟨rfl, LeQ.rfl⟩, trivial⟩⟩
  have l13 : (A ++ B).length ≤ 3 := by rw [List.length_append]; omega
  clear hB l3 l12
  generalize A ++ B = A at l13 ⊢
  generalize hB : (bif decide (i + g.cols < g.levels.length) then [i + g.cols] else []) = B at l4 ⊢
  refine AW.cut (σ' := nearS g i (A ++ B)) (ex.sound (rc := []) tab_ok mix href _ ?_) ?_
  · refine And.intro (fun h => ?_) (fun h => ?_)
    · have h : decide (w64 (i + g.cols) < (g.levels.length : Int)) = true := h
      rw [ea] at h
      rw [h, cond_true] at hB
      subst hB
      refine ob (by decide) ?_
      refine ob (by rw [bif_len]; show _ * 8 ≤ _; omega) ?_
      refine ob (fit1 (lt1 rfl)) ?_
      refine ⟨rfl, SubI.of0 href [(100, 54)] rfl ⟨⟨rfl, LeBx.rfl⟩, ⟨rfl, nearRow intRow (congrArg dI ea)⟩, trivial⟩ ⟨⟨rfl, LeQ.rfl⟩, ⟨rfl, LeQ.rfl⟩, ⟨rfl, LeQ.mo (isEmpty_snoc _ _)⟩, trivial⟩⟩
    · have h : decide (w64 (i + g.cols) < (g.levels.length : Int)) = false := h
      rw [ea] at h
      rw [h] at hB
      subst hB
      rw [cond_false, List.append_nil]
      exact ⟨rfl, SubI.of0 href [] rfl ⟨⟨rfl, LeBx.rfl⟩, ⟨rfl, LeBx.rfl⟩, trivial⟩ ⟨⟨rfl, LeQ.rfl⟩, ⟨rfl, LeQ.rfl⟩, ⟨rfl, LeQ.rfl⟩, trivial⟩⟩
  clear hB
  generalize A ++ B = A
  refine ex.sound (rc := []) tab_ok mix href _ ?_
  exact SubR.mo
end Go.Ch

/- A search through cells, as plain lists: what 'way' computes. -/
namespace Go.Ch
open Go.Ax

theorem findM_set (k v x : Int) : ∀ l : List (Int × Int), findM (setM l k v) x = bif x == k then some v else findM l x
  | [] => rfl
  | (a, u) :: r => by
    rw [setM]
    cases hk : k == a with
    | true =>
      simp only [cond_true, findM]
      have : k = a := by simpa using hk
      subst this
      cases x == k <;> rfl
    | false =>
      simp only [cond_false, findM, findM_set k v x r]
      cases hx : x == a with
      | true =>
        have : x = a := by simpa using hx
        subst this
        have : (x == k) = false := by
          cases h : x == k with
          | false => rfl
          | true => have : x = k := by simpa using h
                    subst this; simp at hk
        rw [this]; rfl
      | false => rfl
theorem hasM_set {l : List (Int × Int)} {k v x : Int} : hasM (setM l k v) x = (x == k || hasM l x) := by
  unfold hasM
  rw [findM_set]
  cases x == k <;> simp
theorem getM_set {l : List (Int × Int)} {k v x : Int} : getM (setM l k v) x = bif x == k then v else getM l x := by
  unfold getM
  rw [findM_set]
  cases x == k <;> simp
theorem setM_new {k v : Int} : ∀ {l : List (Int × Int)}, hasM l k = false → setM l k v = l ++ [(k, v)]
  | [], _ => rfl
  | (a, u) :: r, h => by
    unfold hasM at h
    rw [findM] at h
    cases hk : k == a with
    | true => rw [hk] at h; cases h
    | false =>
      rw [hk] at h
      rw [setM, hk]
      exact congrArg ((a, u) :: ·) (setM_new (l := r) h)
theorem hasM_mem {x : Int} : ∀ {l : List (Int × Int)}, hasM l x = true ↔ x ∈ l.map (·.1)
  | [] => by simp [hasM, findM]
  | (a, u) :: r => by
    have h := hasM_mem (x := x) (l := r)
    unfold hasM at h ⊢
    rw [findM]
    cases hk : x == a with
    | true =>
      have : x = a := by simpa using hk
      subst this
      simp
    | false =>
      have : ¬ x = a := by simpa using hk
      simp [this, h]

/-- The place of a key. -/
def posM : List (Int × Int) → Int → Nat
  | [], _ => 0
  | (a, _) :: r, k => bif k == a then 0 else posM r k + 1
theorem posM_lt {x : Int} : ∀ {l : List (Int × Int)}, hasM l x = true → posM l x < l.length
  | [], h => by simp [hasM, findM] at h
  | (a, u) :: r, h => by
    rw [posM]
    cases hk : x == a with
    | true => simp
    | false =>
      have : hasM r x = true := by
        unfold hasM at h ⊢
        rw [findM, hk] at h
        exact h
      have := posM_lt this
      simp; omega
theorem posM_old {x k v : Int} : ∀ {l : List (Int × Int)}, hasM l x = true → posM (l ++ [(k, v)]) x = posM l x
  | [], h => by simp [hasM, findM] at h
  | (a, u) :: r, h => by
    rw [List.cons_append, posM, posM]
    cases hk : x == a with
    | true => rfl
    | false =>
      have : hasM r x = true := by
        unfold hasM at h ⊢
        rw [findM, hk] at h
        exact h
      simp only [cond_false, posM_old this]
theorem posM_new {k v : Int} : ∀ {l : List (Int × Int)}, hasM l k = false → posM (l ++ [(k, v)]) k = l.length
  | [], _ => by simp [posM]
  | (a, u) :: r, h => by
    have hk : (k == a) = false := by
      cases hk : k == a with
      | false => rfl
      | true => unfold hasM at h; rw [findM, hk] at h; cases h
    have h' : hasM r k = false := by
      unfold hasM at h ⊢
      rw [findM, hk] at h
      exact h
    rw [List.cons_append, posM, hk, cond_false, posM_new h', List.length_cons]

theorem countP_drop {α : Type} {p q : α → Bool} : ∀ {l : List α}, (∀ x ∈ l, q x = true → p x = true) → (∃ x ∈ l, p x = true ∧ q x = false) → l.countP q + 1 ≤ l.countP p
  | [], _, ⟨_, h, _⟩ => by cases h
  | y :: r, h, ⟨x, hx, hp, hq⟩ => by
    have hr : r.countP q ≤ r.countP p := List.countP_mono_left fun z hz => h z (List.mem_cons_of_mem _ hz)
    rw [List.countP_cons, List.countP_cons]
    rcases List.mem_cons.1 hx with rfl | hx
    · rw [hp, hq]; simp; omega
    · have := countP_drop (p := p) (q := q) (l := r) (fun z hz => h z (List.mem_cons_of_mem _ hz)) ⟨x, hx, hp, hq⟩
      have h1 := h y (List.mem_cons_self ..)
      cases hq' : q y with
      | false => simp; cases p y <;> simp <;> omega
      | true => rw [h1 hq']; simp; omega

/-- How many cells have not been seen. -/
def unseen (n : Nat) (b : List (Int × Int)) : Nat := (List.range n).countP fun i : Nat => !hasM b (i : Int)
theorem unseen_set {n : Nat} {b : List (Int × Int)} {k v : Int} (h0 : 0 ≤ k) (hn : k < n) (h : hasM b k = false) : unseen n (setM b k v) + 1 ≤ unseen n b := by
  refine countP_drop (fun x _ hx => ?_) ⟨k.toNat, List.mem_range.2 (by omega), ?_, ?_⟩
  · rw [hasM_set] at hx
    cases hb : hasM b (x : Int) with
    | false => rfl
    | true => rw [hb] at hx; simp at hx
  · rw [show ((k.toNat : Nat) : Int) = k by omega, h]; rfl
  · rw [hasM_set, show ((k.toNat : Nat) : Int) = k by omega]; simp

abbrev BS := List (Int × Int) × List Int
def seedS (ok : Int → Bool) (s : BS) (i : Int) : BS := bif !hasM s.1 i && ok i then (setM s.1 i i, s.2 ++ [i]) else s
def pushS (ok : Int → Bool) (i : Int) (s : BS) (k : Int) : BS := bif hasM s.1 k || !ok k then s else (setM s.1 k i, s.2 ++ [k])
def seedL (ok : Int → Bool) (l : List Int) : BS := l.foldl (seedS ok) ([], [])
def pushL (ok : Int → Bool) (i : Int) (l : List Int) (s : BS) : BS := l.foldl (pushS ok i) s
def searchL (ok : Int → Bool) (nr : Int → List Int) (to : List Int) : Nat → BS → BS
  | 0, s => s
  | _ + 1, (b, []) => (b, [])
  | m + 1, (b, i :: r) => bif to.contains i then (b, i :: r) else searchL ok nr to m ((pushL ok i (nr i) (b, i :: r)).1, (pushL ok i (nr i) (b, i :: r)).2.tail)
def backL (b : List (Int × Int)) : Nat → Int → List Int → List Int
  | 0, _, out => out
  | m + 1, i, out => bif getM b i == i then out else backL b m (getM b i) (out ++ [getM b i])
def wayS (n : Nat) (ok : Int → Bool) (nr : Int → List Int) (fr to : List Int) : BS := searchL ok nr to n (seedL ok fr)
def wayL (n : Nat) (ok : Int → Bool) (nr : Int → List Int) (fr to : List Int) : List Int :=
  match (wayS n ok nr fr to).2 with
  | [] => []
  | i :: _ => (backL (wayS n ok nr fr to).1 (wayS n ok nr fr to).1.length i [i]).reverse

/-- What holds at each step of the search. -/
structure Bw (n : Nat) (ok : Int → Bool) (s : BS) : Prop where
  mem : ∀ x ∈ s.2, hasM s.1 x = true
  par : ∀ k, hasM s.1 k = true → getM s.1 k = k ∨ (hasM s.1 (getM s.1 k) = true ∧ posM s.1 (getM s.1 k) < posM s.1 k)
  key : ∀ k, hasM s.1 k = true → ok k = true
  cnt : s.1.length + unseen n s.1 ≤ n
def muS (n : Nat) (s : BS) : Nat := s.2.length + unseen n s.1
theorem Bw.put {n : Nat} {ok : Int → Bool} {s : BS} {k v : Int} (h : Bw n ok s) (hok : ∀ i, ok i = true → 0 ≤ i ∧ i < n) (hk : ok k = true) (hn : hasM s.1 k = false) (hv : v = k ∨ hasM s.1 v = true) :
    Bw n ok (setM s.1 k v, s.2 ++ [k]) ∧ muS n (setM s.1 k v, s.2 ++ [k]) ≤ muS n s := by
  have hr := hok k hk
  have hu := unseen_set (v := v) hr.1 hr.2 hn
  have hl := setM_new (v := v) hn
  have hc := h.cnt
  refine ⟨⟨?_, ?_, ?_, ?_⟩, ?_⟩
  · intro x hx
    show hasM (setM s.1 k v) x = true
    rw [hasM_set]
    rcases List.mem_append.1 hx with hx | hx
    · rw [h.mem x hx]; simp
    · have : x = k := by simpa using hx
      subst this; simp
  · intro x hx
    show getM (setM s.1 k v) x = x ∨ (hasM (setM s.1 k v) (getM (setM s.1 k v) x) = true ∧ posM (setM s.1 k v) (getM (setM s.1 k v) x) < posM (setM s.1 k v) x)
    have hx : hasM (setM s.1 k v) x = true := hx
    rw [hasM_set] at hx
    cases hxk : x == k with
    | true =>
      have : x = k := by simpa using hxk
      subst this
      rw [getM_set, hxk, cond_true]
      rcases hv with rfl | hv
      · exact .inl rfl
      · refine .inr ⟨by rw [hasM_set, hv]; simp, ?_⟩
        rw [hl, posM_old hv, posM_new hn]
        exact posM_lt hv
    | false =>
      rw [hxk, Bool.false_or] at hx
      rw [getM_set, hxk, cond_false]
      rcases h.par x hx with e | ⟨e, p⟩
      · exact .inl e
      · refine .inr ⟨by rw [hasM_set, e]; simp, ?_⟩
        rw [hl, posM_old e, posM_old hx]
        exact p
  · intro x hx
    have hx : hasM (setM s.1 k v) x = true := hx
    rw [hasM_set] at hx
    cases hxk : x == k with
    | true => have : x = k := by simpa using hxk
              subst this; exact hk
    | false => rw [hxk, Bool.false_or] at hx; exact h.key x hx
  · show (setM s.1 k v).length + unseen n (setM s.1 k v) ≤ n
    rw [hl] at hu ⊢
    rw [List.length_append, List.length_singleton]
    omega
  · show (s.2 ++ [k]).length + unseen n (setM s.1 k v) ≤ s.2.length + unseen n s.1
    rw [List.length_append, List.length_singleton]
    omega
theorem Bw.nil {n : Nat} {ok : Int → Bool} : Bw n ok ([], []) :=
  ⟨fun x hx => (by cases hx), fun k hk => (by cases hk), fun k hk => (by cases hk), by
    show 0 + unseen n [] ≤ n
    rw [Nat.zero_add]
    exact Nat.le_trans List.countP_le_length (by simp)⟩
theorem Bw.seed {n : Nat} {ok : Int → Bool} {s : BS} {i : Int} (h : Bw n ok s) (hok : ∀ i, ok i = true → 0 ≤ i ∧ i < n) : Bw n ok (seedS ok s i) ∧ muS n (seedS ok s i) ≤ muS n s := by
  unfold seedS
  cases hb : hasM s.1 i with
  | true => exact ⟨h, Nat.le_refl _⟩
  | false =>
    cases hk : ok i with
    | false => exact ⟨h, Nat.le_refl _⟩
    | true => exact h.put hok hk hb (.inl rfl)
theorem Bw.push {n : Nat} {ok : Int → Bool} {s : BS} {i k : Int} (h : Bw n ok s) (hok : ∀ i, ok i = true → 0 ≤ i ∧ i < n) (hi : hasM s.1 i = true) :
    Bw n ok (pushS ok i s k) ∧ muS n (pushS ok i s k) ≤ muS n s ∧ hasM (pushS ok i s k).1 i = true := by
  unfold pushS
  cases hb : hasM s.1 k with
  | true => exact ⟨h, Nat.le_refl _, hi⟩
  | false =>
    cases hk : ok k with
    | false => exact ⟨h, Nat.le_refl _, hi⟩
    | true =>
      have := h.put hok hk hb (.inr hi)
      refine ⟨this.1, this.2, ?_⟩
      show hasM (setM s.1 k i) i = true
      rw [hasM_set, hi]; simp
theorem muS_nil {n : Nat} : muS n ([], []) ≤ n := by
  show 0 + unseen n [] ≤ n
  rw [Nat.zero_add]
  exact Nat.le_trans List.countP_le_length (by simp)
theorem foldl_take {α β : Type} {f : β → α → β} {b : β} {l : List α} {i : Nat} (h : i < l.length) : (l.take (i + 1)).foldl f b = f ((l.take i).foldl f b) l[i] := by
  rw [List.take_succ_eq_append_getElem h, List.foldl_append]; rfl
theorem Bw.seeds {n : Nat} {ok : Int → Bool} (hok : ∀ i, ok i = true → 0 ≤ i ∧ i < n) {l : List Int} : ∀ i, i ≤ l.length → Bw n ok ((l.take i).foldl (seedS ok) ([], [])) ∧ muS n ((l.take i).foldl (seedS ok) ([], [])) ≤ n
  | 0, _ => ⟨Bw.nil, muS_nil⟩
  | i + 1, h => by
    have ih := Bw.seeds hok (l := l) i (by omega)
    rw [foldl_take (by omega)]
    have := ih.1.seed hok (i := l[i])
    exact ⟨this.1, Nat.le_trans this.2 ih.2⟩
theorem Bw.pushes {n : Nat} {ok : Int → Bool} (hok : ∀ i, ok i = true → 0 ≤ i ∧ i < n) {c : Int} {s : BS} (h : Bw n ok s) (hc : hasM s.1 c = true) {l : List Int} :
    ∀ i, i ≤ l.length → Bw n ok ((l.take i).foldl (pushS ok c) s) ∧ muS n ((l.take i).foldl (pushS ok c) s) ≤ muS n s ∧ hasM ((l.take i).foldl (pushS ok c) s).1 c = true
  | 0, _ => ⟨h, Nat.le_refl _, hc⟩
  | i + 1, hi => by
    have ih := Bw.pushes hok h hc (l := l) i (by omega)
    rw [foldl_take (by omega)]
    have := ih.1.push hok (k := l[i]) ih.2.2
    exact ⟨this.1, Nat.le_trans this.2.1 ih.2.1, this.2.2⟩
theorem push_head {ok : Int → Bool} {c : Int} {s : BS} {k i : Int} {r : List Int} (h : s.2 = i :: r) : ∃ r', (pushS ok c s k).2 = i :: r' := by
  unfold pushS
  cases hasM s.1 k || !ok k with
  | true => exact ⟨r, h⟩
  | false => exact ⟨r ++ [k], by rw [cond_false, h]; rfl⟩
theorem pushes_head {ok : Int → Bool} {c : Int} {s : BS} {i : Int} {r : List Int} (h : s.2 = i :: r) (l : List Int) : ∃ r', (l.foldl (pushS ok c) s).2 = i :: r' := by
  induction l generalizing s r with
  | nil => exact ⟨r, h⟩
  | cons k l ih => obtain ⟨r', h'⟩ := push_head (ok := ok) (c := c) (k := k) h; exact ih h'
theorem Bw.tail {n : Nat} {ok : Int → Bool} {s : BS} (h : Bw n ok s) : Bw n ok (s.1, s.2.tail) :=
  ⟨fun x hx => h.mem x (List.mem_of_mem_tail hx), h.par, h.key, h.cnt⟩
end Go.Ch

/- The search is right: what it returns is a way, and where it returns none there is none. -/
namespace Go.Ch
open Go.Ax

def upL (nr : Int → List Int) (l : List Int) : Prop := ∀ k, k + 1 < l.length → l.getD k 0 ∈ nr (l.getD (k + 1) 0)
def linkL (nr : Int → List Int) (l : List Int) : Prop := ∀ k, k + 1 < l.length → l.getD (k + 1) 0 ∈ nr (l.getD k 0)
theorem getD_app {l : List Int} {x : Int} {k : Nat} : (l ++ [x]).getD k 0 = if k < l.length then l.getD k 0 else if k = l.length then x else 0 := by
  simp only [List.getD_eq_getElem?_getD]
  by_cases h : k < l.length
  · rw [if_pos h, List.getElem?_append_left h]
  · rw [if_neg h, List.getElem?_append_right (by omega)]
    by_cases e : k = l.length
    · subst e; simp
    · rw [if_neg e, List.getElem?_eq_none (by simp; omega)]; rfl
theorem upL_snoc {nr : Int → List Int} {l : List Int} {i x : Int} (h : upL nr l) (hl : l.getLast? = some i) (hx : i ∈ nr x) : upL nr (l ++ [x]) := by
  intro k hk
  rw [List.length_append, List.length_singleton] at hk
  have e0 : (l ++ [x]).getD k 0 = l.getD k 0 := by rw [getD_app]; exact if_pos (by omega)
  rw [e0]
  by_cases e : k + 1 < l.length
  · have e1 : (l ++ [x]).getD (k + 1) 0 = l.getD (k + 1) 0 := by rw [getD_app]; exact if_pos e
    rw [e1]; exact h k e
  · have e2 : k + 1 = l.length := by omega
    have e1 : (l ++ [x]).getD (k + 1) 0 = x := by rw [getD_app, if_neg e, if_pos e2]
    rw [e1]
    rw [List.getLast?_eq_getElem?, show l.length - 1 = k by omega] at hl
    rw [List.getD_eq_getElem?_getD, hl]; exact hx
theorem upL_rev {nr : Int → List Int} {l : List Int} (h : upL nr l) : linkL nr l.reverse := by
  intro k hk
  rw [List.length_reverse] at hk
  simp only [List.getD_eq_getElem?_getD]
  rw [List.getElem?_reverse (by omega), List.getElem?_reverse (by omega)]
  have := h (l.length - 1 - (k + 1)) (by omega)
  simp only [List.getD_eq_getElem?_getD] at this
  rw [show l.length - 1 - k = l.length - 1 - (k + 1) + 1 by omega]
  exact this

theorem backL_spec {nr : Int → List Int} {b : List (Int × Int)} (hp : ∀ k, hasM b k = true → getM b k = k ∨ (hasM b (getM b k) = true ∧ posM b (getM b k) < posM b k))
    (hn : ∀ k, hasM b k = true → getM b k ≠ k → k ∈ nr (getM b k)) : ∀ (m : Nat) (i : Int) (out : List Int), hasM b i = true → posM b i ≤ m → out.getLast? = some i → upL nr out → (∀ x ∈ out, hasM b x = true) →
    upL nr (backL b m i out) ∧ (backL b m i out).head? = out.head? ∧ (∀ x ∈ backL b m i out, hasM b x = true) ∧ ∃ r, (backL b m i out).getLast? = some r ∧ getM b r = r
  | 0, i, out, hi, hpos, hl, hu, hx => by
    refine ⟨hu, rfl, hx, i, hl, ?_⟩
    rcases hp i hi with h | ⟨_, h⟩
    · exact h
    · omega
  | m + 1, i, out, hi, hpos, hl, hu, hx => by
    rw [backL]
    cases he : getM b i == i with
    | true => exact ⟨hu, rfl, hx, i, hl, by simpa using he⟩
    | false =>
      have he' : getM b i ≠ i := by simpa using he
      rcases hp i hi with h | ⟨h1, h2⟩
      · exact absurd h he'
      · have ih := backL_spec hp hn m (getM b i) (out ++ [getM b i]) h1 (by omega) (by simp) (upL_snoc hu hl (hn i hi he')) (fun x h => by
          rcases List.mem_append.1 h with h | h
          · exact hx x h
          · have : x = getM b i := by simpa using h
            rw [this]; exact h1)
        refine ⟨ih.1, ih.2.1.trans ?_, ih.2.2⟩
        cases out with
        | nil => cases hl
        | cons a r => rfl

/-- The cells that have been taken: their neighbours have been seen. -/
structure Bd (ok : Int → Bool) (nr : Int → List Int) (fr to : List Int) (s : BS) : Prop where
  root : ∀ k, hasM s.1 k = true → getM s.1 k = k → k ∈ fr ∨ k ∈ nr k
  link : ∀ k, hasM s.1 k = true → getM s.1 k ≠ k → k ∈ nr (getM s.1 k)
  done : ∀ k, hasM s.1 k = true → k ∈ s.2 ∨ (k ∉ to ∧ ∀ y ∈ nr k, ok y = true → hasM s.1 y = true)
theorem Bd.put {ok : Int → Bool} {nr : Int → List Int} {fr to : List Int} {s : BS} {k v : Int} (h : Bd ok nr fr to s) (hn : hasM s.1 k = false) (hv : (v = k ∧ k ∈ fr) ∨ k ∈ nr v) :
    Bd ok nr fr to (setM s.1 k v, s.2 ++ [k]) := by
  refine ⟨?_, ?_, ?_⟩
  · intro x hx
    show getM (setM s.1 k v) x = x → _
    have hx : hasM (setM s.1 k v) x = true := hx
    rw [hasM_set] at hx
    rw [getM_set]
    cases hxk : x == k with
    | true =>
      have : x = k := by simpa using hxk
      subst this
      rw [cond_true]
      intro e
      rcases hv with ⟨_, h⟩ | h
      · exact .inl h
      · rw [e] at h; exact .inr h
    | false => rw [hxk, Bool.false_or] at hx; exact h.root x hx
  · intro x hx
    show getM (setM s.1 k v) x ≠ x → x ∈ nr (getM (setM s.1 k v) x)
    have hx : hasM (setM s.1 k v) x = true := hx
    rw [hasM_set] at hx
    rw [getM_set]
    cases hxk : x == k with
    | true =>
      have : x = k := by simpa using hxk
      subst this
      rw [cond_true]
      intro e
      rcases hv with ⟨h, _⟩ | h
      · exact absurd h e
      · exact h
    | false => rw [hxk, Bool.false_or] at hx; exact h.link x hx
  · intro x hx
    have hx : hasM (setM s.1 k v) x = true := hx
    rw [hasM_set] at hx
    show x ∈ s.2 ++ [k] ∨ (x ∉ to ∧ ∀ y ∈ nr x, ok y = true → hasM (setM s.1 k v) y = true)
    cases hxk : x == k with
    | true =>
      have : x = k := by simpa using hxk
      subst this
      exact .inl (by simp)
    | false =>
      rw [hxk, Bool.false_or] at hx
      rcases h.done x hx with e | ⟨e1, e2⟩
      · exact .inl (List.mem_append_left _ e)
      · exact .inr ⟨e1, fun y hy hk => by rw [hasM_set, e2 y hy hk]; simp⟩
theorem pushL_spec {ok : Int → Bool} {nr : Int → List Int} {fr to : List Int} {i : Int} : ∀ (l : List Int) (s : BS), (∀ y ∈ l, y ∈ nr i) → Bd ok nr fr to s →
    Bd ok nr fr to (pushL ok i l s) ∧ (∀ y ∈ l, ok y = true → hasM (pushL ok i l s).1 y = true) ∧ (∀ y, hasM s.1 y = true → hasM (pushL ok i l s).1 y = true)
  | [], s, _, h => ⟨h, fun y hy => (by cases hy), fun _ h => h⟩
  | k :: l, s, hl, h => by
    have key : Bd ok nr fr to (pushS ok i s k) ∧ (ok k = true → hasM (pushS ok i s k).1 k = true) ∧ (∀ y, hasM s.1 y = true → hasM (pushS ok i s k).1 y = true) := by
      unfold pushS
      cases hb : hasM s.1 k with
      | true => exact ⟨h, fun _ => hb, fun _ h => h⟩
      | false =>
        cases hk : ok k with
        | false => exact ⟨h, fun e => (by cases e), fun _ h => h⟩
        | true =>
          refine ⟨h.put hb (.inr (hl k (List.mem_cons_self ..))), fun _ => ?_, fun y hy => ?_⟩
          · show hasM (setM s.1 k i) k = true
            rw [hasM_set]; simp
          · show hasM (setM s.1 k i) y = true
            rw [hasM_set, hy]; simp
    have ih := pushL_spec (i := i) l (pushS ok i s k) (fun y hy => hl y (List.mem_cons_of_mem _ hy)) key.1
    refine ⟨ih.1, fun y hy hk => ?_, fun y hy => ih.2.2 y (key.2.2 y hy)⟩
    rcases List.mem_cons.1 hy with rfl | hy
    · exact ih.2.2 _ (key.2.1 hk)
    · exact ih.2.1 y hy hk
theorem seedL_spec {ok : Int → Bool} {nr : Int → List Int} {fr to : List Int} : ∀ (l : List Int) (s : BS), (∀ y ∈ l, y ∈ fr) → Bd ok nr fr to s →
    Bd ok nr fr to (l.foldl (seedS ok) s) ∧ (∀ y ∈ l, ok y = true → hasM (l.foldl (seedS ok) s).1 y = true) ∧ (∀ y, hasM s.1 y = true → hasM (l.foldl (seedS ok) s).1 y = true)
  | [], s, _, h => ⟨h, fun y hy => (by cases hy), fun _ h => h⟩
  | k :: l, s, hl, h => by
    have key : Bd ok nr fr to (seedS ok s k) ∧ (ok k = true → hasM (seedS ok s k).1 k = true) ∧ (∀ y, hasM s.1 y = true → hasM (seedS ok s k).1 y = true) := by
      unfold seedS
      cases hb : hasM s.1 k with
      | true => exact ⟨h, fun _ => hb, fun _ h => h⟩
      | false =>
        cases hk : ok k with
        | false => exact ⟨h, fun e => (by cases e), fun _ h => h⟩
        | true =>
          refine ⟨h.put hb (.inl ⟨rfl, hl k (List.mem_cons_self ..)⟩), fun _ => ?_, fun y hy => ?_⟩
          · show hasM (setM s.1 k k) k = true
            rw [hasM_set]; simp
          · show hasM (setM s.1 k k) y = true
            rw [hasM_set, hy]; simp
    have ih := seedL_spec l (seedS ok s k) (fun y hy => hl y (List.mem_cons_of_mem _ hy)) key.1
    refine ⟨ih.1, fun y hy hk => ?_, fun y hy => ih.2.2 y (key.2.2 y hy)⟩
    rcases List.mem_cons.1 hy with rfl | hy
    · exact ih.2.2 _ (key.2.1 hk)
    · exact ih.2.1 y hy hk
theorem searchL_spec {n : Nat} {ok : Int → Bool} {nr : Int → List Int} {fr to : List Int} (hok : ∀ i, ok i = true → 0 ≤ i ∧ i < n) : ∀ (m : Nat) (s : BS), muS n s ≤ m → Bw n ok s → Bd ok nr fr to s →
    Bw n ok (searchL ok nr to m s) ∧ Bd ok nr fr to (searchL ok nr to m s) ∧ (∀ y, hasM s.1 y = true → hasM (searchL ok nr to m s).1 y = true) ∧
    ((searchL ok nr to m s).2 = [] ∨ ∃ i r, (searchL ok nr to m s).2 = i :: r ∧ i ∈ to)
  | 0, s, hm, w, d => by
    refine ⟨w, d, fun _ h => h, .inl ?_⟩
    have : s.2.length = 0 := by unfold muS at hm; omega
    show s.2 = []
    exact List.eq_nil_of_length_eq_zero this
  | m + 1, (b, []), hm, w, d => ⟨w, d, fun _ h => h, .inl rfl⟩
  | m + 1, (b, i :: r), hm, w, d => by
    rw [searchL]
    cases hc : to.contains i with
    | true => exact ⟨w, d, fun _ h => h, .inr ⟨i, r, rfl, by simpa using hc⟩⟩
    | false =>
      rw [cond_false]
      have hi : hasM b i = true := w.mem i (List.mem_cons_self ..)
      have p1 := pushL_spec (i := i) (nr i) (b, i :: r) (fun _ h => h) d
      have p2 : Bw n ok (pushL ok i (nr i) (b, i :: r)) ∧ muS n (pushL ok i (nr i) (b, i :: r)) ≤ muS n (b, i :: r) ∧ hasM (pushL ok i (nr i) (b, i :: r)).1 i = true := by
        have := w.pushes hok hi (l := nr i) (nr i).length (Nat.le_refl _)
        rw [List.take_length] at this
        exact this
      obtain ⟨r', hr⟩ := pushes_head (ok := ok) (c := i) (s := (b, i :: r)) rfl (nr i)
      have hr : (pushL ok i (nr i) (b, i :: r)).2 = i :: r' := hr
      have ih := searchL_spec hok m ((pushL ok i (nr i) (b, i :: r)).1, (pushL ok i (nr i) (b, i :: r)).2.tail) (by
          have := p2.2.1
          unfold muS at this hm ⊢
          rw [hr] at this ⊢
          simp only [List.tail_cons, List.length_cons] at this hm ⊢
          omega) p2.1.tail ⟨p1.1.root, p1.1.link, fun k hk => by
            rcases p1.1.done k hk with h | h
            · rw [hr] at h
              rcases List.mem_cons.1 h with rfl | h
              · refine .inr ⟨by simpa using hc, fun y hy ho => p1.2.1 y hy ho⟩
              · refine .inl ?_
                show k ∈ (pushL ok i (nr i) (b, i :: r)).2.tail
                rw [hr]; exact h
            · exact .inr h⟩
      exact ⟨ih.1, ih.2.1, fun y hy => ih.2.2.1 y (p1.2.2 y hy), ih.2.2.2⟩

theorem wayS_spec {n : Nat} {ok : Int → Bool} {nr : Int → List Int} {fr to : List Int} (hok : ∀ i, ok i = true → 0 ≤ i ∧ i < n) :
    Bw n ok (wayS n ok nr fr to) ∧ Bd ok nr fr to (wayS n ok nr fr to) ∧ (∀ y ∈ fr, ok y = true → hasM (wayS n ok nr fr to).1 y = true) ∧
    ((wayS n ok nr fr to).2 = [] ∨ ∃ i r, (wayS n ok nr fr to).2 = i :: r ∧ i ∈ to) := by
  have h1 := Bw.seeds hok (l := fr) fr.length (Nat.le_refl _)
  rw [List.take_length] at h1
  have h2 := seedL_spec (ok := ok) (nr := nr) (to := to) fr ([], []) (fun _ h => h) ⟨fun k h => (by cases h), fun k h => (by cases h), fun k h => (by cases h)⟩
  have h3 := searchL_spec (nr := nr) (fr := fr) (to := to) hok n (seedL ok fr) h1.2 h1.1 h2.1
  exact ⟨h3.1, h3.2.1, fun y hy ho => h3.2.2.1 y (h2.2.1 y hy ho), h3.2.2.2⟩
/-- A way is a way. -/
theorem wayL_some {n : Nat} {ok : Int → Bool} {nr : Int → List Int} {fr to : List Int} (hok : ∀ i, ok i = true → 0 ≤ i ∧ i < n) (hnr : ∀ i, i ∉ nr i) (h : wayL n ok nr fr to ≠ []) :
    linkL nr (wayL n ok nr fr to) ∧ (∀ x ∈ wayL n ok nr fr to, ok x = true) ∧ (∃ a, (wayL n ok nr fr to).head? = some a ∧ a ∈ fr) ∧ ∃ z, (wayL n ok nr fr to).getLast? = some z ∧ z ∈ to := by
  obtain ⟨hw, hd, _, he⟩ := wayS_spec (nr := nr) (fr := fr) (to := to) hok
  unfold wayL at h ⊢
  rcases he with he | ⟨i, r, he, hi⟩
  · rw [he] at h; exact absurd rfl h
  · rw [he]
    simp only
    have hm := hw.mem i (by rw [he]; exact List.mem_cons_self ..)
    obtain ⟨u1, u2, u3, q, u4, u5⟩ := backL_spec hw.par hd.link (wayS n ok nr fr to).1.length i [i] hm (Nat.le_of_lt (posM_lt hm)) rfl (fun k hk => by simp at hk) (fun x hx => by
      have : x = i := by simpa using hx
      rw [this]; exact hm)
    refine ⟨upL_rev u1, fun x hx => hw.key x (u3 x (List.mem_reverse.1 hx)), ⟨q, ?_, ?_⟩, i, ?_, hi⟩
    · rw [List.head?_reverse]; exact u4
    · have hq := u3 q (List.mem_of_getLast? u4)
      rcases hd.root q hq u5 with h | h
      · exact h
      · exact absurd h (hnr q)
    · rw [List.getLast?_reverse]; exact u2
/-- Where no way is returned a closed set of cells leaves out the aim. -/
theorem wayL_none {n : Nat} {ok : Int → Bool} {nr : Int → List Int} {fr to : List Int} (hok : ∀ i, ok i = true → 0 ≤ i ∧ i < n) (h : wayL n ok nr fr to = []) :
    ∃ S : Int → Bool, (∀ y ∈ fr, ok y = true → S y = true) ∧ (∀ x, S x = true → ok x = true ∧ x ∉ to ∧ ∀ y ∈ nr x, ok y = true → S y = true) := by
  obtain ⟨hw, hd, hf, he⟩ := wayS_spec (nr := nr) (fr := fr) (to := to) hok
  rcases he with he | ⟨i, r, he, hi⟩
  · refine ⟨hasM (wayS n ok nr fr to).1, hf, fun x hx => ⟨hw.key x hx, ?_⟩⟩
    rcases hd.done x hx with h | h
    · rw [he] at h; cases h
    · exact h
  · exfalso
    unfold wayL at h
    rw [he] at h
    simp only at h
    have hm := hw.mem i (by rw [he]; exact List.mem_cons_self ..)
    have := (backL_spec hw.par hd.link (wayS n ok nr fr to).1.length i [i] hm (Nat.le_of_lt (posM_lt hm)) rfl (fun k hk => by simp at hk) (fun x hx => by
      have : x = i := by simpa using hx
      rw [this]; exact hm)).2.1
    rw [List.reverse_eq_nil_iff] at h
    rw [h] at this
    cases this
end Go.Ch
