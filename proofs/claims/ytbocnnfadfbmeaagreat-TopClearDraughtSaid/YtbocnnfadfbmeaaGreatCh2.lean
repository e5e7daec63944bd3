/- Part Ch2: lemmas that the proofs of this seat share; by itself it claims nothing. -/
import Derived.Test.YtbocnnfadfbmeaaGreatCh1
namespace Go.Ch
open Go Go.Ax Go.Proofs Go.Proofs.Tryz
set_option maxRecDepth 100000
set_option pp.maxSteps 400

theorem good_iff {p : Pt} : good p = true ↔ (-1000000 ≤ p.x ∧ p.x ≤ 1000000) ∧ (-1000000 ≤ p.y ∧ p.y ≤ 1000000) := by
  simp [good, within]
theorem mul_le_of {a b A B : Int} (ha : -A ≤ a) (ha' : a ≤ A) (hb : -B ≤ b) (hb' : b ≤ B) : -(A * B) ≤ a * b ∧ a * b ≤ A * B := by
  have hA : 0 ≤ A := by omega
  have hB : 0 ≤ B := by omega
  have h1 : 0 ≤ (A - a) * (B - b) := Int.mul_nonneg (by omega) (by omega)
  have h2 : 0 ≤ (A + a) * (B + b) := Int.mul_nonneg (by omega) (by omega)
  have h3 : 0 ≤ (A - a) * (B + b) := Int.mul_nonneg (by omega) (by omega)
  have h4 : 0 ≤ (A + a) * (B - b) := Int.mul_nonneg (by omega) (by omega)
  simp only [Int.mul_add, Int.mul_sub, Int.add_mul, Int.sub_mul] at h1 h2 h3 h4
  omega
/-- The exact dot product. -/
def dotE (a b c : Pt) : Int := (b.x - a.x) * (c.x - a.x) + (b.y - a.y) * (c.y - a.y)
def crossE (a b c : Pt) : Int := (b.x - a.x) * (c.y - a.y) - (b.y - a.y) * (c.x - a.x)
theorem dot_eq {a b c : Pt} (ha : good a = true) (hb : good b = true) (hc : good c = true) : dot a b c = dotE a b c ∧ -8000000000000 ≤ dotE a b c ∧ dotE a b c ≤ 8000000000000 := by
  rw [good_iff] at ha hb hc
  have h1 := mul_le_of (a := b.x - a.x) (b := c.x - a.x) (A := 2000000) (B := 2000000) (by omega) (by omega) (by omega) (by omega)
  have h2 := mul_le_of (a := b.y - a.y) (b := c.y - a.y) (A := 2000000) (B := 2000000) (by omega) (by omega) (by omega) (by omega)
  unfold dot dotE
  rw [w64_of (n := b.x - a.x) (by omega) (by omega), w64_of (n := c.x - a.x) (by omega) (by omega), w64_of (n := b.y - a.y) (by omega) (by omega), w64_of (n := c.y - a.y) (by omega) (by omega)]
  rw [w64_of (n := (b.x - a.x) * (c.x - a.x)) (by omega) (by omega), w64_of (n := (b.y - a.y) * (c.y - a.y)) (by omega) (by omega), w64_of (by omega) (by omega)]
  exact ⟨rfl, by omega, by omega⟩
theorem cross_eq {a b c : Pt} (ha : good a = true) (hb : good b = true) (hc : good c = true) : cross a b c = crossE a b c ∧ -8000000000000 ≤ crossE a b c ∧ crossE a b c ≤ 8000000000000 := by
  rw [good_iff] at ha hb hc
  have h1 := mul_le_of (a := b.x - a.x) (b := c.y - a.y) (A := 2000000) (B := 2000000) (by omega) (by omega) (by omega) (by omega)
  have h2 := mul_le_of (a := b.y - a.y) (b := c.x - a.x) (A := 2000000) (B := 2000000) (by omega) (by omega) (by omega) (by omega)
  unfold cross crossE
  rw [w64_of (n := b.x - a.x) (by omega) (by omega), w64_of (n := c.x - a.x) (by omega) (by omega), w64_of (n := b.y - a.y) (by omega) (by omega), w64_of (n := c.y - a.y) (by omega) (by omega)]
  rw [w64_of (n := (b.x - a.x) * (c.y - a.y)) (by omega) (by omega), w64_of (n := (b.y - a.y) * (c.x - a.x)) (by omega) (by omega), w64_of (by omega) (by omega)]
  exact ⟨rfl, by omega, by omega⟩
theorem mul_self_nonneg (x : Int) : 0 ≤ x * x := by
  rcases Int.le_total 0 x with h | h
  · exact Int.mul_nonneg h h
  · exact Int.mul_nonneg_of_nonpos_of_nonpos h h
theorem sq_nonneg (a b : Pt) : 0 ≤ dotE a b b := by
  have h1 := mul_self_nonneg (b.x - a.x)
  have h2 := mul_self_nonneg (b.y - a.y)
  unfold dotE; omega
theorem mul_self_pos {x : Int} (h : x ≠ 0) : 0 < x * x := by
  have h1 := mul_self_nonneg x
  have h2 : x * x ≠ 0 := fun e => by rcases Int.mul_eq_zero.1 e with h' | h' <;> exact h h'
  omega
theorem sq_pos {a b : Pt} (h : a ≠ b) : 0 < dotE a b b := by
  have h1 := mul_self_nonneg (b.x - a.x)
  have h2 := mul_self_nonneg (b.y - a.y)
  by_cases hx : b.x - a.x = 0
  · by_cases hy : b.y - a.y = 0
    · exact absurd (by cases a; cases b; simp at hx hy ⊢; omega) h
    · have := mul_self_pos hy
      unfold dotE; omega
  · have := mul_self_pos hx
    unfold dotE; omega

/-- The least n that is not negative and whose square is at least s. -/
def IsSpan (s n : Int) : Prop := 0 ≤ n ∧ s ≤ n * n ∧ (n = 0 ∨ (n - 1) * (n - 1) < s)
theorem sq_le {a b : Int} (h0 : 0 ≤ a) (h : a ≤ b) : a * a ≤ b * b := Int.mul_le_mul h h h0 (by omega)
theorem IsSpan.le {s n m : Int} (h : IsSpan s n) (hm : 0 ≤ m) (h2 : s ≤ m * m) : n ≤ m := by
  obtain ⟨h0, h1, h3⟩ := h
  rcases Int.lt_or_le m n with hlt | hge
  · rcases h3 with rfl | h3
    · omega
    · have := sq_le hm (show m ≤ n - 1 by omega)
      omega
  · exact hge
theorem IsSpan.unique {s n m : Int} (h : IsSpan s n) (k : IsSpan s m) : n = m := Int.le_antisymm (h.le k.1 k.2.1) (k.le h.1 h.2.1)
theorem halve_spec (s : Int) : ∀ (k : Nat) (lo hi : Int), 0 ≤ lo → lo ≤ hi → hi - lo < 2 ^ k → s ≤ hi * hi → (lo = 0 ∨ (lo - 1) * (lo - 1) < s) → IsSpan s (halve s k lo hi)
  | 0, lo, hi, h0, h1, h2, h3, h4 => by
    rw [halve]
    have : lo = hi := by simp at h2; omega
    subst this
    exact ⟨h0, h3, h4⟩
  | k + 1, lo, hi, h0, h1, h2, h3, h4 => by
    rw [halve]
    rw [Int.pow_succ] at h2
    by_cases hlt : lo < hi
    · rw [decide_eq_true hlt]
      simp only [cond_true]
      by_cases hm : (lo + hi) / 2 * ((lo + hi) / 2) ≥ s
      · rw [decide_eq_true hm]
        exact halve_spec s k lo _ h0 (by omega) (by omega) hm h4
      · rw [decide_eq_false hm]
        refine halve_spec s k _ hi (by omega) (by omega) (by omega) h3 (.inr ?_)
        have : (lo + hi) / 2 + 1 - 1 = (lo + hi) / 2 := by omega
        rw [this]; omega
    · rw [decide_eq_false hlt]
      have : lo = hi := by omega
      subst this
      exact ⟨h0, h3, h4⟩
theorem span_spec {a b : Pt} (ha : good a = true) (hb : good b = true) : IsSpan (dotE a b b) (span a b) := by
  obtain ⟨h1, h2, h3⟩ := dot_eq ha hb hb
  unfold span
  rw [h1]
  exact halve_spec _ 23 0 4000000 (by omega) (by omega) (by decide) (by omega) (.inl rfl)
theorem span_bound {a b : Pt} (ha : good a = true) (hb : good b = true) : 0 ≤ span a b ∧ span a b ≤ 3000000 := by
  have h := span_spec ha hb
  obtain ⟨h1, h2, h3⟩ := dot_eq ha hb hb
  exact ⟨h.1, h.le (by omega) (by omega)⟩
theorem span_pos {a b : Pt} (ha : good a = true) (hb : good b = true) (hab : a ≠ b) : 0 < span a b := by
  have h := span_spec ha hb
  have := sq_pos hab
  have h0 := h.1
  rcases Int.lt_or_le 0 (span a b) with h' | h'
  · exact h'
  · have : span a b = 0 := by omega
    have h1 := h.2.1
    rw [this] at h1
    omega

theorem rSpan (a b : Pt) (ha : good a = true) (hb : good b = true) : CallP Tryz.prog 37 [pt a, pt b] (vI (span a b)) := by
  obtain ⟨hd, hd1, hd2⟩ := dot_eq ha hb hb
  refine callP_of_ex (rc := []) (N := 26) Tryz.func37 rfl rfl Tryz.call37 tab_ok mix rfl rfl (fun cx href => ?_)
  refine AW.loop (fun i : Nat × Int × Int => ⟨[(2, .s (.ptr 2 0)), (3, .s (.ptr 3 0)), (5, vI i.2.1), (6, vI i.2.2)], [(2, some (.cells [.d (dI a.x), .d (dI a.y)])), (3, some (.cells [.d (dI b.x), .d (dI b.y)]))]⟩)
    (fun i => 0 ≤ i.2.1 ∧ i.2.1 ≤ i.2.2 ∧ i.2.2 ≤ 4000000 ∧ i.2.2 - i.2.1 < 2 ^ i.1 ∧ span a b = halve (dot a b b) i.1 i.2.1 i.2.2) (fun i => i.1) (23, 0, 4000000) ⟨by decide, by decide, by decide, by decide, rfl⟩ ?_ ?_
  · exact Sub.of0 href ⟨⟨rfl, rfl⟩, ⟨rfl, rfl⟩, trivial⟩ ⟨⟨rfl, rfl⟩, ⟨rfl, rfl⟩, ⟨rfl, rfl⟩, ⟨rfl, rfl⟩, trivial⟩
  · rintro ⟨k, lo, hi⟩ ⟨h0, h1, h2, h3, h4⟩
    simp only at h0 h1 h2 h3 h4
    refine ex.sound (rc := []) tab_ok mix href _ ?_
    refine And.intro (fun h => ?_) (fun h => ?_)
    · have hlt : lo < hi := decT h
      obtain ⟨k', rfl⟩ : ∃ k', k = k' + 1 := by
        cases k with
        | zero => simp at h3; omega
        | succ k => exact ⟨k, rfl⟩
      rw [Int.pow_succ] at h3
      rw [halve, h] at h4
      simp only [cond_true] at h4
      refine oi (by decide) ?_
      refine callN (Square a b) ?_
      have hw : w64 (Int.tdiv (w64 (lo + hi)) 2) = (lo + hi) / 2 := by
        rw [w64_of (n := lo + hi) (by omega) (by omega), Int.tdiv_eq_ediv_of_nonneg (by omega), w64_of (by omega) (by omega)]
      have hm0 : 0 ≤ (lo + hi) / 2 := by omega
      have hm1 : (lo + hi) / 2 ≤ 4000000 := by omega
      have hmm := sq_le hm0 hm1
      have hmm0 := Int.mul_nonneg hm0 hm0
      have hww : w64 (w64 (Int.tdiv (w64 (lo + hi)) 2) * w64 (Int.tdiv (w64 (lo + hi)) 2)) = (lo + hi) / 2 * ((lo + hi) / 2) := by
        rw [hw, w64_of (by omega) (by omega)]
      refine And.intro (fun h' => ?_) (fun h' => ?_)
      · have h' : decide (w64 (w64 (Int.tdiv (w64 (lo + hi)) 2) * w64 (Int.tdiv (w64 (lo + hi)) 2)) ≥ dot a b b) = true := h'
        rw [hww] at h'
        rw [h'] at h4
        refine ⟨(k', lo, (lo + hi) / 2), ⟨h0, by simp only; omega, by simp only; omega, by simp only; omega, h4⟩, by simp, ?_⟩
        refine Sub.of0 href ⟨⟨rfl, rfl⟩, ⟨rfl, rfl⟩, trivial⟩ ⟨⟨rfl, rfl⟩, ⟨rfl, rfl⟩, ⟨rfl, rfl⟩, ⟨rfl, congrArg vI hw⟩, trivial⟩
      · have h' : decide (w64 (w64 (Int.tdiv (w64 (lo + hi)) 2) * w64 (Int.tdiv (w64 (lo + hi)) 2)) ≥ dot a b b) = false := h'
        rw [hww] at h'
        rw [h'] at h4
        refine ⟨(k', (lo + hi) / 2 + 1, hi), ⟨by simp only; omega, by simp only; omega, by simp only; omega, by simp only; omega, h4⟩, by simp, ?_⟩
        refine Sub.of0 href ⟨⟨rfl, rfl⟩, ⟨rfl, rfl⟩, trivial⟩ ⟨⟨rfl, rfl⟩, ⟨rfl, rfl⟩, ⟨rfl, congrArg vI (?_ : w64 (w64 (Int.tdiv (w64 (lo + hi)) 2) + 1) = _)⟩, ⟨rfl, rfl⟩, trivial⟩
        rw [hw, w64_of (by omega) (by omega)]
    · have hlt : ¬ lo < hi := decF h
      refine SubR.of_eq ?_
      rw [h4]
      cases k with
      | zero => rfl
      | succ k => rw [halve, h]; rfl
theorem gspan (a b : Pt) (ha : good a = true) (hb : good b = true) : CallP Tryz.prog 61 [pt a, pt b] (vI (span a b)) := by
  obtain ⟨hd, hd1, hd2⟩ := dot_eq ha hb hb
  have hs0 := sq_nonneg a b
  obtain ⟨r, n, hr, hn, hn0, hn1⟩ := Root.sqrt_small (dot a b b) (by omega) (by omega)
  have hspan := span_spec ha hb
  rw [← hd] at hspan
  refine callP_of_ex (rc := []) (N := 36) Tryz.func61 rfl rfl Tryz.call61 tab_ok mix rfl rfl (fun cx href => ?_)
  refine callN (gdot a b b) ?_
  refine callN (Sqrt _ r hr) ?_
  refine ⟨n, ⟨hn, by show -9223372036854775808 ≤ n; omega, by show n ≤ 9223372036854775807; omega⟩, ?_⟩
  refine AW.loop (fun i : Int => ⟨[(5, vI (dot a b b)), (6, vI i)], []⟩) (fun i => 0 ≤ i ∧ i < 2 ^ 24) (fun i => (2 ^ 24 - i).toNat) n ⟨hn0, hn1⟩ ?_ ?_
  · exact Sub.of0 href trivial ⟨⟨rfl, rfl⟩, ⟨rfl, rfl⟩, trivial⟩
  · rintro i ⟨hi0, hi1⟩
    have hii := sq_le hi0 (show i ≤ 16777216 by omega)
    have hii0 := Int.mul_nonneg hi0 hi0
    have hw : w64 (i * i) = i * i := w64_of (by omega) (by omega)
    refine ex.sound (rc := []) tab_ok mix href _ ?_
    refine And.intro (fun h => ?_) (fun h => ?_)
    · have h : w64 (i * i) < dot a b b := decT h
      rw [hw] at h
      have hlt : i < 3000000 := by
        rcases Int.lt_or_le i 3000000 with h' | h'
        · exact h'
        · have := sq_le (by omega) h'
          omega
      refine ⟨i + 1, ⟨by omega, by omega⟩, by omega, ?_⟩
      refine Sub.of0 href trivial ⟨⟨rfl, rfl⟩, ⟨rfl, congrArg vI (w64_of (by omega) (by omega))⟩, trivial⟩
    · have h : ¬ w64 (i * i) < dot a b b := decF h
      rw [hw] at h
      refine AW.loop (fun i : Int => ⟨[(5, vI (dot a b b)), (6, vI i)], []⟩) (fun i => 0 ≤ i ∧ i < 2 ^ 24 ∧ dot a b b ≤ i * i) (fun i => i.toNat) i ⟨hi0, hi1, by omega⟩ ?_ ?_
      · exact Sub.of0 href trivial ⟨⟨rfl, rfl⟩, ⟨rfl, rfl⟩, trivial⟩
      · rintro i ⟨hi0, hi1, hi2⟩
        have hii := sq_le hi0 (show i ≤ 16777216 by omega)
        refine ex.sound (rc := []) tab_ok mix href _ ?_
        have hw1 : w64 (i - 1) = i - 1 := w64_of (by omega) (by omega)
        have key : w64 (w64 (i - 1) * w64 (i - 1)) = (i - 1) * (i - 1) := by
          rw [hw1]
          have := mul_le_of (a := i - 1) (b := i - 1) (A := 16777216) (B := 16777216) (by omega) (by omega) (by omega) (by omega)
          exact w64_of (by omega) (by omega)
        repeat first | refine sk ?_ | refine st ?_ | refine sg ?_ | refine sh ?_ | refine su ?_ | refine sn1 ?_ | refine sn0 ?_
        refine And.intro (fun h => ?_) (fun h => ?_)
        · have h : (decide (i > 0) && decide (w64 (w64 (i - 1) * w64 (i - 1)) ≥ dot a b b)) = true := h
          rw [key] at h
          simp at h
          refine ⟨i - 1, ⟨by omega, by omega, by omega⟩, by omega, ?_⟩
          refine Sub.of0 href trivial ⟨⟨rfl, rfl⟩, ⟨rfl, congrArg vI hw1⟩, trivial⟩
        · have h : (decide (i > 0) && decide (w64 (w64 (i - 1) * w64 (i - 1)) ≥ dot a b b)) = false := h
          rw [key] at h
          simp at h
          refine SubR.of_eq (congrArg vI ?_)
          refine IsSpan.unique ⟨hi0, hi2, ?_⟩ hspan
          by_cases h0 : i = 0
          · exact .inl h0
          · exact .inr (by have := h (by omega); omega)
theorem gSpan (a b : Pt) (ha : good a = true) (hb : good b = true) : CallP Tryz.prog 30 [pt a, pt b] (vI (span a b)) := by
  refine callP_of_ex (rc := []) (N := 12) Tryz.func30 rfl rfl Tryz.call30 tab_ok mix rfl rfl (fun cx href => ?_)
  refine callN ((goutside [a, b] (by simp)).conv (args' := _) ⟨LeD.slc fun i j hi hj => LeD.of_eq ?_, trivial⟩) ?_
  · have hi : i < 2 := hi
    have hj : j < 2 := hj
    match i, j, hi, hj with
    | 0, 0, _, _ => rfl
    | 0, 1, _, _ => rfl
    | 1, 0, _, _ => rfl
    | 1, 1, _, _ => rfl
  refine And.intro (fun h => ?_) (fun h => ?_)
  · simp [ha, hb] at h
  exact callN (gspan a b ha hb) (SubR.refl _)
/-- How far a place is from a line, rounded down. -/
def offs (a b p : Pt) : Int := mm true (cross a b p) (w64 (0 - cross a b p)) / span a b
theorem mm_abs {c : Int} (h : -8000000000000 ≤ c) (k : c ≤ 8000000000000) : 0 ≤ mm true c (w64 (0 - c)) ∧ mm true c (w64 (0 - c)) ≤ 8000000000000 ∧ mm true c (w64 (0 - c)) = (if c < 0 then w64 (0 - c) else c) := by
  rw [w64_of (by omega) (by omega)]
  unfold mm
  simp only
  split <;> split <;> omega
theorem offs_le {a b p : Pt} (ha : good a = true) (hb : good b = true) (hp : good p = true) (hab : a ≠ b) : 0 ≤ offs a b p ∧ offs a b p ≤ 8000000000000 := by
  obtain ⟨h1, h2, h3⟩ := cross_eq ha hb hp
  have hs := span_pos ha hb hab
  obtain ⟨h4, h5, _⟩ := mm_abs (c := cross a b p) (by omega) (by omega)
  unfold offs
  exact ⟨Int.ediv_nonneg h4 (by omega), Int.le_trans (Int.ediv_le_self _ h4) h5⟩
theorem goffset (a b p : Pt) (ha : good a = true) (hb : good b = true) (hp : good p = true) (hab : a ≠ b) : CallP Tryz.prog 131 [pt a, pt b, pt p] (vI (offs a b p)) := by
  obtain ⟨h1, h2, h3⟩ := cross_eq ha hb hp
  have hs := span_pos ha hb hab
  obtain ⟨h4, h5, _⟩ := mm_abs (c := cross a b p) (by omega) (by omega)
  have ho := offs_le ha hb hp hab
  refine callP_of_ex (rc := []) (N := 20) Tryz.func131 rfl rfl Tryz.call131 tab_ok mix rfl rfl (fun cx href => ?_)
  refine callN (gcross a b p) ?_
  refine callN (gspan a b ha hb) ?_
  refine oi (by omega) ?_
  refine SubR.of_eq (congrArg vI ?_)
  show w64 (Int.tdiv (mm true (cross a b p) (w64 (0 - cross a b p))) (span a b)) = _
  rw [Int.tdiv_eq_ediv_of_nonneg h4]
  exact w64_of (by have := ho.1; unfold offs at this; omega) (by have := ho.2; unfold offs at this; omega)
theorem gOffset (a b p : Pt) (ha : good a = true) (hb : good b = true) (hp : good p = true) (hab : a ≠ b) : CallP Tryz.prog 115 [pt a, pt b, pt p] (.t [.s (.d (dI (offs a b p))), .s (.d (dI 0))]) := by
  refine callP_of_ex (rc := []) (N := 20) Tryz.func115 rfl rfl Tryz.call115 tab_ok mix rfl rfl (fun cx href => ?_)
  refine callN (lineErr a b p ha hb hp hab) ?_
  refine And.intro (fun h => by cases h) (fun _ => ?_)
  refine callN (goffset a b p ha hb hp hab) ?_
  exact SubR.of_eq rfl
theorem rOffset (a b p : Pt) (ha : good a = true) (hb : good b = true) (hp : good p = true) (hab : a ≠ b) : CallP Tryz.prog 126 [pt a, pt b, pt p] (vI (offs a b p)) := by
  obtain ⟨h1, h2, h3⟩ := cross_eq ha hb hp
  have hs := span_pos ha hb hab
  obtain ⟨h4, h5, h6⟩ := mm_abs (c := cross a b p) (by omega) (by omega)
  have ho := offs_le ha hb hp hab
  refine callP_of_ex (rc := []) (N := 16) Tryz.func126 rfl rfl Tryz.call126 tab_ok mix rfl rfl (fun cx href => ?_)
  refine callN (Cross a b p) ?_
  refine callN (Abs _) ?_
  refine callN (rSpan a b ha hb) ?_
  refine oi (by omega) ?_
  refine And.intro (by kernel_rfl) ?_
  refine SubR.of_eq (congrArg vI ?_)
  rw [← h6, Int.tdiv_eq_ediv_of_nonneg h4]
  exact w64_of (by have := ho.1; unfold offs at this; omega) (by have := ho.2; unfold offs at this; omega)
end Go.Ch

namespace Go.Ch
open Go Go.Ax Go.Proofs Go.Proofs.Tryz
set_option maxRecDepth 100000
set_option pp.maxSteps 400
set_option maxHeartbeats 1000000

structure Prt where
  offset : Int
  half : Int
  bottom : Int
  run : Int
  deriving DecidableEq, Inhabited
def prtD (p : Prt) : Nat → DV
  | 0 => dI p.offset
  | 1 => dI p.half
  | 2 => dI p.bottom
  | 3 => dI p.run
  | _ => .junk
def prtEl (l : List Prt) : Nat → Nat → DV := fun i => prtD (l.getD i default)
def dPrts (l : List Prt) : DV := .slc l.length 4 (prtEl l)
abbrev prtS (p : Prt) : List SV := [.d (dI p.offset), .d (dI p.half), .d (dI p.bottom), .d (dI p.run)]
def oPrt (o : Option Prt) : Prt := o.getD ⟨0, 0, 0, 0⟩
abbrev rPrt (o : Option Prt) : AV := .t [.g (prtS (oPrt o)), .s (.d (.val (.bool o.isSome)))]

/-- A channel that Check accepts, as far as places are asked. -/
structure Val (c : Chan) : Prop where
  n2 : 2 ≤ c.axis.length
  n20 : c.axis.length ≤ 20
  pts : ∀ i, i < c.axis.length → good (c.axis.getD i default).pt = true
  half : ∀ i, i < c.axis.length → 1 ≤ (c.axis.getD i default).half ∧ (c.axis.getD i default).half ≤ 100000
  level : ∀ i, i < c.axis.length → c.over - 20000 ≤ (c.axis.getD i default).level ∧ (c.axis.getD i default).level ≤ 20000
  run : ∀ i, i < c.axis.length → 0 ≤ (c.axis.getD i default).run ∧ (c.axis.getD i default).run ≤ 1000
  apart : ∀ i, i + 1 < c.axis.length → (c.axis.getD i default).pt ≠ (c.axis.getD (i + 1) default).pt
  over : 0 ≤ c.over ∧ c.over ≤ 1000
  buffer : 0 ≤ c.buffer ∧ c.buffer ≤ 100000

theorem div_of {a b q r : Int} (hb : 0 < b) (h : a = q * b + r) (h0 : 0 ≤ r) (h1 : r < b) : a / b = q := by
  rw [h, Int.add_comm, Int.add_mul_ediv_right _ _ (by omega), Int.ediv_eq_zero_of_lt h0 h1, Int.zero_add]
theorem tdm (a b : Int) : a = a.tdiv b * b + a.tmod b := by
  have := Int.tmod_add_mul_tdiv a b
  rw [Int.mul_comm] at this; omega
theorem tmod_lt {a b : Int} (hb : 0 < b) : -b < a.tmod b ∧ a.tmod b < b := by
  rcases Int.le_total 0 a with h | h
  · rw [Int.tmod_eq_emod_of_nonneg h]
    have := Int.emod_nonneg a (show b ≠ 0 by omega)
    have := Int.emod_lt_of_pos a hb
    omega
  · obtain ⟨n, rfl⟩ : ∃ n : Int, a = -n := ⟨-a, by omega⟩
    rw [Int.neg_tmod, Int.tmod_eq_emod_of_nonneg (by omega)]
    have := Int.emod_nonneg n (show b ≠ 0 by omega)
    have := Int.emod_lt_of_pos n hb
    omega
theorem down_eq {a b : Int} (hb : 0 < b) (h : -9000000000000000000 ≤ a) (k : a ≤ 9000000000000000000) :
    (if a.tmod b < 0 then w64 (w64 (a.tdiv b) - 1) else w64 (a.tdiv b)) = a / b := by
  have h1 := tdm a b
  have h2 := tmod_lt (a := a) hb
  have hq : -9000000000000000000 ≤ a.tdiv b ∧ a.tdiv b ≤ 9000000000000000000 := by
    rcases Int.le_total 0 a with h0 | h0
    · rw [Int.tdiv_eq_ediv_of_nonneg h0]
      have := Int.ediv_le_self b h0
      have := Int.ediv_nonneg h0 (show 0 ≤ b by omega)
      omega
    · obtain ⟨n, rfl⟩ : ∃ n : Int, a = -n := ⟨-a, by omega⟩
      rw [Int.neg_tdiv, Int.tdiv_eq_ediv_of_nonneg (by omega)]
      have := Int.ediv_le_self (a := n) b (by omega)
      have := Int.ediv_nonneg (a := n) (by omega) (show 0 ≤ b by omega)
      omega
  split
  · rw [w64_of (n := a.tdiv b) (by omega) (by omega), w64_of (by omega) (by omega)]
    exact (div_of (r := a.tmod b + b) hb (by rw [Int.sub_mul]; omega) (by omega) (by omega)).symm
  · rw [w64_of (by omega) (by omega)]
    exact (div_of hb h1 (by omega) (by omega)).symm
theorem Floor_eq {a b : Int} (hb : 0 < b) (hb2 : b ≤ 100000000000000000) (h : -9000000000000000000 ≤ a) (k : a ≤ 9000000000000000000) :
    w64 (Int.tdiv (w64 (a - (if a.tmod b < 0 then w64 (a.tmod b + b) else a.tmod b))) b) = a / b := by
  have h1 := tdm a b
  have h2 := tmod_lt (a := a) hb
  have hm := Int.emod_nonneg a (show b ≠ 0 by omega)
  have hl := Int.emod_lt_of_pos a hb
  have hd := Int.mul_ediv_add_emod a b
  have e : (if a.tmod b < 0 then w64 (a.tmod b + b) else a.tmod b) = a % b := by
    split
    · rw [w64_of (by omega) (by omega)]
      have hx := div_of (a := a) (r := a.tmod b + b) (q := a.tdiv b - 1) hb (by rw [Int.sub_mul]; omega) (by omega) (by omega)
      rw [hx] at hd
      rw [Int.mul_sub, Int.mul_comm b] at hd
      omega
    · have hx := div_of (a := a) (r := a.tmod b) (q := a.tdiv b) hb (by omega) (by omega) (by omega)
      rw [hx] at hd
      rw [Int.mul_comm b] at hd
      omega
  rw [e, w64_of (n := a - a % b) (by omega) (by omega)]
  have e2 : a - a % b = a / b * b := by rw [Int.mul_comm]; omega
  rw [e2, Int.mul_tdiv_cancel _ (by omega)]
  have hq : -9000000000000000000 ≤ a / b ∧ a / b ≤ 9000000000000000000 := by
    constructor
    · rcases Int.le_total 0 a with h0 | h0
      · have := Int.ediv_nonneg h0 (show 0 ≤ b by omega); omega
      · have : a ≤ a / b := by
          have h3 : a / b * b ≤ a := by omega
          rcases Int.le_total 0 (a / b) with h4 | h4
          · omega
          · have h5 : a / b * b ≤ a / b := by
              have : 0 ≤ (-(a / b)) * (b - 1) := Int.mul_nonneg (by omega) (by omega)
              rw [Int.mul_sub, Int.neg_mul, Int.mul_one] at this
              omega
            rcases Int.lt_or_le (a / b) a with h6 | h6
            · exfalso
              have h7 : a < (a / b + 1) * b := by rw [Int.add_mul]; omega
              have h8 : (a / b + 1) * b ≤ a / b + 1 := by
                have : 0 ≤ (-(a / b + 1)) * (b - 1) := Int.mul_nonneg (by omega) (by omega)
                rw [Int.mul_sub, Int.neg_mul, Int.mul_one] at this
                omega
              omega
            · exact h6
        omega
    · rcases Int.le_total 0 a with h0 | h0
      · have := Int.ediv_le_self b h0; omega
      · have : a / b ≤ 0 := by
          rcases Int.lt_or_le 0 (a / b) with h6 | h6
          · have : b ≤ a / b * b := by
              have : 0 ≤ (a / b - 1) * b := Int.mul_nonneg (by omega) (by omega)
              rw [Int.sub_mul] at this; omega
            omega
          · exact h6
        omega
  exact w64_of (by omega) (by omega)

/-- A value between those of the two ends of a leg. -/
def mixE (u v s d : Int) : Int := (u * (s - d) + v * d) / s
theorem mix_in {u v s d U : Int} (hs : 0 < s) (hs2 : s ≤ 8000000000000) (hd : 0 ≤ d) (hd2 : d ≤ s) (hU : 0 ≤ U) (hU2 : U ≤ 100000) (hu : -U ≤ u) (hu2 : u ≤ U) (hv : -U ≤ v) (hv2 : v ≤ U) :
    w64 (w64 (u * w64 (s - d)) + w64 (v * d)) = u * (s - d) + v * d ∧ -800000000000000000 ≤ u * (s - d) + v * d ∧ u * (s - d) + v * d ≤ 800000000000000000 := by
  have hsd : w64 (s - d) = s - d := w64_of (by omega) (by omega)
  rw [hsd]
  have h1 := mul_le_of (a := u) (b := s - d) (A := 100000) (B := s - d) (by omega) (by omega) (by omega) (by omega)
  have h2 := mul_le_of (a := v) (b := d) (A := 100000) (B := d) (by omega) (by omega) (by omega) (by omega)
  rw [w64_of (n := u * (s - d)) (by omega) (by omega), w64_of (n := v * d) (by omega) (by omega), w64_of (by omega) (by omega)]
  exact ⟨rfl, by omega, by omega⟩

def legP (a b : Ap) (p : Pt) : Option Prt :=
  bif decide (dotE a.pt b.pt p < 0) || decide (dotE a.pt b.pt p > dotE a.pt b.pt b.pt) then none
  else some ⟨offs a.pt b.pt p, mixE a.half b.half (dotE a.pt b.pt b.pt) (dotE a.pt b.pt p), mixE a.level b.level (dotE a.pt b.pt b.pt) (dotE a.pt b.pt p), a.run⟩
def legF (c : Chan) (k : Nat) (p : Pt) : Option Prt := legP (c.axis.getD k default) (c.axis.getD (k + 1) default) p
def bendF (c : Chan) (k : Nat) (p : Pt) : Option Prt :=
  bif decide (dotE (c.axis.getD (k - 1) default).pt (c.axis.getD k default).pt p ≤ dotE (c.axis.getD (k - 1) default).pt (c.axis.getD k default).pt (c.axis.getD k default).pt) || decide (dotE (c.axis.getD k default).pt (c.axis.getD (k + 1) default).pt p ≥ 0) then none
  else some ⟨span (c.axis.getD k default).pt p, (c.axis.getD k default).half, (c.axis.getD k default).level, (c.axis.getD k default).run⟩

theorem rPrt_of {a b c d : Int} {l : Bool} {o : Option Prt} (h : ⟨a, b, c, d⟩ = oPrt o) (k : l = o.isSome) : SubR (.t [.g [.d (dI a), .d (dI b), .d (dI c), .d (dI d)], .s (.d (.lit l))]) (rPrt o) := by
  subst k
  unfold rPrt
  rw [← h]
  exact SubR.t ⟨⟨LeD.refl _, LeD.refl _, LeD.refl _, LeD.refl _, trivial⟩, fun _ _ r => r, trivial⟩

theorem down_mix {u v s d U : Int} (hs : 0 < s) (hs2 : s ≤ 8000000000000) (hd : 0 ≤ d) (hd2 : d ≤ s) (hU : 0 ≤ U) (hU2 : U ≤ 100000) (hu : -U ≤ u) (hu2 : u ≤ U) (hv : -U ≤ v) (hv2 : v ≤ U) :
    (if (w64 (w64 (u * w64 (s - d)) + w64 (v * d))).tmod s < 0 then w64 (w64 ((w64 (w64 (u * w64 (s - d)) + w64 (v * d))).tdiv s) - 1) else w64 ((w64 (w64 (u * w64 (s - d)) + w64 (v * d))).tdiv s)) = mixE u v s d := by
  obtain ⟨h1, h2, h3⟩ := mix_in hs hs2 hd hd2 hU hU2 hu hu2 hv hv2
  rw [h1]
  exact down_eq hs (by omega) (by omega)
theorem floor_mix {u v s d U : Int} (hs : 0 < s) (hs2 : s ≤ 8000000000000) (hd : 0 ≤ d) (hd2 : d ≤ s) (hU : 0 ≤ U) (hU2 : U ≤ 100000) (hu : -U ≤ u) (hu2 : u ≤ U) (hv : -U ≤ v) (hv2 : v ≤ U) :
    w64 (Int.tdiv (w64 (w64 (w64 (u * w64 (s - d)) + w64 (v * d)) - (if (w64 (w64 (u * w64 (s - d)) + w64 (v * d))).tmod s < 0 then w64 ((w64 (w64 (u * w64 (s - d)) + w64 (v * d))).tmod s + s) else (w64 (w64 (u * w64 (s - d)) + w64 (v * d))).tmod s))) s) = mixE u v s d := by
  obtain ⟨h1, h2, h3⟩ := mix_in hs hs2 hd hd2 hU hU2 hu hu2 hv hv2
  rw [h1]
  exact Floor_eq hs (by omega) (by omega) (by omega)
theorem prt_ext {a b c d a' b' c' d' : Int} (h1 : a = a') (h2 : b = b') (h3 : c = c') (h4 : d = d') : Prt.mk a b c d = Prt.mk a' b' c' d' := by subst h1; subst h2; subst h3; subst h4; rfl
abbrev up (k : Nat) : Nat := (w64 ((k : Int) + 1)).toNat
theorem up_eq {k : Nat} (h : k ≤ 1000000) : up k = k + 1 := by
  unfold up
  rw [w64_of (by omega) (by omega)]; omega
theorem rPrt_le {s0 s1 s2 s3 t : SV} {o : Option Prt} {p : Prt} {l : Bool} (ho : oPrt o = p) (hl : o.isSome = l) (h0 : LeS s0 (.d (dI p.offset))) (h1 : LeS s1 (.d (dI p.half))) (h2 : LeS s2 (.d (dI p.bottom))) (h3 : LeS s3 (.d (dI p.run))) (h4 : LeS t (.d (.val (.bool l)))) :
    SubR (.t [.g [s0, s1, s2, s3], .s t]) (rPrt o) := by
  subst ho; subst hl
  exact SubR.t ⟨⟨h0, h1, h2, h3, trivial⟩, h4, trivial⟩
abbrev axis (c : Chan) (k : Nat) : Ap := c.axis.getD k default
def partE (a b : Ap) (p : Pt) : Prt := ⟨offs a.pt b.pt p, mixE a.half b.half (dotE a.pt b.pt b.pt) (dotE a.pt b.pt p), mixE a.level b.level (dotE a.pt b.pt b.pt) (dotE a.pt b.pt p), a.run⟩
theorem onLeg (c : Chan) (k : Nat) (p : Pt) (hv : Val c) (hk : k + 1 < c.axis.length) (hp : good p = true) : CallP Tryz.prog 91 [chan c, vI k, pt p] (rPrt (legF c k p)) := by
  have hn := hv.n20
  have ha := hv.pts k (by omega)
  have hb := hv.pts (k + 1) hk
  have hab := hv.apart k hk
  obtain ⟨d1, d2, d3⟩ := dot_eq ha hb hp
  obtain ⟨s1, s2, s3⟩ := dot_eq ha hb hb
  have s4 := sq_pos hab
  have hh := hv.half k (by omega)
  have hh' := hv.half (k + 1) hk
  have hl := hv.level k (by omega)
  have hl' := hv.level (k + 1) hk
  have ho := hv.over
  have e : w64 ((k : Int) + 1) = ((k + 1 : Nat) : Int) := w64_of (by omega) (by omega)
  have eup : up k = k + 1 := up_eq (by omega)
  have eu : (w64 ((k : Int) + 1)).toNat = k + 1 := eup
  refine callP_of_ex (rc := []) (N := 79) Tryz.func91 rfl rfl Tryz.call91 tab_ok mix rfl rfl (fun cx href => ?_)
  refine callN (cdot c k p hk (by omega)) ?_
  rw [d1, s1]
  repeat first | refine sk ?_ | refine st ?_ | refine sg ?_ | refine sh ?_ | refine su ?_ | refine sn1 ?_ | refine sn0 ?_
  refine And.intro (fun h => ?_) (fun h => ?_)
  · exact rPrt_of (by unfold legF legP; rw [h]; rfl) (by unfold legF legP; rw [h]; rfl)
  have h : (decide (dotE (c.axis.getD k default).pt (c.axis.getD (k + 1) default).pt p < 0) || decide (dotE (c.axis.getD k default).pt (c.axis.getD (k + 1) default).pt p > dotE (c.axis.getD k default).pt (c.axis.getD (k + 1) default).pt (c.axis.getD (k + 1) default).pt)) = false := h
  have h' := h
  simp only [Bool.or_eq_false_iff, decide_eq_false_iff_not] at h'
  refine oi ⟨by omega, by omega⟩ ?_
  refine oi (by show 0 ≤ w64 ((k : Int) + 1) ∧ w64 ((k : Int) + 1) < _; rw [e]; exact ⟨by omega, by omega⟩) ?_
  refine And.intro (by kernel_rfl) ?_
  refine callN (place (c.axis.getD k default)) ?_
  refine callN (place (c.axis.getD (up k) default)) ?_
  refine callN (gOffset (c.axis.getD k default).pt (c.axis.getD (up k) default).pt p ha (by rw [eup]; exact hb) hp (by rw [eup]; exact hab)) ?_
  refine And.intro (by kernel_rfl) ?_
  refine callN (down _ _ (by omega)) ?_
  refine callN (down _ _ (by omega)) ?_
  refine And.intro (by kernel_rfl) ?_
  refine rPrt_le (p := partE (axis c k) (axis c (k + 1)) p) (l := true) (by unfold legF legP; rw [h]; rfl) (by unfold legF legP; rw [h]; rfl) ?_ ?_ ?_ ?_ ?_
  · exact LeD.of_eq (congrArg dI (by rw [eup]; rfl))
  · refine LeD.of_eq (congrArg dI ?_)
    simp only [eu, Int.toNat_natCast]
    exact down_mix (U := 100000) s4 (by omega) (by omega) (by omega) (by omega) (by omega) (by omega) (by omega) (by omega) (by omega)
  · refine LeD.of_eq (congrArg dI ?_)
    simp only [eu, Int.toNat_natCast]
    exact down_mix (U := 20000) s4 (by omega) (by omega) (by omega) (by omega) (by omega) (by omega) (by omega) (by omega) (by omega)
  · exact LeD.refl _
  · exact fun _ _ r => r
theorem rleg (c : Chan) (k : Nat) (p : Pt) (hv : Val c) (hk : k + 1 < c.axis.length) (hp : good p = true) : CallP Tryz.prog 103 [chan c, vI k, pt p] (rPrt (legF c k p)) := by
  have hn := hv.n20
  have ha := hv.pts k (by omega)
  have hb := hv.pts (k + 1) hk
  have hab := hv.apart k hk
  obtain ⟨d1, d2, d3⟩ := dot_eq ha hb hp
  obtain ⟨s1, s2, s3⟩ := dot_eq ha hb hb
  have s4 := sq_pos hab
  have hh := hv.half k (by omega)
  have hh' := hv.half (k + 1) hk
  have hl := hv.level k (by omega)
  have hl' := hv.level (k + 1) hk
  have ho := hv.over
  have e : w64 ((k : Int) + 1) = ((k + 1 : Nat) : Int) := w64_of (by omega) (by omega)
  have eup : up k = k + 1 := up_eq (by omega)
  have eu : (w64 ((k : Int) + 1)).toNat = k + 1 := eup
  refine callP_of_ex (rc := []) (N := 77) Tryz.func103 rfl rfl Tryz.call103 tab_ok mix rfl rfl (fun cx href => ?_)
  refine oi ⟨by omega, by omega⟩ ?_
  refine oi (by show 0 ≤ w64 ((k : Int) + 1) ∧ w64 ((k : Int) + 1) < _; rw [e]; exact ⟨by omega, by omega⟩) ?_
  refine And.intro (by kernel_rfl) ?_
  refine callN (Place (c.axis.getD k default)) ?_
  refine callN (Place (c.axis.getD (up k) default)) ?_
  refine callN (Dot (c.axis.getD k default).pt (c.axis.getD (up k) default).pt p) ?_
  refine callN (Place (c.axis.getD k default)) ?_
  refine callN (Place (c.axis.getD (up k) default)) ?_
  refine callN (Square (c.axis.getD k default).pt (c.axis.getD (up k) default).pt) ?_
  refine And.intro (by kernel_rfl) ?_
  repeat first | refine sk ?_ | refine st ?_ | refine sg ?_ | refine sh ?_ | refine su ?_ | refine sn1 ?_ | refine sn0 ?_
  have ed : dot (c.axis.getD k default).pt (c.axis.getD (up k) default).pt p = dotE (c.axis.getD k default).pt (c.axis.getD (k + 1) default).pt p := by rw [eup]; exact d1
  have es : dot (c.axis.getD k default).pt (c.axis.getD (up k) default).pt (c.axis.getD (up k) default).pt = dotE (c.axis.getD k default).pt (c.axis.getD (k + 1) default).pt (c.axis.getD (k + 1) default).pt := by rw [eup]; exact s1
  rw [ed, es]
  refine And.intro (fun h => ?_) (fun h => ?_)
  · exact rPrt_of (by unfold legF legP; rw [h]; rfl) (by unfold legF legP; rw [h]; rfl)
  have h : (decide (dotE (c.axis.getD k default).pt (c.axis.getD (k + 1) default).pt p < 0) || decide (dotE (c.axis.getD k default).pt (c.axis.getD (k + 1) default).pt p > dotE (c.axis.getD k default).pt (c.axis.getD (k + 1) default).pt (c.axis.getD (k + 1) default).pt)) = false := h
  have h' := h
  simp only [Bool.or_eq_false_iff, decide_eq_false_iff_not] at h'
  refine callN (Place (c.axis.getD k default)) ?_
  refine callN (Place (c.axis.getD (up k) default)) ?_
  refine callN (rOffset (c.axis.getD k default).pt (c.axis.getD (up k) default).pt p ha (by rw [eup]; exact hb) hp (by rw [eup]; exact hab)) ?_
  refine callN (Floor0 _ _ (by omega)) ?_
  refine callN (Floor0 _ _ (by omega)) ?_
  refine And.intro (by kernel_rfl) ?_
  refine rPrt_le (p := partE (axis c k) (axis c (k + 1)) p) (l := true) (by unfold legF legP; rw [h]; rfl) (by unfold legF legP; rw [h]; rfl) ?_ ?_ ?_ ?_ ?_
  · exact LeD.of_eq (congrArg dI (by rw [eup]; rfl))
  · refine LeD.of_eq (congrArg dI ?_)
    simp only [eu, Int.toNat_natCast]
    exact floor_mix (U := 100000) s4 (by omega) (by omega) (by omega) (by omega) (by omega) (by omega) (by omega) (by omega) (by omega)
  · refine LeD.of_eq (congrArg dI ?_)
    simp only [eu, Int.toNat_natCast]
    exact floor_mix (U := 20000) s4 (by omega) (by omega) (by omega) (by omega) (by omega) (by omega) (by omega) (by omega) (by omega)
  · exact LeD.refl _
  · exact fun _ _ r => r
end Go.Ch

namespace Go.Ch
open Go Go.Ax Go.Proofs Go.Proofs.Tryz
set_option maxRecDepth 100000
set_option pp.maxSteps 400
set_option maxHeartbeats 1000000

/-- The bend at axis point j + 1. -/
def bendP (a q b : Ap) (p : Pt) : Option Prt :=
  bif decide (dotE a.pt q.pt p ≤ dotE a.pt q.pt q.pt) || decide (dotE q.pt b.pt p ≥ 0) then none else some ⟨span q.pt p, q.half, q.level, q.run⟩
def bendN (c : Chan) (j : Nat) (p : Pt) : Option Prt := bendP (axis c j) (axis c (j + 1)) (axis c (j + 2)) p

theorem onBend (c : Chan) (j : Nat) (p : Pt) (hv : Val c) (hk : j + 2 < c.axis.length) (hp : good p = true) : CallP Tryz.prog 92 [chan c, vI ((j + 1 : Nat) : Int), pt p] (rPrt (bendN c j p)) := by
  have hn := hv.n20
  have ha := hv.pts j (by omega)
  have hq := hv.pts (j + 1) (by omega)
  have hb := hv.pts (j + 2) hk
  obtain ⟨d1, _, _⟩ := dot_eq ha hq hp
  obtain ⟨s1, _, _⟩ := dot_eq ha hq hq
  obtain ⟨e1, _, _⟩ := dot_eq hq hb hp
  have em : w64 (((j + 1 : Nat) : Int) - 1) = (j : Int) := by rw [w64_of (by omega) (by omega)]; omega
  have c1 : CallP Tryz.prog 114 [chan c, vI (w64 (((j + 1 : Nat) : Int) - 1)), pt p] (.t [.s (.d (dI (dotE (axis c j).pt (axis c (j + 1)).pt p))), .s (.d (dI (dotE (axis c j).pt (axis c (j + 1)).pt (axis c (j + 1)).pt)))]) := by
    rw [em, ← d1, ← s1]; exact cdot c j p (by omega) (by omega)
  have c2 := cdot c (j + 1) p hk (by omega)
  rw [e1] at c2
  refine callP_of_ex (rc := []) (N := 52) Tryz.func92 rfl rfl Tryz.call92 tab_ok mix rfl rfl (fun cx href => ?_)
  refine callN c1 ?_
  refine callN c2 ?_
  repeat first | refine sk ?_ | refine st ?_ | refine sg ?_ | refine sh ?_ | refine su ?_ | refine sn1 ?_ | refine sn0 ?_
  refine And.intro (fun h => ?_) (fun h => ?_)
  · exact rPrt_of (by unfold bendN bendP; rw [h]; rfl) (by unfold bendN bendP; rw [h]; rfl)
  refine oi ⟨by omega, by omega⟩ ?_
  refine callN (place (axis c (j + 1))) ?_
  refine callN (gSpan (axis c (j + 1)).pt p hq hp) ?_
  refine And.intro (by kernel_rfl) ?_
  refine rPrt_le (p := ⟨span (axis c (j + 1)).pt p, (axis c (j + 1)).half, (axis c (j + 1)).level, (axis c (j + 1)).run⟩) (l := true) (by unfold bendN bendP; rw [h]; rfl) (by unfold bendN bendP; rw [h]; rfl) ?_ ?_ ?_ ?_ ?_
  · exact LeD.refl _
  · exact LeD.refl _
  · exact LeD.refl _
  · exact LeD.refl _
  · exact fun _ _ r => r
theorem rbend0 (c : Chan) (p : Pt) : CallP Tryz.prog 104 [chan c, vI 0, pt p] (rPrt none) := by
  refine callP_of_ex (rc := []) (N := 78) Tryz.func104 rfl rfl Tryz.call104 tab_ok mix rfl rfl (fun cx href => ?_)
  repeat first | refine sk ?_ | refine st ?_ | refine sg ?_ | refine sh ?_ | refine su ?_ | refine sn1 ?_ | refine sn0 ?_
  refine callG (Legs c) ?_
  repeat first | refine sk ?_ | refine st ?_ | refine sg ?_ | refine sh ?_ | refine su ?_ | refine sn1 ?_ | refine sn0 ?_
  refine And.intro (fun h => ?_) (fun h => ?_)
  · exact rPrt_of rfl rfl
  · cases h
theorem rbend (c : Chan) (j : Nat) (p : Pt) (hv : Val c) (hk : j + 2 < c.axis.length) (hp : good p = true) : CallP Tryz.prog 104 [chan c, vI ((j + 1 : Nat) : Int), pt p] (rPrt (bendN c j p)) := by
  have hn := hv.n20
  have ha := hv.pts j (by omega)
  have hq := hv.pts (j + 1) (by omega)
  have hb := hv.pts (j + 2) hk
  obtain ⟨d1, _, _⟩ := dot_eq ha hq hp
  obtain ⟨s1, _, _⟩ := dot_eq ha hq hq
  obtain ⟨e1, _, _⟩ := dot_eq hq hb hp
  have em : w64 (((j + 1 : Nat) : Int) - 1) = (j : Int) := by rw [w64_of (by omega) (by omega)]; omega
  have ep : w64 (((j + 1 : Nat) : Int) + 1) = ((j + 2 : Nat) : Int) := by rw [w64_of (by omega) (by omega)]; omega
  have el : w64 ((c.axis.length : Int) - 1) = (c.axis.length : Int) - 1 := w64_of (by omega) (by omega)
  have om : (w64 (((j + 1 : Nat) : Int) - 1)).toNat = j := by rw [em]; rfl
  have op : (w64 (((j + 1 : Nat) : Int) + 1)).toNat = j + 2 := by rw [ep]; rfl
  refine callP_of_ex (rc := []) (N := 78) Tryz.func104 rfl rfl Tryz.call104 tab_ok mix rfl rfl (fun cx href => ?_)
  repeat first | refine sk ?_ | refine st ?_ | refine sg ?_ | refine sh ?_ | refine su ?_ | refine sn1 ?_ | refine sn0 ?_
  refine callG (Legs c) ?_
  repeat first | refine sk ?_ | refine st ?_ | refine sg ?_ | refine sh ?_ | refine su ?_ | refine sn1 ?_ | refine sn0 ?_
  refine And.intro (fun h => ?_) (fun _ => ?_)
  · exfalso
    have h : (decide (((j + 1 : Nat) : Int) < 1) || decide (((j + 1 : Nat) : Int) ≥ w64 ((c.axis.length : Int) - 1))) = true := h
    rw [el] at h
    simp at h
    omega
  refine oi (by show 0 ≤ w64 (((j + 1 : Nat) : Int) - 1) ∧ w64 (((j + 1 : Nat) : Int) - 1) < _; rw [em]; exact ⟨by omega, by omega⟩) ?_
  refine callN (Place (c.axis.getD (w64 (((j + 1 : Nat) : Int) - 1)).toNat default)) ?_
  refine oi ⟨by omega, by omega⟩ ?_
  refine callN (Place (axis c (j + 1))) ?_
  refine oi (by show 0 ≤ w64 (((j + 1 : Nat) : Int) + 1) ∧ w64 (((j + 1 : Nat) : Int) + 1) < _; rw [ep]; exact ⟨by omega, by omega⟩) ?_
  refine callN (Place (c.axis.getD (w64 (((j + 1 : Nat) : Int) + 1)).toNat default)) ?_
  refine And.intro (by kernel_rfl) ?_
  refine callN (Dot (c.axis.getD (w64 (((j + 1 : Nat) : Int) - 1)).toNat default).pt (axis c (j + 1)).pt p) ?_
  refine callN (Square (c.axis.getD (w64 (((j + 1 : Nat) : Int) - 1)).toNat default).pt (axis c (j + 1)).pt) ?_
  repeat first | refine sk ?_ | refine st ?_ | refine sg ?_ | refine sh ?_ | refine su ?_ | refine sn1 ?_ | refine sn0 ?_
  refine callG (Dot (axis c (j + 1)).pt (c.axis.getD (w64 (((j + 1 : Nat) : Int) + 1)).toNat default).pt p) ?_
  repeat first | refine sk ?_ | refine st ?_ | refine sg ?_ | refine sh ?_ | refine su ?_ | refine sn1 ?_ | refine sn0 ?_
  refine And.intro (by kernel_rfl) ?_
  have key : (decide (dot (c.axis.getD (w64 (((j + 1 : Nat) : Int) - 1)).toNat default).pt (axis c (j + 1)).pt p ≤ dot (c.axis.getD (w64 (((j + 1 : Nat) : Int) - 1)).toNat default).pt (axis c (j + 1)).pt (axis c (j + 1)).pt) || decide (dot (axis c (j + 1)).pt (c.axis.getD (w64 (((j + 1 : Nat) : Int) + 1)).toNat default).pt p ≥ 0)) = (decide (dotE (axis c j).pt (axis c (j + 1)).pt p ≤ dotE (axis c j).pt (axis c (j + 1)).pt (axis c (j + 1)).pt) || decide (dotE (axis c (j + 1)).pt (axis c (j + 2)).pt p ≥ 0)) := by
    rw [om, op, d1, s1, e1]
  refine And.intro (fun h => ?_) (fun h => ?_)
  · have h := key.symm.trans h
    exact rPrt_of (by unfold bendN bendP; rw [h]; rfl) (by unfold bendN bendP; rw [h]; rfl)
  have h := key.symm.trans h
  refine callN (rSpan (axis c (j + 1)).pt p hq hp) ?_
  refine oi ⟨by omega, by omega⟩ ?_
  refine oi ⟨by omega, by omega⟩ ?_
  refine oi ⟨by omega, by omega⟩ ?_
  refine And.intro (by kernel_rfl) ?_
  refine rPrt_le (p := ⟨span (axis c (j + 1)).pt p, (axis c (j + 1)).half, (axis c (j + 1)).level, (axis c (j + 1)).run⟩) (l := true) (by unfold bendN bendP; rw [h]; rfl) (by unfold bendN bendP; rw [h]; rfl) ?_ ?_ ?_ ?_ ?_
  · exact LeD.refl _
  · exact LeD.refl _
  · exact LeD.refl _
  · exact LeD.refl _
  · exact fun _ _ r => r

def legsL (c : Chan) (p : Pt) (i : Nat) : List Prt := (List.range i).filterMap fun k => legF c k p
def bendsL (c : Chan) (p : Pt) (i : Nat) : List Prt := (List.range i).filterMap fun j => bendN c j p
def partsL (c : Chan) (p : Pt) : List Prt := legsL c p (c.axis.length - 1) ++ bendsL c p (c.axis.length - 2)
abbrev chanB (c : Chan) : Box := .cells [.d (dS c.name), .d (dAps c.axis), .d (dI c.over), .d (dI c.buffer), .d (dRegs c.regions)]
abbrev ptB (p : Pt) : Box := .cells [.d (dI p.x), .d (dI p.y)]
theorem parts (c : Chan) (p : Pt) (hv : Val c) (hp : good p = true) : CallP Tryz.prog 58 [chan c, pt p] (.s (.d (dPrts (partsL c p)))) := by
  have h2 := hv.n2
  have h20 := hv.n20
  have el : w64 ((c.axis.length : Int) - 1) = (c.axis.length : Int) - 1 := w64_of (by omega) (by omega)
  refine callP_of_ex (rc := []) (N := 53) Tryz.func58 rfl rfl Tryz.call58 tab_ok mix rfl rfl (fun cx href => ?_)
  refine AW.loopI (fun i : Nat => ⟨[(2, .s (.ptr 2 0)), (3, .s (.ptr 3 0)), (5, .s (.mo (legsL c p i).isEmpty 100)), (15, vI (w64 ((c.axis.length : Int) - 1))), (16, vI i)], [(2, some (chanB c)), (3, some (ptB p)), (100, some (.mrow 96 (legsL c p i).length 4 (prtEl (legsL c p i))))]⟩)
    (fun i => i ≤ c.axis.length - 1) (fun i => c.axis.length - 1 - i) 0 (Nat.zero_le _) ?_ ?_
  · exact SubI.of0 href [(100, 1000)] rfl ⟨⟨rfl, LeBx.rfl⟩, ⟨rfl, LeBx.rfl⟩, ⟨rfl, rfl⟩, trivial⟩ ⟨⟨rfl, LeQ.rfl⟩, ⟨rfl, LeQ.rfl⟩, ⟨rfl, LeQ.nil rfl⟩, ⟨rfl, LeQ.rfl⟩, ⟨rfl, LeQ.rfl⟩, trivial⟩
  · intro i hi
    refine ex.sound (rc := []) tab_ok mix href _ ?_
    refine And.intro (fun h => ?_) (fun h => ?_)
    · have h : (i : Int) < w64 ((c.axis.length : Int) - 1) := decT h
      rw [el] at h
      refine callN (onLeg c i p hv (by omega) hp) ?_
      refine And.intro (fun h' => ?_) (fun h' => ?_)
      · have h' : (legF c i p).isSome = true := h'
        have e' : legsL c p (i + 1) = legsL c p i ++ [oPrt (legF c i p)] := by
          unfold legsL
          rw [filterMap_range_succ]
          obtain ⟨x, hx⟩ := Option.isSome_iff_exists.1 h'
          rw [hx]; rfl
        have hlen : (legsL c p i).length ≤ i := by unfold legsL; exact Nat.le_trans (List.length_filterMap_le _ _) (by simp)
        refine ob (by decide) ?_
        refine ob (by rw [bif_len]; show _ * 32 ≤ _; omega) ?_
        refine ob (fit1 (lt4 rfl rfl rfl rfl)) ?_
        refine ⟨i + 1, by omega, by omega, ?_⟩
        refine SubI.of0 href [(100, 30)] rfl ⟨⟨rfl, LeBx.rfl⟩, ⟨rfl, LeBx.rfl⟩, ⟨rfl, ?_⟩, trivial⟩ ⟨⟨rfl, LeQ.rfl⟩, ⟨rfl, LeQ.rfl⟩, ⟨rfl, LeQ.mo ?_⟩, ⟨rfl, LeQ.rfl⟩, ⟨rfl, LeQ.of_eq (congrArg vI (w64_of (by omega) (by omega)))⟩, trivial⟩
        · show LeBx _ (.mrow 96 (legsL c p (i + 1)).length 4 (prtEl (legsL c p (i + 1))))
          rw [e']
          exact LeBx.snoc (el := prtD) (x := oPrt (legF c i p)) (lt4 rfl rfl rfl rfl)
        · rw [e']; exact isEmpty_snoc _ _
      · have h' : (legF c i p).isSome = false := h'
        have e' : legsL c p (i + 1) = legsL c p i := by
          unfold legsL
          rw [filterMap_range_succ]
          cases hx : legF c i p with
          | none => simp
          | some x => rw [hx] at h'; cases h'
        refine ⟨i + 1, by omega, by omega, ?_⟩
        refine SubI.of0 href [] rfl ⟨⟨rfl, LeBx.rfl⟩, ⟨rfl, LeBx.rfl⟩, ⟨rfl, LeBx.of_eq (by rw [e']; rfl)⟩, trivial⟩ ⟨⟨rfl, LeQ.rfl⟩, ⟨rfl, LeQ.rfl⟩, ⟨rfl, LeQ.of_eq (by rw [e']; rfl)⟩, ⟨rfl, LeQ.rfl⟩, ⟨rfl, LeQ.of_eq (congrArg vI (w64_of (by omega) (by omega)))⟩, trivial⟩
    · have h : ¬ (i : Int) < w64 ((c.axis.length : Int) - 1) := decF h
      rw [el] at h
      have hi' : i = c.axis.length - 1 := by omega
      subst hi'
      refine AW.loopI (fun j : Nat => ⟨[(2, .s (.ptr 2 0)), (3, .s (.ptr 3 0)), (5, .s (.mo (legsL c p (c.axis.length - 1) ++ bendsL c p j).isEmpty 100)), (9, vI ((j + 1 : Nat) : Int))], [(2, some (chanB c)), (3, some (ptB p)), (100, some (.mrow 96 (legsL c p (c.axis.length - 1) ++ bendsL c p j).length 4 (prtEl (legsL c p (c.axis.length - 1) ++ bendsL c p j))))]⟩)
        (fun j => j ≤ c.axis.length - 2) (fun j => c.axis.length - j) 0 (Nat.zero_le _) ?_ ?_
      · exact SubI.of0 href [] rfl ⟨⟨rfl, LeBx.rfl⟩, ⟨rfl, LeBx.rfl⟩, ⟨rfl, LeBx.of_eq (by simp [bendsL, renB])⟩, trivial⟩ ⟨⟨rfl, LeQ.rfl⟩, ⟨rfl, LeQ.rfl⟩, ⟨rfl, LeQ.of_eq (by simp [bendsL, renA, renS]; rfl)⟩, ⟨rfl, LeQ.rfl⟩, trivial⟩
      · intro j hj
        refine ex.sound (rc := []) tab_ok mix href _ ?_
        refine And.intro (fun h => ?_) (fun h => ?_)
        · have h : ((j + 1 : Nat) : Int) < w64 ((c.axis.length : Int) - 1) := decT h
          rw [el] at h
          refine callN (onBend c j p hv (by omega) hp) ?_
          refine And.intro (fun h' => ?_) (fun h' => ?_)
          · have h' : (bendN c j p).isSome = true := h'
            have e' : legsL c p (c.axis.length - 1) ++ bendsL c p (j + 1) = (legsL c p (c.axis.length - 1) ++ bendsL c p j) ++ [oPrt (bendN c j p)] := by
              unfold bendsL
              rw [filterMap_range_succ, List.append_assoc]
              obtain ⟨x, hx⟩ := Option.isSome_iff_exists.1 h'
              rw [hx]; rfl
            have hlen : (legsL c p (c.axis.length - 1) ++ bendsL c p j).length ≤ c.axis.length - 1 + j := by
              rw [List.length_append]
              exact Nat.add_le_add (Nat.le_trans (List.length_filterMap_le _ _) (by simp)) (Nat.le_trans (List.length_filterMap_le _ _) (by simp))
            refine ob (by decide) ?_
            refine ob (by rw [bif_len]; show _ * 32 ≤ _; omega) ?_
            refine ob (fit1 (lt4 rfl rfl rfl rfl)) ?_
            refine ⟨j + 1, by omega, by omega, ?_⟩
            refine SubI.of0 href [(100, 51)] rfl ⟨⟨rfl, LeBx.rfl⟩, ⟨rfl, LeBx.rfl⟩, ⟨rfl, ?_⟩, trivial⟩ ⟨⟨rfl, LeQ.rfl⟩, ⟨rfl, LeQ.rfl⟩, ⟨rfl, LeQ.mo ?_⟩, ⟨rfl, LeQ.of_eq (congrArg vI (w64_of (by omega) (by omega)))⟩, trivial⟩
            · show LeBx _ (.mrow 96 (legsL c p (c.axis.length - 1) ++ bendsL c p (j + 1)).length 4 (prtEl (legsL c p (c.axis.length - 1) ++ bendsL c p (j + 1))))
              rw [e']
              exact LeBx.snoc (el := prtD) (x := oPrt (bendN c j p)) (lt4 rfl rfl rfl rfl)
            · rw [e']; exact isEmpty_snoc _ _
          · have h' : (bendN c j p).isSome = false := h'
            have e' : bendsL c p (j + 1) = bendsL c p j := by
              unfold bendsL
              rw [filterMap_range_succ]
              cases hx : bendN c j p with
              | none => simp
              | some x => rw [hx] at h'; cases h'
            refine ⟨j + 1, by omega, by omega, ?_⟩
            refine SubI.of0 href [] rfl ⟨⟨rfl, LeBx.rfl⟩, ⟨rfl, LeBx.rfl⟩, ⟨rfl, LeBx.of_eq (by rw [e']; rfl)⟩, trivial⟩ ⟨⟨rfl, LeQ.rfl⟩, ⟨rfl, LeQ.rfl⟩, ⟨rfl, LeQ.of_eq (by rw [e']; rfl)⟩, ⟨rfl, LeQ.of_eq (congrArg vI (w64_of (by omega) (by omega)))⟩, trivial⟩
        · have h : ¬ ((j + 1 : Nat) : Int) < w64 ((c.axis.length : Int) - 1) := decF h
          rw [el] at h
          have hj' : j = c.axis.length - 2 := by omega
          subst hj'
          exact SubR.mo
end Go.Ch

namespace Go.Ch
open Go Go.Ax Go.Proofs Go.Proofs.Tryz
set_option maxRecDepth 100000
set_option pp.maxSteps 400
set_option maxHeartbeats 1000000

def bendR (c : Chan) (k : Nat) (p : Pt) : Option Prt := match k with
  | 0 => none
  | j + 1 => bendN c j p
theorem rbendR (c : Chan) (k : Nat) (p : Pt) (hv : Val c) (hk : k + 1 < c.axis.length) (hp : good p = true) : CallP Tryz.prog 104 [chan c, vI k, pt p] (rPrt (bendR c k p)) := by
  cases k with
  | zero => exact rbend0 c p
  | succ j => exact rbend c j p hv hk hp
def holdsL (c : Chan) (p : Pt) (i : Nat) : List Prt := (List.range i).flatMap fun k => (legF c k p).toList ++ (bendR c k p).toList
theorem holdsL_succ (c : Chan) (p : Pt) (i : Nat) : holdsL c p (i + 1) = holdsL c p i ++ ((legF c i p).toList ++ (bendR c i p).toList) := by
  unfold holdsL
  rw [List.range_succ, List.flatMap_append]
  simp
theorem toList_some {o : Option Prt} (h : o.isSome = true) : o.toList = [oPrt o] := by
  cases o with
  | none => cases h
  | some x => rfl
theorem toList_none {o : Option Prt} (h : o.isSome = false) : o.toList = [] := by
  cases o with
  | none => rfl
  | some x => cases h
theorem holdsL_len (c : Chan) (p : Pt) : ∀ i, (holdsL c p i).length ≤ 2 * i
  | 0 => Nat.zero_le _
  | i + 1 => by
    rw [holdsL_succ, List.length_append, List.length_append]
    have := holdsL_len c p i
    have h1 : (legF c i p).toList.length ≤ 1 := by cases legF c i p <;> simp
    have h2 : (bendR c i p).toList.length ≤ 1 := by cases bendR c i p <;> simp
    omega
theorem holds (c : Chan) (p : Pt) (hv : Val c) (hp : good p = true) : CallP Tryz.prog 71 [chan c, pt p] (.s (.d (dPrts (holdsL c p (c.axis.length - 1))))) := by
  have h2 := hv.n2
  have h20 := hv.n20
  have el : w64 ((c.axis.length : Int) - 1) = (c.axis.length : Int) - 1 := w64_of (by omega) (by omega)
  refine callP_of_ex (rc := []) (N := 42) Tryz.func71 rfl rfl Tryz.call71 tab_ok mix rfl rfl (fun cx href => ?_)
  refine AW.loopI (fun i : Nat => ⟨[(2, .s (.ptr 2 0)), (3, .s (.ptr 3 0)), (5, .s (.mo (holdsL c p i).isEmpty 100)), (6, vI i)], [(2, some (chanB c)), (3, some (ptB p)), (100, some (.mrow 109 (holdsL c p i).length 4 (prtEl (holdsL c p i))))]⟩)
    (fun i => i ≤ c.axis.length - 1) (fun i => c.axis.length - 1 - i) 0 (Nat.zero_le _) ?_ ?_
  · exact SubI.of0 href [(100, 1000)] rfl ⟨⟨rfl, LeBx.rfl⟩, ⟨rfl, LeBx.rfl⟩, ⟨rfl, rfl⟩, trivial⟩ ⟨⟨rfl, LeQ.rfl⟩, ⟨rfl, LeQ.rfl⟩, ⟨rfl, LeQ.nil rfl⟩, ⟨rfl, LeQ.rfl⟩, trivial⟩
  · intro i hi
    have hlen := holdsL_len c p i
    have hs := holdsL_succ c p i
    refine ex.sound (rc := []) tab_ok mix href _ ?_
    refine callN (Legs c) ?_
    refine And.intro (fun h => ?_) (fun h => ?_)
    · have h : (i : Int) < w64 ((c.axis.length : Int) - 1) := decT h
      rw [el] at h
      have ew : w64 ((i : Int) + 1) = ((i + 1 : Nat) : Int) := w64_of (by omega) (by omega)
      refine callN (rleg c i p hv (by omega) hp) ?_
      refine And.intro (fun h1 => ?_) (fun h1 => ?_)
      · have h1 : (legF c i p).isSome = true := h1
        rw [toList_some h1] at hs
        refine ob (by decide) ?_
        refine ob (by rw [bif_len]; show _ * 32 ≤ _; omega) ?_
        refine ob (fit1 (lt4 rfl rfl rfl rfl)) ?_
        refine callN (rbendR c i p hv (by omega) hp) ?_
        refine And.intro (fun h2 => ?_) (fun h2 => ?_)
        · have h2 : (bendR c i p).isSome = true := h2
          rw [toList_some h2, ← List.append_assoc] at hs
          refine ob (by rw [bif_len]; show _ * 32 ≤ _; omega) ?_
          refine ob (fit1 (lt4 rfl rfl rfl rfl)) ?_
          refine ⟨i + 1, by omega, by omega, ?_⟩
          refine SubI.of0 href [(100, 40)] rfl ⟨⟨rfl, LeBx.rfl⟩, ⟨rfl, LeBx.rfl⟩, ⟨rfl, ?_⟩, trivial⟩ ⟨⟨rfl, LeQ.rfl⟩, ⟨rfl, LeQ.rfl⟩, ⟨rfl, LeQ.mo ?_⟩, ⟨rfl, LeQ.int ew⟩, trivial⟩
          · show LeBx _ (.mrow 109 (holdsL c p (i + 1)).length 4 (prtEl (holdsL c p (i + 1))))
            rw [hs]
            refine RowIs.mrow (el := prtD) (RowIs.snoc (RowIs.snoc RowIs.bif ?_) ?_)
            · exact lt4 rfl rfl rfl rfl
            · exact lt4 rfl rfl rfl rfl
          · rw [hs]; exact isEmpty_snoc _ _
        · have h2 : (bendR c i p).isSome = false := h2
          rw [toList_none h2, List.append_nil] at hs
          refine ⟨i + 1, by omega, by omega, ?_⟩
          refine SubI.of0 href [(100, 28)] rfl ⟨⟨rfl, LeBx.rfl⟩, ⟨rfl, LeBx.rfl⟩, ⟨rfl, ?_⟩, trivial⟩ ⟨⟨rfl, LeQ.rfl⟩, ⟨rfl, LeQ.rfl⟩, ⟨rfl, LeQ.mo ?_⟩, ⟨rfl, LeQ.int ew⟩, trivial⟩
          · show LeBx _ (.mrow 109 (holdsL c p (i + 1)).length 4 (prtEl (holdsL c p (i + 1))))
            rw [hs]
            exact RowIs.mrow (el := prtD) (RowIs.snoc RowIs.bif (lt4 rfl rfl rfl rfl))
          · rw [hs]; exact isEmpty_snoc _ _
      · have h1 : (legF c i p).isSome = false := h1
        rw [toList_none h1, List.nil_append] at hs
        refine callN (rbendR c i p hv (by omega) hp) ?_
        refine And.intro (fun h2 => ?_) (fun h2 => ?_)
        · have h2 : (bendR c i p).isSome = true := h2
          rw [toList_some h2] at hs
          refine ob (by decide) ?_
          refine ob (by rw [bif_len]; show _ * 32 ≤ _; omega) ?_
          refine ob (fit1 (lt4 rfl rfl rfl rfl)) ?_
          refine ⟨i + 1, by omega, by omega, ?_⟩
          refine SubI.of0 href [(100, 40)] rfl ⟨⟨rfl, LeBx.rfl⟩, ⟨rfl, LeBx.rfl⟩, ⟨rfl, ?_⟩, trivial⟩ ⟨⟨rfl, LeQ.rfl⟩, ⟨rfl, LeQ.rfl⟩, ⟨rfl, LeQ.mo ?_⟩, ⟨rfl, LeQ.int ew⟩, trivial⟩
          · show LeBx _ (.mrow 109 (holdsL c p (i + 1)).length 4 (prtEl (holdsL c p (i + 1))))
            rw [hs]
            exact RowIs.mrow (el := prtD) (RowIs.snoc RowIs.bif (lt4 rfl rfl rfl rfl))
          · rw [hs]; exact isEmpty_snoc _ _
        · have h2 : (bendR c i p).isSome = false := h2
          rw [toList_none h2, List.append_nil] at hs
          refine ⟨i + 1, by omega, by omega, ?_⟩
          refine SubI.of0 href [] rfl ⟨⟨rfl, LeBx.rfl⟩, ⟨rfl, LeBx.rfl⟩, ⟨rfl, LeBx.of_eq (by rw [hs]; rfl)⟩, trivial⟩ ⟨⟨rfl, LeQ.rfl⟩, ⟨rfl, LeQ.rfl⟩, ⟨rfl, LeQ.of_eq (by rw [hs]; rfl)⟩, ⟨rfl, LeQ.int ew⟩, trivial⟩
    · have h : ¬ (i : Int) < w64 ((c.axis.length : Int) - 1) := decF h
      rw [el] at h
      have hi' : i = c.axis.length - 1 := by omega
      subst hi'
      exact SubR.mo

/-- The least level of some parts. -/
def lvlP (x : Prt) : Int × Bool := lvl x.offset x.half x.bottom x.run
def stepV (r : Int × Bool) (x : Prt) : Int × Bool := bif (lvlP x).2 && (!r.2 || decide ((lvlP x).1 < r.1)) then ((lvlP x).1, true) else r
def desV (l : List Prt) : Int × Bool := l.foldl stepV (0, false)
theorem desV_snoc (l : List Prt) (x : Prt) : desV (l ++ [x]) = stepV (desV l) x := by simp [desV]
def IsDes (l : List Prt) (r : Int × Bool) : Prop := (r = (0, false) ∧ ∀ x ∈ l, (lvlP x).2 = false) ∨ (r.2 = true ∧ (∃ x ∈ l, lvlP x = r) ∧ ∀ x ∈ l, (lvlP x).2 = true → r.1 ≤ (lvlP x).1)
theorem IsDes.step {l : List Prt} {r : Int × Bool} (h : IsDes l r) (x : Prt) : IsDes (l ++ [x]) (stepV r x) := by
  unfold stepV
  rcases h with ⟨rfl, h⟩ | ⟨h1, ⟨y, hy, hyr⟩, h3⟩
  · cases hx : (lvlP x).2 with
    | false =>
      refine .inl ⟨rfl, fun z hz => ?_⟩
      rcases List.mem_append.1 hz with hz | hz
      · exact h z hz
      · simp at hz; subst hz; exact hx
    | true =>
      refine .inr ⟨rfl, ⟨x, by simp, by simp [Prod.ext_iff, hx]⟩, fun z hz hz2 => ?_⟩
      rcases List.mem_append.1 hz with hz | hz
      · rw [h z hz] at hz2; cases hz2
      · simp at hz; subst hz; exact Int.le_refl _
  · rw [h1]
    cases hx : (lvlP x).2 with
    | false =>
      refine .inr ⟨h1, ⟨y, List.mem_append_left _ hy, hyr⟩, fun z hz hz2 => ?_⟩
      rcases List.mem_append.1 hz with hz | hz
      · exact h3 z hz hz2
      · simp at hz; subst hz; rw [hx] at hz2; cases hz2
    | true =>
      by_cases hlt : (lvlP x).1 < r.1
      · rw [decide_eq_true hlt]
        refine .inr ⟨rfl, ⟨x, by simp, by simp [Prod.ext_iff, hx]⟩, fun z hz hz2 => ?_⟩
        simp only [Bool.not_true, Bool.false_or, Bool.and_self, cond_true]
        rcases List.mem_append.1 hz with hz | hz
        · have := h3 z hz hz2; omega
        · simp at hz; subst hz; exact Int.le_refl _
      · rw [decide_eq_false hlt]
        refine .inr ⟨h1, ⟨y, List.mem_append_left _ hy, hyr⟩, fun z hz hz2 => ?_⟩
        rcases List.mem_append.1 hz with hz | hz
        · exact h3 z hz hz2
        · simp at hz; subst hz; show r.1 ≤ _; omega
theorem desV_is (l : List Prt) : IsDes l (desV l) := by
  have : ∀ (m : List Prt), IsDes m (desV m) := by
    intro m
    suffices h : ∀ n, IsDes (m.take n) (desV (m.take n)) by simpa using h m.length
    intro n
    induction n with
    | zero => exact .inl ⟨rfl, by simp⟩
    | succ n ih =>
      by_cases hn : n < m.length
      · rw [List.take_succ_eq_append_getElem hn, desV_snoc]
        exact ih.step _
      · rw [List.take_of_length_le (by omega)] at ih ⊢
        exact ih
  exact this l
theorem IsDes.unique {l m : List Prt} {r s : Int × Bool} (hl : ∀ x, x ∈ l ↔ x ∈ m) (h : IsDes l r) (k : IsDes m s) : r = s := by
  rcases h with ⟨rfl, h⟩ | ⟨h1, ⟨y, hy, hyr⟩, h3⟩
  · rcases k with ⟨rfl, _⟩ | ⟨k1, ⟨z, hz, hzr⟩, _⟩
    · rfl
    · have := h z ((hl z).2 hz)
      rw [hzr, k1] at this; cases this
  · rcases k with ⟨rfl, k⟩ | ⟨k1, ⟨z, hz, hzr⟩, k3⟩
    · have := k y ((hl y).1 hy)
      rw [hyr, h1] at this; cases this
    · have a := h3 z ((hl z).2 hz) (by rw [hzr]; exact k1)
      have b := k3 y ((hl y).1 hy) (by rw [hyr]; exact h1)
      rw [hzr] at a
      rw [hyr] at b
      exact Prod.ext (Int.le_antisymm a b) (h1.trans k1.symm)
theorem parts_holds (c : Chan) (p : Pt) (h2 : 2 ≤ c.axis.length) : ∀ x, x ∈ partsL c p ↔ x ∈ holdsL c p (c.axis.length - 1) := by
  intro x
  unfold partsL legsL bendsL holdsL
  simp only [List.mem_append, List.mem_filterMap, List.mem_range, List.mem_flatMap, Option.mem_toList]
  constructor
  · rintro (⟨k, hk, h⟩ | ⟨j, hj, h⟩)
    · exact ⟨k, hk, .inl h⟩
    · exact ⟨j + 1, by omega, .inr h⟩
  · rintro ⟨k, hk, h | h⟩
    · exact .inl ⟨k, hk, h⟩
    · cases k with
      | zero => cases h
      | succ j => exact .inr ⟨j, by omega, h⟩
/-- The design level. -/
def desF (c : Chan) (p : Pt) : Int × Bool := desV (partsL c p)
theorem desF_holds (c : Chan) (p : Pt) (h2 : 2 ≤ c.axis.length) : desV (holdsL c p (c.axis.length - 1)) = desF c p :=
  ((desV_is _).unique (parts_holds c p h2) (desV_is _)).symm
theorem take_step {l : List Prt} {i : Nat} (h : i < l.length) : desV (l.take (i + 1)) = stepV (desV (l.take i)) (l.getD i default) := by
  rw [List.take_succ_eq_append_getElem h, desV_snoc, getD_of h]
theorem design (c : Chan) (p : Pt) (hv : Val c) (hp : good p = true) : CallP Tryz.prog 48 [chan c, pt p] (rIB (desF c p)) := by
  have hlen : (partsL c p).length ≤ 40 := by
    have := hv.n20
    unfold partsL legsL bendsL
    rw [List.length_append]
    have h1 := List.length_filterMap_le (fun k => legF c k p) (List.range (c.axis.length - 1))
    have h2 := List.length_filterMap_le (fun k => bendN c k p) (List.range (c.axis.length - 2))
    simp at h1 h2; omega
  unfold desF
  refine callP_of_ex (rc := []) (N := 39) Tryz.func48 rfl rfl Tryz.call48 tab_ok mix rfl rfl (fun cx href => ?_)
  refine callN (parts c p hv hp) ?_
  generalize partsL c p = l at hlen
  refine AW.loopI (fun i : Nat => ⟨[(6, vI (desV (l.take i)).1), (7, vB (desV (l.take i)).2), (14, .s (.d (dPrts l))), (15, vI l.length), (16, vI i)], []⟩) (fun i => i ≤ l.length) (fun i => l.length - i) 0 (Nat.zero_le _) ?_ ?_
  · exact SubI.of0 href [] rfl trivial ⟨⟨rfl, LeQ.rfl⟩, ⟨rfl, LeQ.lit rfl⟩, ⟨rfl, LeQ.rfl⟩, ⟨rfl, LeQ.rfl⟩, ⟨rfl, LeQ.rfl⟩, trivial⟩
  · intro i hi
    refine ex.sound (rc := []) tab_ok mix href _ ?_
    refine And.intro (fun h => ?_) (fun h => ?_)
    · have h : (i : Int) < l.length := decT h
      have hi' : i < l.length := by omega
      have ew : w64 ((i : Int) + 1) = ((i + 1 : Nat) : Int) := w64_of (by omega) (by omega)
      have hst := take_step hi'
      refine oi ⟨by omega, by omega⟩ ?_
      refine callN (level (l.getD i default).offset (l.getD i default).half (l.getD i default).bottom (l.getD i default).run) ?_
      repeat first | refine sk ?_ | refine st ?_ | refine sg ?_ | refine sh ?_ | refine su ?_ | refine sn1 ?_ | refine sn0 ?_
      refine And.intro (fun h' => ?_) (fun h' => ?_)
      · have h' : ((lvlP (l.getD i default)).2 && (!(desV (l.take i)).2 || decide ((lvlP (l.getD i default)).1 < (desV (l.take i)).1))) = true := h'
        unfold stepV at hst
        rw [h'] at hst
        refine ⟨i + 1, by omega, by omega, ?_⟩
        exact SubI.of0 href [] rfl trivial ⟨⟨rfl, LeQ.int (by rw [hst]; rfl)⟩, ⟨rfl, LeQ.lit (by rw [hst]; rfl)⟩, ⟨rfl, LeQ.rfl⟩, ⟨rfl, LeQ.rfl⟩, ⟨rfl, LeQ.int ew⟩, trivial⟩
      · have h' : ((lvlP (l.getD i default)).2 && (!(desV (l.take i)).2 || decide ((lvlP (l.getD i default)).1 < (desV (l.take i)).1))) = false := h'
        unfold stepV at hst
        rw [h'] at hst
        refine ⟨i + 1, by omega, by omega, ?_⟩
        exact SubI.of0 href [] rfl trivial ⟨⟨rfl, LeQ.int (by rw [hst]; rfl)⟩, ⟨rfl, LeQ.bool (by rw [hst]; rfl)⟩, ⟨rfl, LeQ.rfl⟩, ⟨rfl, LeQ.rfl⟩, ⟨rfl, LeQ.int ew⟩, trivial⟩
    · have h : ¬ (i : Int) < l.length := decF h
      have hi' : i = l.length := by omega
      subst hi'
      exact SubR.of_eq (by rw [List.take_length]; rfl)
end Go.Ch

namespace Go.Ch
open Go Go.Ax Go.Proofs Go.Proofs.Tryz
set_option maxRecDepth 100000
set_option pp.maxSteps 400
set_option maxHeartbeats 1000000

abbrev pAt (l : List Pt) (i : Nat) : Pt := l.getD i default
abbrev cor (l : List Pt) (i : Nat) : Pt := l.getD (i % l.length) default
def samePt (a b : Pt) : Bool := a.x == b.x && (a.y == b.y && true)
theorem samePt_iff {a b : Pt} : samePt a b = true ↔ a = b := by
  cases a; cases b; simp [samePt]
def anyB (n : Nat) (p : Nat → Bool) : Bool := (List.range n).any p
theorem anyB_true {n : Nat} {p : Nat → Bool} {i : Nat} (h : i < n) (hp : p i = true) : anyB n p = true := by
  unfold anyB; rw [List.any_eq_true]; exact ⟨i, List.mem_range.2 h, hp⟩
theorem anyB_false {n : Nat} {p : Nat → Bool} (h : ∀ i, i < n → p i = false) : anyB n p = false := by
  unfold anyB; rw [List.any_eq_false]; intro i hi; rw [h i (List.mem_range.1 hi)]; simp
theorem anyB_ex {n : Nat} {p : Nat → Bool} (h : anyB n p = true) : ∃ i, i < n ∧ p i = true := by
  unfold anyB at h; rw [List.any_eq_true] at h
  obtain ⟨i, hi, hp⟩ := h
  exact ⟨i, List.mem_range.1 hi, hp⟩
def edgeBad (l : List Pt) (i : Nat) : Bool := between (pAt l i) (cor l (i + 1)) (cor l (i + 2)) || between (cor l (i + 1)) (cor l (i + 2)) (pAt l i)
def meetAt (l : List Pt) (i k : Nat) : Bool := ((((k + 1) % l.length : Nat) : Int) != (i : Int)) && meet (pAt l i) (cor l (i + 1)) (pAt l k) (cor l (k + 1))
def meetBad (l : List Pt) (i k : Nat) : Bool := decide (i + 2 ≤ k) && meetAt l i k
def badI (l : List Pt) (i : Nat) : Bool := edgeBad l i || anyB l.length (meetBad l i)
def badG (l : List Pt) (i : Nat) : Bool := samePt (pAt l i) (cor l (i + 1)) || badI l i
def pairBad (l : List Pt) (i : Nat) : Bool := anyB i fun k => samePt (pAt l i) (pAt l k)
def formBad (l : List Pt) : Bool := anyB l.length (badG l)
def formBadR (l : List Pt) : Bool := anyB l.length (pairBad l) || anyB l.length (badI l)

theorem between_self (a b : Pt) : between a b a = true := by
  unfold between cross
  have e : w64 (w64 (w64 (b.x - a.x) * w64 (a.y - a.y)) - w64 (w64 (b.y - a.y) * w64 (a.x - a.x))) = 0 := by
    rw [Int.sub_self, Int.sub_self, show w64 0 = 0 from rfl, Int.mul_zero, Int.mul_zero]; rfl
  rw [e]
  simp [within, mm]
  constructor
  · constructor <;> split <;> omega
  · constructor <;> split <;> omega
theorem formBad_eq (l : List Pt) (h3 : 3 ≤ l.length) : formBadR l = formBad l := by
  rw [Bool.eq_iff_iff]
  unfold formBad formBadR
  rw [Bool.or_eq_true]
  constructor
  · rintro (h | h)
    · obtain ⟨i, hi, h⟩ := anyB_ex h
      obtain ⟨k, hk, h⟩ := anyB_ex h
      have e := samePt_iff.1 h
      by_cases h1 : i = k + 1
      · refine anyB_true (i := k) (by omega) ?_
        unfold badG
        have : samePt (pAt l k) (cor l (k + 1)) = true := by
          rw [samePt_iff]
          unfold cor
          rw [Nat.mod_eq_of_lt (by omega), ← h1]; exact e.symm
        rw [this]; rfl
      · by_cases h2 : (i + 1) % l.length = k
        · refine anyB_true (i := i) hi ?_
          unfold badG
          have : samePt (pAt l i) (cor l (i + 1)) = true := by
            rw [samePt_iff]
            unfold cor
            rw [h2]; exact e
          rw [this]; rfl
        · refine anyB_true (i := k) (by omega) ?_
          unfold badG badI
          have : anyB l.length (meetBad l k) = true := by
            refine anyB_true (i := i) hi ?_
            unfold meetBad meetAt
            rw [decide_eq_true (by omega), Bool.true_and, Bool.and_eq_true]
            refine ⟨by rw [bne_iff_ne]; intro h; exact h2 (by exact_mod_cast h), ?_⟩
            unfold meet
            rw [e, between_self]; rfl
          rw [this]; simp
    · obtain ⟨i, hi, h⟩ := anyB_ex h
      refine anyB_true hi ?_
      unfold badG; rw [h]; simp
  · intro h
    obtain ⟨i, hi, h⟩ := anyB_ex h
    unfold badG at h
    rw [Bool.or_eq_true] at h
    rcases h with h | h
    · left
      have e := samePt_iff.1 h
      unfold cor at e
      have hm := Nat.mod_lt (i + 1) (show 0 < l.length by omega)
      have hne : (i + 1) % l.length ≠ i := by
        intro h'
        by_cases hc : i + 1 < l.length
        · rw [Nat.mod_eq_of_lt hc] at h'; omega
        · have : i + 1 = l.length := by omega
          rw [this, Nat.mod_self] at h'; omega
      rcases Nat.lt_or_gt_of_ne hne with h1 | h1
      · refine anyB_true hi (anyB_true h1 ?_)
        rw [samePt_iff]; exact e
      · refine anyB_true hm (anyB_true h1 ?_)
        rw [samePt_iff]; exact e.symm
    · exact .inr (anyB_true hi h)

theorem simple (l : List Pt) (h3 : 3 ≤ l.length) (h40 : l.length ≤ 40) : CallP Tryz.prog 150 [pts l] (vB (!formBad l)) := by
  have hne : l ≠ [] := by intro h; subst h; simp at h3
  refine callP_of_ex (rc := []) (N := 69) Tryz.func150 rfl rfl Tryz.call150 tab_ok mix rfl rfl (fun cx href => ?_)
  refine AW.loopI (fun i : Nat => ⟨[(0, pts l), (3, vI l.length), (11, vI l.length), (12, vI i)], []⟩) (fun i => i ≤ l.length ∧ ∀ j, j < i → badG l j = false) (fun i => l.length - i) 0 ⟨Nat.zero_le _, fun j hj => absurd hj (Nat.not_lt_zero j)⟩ ?_ ?_
  · exact SubI.of0 href [] rfl trivial ⟨⟨rfl, LeQ.rfl⟩, ⟨rfl, LeQ.rfl⟩, ⟨rfl, LeQ.rfl⟩, ⟨rfl, LeQ.rfl⟩, trivial⟩
  · rintro i ⟨hi, hj⟩
    refine ex.sound (rc := []) tab_ok mix href _ ?_
    refine And.intro (fun h => ?_) (fun h => ?_)
    · have h : (i : Int) < l.length := decT h
      have e1 : w64 ((i : Int) + 1) = ((i + 1 : Nat) : Int) := w64_of (by omega) (by omega)
      have e2 : w64 ((i : Int) + 2) = ((i + 2 : Nat) : Int) := w64_of (by omega) (by omega)
      have c1 : CallP Tryz.prog 159 [pts l, vI (w64 ((i : Int) + 1))] (pt (cor l (i + 1))) := by rw [e1]; exact gcorner l (i + 1) hne
      have c2 : CallP Tryz.prog 159 [pts l, vI (w64 ((i : Int) + 2))] (pt (cor l (i + 2))) := by rw [e2]; exact gcorner l (i + 2) hne
      refine oi ⟨by omega, by omega⟩ ?_
      refine callN c1 ?_
      refine callN c2 ?_
      refine And.intro (by kernel_rfl) ?_
      repeat first | refine sk ?_ | refine st ?_ | refine sg ?_ | refine sh ?_ | refine su ?_ | refine sn1 ?_ | refine sn0 ?_
      refine callG (on (pAt l i) (cor l (i + 1)) (cor l (i + 2))) ?_
      repeat first | refine sk ?_ | refine st ?_ | refine sg ?_ | refine sh ?_ | refine su ?_ | refine sn1 ?_ | refine sn0 ?_
      refine callG (on (cor l (i + 1)) (cor l (i + 2)) (pAt l i)) ?_
      repeat first | refine sk ?_ | refine st ?_ | refine sg ?_ | refine sh ?_ | refine su ?_ | refine sn1 ?_ | refine sn0 ?_
      refine And.intro (fun h' => ?_) (fun h' => ?_)
      · have h' : (samePt (pAt l i) (cor l (i + 1)) || between (pAt l i) (cor l (i + 1)) (cor l (i + 2)) || between (cor l (i + 1)) (cor l (i + 2)) (pAt l i)) = true := h'
        refine SubR.lit ?_
        have : formBad l = true := anyB_true (i := i) (by omega) (by unfold badG badI edgeBad; rw [Bool.or_assoc] at h'; rw [← Bool.or_assoc, h']; rfl)
        rw [this]; rfl
      · have h' : (samePt (pAt l i) (cor l (i + 1)) || between (pAt l i) (cor l (i + 1)) (cor l (i + 2)) || between (cor l (i + 1)) (cor l (i + 2)) (pAt l i)) = false := h'
        refine AW.loopI (fun k : Nat => ⟨[(0, pts l), (3, vI l.length), (11, vI l.length), (12, vI i), (4, vI i), (5, .s (.ptr 5 0)), (6, .s (.ptr 6 0)), (8, vI k)], [(5, some (ptB (pAt l i))), (6, some (ptB (cor l (i + 1))))]⟩) (fun k => i + 2 ≤ k ∧ k ≤ l.length + 2 ∧ ∀ m, m < k → meetBad l i m = false) (fun k => l.length + 2 - k) (i + 2) ⟨by omega, by omega, fun m hm => by unfold meetBad; rw [decide_eq_false (by omega)]; rfl⟩ ?_ ?_
        · exact SubI.of0 href [] rfl ⟨⟨rfl, LeBx.rfl⟩, ⟨rfl, LeBx.rfl⟩, trivial⟩ ⟨⟨rfl, LeQ.rfl⟩, ⟨rfl, LeQ.rfl⟩, ⟨rfl, LeQ.rfl⟩, ⟨rfl, LeQ.rfl⟩, ⟨rfl, LeQ.rfl⟩, ⟨rfl, LeQ.rfl⟩, ⟨rfl, LeQ.rfl⟩, ⟨rfl, LeQ.int e2⟩, trivial⟩
        · rintro k ⟨hk1, hk2, hm⟩
          refine ex.sound (rc := []) tab_ok mix href _ ?_
          refine And.intro (fun h'' => ?_) (fun h'' => ?_)
          · have h'' : (k : Int) < l.length := decT h''
            have e3 : w64 ((k : Int) + 1) = ((k + 1 : Nat) : Int) := w64_of (by omega) (by omega)
            have e4 : (w64 ((k : Int) + 1)).tmod l.length = (((k + 1) % l.length : Nat) : Int) := by
              rw [e3, Int.tmod_eq_emod_of_nonneg (by omega)]; rfl
            have c3 : CallP Tryz.prog 159 [pts l, vI (w64 ((k : Int) + 1))] (pt (cor l (k + 1))) := by rw [e3]; exact gcorner l (k + 1) hne
            refine oi (by omega) ?_
            repeat first | refine sk ?_ | refine st ?_ | refine sg ?_ | refine sh ?_ | refine su ?_ | refine sn1 ?_ | refine sn0 ?_
            refine og (fun _ => ⟨by omega, by omega⟩) ?_
            repeat first | refine sk ?_ | refine st ?_ | refine sg ?_ | refine sh ?_ | refine su ?_ | refine sn1 ?_ | refine sn0 ?_
            refine callG c3 ?_
            repeat first | refine sk ?_ | refine st ?_ | refine sg ?_ | refine sh ?_ | refine su ?_ | refine sn1 ?_ | refine sn0 ?_
            refine callG (gmeet (pAt l i) (cor l (i + 1)) (pAt l k) (cor l (k + 1))) ?_
            repeat first | refine sk ?_ | refine st ?_ | refine sg ?_ | refine sh ?_ | refine su ?_ | refine sn1 ?_ | refine sn0 ?_
            refine And.intro (by kernel_rfl) ?_
            have key : (((w64 ((k : Int) + 1)).tmod l.length != (i : Int)) && meet (pAt l i) (cor l (i + 1)) (pAt l k) (cor l (k + 1))) = meetBad l i k := by
              unfold meetBad meetAt
              rw [decide_eq_true hk1, e4]; rfl
            refine And.intro (fun h3' => ?_) (fun h3' => ?_)
            · have h3' : meetBad l i k = true := key.symm.trans h3'
              refine SubR.lit ?_
              have : formBad l = true := anyB_true (i := i) (by omega) (by unfold badG badI; rw [anyB_true (i := k) (by omega) h3']; simp)
              rw [this]; rfl
            · have h3' : meetBad l i k = false := key.symm.trans h3'
              refine ⟨k + 1, ⟨by omega, by omega, fun m hm' => ?_⟩, by omega, ?_⟩
              · by_cases hmk : m = k
                · rw [hmk]; exact h3'
                · exact hm m (by omega)
              · exact SubI.of0 href [] rfl ⟨⟨rfl, LeBx.rfl⟩, ⟨rfl, LeBx.rfl⟩, trivial⟩ ⟨⟨rfl, LeQ.rfl⟩, ⟨rfl, LeQ.rfl⟩, ⟨rfl, LeQ.rfl⟩, ⟨rfl, LeQ.rfl⟩, ⟨rfl, LeQ.rfl⟩, ⟨rfl, LeQ.rfl⟩, ⟨rfl, LeQ.rfl⟩, ⟨rfl, LeQ.int e3⟩, trivial⟩
          · have h'' : ¬ (k : Int) < l.length := decF h''
            refine ⟨i + 1, ⟨by omega, fun j hj' => ?_⟩, by omega, ?_⟩
            · by_cases hji : j = i
              · subst hji
                have hb : anyB l.length (meetBad l j) = false := anyB_false fun m hm' => hm m (by omega)
                unfold badG badI edgeBad
                rw [hb]
                simp only [Bool.or_eq_false_iff] at h' ⊢
                exact ⟨h'.1.1, ⟨h'.1.2, h'.2⟩, trivial⟩
              · exact hj j (by omega)
            · exact SubI.of0 href [] rfl trivial ⟨⟨rfl, LeQ.rfl⟩, ⟨rfl, LeQ.rfl⟩, ⟨rfl, LeQ.rfl⟩, ⟨rfl, LeQ.int e1⟩, trivial⟩
    · have h : ¬ (i : Int) < l.length := decF h
      refine SubR.lit ?_
      have : formBad l = false := anyB_false fun j hj' => hj j (by omega)
      rw [this]; rfl
def errPoly (l : List Pt) : Int :=
  bif decide ((l.length : Int) < 3) then 10 else bif decide ((l.length : Int) > 40) then 8 else bif l.any (fun p => !good p) then 2 else bif formBad l then 3 else 0
theorem shape1 (l : List Pt) : CallP Tryz.prog 146 [pts l] (vB (decide ((l.length : Int) < 3))) := by
  refine callP_of_ex (rc := []) (N := 6) Tryz.func146 rfl rfl Tryz.call146 tab_ok mix rfl rfl (fun cx href => ?_)
  exact SubR.refl _
theorem shape2 (l : List Pt) : CallP Tryz.prog 147 [pts l] (vB (decide ((l.length : Int) > 40))) := by
  refine callP_of_ex (rc := []) (N := 6) Tryz.func147 rfl rfl Tryz.call147 tab_ok mix rfl rfl (fun cx href => ?_)
  exact SubR.refl _
theorem shape3 (l : List Pt) (hl : l.length ≤ 9223372036854775807) : CallP Tryz.prog 148 [pts l] (vB (l.any fun p => !good p)) := by
  refine callP_of_ex (rc := []) (N := 5) Tryz.func148 rfl rfl Tryz.call148 tab_ok mix rfl rfl (fun cx href => ?_)
  exact callN (goutside l hl) (SubR.refl _)
theorem shape4 (l : List Pt) (h3 : 3 ≤ l.length) (h40 : l.length ≤ 40) : CallP Tryz.prog 149 [pts l] (vB (formBad l)) := by
  refine callP_of_ex (rc := []) (N := 6) Tryz.func149 rfl rfl Tryz.call149 tab_ok mix rfl rfl (fun cx href => ?_)
  exact callN (simple l h3 h40) (SubR.of_eq (by show vB (!(!_)) = _; simp))
abbrev shapeC : List SV := [.d (dI 10), .d (.clo 146 0 fun _ => .junk), .d (dI 8), .d (.clo 147 0 fun _ => .junk), .d (dI 2), .d (.clo 148 0 fun _ => .junk), .d (dI 3), .d (.clo 149 0 fun _ => .junk)]
theorem shapes : CallP Tryz.prog 129 [] (.g shapeC) := by
  refine callP_of_ex (rc := []) (N := 6) Tryz.func129 rfl rfl Tryz.call129 tab_ok mix rfl rfl (fun cx href => ?_)
  exact SubR.le ⟨LeD.refl _, LeD.clo fun j hj => absurd hj (Nat.not_lt_zero j), LeD.refl _, LeD.clo fun j hj => absurd hj (Nat.not_lt_zero j), LeD.refl _, LeD.clo fun j hj => absurd hj (Nat.not_lt_zero j), LeD.refl _, LeD.clo fun j hj => absurd hj (Nat.not_lt_zero j), trivial⟩
theorem gCheckPolygon (l : List Pt) (hl : l.length ≤ 9223372036854775807) : CallP Tryz.prog 108 [pts l] (vI (errPoly l)) := by
  refine callP_of_ex (rc := []) (N := 16) Tryz.func108 rfl rfl Tryz.call108 tab_ok mix rfl rfl (fun cx href => ?_)
  refine callN shapes ?_
  refine AW.loopI (fun i : Nat => ⟨[(0, pts l), (5, .g shapeC), (6, vI i)], []⟩)
    (fun i => i ≤ 4 ∧ (0 < i → decide ((l.length : Int) < 3) = false) ∧ (1 < i → decide ((l.length : Int) > 40) = false) ∧ (2 < i → (l.any fun p => !good p) = false) ∧ (3 < i → formBad l = false)) (fun i => 4 - i) 0 ⟨by omega, fun h => absurd h (by omega), fun h => absurd h (by omega), fun h => absurd h (by omega), fun h => absurd h (by omega)⟩ ?_ ?_
  · exact SubI.of0 href [] rfl trivial ⟨⟨rfl, LeQ.rfl⟩, ⟨rfl, LeQ.rfl⟩, ⟨rfl, LeQ.rfl⟩, trivial⟩
  · rintro i ⟨hi, h1, h2, h3, h4⟩
    refine ex.sound (rc := []) tab_ok mix href _ ?_
    match i, hi with
    | 0, _ =>
      refine And.intro (fun _ => ?_) (fun h => by cases h)
      refine oi ⟨by omega, by omega⟩ ?_
      refine callN (shape1 l) ?_
      refine And.intro (fun h => ?_) (fun h => ?_)
      · exact SubR.of_eq (by unfold errPoly; rw [h]; rfl)
      · refine ⟨1, ⟨by omega, fun _ => h, fun h => absurd h (by omega), fun h => absurd h (by omega), fun h => absurd h (by omega)⟩, by omega, ?_⟩
        exact SubI.of0 href [] rfl trivial ⟨⟨rfl, LeQ.rfl⟩, ⟨rfl, LeQ.rfl⟩, ⟨rfl, LeQ.rfl⟩, trivial⟩
    | 1, _ =>
      refine And.intro (fun _ => ?_) (fun h => by cases h)
      refine oi ⟨by omega, by omega⟩ ?_
      refine callN (shape2 l) ?_
      refine And.intro (fun h => ?_) (fun h => ?_)
      · exact SubR.of_eq (by unfold errPoly; rw [h1 (by omega), h]; rfl)
      · refine ⟨2, ⟨by omega, fun _ => h1 (by omega), fun _ => h, fun h => absurd h (by omega), fun h => absurd h (by omega)⟩, by omega, ?_⟩
        exact SubI.of0 href [] rfl trivial ⟨⟨rfl, LeQ.rfl⟩, ⟨rfl, LeQ.rfl⟩, ⟨rfl, LeQ.rfl⟩, trivial⟩
    | 2, _ =>
      refine And.intro (fun _ => ?_) (fun h => by cases h)
      refine oi ⟨by omega, by omega⟩ ?_
      refine callN (shape3 l hl) ?_
      refine And.intro (fun h => ?_) (fun h => ?_)
      · exact SubR.of_eq (by unfold errPoly; rw [h1 (by omega), h2 (by omega), h]; rfl)
      · refine ⟨3, ⟨by omega, fun _ => h1 (by omega), fun _ => h2 (by omega), fun _ => h, fun h => absurd h (by omega)⟩, by omega, ?_⟩
        exact SubI.of0 href [] rfl trivial ⟨⟨rfl, LeQ.rfl⟩, ⟨rfl, LeQ.rfl⟩, ⟨rfl, LeQ.rfl⟩, trivial⟩
    | 3, _ =>
      refine And.intro (fun _ => ?_) (fun h => by cases h)
      refine oi ⟨by omega, by omega⟩ ?_
      have g1 := decF (h1 (by omega))
      have g2 := decF (h2 (by omega))
      refine callN (shape4 l (by omega) (by omega)) ?_
      refine And.intro (fun h => ?_) (fun h => ?_)
      · exact SubR.of_eq (by unfold errPoly; rw [h1 (by omega), h2 (by omega), h3 (by omega), h]; rfl)
      · refine ⟨4, ⟨by omega, fun _ => h1 (by omega), fun _ => h2 (by omega), fun _ => h3 (by omega), fun _ => h⟩, by omega, ?_⟩
        exact SubI.of0 href [] rfl trivial ⟨⟨rfl, LeQ.rfl⟩, ⟨rfl, LeQ.rfl⟩, ⟨rfl, LeQ.rfl⟩, trivial⟩
    | 4, _ =>
      refine And.intro (fun h => by cases h) (fun _ => ?_)
      exact SubR.of_eq (by unfold errPoly; rw [h1 (by omega), h2 (by omega), h3 (by omega), h4 (by omega)]; rfl)
end Go.Ch

namespace Go.Ch
open Go Go.Ax Go.Proofs Go.Proofs.Tryz
set_option maxRecDepth 100000
set_option pp.maxSteps 400
set_option maxHeartbeats 1000000

theorem any_getD {α : Type} [Inhabited α] (p : α → Bool) (l : List α) (i : Nat) (hi : i < l.length) (h : p (l.getD i default) = true) : l.any p = true := by
  rw [List.any_eq_true]
  exact ⟨l[i], by simp, by rw [getD_of hi] at h; exact h⟩
theorem any_drop {α : Type} [Inhabited α] (p : α → Bool) (l : List α) (h : ∀ i, i < l.length → p (l.getD i default) = false) : l.any p = false := by
  rw [List.any_eq_false]
  intro x hx
  obtain ⟨i, hi, rfl⟩ := List.getElem_of_mem hx
  have := h i hi
  rw [getD_of hi] at this
  rw [this]; simp
theorem rCheckPolygon (l : List Pt) (hl : l.length ≤ 9223372036854775807) : CallP Tryz.prog 102 [pts l] (vI (errPoly l)) := by
  refine callP_of_ex (rc := []) (N := 102) Tryz.func102 rfl rfl Tryz.call102 tab_ok mix rfl rfl (fun cx href => ?_)
  refine And.intro (fun h1 => ?_) (fun h1 => ?_)
  · exact SubR.of_eq (by unfold errPoly; rw [h1]; rfl)
  refine And.intro (fun h2 => ?_) (fun h2 => ?_)
  · exact SubR.of_eq (by unfold errPoly; rw [h1, h2]; rfl)
  have g1 := decF h1
  have g2 := decF h2
  have hne : l ≠ [] := by intro h; subst h; simp at g1
  refine AW.loopI (fun i : Nat => ⟨[(0, pts l), (3, vI i)], []⟩) (fun i => i ≤ l.length ∧ ∀ j, j < i → good (pAt l j) = true) (fun i => l.length - i) 0 ⟨Nat.zero_le _, fun j hj => absurd hj (Nat.not_lt_zero j)⟩ ?_ ?_
  · exact SubI.of0 href [] rfl trivial ⟨⟨rfl, LeQ.rfl⟩, ⟨rfl, LeQ.rfl⟩, trivial⟩
  · rintro i ⟨hi, hj⟩
    refine ex.sound (rc := []) tab_ok mix href _ ?_
    refine And.intro (fun h => ?_) (fun h => ?_)
    · have h : (i : Int) < l.length := decT h
      refine oi ⟨by omega, by omega⟩ ?_
      refine callN (Good (pAt l i)) ?_
      refine And.intro (fun h' => ?_) (fun h' => ?_)
      · have h' : (!good (pAt l i)) = true := h'
        refine SubR.of_eq ?_
        unfold errPoly
        rw [h1, h2, any_getD (fun p => !good p) l i (by omega) h']; rfl
      · have h' : (!good (pAt l i)) = false := h'
        refine ⟨i + 1, ⟨by omega, fun j hj' => ?_⟩, by omega, ?_⟩
        · by_cases hji : j = i
          · rw [hji]; simpa using h'
          · exact hj j (by omega)
        · exact SubI.of0 href [] rfl trivial ⟨⟨rfl, LeQ.rfl⟩, ⟨rfl, LeQ.int (w64_of (by omega) (by omega))⟩, trivial⟩
    · have h : ¬ (i : Int) < l.length := decF h
      have h3 : (l.any fun p => !good p) = false := any_drop _ l fun j hj' => by rw [hj j (by omega)]; rfl
      have fin : ∀ b, formBadR l = b → errPoly l = bif b then 3 else 0 := by
        intro b hb
        unfold errPoly
        rw [h1, h2, h3, ← formBad_eq l (by omega), hb]; rfl
      -- the pairs
      refine AW.loopI (fun i : Nat => ⟨[(0, pts l), (4, vI l.length), (5, vI i)], []⟩) (fun i => i ≤ l.length ∧ ∀ j, j < i → pairBad l j = false) (fun i => l.length - i) 0 ⟨Nat.zero_le _, fun j hj => absurd hj (Nat.not_lt_zero j)⟩ ?_ ?_
      · exact SubI.of0 href [] rfl trivial ⟨⟨rfl, LeQ.rfl⟩, ⟨rfl, LeQ.rfl⟩, ⟨rfl, LeQ.rfl⟩, trivial⟩
      · rintro i ⟨hi, hj⟩
        refine ex.sound (rc := []) tab_ok mix href _ ?_
        refine And.intro (fun h => ?_) (fun h => ?_)
        · have h : (i : Int) < l.length := decT h
          refine AW.loopI (fun k : Nat => ⟨[(0, pts l), (4, vI l.length), (5, vI i), (6, vI k)], []⟩) (fun k => k ≤ i ∧ ∀ j, j < k → samePt (pAt l i) (pAt l j) = false) (fun k => i - k) 0 ⟨Nat.zero_le _, fun j hj => absurd hj (Nat.not_lt_zero j)⟩ ?_ ?_
          · exact SubI.of0 href [] rfl trivial ⟨⟨rfl, LeQ.rfl⟩, ⟨rfl, LeQ.rfl⟩, ⟨rfl, LeQ.rfl⟩, ⟨rfl, LeQ.rfl⟩, trivial⟩
          · rintro k ⟨hk, hm⟩
            refine ex.sound (rc := []) tab_ok mix href _ ?_
            refine And.intro (fun h' => ?_) (fun h' => ?_)
            · have h' : (k : Int) < i := decT h'
              refine oi ⟨by omega, by omega⟩ ?_
              refine oi ⟨by omega, by omega⟩ ?_
              refine And.intro (by kernel_rfl) ?_
              refine And.intro (fun h'' => ?_) (fun h'' => ?_)
              · have h'' : samePt (pAt l i) (pAt l k) = true := h''
                exact SubR.of_eq (by rw [fin true (by unfold formBadR; rw [anyB_true (i := i) (by omega) (anyB_true (i := k) (by omega) h'')]; rfl)]; rfl)
              · have h'' : samePt (pAt l i) (pAt l k) = false := h''
                refine ⟨k + 1, ⟨by omega, fun j hj' => ?_⟩, by omega, ?_⟩
                · by_cases hjk : j = k
                  · rw [hjk]; exact h''
                  · exact hm j (by omega)
                · exact SubI.of0 href [] rfl trivial ⟨⟨rfl, LeQ.rfl⟩, ⟨rfl, LeQ.rfl⟩, ⟨rfl, LeQ.rfl⟩, ⟨rfl, LeQ.int (w64_of (by omega) (by omega))⟩, trivial⟩
            · have h' : ¬ (k : Int) < i := decF h'
              refine ⟨i + 1, ⟨by omega, fun j hj' => ?_⟩, by omega, ?_⟩
              · by_cases hji : j = i
                · rw [hji]; exact anyB_false fun m hm' => hm m (by omega)
                · exact hj j (by omega)
              · exact SubI.of0 href [] rfl trivial ⟨⟨rfl, LeQ.rfl⟩, ⟨rfl, LeQ.rfl⟩, ⟨rfl, LeQ.int (w64_of (by omega) (by omega))⟩, trivial⟩
        · have h : ¬ (i : Int) < l.length := decF h
          have hpair : anyB l.length (pairBad l) = false := anyB_false fun j hj' => hj j (by omega)
          -- the edges
          refine AW.loopI (fun i : Nat => ⟨[(0, pts l), (4, vI l.length), (7, vI i)], []⟩) (fun i => i ≤ l.length ∧ ∀ j, j < i → badI l j = false) (fun i => l.length - i) 0 ⟨Nat.zero_le _, fun j hj => absurd hj (Nat.not_lt_zero j)⟩ ?_ ?_
          · exact SubI.of0 href [] rfl trivial ⟨⟨rfl, LeQ.rfl⟩, ⟨rfl, LeQ.rfl⟩, ⟨rfl, LeQ.rfl⟩, trivial⟩
          · rintro i ⟨hi, hj⟩
            refine ex.sound (rc := []) tab_ok mix href _ ?_
            refine And.intro (fun h => ?_) (fun h => ?_)
            · have h : (i : Int) < l.length := decT h
              have e1 : w64 ((i : Int) + 1) = ((i + 1 : Nat) : Int) := w64_of (by omega) (by omega)
              have e2 : w64 ((i : Int) + 2) = ((i + 2 : Nat) : Int) := w64_of (by omega) (by omega)
              have c0 : CallP Tryz.prog 123 [pts l, vI i] (pt (pAt l i)) := by have := corner l i hne; rw [Nat.mod_eq_of_lt (by omega)] at this; exact this
              have c1 : CallP Tryz.prog 123 [pts l, vI (w64 ((i : Int) + 1))] (pt (cor l (i + 1))) := by rw [e1]; exact corner l (i + 1) hne
              have c2 : CallP Tryz.prog 123 [pts l, vI (w64 ((i : Int) + 2))] (pt (cor l (i + 2))) := by rw [e2]; exact corner l (i + 2) hne
              refine callN c0 ?_
              refine callN c1 ?_
              refine callN c2 ?_
              refine callN (Between (pAt l i) (cor l (i + 1)) (cor l (i + 2))) ?_
              repeat first | refine sk ?_ | refine st ?_ | refine sg ?_ | refine sh ?_ | refine su ?_ | refine sn1 ?_ | refine sn0 ?_
              refine callG (Between (cor l (i + 1)) (cor l (i + 2)) (pAt l i)) ?_
              repeat first | refine sk ?_ | refine st ?_ | refine sg ?_ | refine sh ?_ | refine su ?_ | refine sn1 ?_ | refine sn0 ?_
              refine And.intro (fun h' => ?_) (fun h' => ?_)
              · have h' : edgeBad l i = true := h'
                exact SubR.of_eq (by rw [fin true (by unfold formBadR; rw [anyB_true (i := i) (p := badI l) (by omega) (by unfold badI; rw [h']; rfl)]; simp)]; rfl)
              · have h' : edgeBad l i = false := h'
                refine AW.loopI (fun k : Nat => ⟨[(0, pts l), (4, vI l.length), (7, vI i), (8, .s (.ptr 8 0)), (9, .s (.ptr 9 0)), (11, vI k)], [(8, some (ptB (pAt l i))), (9, some (ptB (cor l (i + 1))))]⟩) (fun k => i + 2 ≤ k ∧ k ≤ l.length + 2 ∧ ∀ m, m < k → meetBad l i m = false) (fun k => l.length + 2 - k) (i + 2) ⟨by omega, by omega, fun m hm => by unfold meetBad; rw [decide_eq_false (by omega)]; rfl⟩ ?_ ?_
                · exact SubI.of0 href [] rfl ⟨⟨rfl, LeBx.rfl⟩, ⟨rfl, LeBx.rfl⟩, trivial⟩ ⟨⟨rfl, LeQ.rfl⟩, ⟨rfl, LeQ.rfl⟩, ⟨rfl, LeQ.rfl⟩, ⟨rfl, LeQ.rfl⟩, ⟨rfl, LeQ.rfl⟩, ⟨rfl, LeQ.int e2⟩, trivial⟩
                · rintro k ⟨hk1, hk2, hm⟩
                  refine ex.sound (rc := []) tab_ok mix href _ ?_
                  refine And.intro (fun h'' => ?_) (fun h'' => ?_)
                  · have h'' : (k : Int) < l.length := decT h''
                    have e3 : w64 ((k : Int) + 1) = ((k + 1 : Nat) : Int) := w64_of (by omega) (by omega)
                    have e4 : (w64 ((k : Int) + 1)).tmod l.length = (((k + 1) % l.length : Nat) : Int) := by
                      rw [e3, Int.tmod_eq_emod_of_nonneg (by omega)]; rfl
                    have d0 : CallP Tryz.prog 123 [pts l, vI k] (pt (pAt l k)) := by have := corner l k hne; rw [Nat.mod_eq_of_lt (by omega)] at this; exact this
                    have d1 : CallP Tryz.prog 123 [pts l, vI (w64 ((k : Int) + 1))] (pt (cor l (k + 1))) := by rw [e3]; exact corner l (k + 1) hne
                    refine oi (by omega) ?_
                    repeat first | refine sk ?_ | refine st ?_ | refine sg ?_ | refine sh ?_ | refine su ?_ | refine sn1 ?_ | refine sn0 ?_
                    refine callG d0 ?_
                    repeat first | refine sk ?_ | refine st ?_ | refine sg ?_ | refine sh ?_ | refine su ?_ | refine sn1 ?_ | refine sn0 ?_
                    refine callG d1 ?_
                    repeat first | refine sk ?_ | refine st ?_ | refine sg ?_ | refine sh ?_ | refine su ?_ | refine sn1 ?_ | refine sn0 ?_
                    refine callG (Meet (pAt l i) (cor l (i + 1)) (pAt l k) (cor l (k + 1))) ?_
                    repeat first | refine sk ?_ | refine st ?_ | refine sg ?_ | refine sh ?_ | refine su ?_ | refine sn1 ?_ | refine sn0 ?_
                    refine And.intro (by kernel_rfl) ?_
                    have key : (((w64 ((k : Int) + 1)).tmod l.length != (i : Int)) && meet (pAt l i) (cor l (i + 1)) (pAt l k) (cor l (k + 1))) = meetBad l i k := by
                      unfold meetBad meetAt
                      rw [decide_eq_true hk1, e4]; rfl
                    refine And.intro (fun h3' => ?_) (fun h3' => ?_)
                    · have h3' : meetBad l i k = true := key.symm.trans h3'
                      exact SubR.of_eq (by rw [fin true (by unfold formBadR; rw [anyB_true (i := i) (p := badI l) (by omega) (by unfold badI; rw [anyB_true (i := k) (by omega) h3']; simp)]; simp)]; rfl)
                    · have h3' : meetBad l i k = false := key.symm.trans h3'
                      refine ⟨k + 1, ⟨by omega, by omega, fun m hm' => ?_⟩, by omega, ?_⟩
                      · by_cases hmk : m = k
                        · rw [hmk]; exact h3'
                        · exact hm m (by omega)
                      · exact SubI.of0 href [] rfl ⟨⟨rfl, LeBx.rfl⟩, ⟨rfl, LeBx.rfl⟩, trivial⟩ ⟨⟨rfl, LeQ.rfl⟩, ⟨rfl, LeQ.rfl⟩, ⟨rfl, LeQ.rfl⟩, ⟨rfl, LeQ.rfl⟩, ⟨rfl, LeQ.rfl⟩, ⟨rfl, LeQ.int e3⟩, trivial⟩
                  · have h'' : ¬ (k : Int) < l.length := decF h''
                    refine ⟨i + 1, ⟨by omega, fun j hj' => ?_⟩, by omega, ?_⟩
                    · by_cases hji : j = i
                      · subst hji
                        have hb : anyB l.length (meetBad l j) = false := anyB_false fun m hm' => hm m (by omega)
                        unfold badI
                        rw [hb, h']; rfl
                      · exact hj j (by omega)
                    · exact SubI.of0 href [] rfl trivial ⟨⟨rfl, LeQ.rfl⟩, ⟨rfl, LeQ.rfl⟩, ⟨rfl, LeQ.int e1⟩, trivial⟩
            · have h : ¬ (i : Int) < l.length := decF h
              exact SubR.of_eq (by rw [fin false (by unfold formBadR; rw [hpair, anyB_false (p := badI l) fun j hj' => hj j (by omega)]; rfl)]; rfl)
end Go.Ch

namespace Go.Ch
open Go Go.Ax Go.Proofs Go.Proofs.Tryz
set_option maxRecDepth 100000
set_option pp.maxSteps 400
set_option maxHeartbeats 1000000

def sameS (a b : ByteArray) : Bool := a.toList == b.toList
def regErr (r : Reg) (before : List Reg) : Int :=
  bif !isName r.name then 4 else bif before.any (fun q => sameS q.name r.name) then 5 else bif !within r.kind 0 3 then 2 else errPoly r.corners
def capR (s : ByteArray) : Nat → DV
  | 0 => dS s
  | _ => .junk
theorem region1 (q : Reg) (s : ByteArray) (f : Nat → DV) (hf : f 0 = dS s) : CallP Tryz.prog 107 [reg q, .s (.d (.rp 3 f))] (vB (sameS q.name s)) := by
  refine CallP.conv (args := [reg q, .s (.d (.rp 3 (capR s)))]) ?_ ⟨⟨LeD.refl _, LeD.refl _, LeD.refl _, trivial⟩, LeD.rp fun j hj => ?_, trivial⟩
  · refine callP_of_ex (rc := []) (N := 9) Tryz.func107 rfl rfl Tryz.call107 tab_ok mix rfl rfl (fun cx _ => ?_)
    exact SubR.refl _
  · match j with
    | 0 => exact LeD.of_eq hf
    | _ + 1 => exact fun _ _ _ => trivial
theorem checkRegion (r : Reg) (before : List Reg) (hr : r.name.size ≤ 9223372036854775807) (hc : r.corners.length ≤ 9223372036854775807) (hb : before.length ≤ 9223372036854775807) :
    CallP Tryz.prog 78 [reg r, vRegs before] (vI (regErr r before)) := by
  refine callP_of_ex (rc := []) (N := 21) Tryz.func78 rfl rfl Tryz.call78 tab_ok mix rfl rfl (fun cx href => ?_)
  refine callN (named r.name hr) ?_
  refine And.intro (fun h1 => ?_) (fun h1 => ?_)
  · exact SubR.of_eq (by unfold regErr; rw [h1]; rfl)
  refine callN (containsR before hb 107 1 _ (fun q => sameS q.name r.name) (fun q _ => region1 q r.name _ rfl)) ?_
  refine And.intro (fun h2 => ?_) (fun h2 => ?_)
  · exact SubR.of_eq (by unfold regErr; rw [h1, h2]; rfl)
  refine callN (outside _ _ _) ?_
  refine And.intro (fun h3 => ?_) (fun h3 => ?_)
  · exact SubR.of_eq (by unfold regErr; rw [h1, h2, h3]; rfl)
  refine callN (gCheckPolygon r.corners hc) ?_
  exact SubR.of_eq (by unfold regErr; rw [h1, h2, h3]; rfl)
theorem rRegionErr (r : Reg) (before : List Reg) (hr : r.name.size ≤ 9223372036854775807) (hc : r.corners.length ≤ 9223372036854775807) (hb : before.length ≤ 9223372036854775807) :
    CallP Tryz.prog 69 [reg r, vRegs before] (vI (regErr r before)) := by
  refine callP_of_ex (rc := []) (N := 31) Tryz.func69 rfl rfl Tryz.call69 tab_ok mix rfl rfl (fun cx href => ?_)
  refine callN (IsName r.name hr) ?_
  refine And.intro (fun h1 => ?_) (fun h1 => ?_)
  · exact SubR.of_eq (by unfold regErr; rw [h1]; rfl)
  refine AW.loopI (fun i : Nat => ⟨[(1, vRegs before), (2, .s (.ptr 2 0)), (5, vI i)], [(2, some (.cells [.d (dS r.name), .d (dI r.kind), .d (dPts r.corners)]))]⟩) (fun i => i ≤ before.length ∧ ∀ j, j < i → sameS (before.getD j default).name r.name = false) (fun i => before.length - i) 0 ⟨Nat.zero_le _, fun j hj => absurd hj (Nat.not_lt_zero j)⟩ ?_ ?_
  · exact SubI.of0 href [] rfl ⟨⟨rfl, LeBx.rfl⟩, trivial⟩ ⟨⟨rfl, LeQ.rfl⟩, ⟨rfl, LeQ.rfl⟩, ⟨rfl, LeQ.rfl⟩, trivial⟩
  · rintro i ⟨hi, hj⟩
    refine ex.sound (rc := []) tab_ok mix href _ ?_
    refine And.intro (fun h => ?_) (fun h => ?_)
    · have h : (i : Int) < before.length := decT h
      refine oi ⟨by omega, by omega⟩ ?_
      refine And.intro (by kernel_rfl) ?_
      refine And.intro (fun h' => ?_) (fun h' => ?_)
      · have h' : sameS (before.getD i default).name r.name = true := h'
        exact SubR.of_eq (by unfold regErr; rw [h1, any_getD (fun q : Reg => sameS q.name r.name) before i (by omega) h']; rfl)
      · refine ⟨i + 1, ⟨by omega, fun j hj' => ?_⟩, by omega, ?_⟩
        · by_cases hji : j = i
          · rw [hji]; exact h'
          · exact hj j (by omega)
        · exact SubI.of0 href [] rfl ⟨⟨rfl, LeBx.rfl⟩, trivial⟩ ⟨⟨rfl, LeQ.rfl⟩, ⟨rfl, LeQ.rfl⟩, ⟨rfl, LeQ.int (w64_of (by omega) (by omega))⟩, trivial⟩
    · have h : ¬ (i : Int) < before.length := decF h
      have h2 : (before.any fun q => sameS q.name r.name) = false := any_drop _ before fun j hj' => hj j (by omega)
      refine callN (Within _ _ _) ?_
      refine And.intro (fun h3 => ?_) (fun h3 => ?_)
      · exact SubR.of_eq (by unfold regErr; rw [h1, h2, h3]; rfl)
      refine callN (rCheckPolygon r.corners hc) ?_
      exact SubR.of_eq (by unfold regErr; rw [h1, h2, h3]; rfl)

def badA (over : Int) (a : Ap) : Bool := !good a.pt || !within a.half 1 100000 || !within a.level (w64 (over - 20000)) 20000 || !within a.run 0 1000
def sameA (l : List Ap) (i : Nat) : Bool := decide ((i : Int) > 0) && samePt (l.getD i default).pt (l.getD (w64 ((i : Int) - 1)).toNat default).pt
def axErrF (over : Int) (l : List Ap) : Nat → Nat → Int
  | 0, _ => 0
  | n + 1, i => bif badA over (l.getD i default) then 2 else bif sameA l i then 5 else axErrF over l n (i + 1)
def axErr (c : Chan) : Int := bif decide ((c.axis.length : Int) < 2) then 10 else bif decide ((c.axis.length : Int) > 20) then 8 else axErrF c.over c.axis c.axis.length 0
theorem checkAxis (c : Chan) : CallP Tryz.prog 77 [chan c] (vI (axErr c)) := by
  refine callP_of_ex (rc := []) (N := 58) Tryz.func77 rfl rfl Tryz.call77 tab_ok mix rfl rfl (fun cx href => ?_)
  refine And.intro (fun h1 => ?_) (fun h1 => ?_)
  · exact SubR.of_eq (by unfold axErr; rw [h1]; rfl)
  refine And.intro (fun h2 => ?_) (fun h2 => ?_)
  · exact SubR.of_eq (by unfold axErr; rw [h1, h2]; rfl)
  have g2 := decF h2
  refine AW.loopI (fun i : Nat => ⟨[(1, .s (.ptr 1 0)), (14, vAps c.axis), (15, vI c.axis.length), (16, vI i)], [(1, some (chanB c))]⟩) (fun i => i ≤ c.axis.length ∧ axErrF c.over c.axis c.axis.length 0 = axErrF c.over c.axis (c.axis.length - i) i) (fun i => c.axis.length - i) 0 ⟨Nat.zero_le _, rfl⟩ ?_ ?_
  · exact SubI.of0 href [] rfl ⟨⟨rfl, LeBx.rfl⟩, trivial⟩ ⟨⟨rfl, LeQ.rfl⟩, ⟨rfl, LeQ.rfl⟩, ⟨rfl, LeQ.rfl⟩, ⟨rfl, LeQ.rfl⟩, trivial⟩
  · rintro i ⟨hi, hj⟩
    refine ex.sound (rc := []) tab_ok mix href _ ?_
    refine And.intro (fun h => ?_) (fun h => ?_)
    · have h : (i : Int) < c.axis.length := decT h
      rw [show c.axis.length - i = (c.axis.length - (i + 1)) + 1 by omega, axErrF] at hj
      refine oi ⟨by omega, by omega⟩ ?_
      refine callN (place (axis c i)) ?_
      refine callN (inRange (axis c i).pt) ?_
      repeat first | refine sk ?_ | refine st ?_ | refine sg ?_ | refine sh ?_ | refine su ?_ | refine sn1 ?_ | refine sn0 ?_
      refine callG (outside _ _ _) ?_
      repeat first | refine sk ?_ | refine st ?_ | refine sg ?_ | refine sh ?_ | refine su ?_ | refine sn1 ?_ | refine sn0 ?_
      refine callG (outside _ _ _) ?_
      repeat first | refine sk ?_ | refine st ?_ | refine sg ?_ | refine sh ?_ | refine su ?_ | refine sn1 ?_ | refine sn0 ?_
      refine callG (outside _ _ _) ?_
      repeat first | refine sk ?_ | refine st ?_ | refine sg ?_ | refine sh ?_ | refine su ?_ | refine sn1 ?_ | refine sn0 ?_
      refine And.intro (fun h3 => ?_) (fun h3 => ?_)
      · have h3 : badA c.over (axis c i) = true := h3
        exact SubR.of_eq (by unfold axErr; rw [h1, h2, hj, h3]; rfl)
      have h3 : badA c.over (axis c i) = false := h3
      repeat first | refine sk ?_ | refine st ?_ | refine sg ?_ | refine sh ?_ | refine su ?_ | refine sn1 ?_ | refine sn0 ?_
      refine callG (place (axis c i)) ?_
      repeat first | refine sk ?_ | refine st ?_ | refine sg ?_ | refine sh ?_ | refine su ?_ | refine sn1 ?_ | refine sn0 ?_
      refine og (fun hb => ?_) ?_
      · have := decT hb
        show 0 ≤ w64 ((i : Int) - 1) ∧ w64 ((i : Int) - 1) < _
        rw [w64_of (n := (i : Int) - 1) (by omega) (by omega)]
        exact ⟨by omega, by omega⟩
      repeat first | refine sk ?_ | refine st ?_ | refine sg ?_ | refine sh ?_ | refine su ?_ | refine sn1 ?_ | refine sn0 ?_
      refine callG (place (c.axis.getD (w64 ((i : Int) - 1)).toNat default)) ?_
      repeat first | refine sk ?_ | refine st ?_ | refine sg ?_ | refine sh ?_ | refine su ?_ | refine sn1 ?_ | refine sn0 ?_
      refine And.intro (by kernel_rfl) ?_
      refine And.intro (fun h4 => ?_) (fun h4 => ?_)
      · have h4 : sameA c.axis i = true := h4
        exact SubR.of_eq (by unfold axErr; rw [h1, h2, hj, h3, h4]; rfl)
      · have h4 : sameA c.axis i = false := h4
        refine ⟨i + 1, ⟨by omega, by rw [hj, h3, h4]; rfl⟩, by omega, ?_⟩
        exact SubI.of0 href [] rfl ⟨⟨rfl, LeBx.rfl⟩, trivial⟩ ⟨⟨rfl, LeQ.rfl⟩, ⟨rfl, LeQ.rfl⟩, ⟨rfl, LeQ.rfl⟩, ⟨rfl, LeQ.int (w64_of (by omega) (by omega))⟩, trivial⟩
    · have h : ¬ (i : Int) < c.axis.length := decF h
      exact SubR.of_eq (by unfold axErr; rw [h1, h2, hj, show c.axis.length - i = 0 by omega]; rfl)

def regErrF (l : List Reg) : Nat → Nat → Int
  | 0, _ => 0
  | n + 1, i => bif regErr (l.getD i default) (l.take i) != 0 then regErr (l.getD i default) (l.take i) else regErrF l n (i + 1)
def errC (c : Chan) : Int :=
  bif !isName c.name then 4
  else bif !within c.over 0 1000 || !within c.buffer 0 100000 then 2
  else bif axErr c != 0 then axErr c
  else bif decide ((c.regions.length : Int) > 20) then 8
  else regErrF c.regions c.regions.length 0
theorem take_regs (l : List Reg) (i : Nat) (hi : i ≤ l.length) : LeD (.slc (i : Int).toNat 3 (regEl l)) (dRegs (l.take i)) := by
  refine LeD.slc' (by simp; omega) fun a b ha hb => LeD.of_eq ?_
  have ha : a < i := ha
  unfold regEl
  congr 1
  simp [ha]
theorem Reg.okD {l : List Reg} (h : ∀ a ∈ l, a.ok) {i : Nat} (hi : i < l.length) : (l.getD i default).ok := by
  rw [getD_of hi]; exact h _ (List.getElem_mem hi)
theorem gCheck (c : Chan) (hc : c.ok) : CallP Tryz.prog 46 [chan c] (vI (errC c)) := by
  refine callP_of_ex (rc := []) (N := 46) Tryz.func46 rfl rfl Tryz.call46 tab_ok mix rfl rfl (fun cx href => ?_)
  refine callN (named c.name hc.name) ?_
  refine And.intro (fun h1 => ?_) (fun h1 => ?_)
  · exact SubR.of_eq (by unfold errC; rw [h1]; rfl)
  refine callN (outside _ _ _) ?_
  repeat first | refine sk ?_ | refine st ?_ | refine sg ?_ | refine sh ?_ | refine su ?_ | refine sn1 ?_ | refine sn0 ?_
  refine callG (outside _ _ _) ?_
  repeat first | refine sk ?_ | refine st ?_ | refine sg ?_ | refine sh ?_ | refine su ?_ | refine sn1 ?_ | refine sn0 ?_
  refine And.intro (fun h2 => ?_) (fun h2 => ?_)
  · exact SubR.of_eq (by unfold errC; rw [h1, h2]; rfl)
  refine callN (checkAxis c) ?_
  refine And.intro (fun h3 => ?_) (fun h3 => ?_)
  · exact SubR.of_eq (by unfold errC; rw [h1, h2, h3]; rfl)
  refine And.intro (fun h4 => ?_) (fun h4 => ?_)
  · exact SubR.of_eq (by unfold errC; rw [h1, h2, h3, h4]; rfl)
  have g4 := decF h4
  refine AW.loopI (fun i : Nat => ⟨[(1, .s (.ptr 1 0)), (29, vRegs c.regions), (30, vI c.regions.length), (31, vI i)], [(1, some (chanB c))]⟩) (fun i => i ≤ c.regions.length ∧ regErrF c.regions c.regions.length 0 = regErrF c.regions (c.regions.length - i) i) (fun i => c.regions.length - i) 0 ⟨Nat.zero_le _, rfl⟩ ?_ ?_
  · exact SubI.of0 href [] rfl ⟨⟨rfl, LeBx.rfl⟩, trivial⟩ ⟨⟨rfl, LeQ.rfl⟩, ⟨rfl, LeQ.rfl⟩, ⟨rfl, LeQ.rfl⟩, ⟨rfl, LeQ.rfl⟩, trivial⟩
  · rintro i ⟨hi, hj⟩
    refine ex.sound (rc := []) tab_ok mix href _ ?_
    refine And.intro (fun h => ?_) (fun h => ?_)
    · have h : (i : Int) < c.regions.length := decT h
      rw [show c.regions.length - i = (c.regions.length - (i + 1)) + 1 by omega, regErrF] at hj
      have hok := Reg.okD hc.regs (show i < c.regions.length by omega)
      refine oi ⟨by omega, by omega⟩ ?_
      refine oi ⟨by decide, by show (0 : Int) ≤ (i : Int); omega, by show (i : Int) ≤ _; omega⟩ ?_
      refine callN ((checkRegion (c.regions.getD i default) (c.regions.take i) hok.1 hok.2.2.1 (by simp; omega)).conv (args' := _) ⟨⟨LeD.refl _, LeD.refl _, LeD.refl _, trivial⟩, take_regs c.regions i hi, trivial⟩) ?_
      refine And.intro (by kernel_rfl) ?_
      refine And.intro (fun h5 => ?_) (fun h5 => ?_)
      · exact SubR.of_eq (by unfold errC; rw [h1, h2, h3, h4, hj, h5]; rfl)
      · refine ⟨i + 1, ⟨by omega, by rw [hj, h5]; rfl⟩, by omega, ?_⟩
        exact SubI.of0 href [] rfl ⟨⟨rfl, LeBx.rfl⟩, trivial⟩ ⟨⟨rfl, LeQ.rfl⟩, ⟨rfl, LeQ.rfl⟩, ⟨rfl, LeQ.rfl⟩, ⟨rfl, LeQ.int (w64_of (by omega) (by omega))⟩, trivial⟩
    · have h : ¬ (i : Int) < c.regions.length := decF h
      exact SubR.of_eq (by unfold errC; rw [h1, h2, h3, h4, hj, show c.regions.length - i = 0 by omega]; rfl)
end Go.Ch

namespace Go.Ch
open Go Go.Ax Go.Proofs Go.Proofs.Tryz
set_option maxRecDepth 100000
set_option pp.maxSteps 400
set_option maxHeartbeats 1000000

theorem rCheck (c : Chan) (hc : c.ok) : CallP Tryz.prog 32 [chan c] (vI (errC c)) := by
  refine callP_of_ex (rc := []) (N := 104) Tryz.func32 rfl rfl Tryz.call32 tab_ok mix rfl rfl (fun cx href => ?_)
  refine callN (IsName c.name hc.name) ?_
  refine And.intro (fun h1 => ?_) (fun h1 => ?_)
  · exact SubR.of_eq (by unfold errC; rw [h1]; rfl)
  refine callN (Within _ _ _) ?_
  repeat first | refine sk ?_ | refine st ?_ | refine sg ?_ | refine sh ?_ | refine su ?_ | refine sn1 ?_ | refine sn0 ?_
  refine callG (Within _ _ _) ?_
  repeat first | refine sk ?_ | refine st ?_ | refine sg ?_ | refine sh ?_ | refine su ?_ | refine sn1 ?_ | refine sn0 ?_
  refine And.intro (fun h2 => ?_) (fun h2 => ?_)
  · exact SubR.of_eq (by unfold errC; rw [h1, h2]; rfl)
  refine And.intro (fun a1 => ?_) (fun a1 => ?_)
  · have h3 : axErr c = 10 := by unfold axErr; rw [a1]; rfl
    exact SubR.of_eq (by unfold errC; rw [h1, h2, h3]; rfl)
  refine And.intro (fun a2 => ?_) (fun a2 => ?_)
  · have h3 : axErr c = 8 := by unfold axErr; rw [a1, a2]; rfl
    exact SubR.of_eq (by unfold errC; rw [h1, h2, h3]; rfl)
  have g2 := decF a2
  refine AW.loopI (fun i : Nat => ⟨[(1, .s (.ptr 1 0)), (3, vI i)], [(1, some (chanB c))]⟩) (fun i => i ≤ c.axis.length ∧ axErrF c.over c.axis c.axis.length 0 = axErrF c.over c.axis (c.axis.length - i) i) (fun i => c.axis.length - i) 0 ⟨Nat.zero_le _, rfl⟩ ?_ ?_
  · exact SubI.of0 href [] rfl ⟨⟨rfl, LeBx.rfl⟩, trivial⟩ ⟨⟨rfl, LeQ.rfl⟩, ⟨rfl, LeQ.rfl⟩, trivial⟩
  · rintro i ⟨hi, hj⟩
    refine ex.sound (rc := []) tab_ok mix href _ ?_
    refine And.intro (fun h => ?_) (fun h => ?_)
    · have h : (i : Int) < c.axis.length := decT h
      rw [show c.axis.length - i = (c.axis.length - (i + 1)) + 1 by omega, axErrF] at hj
      refine oi ⟨by omega, by omega⟩ ?_
      refine callN (Place (axis c i)) ?_
      refine callN (Good (axis c i).pt) ?_
      repeat first | refine sk ?_ | refine st ?_ | refine sg ?_ | refine sh ?_ | refine su ?_ | refine sn1 ?_ | refine sn0 ?_
      refine callG (Within _ _ _) ?_
      repeat first | refine sk ?_ | refine st ?_ | refine sg ?_ | refine sh ?_ | refine su ?_ | refine sn1 ?_ | refine sn0 ?_
      refine callG (Within _ _ _) ?_
      repeat first | refine sk ?_ | refine st ?_ | refine sg ?_ | refine sh ?_ | refine su ?_ | refine sn1 ?_ | refine sn0 ?_
      refine callG (Within _ _ _) ?_
      repeat first | refine sk ?_ | refine st ?_ | refine sg ?_ | refine sh ?_ | refine su ?_ | refine sn1 ?_ | refine sn0 ?_
      have key : (!good (axis c i).pt || !within (axis c i).half 1 100000 || !within (axis c i).level (w64 (-20000 + c.over)) 20000 || !within (axis c i).run 0 1000) = badA c.over (axis c i) := by
        unfold badA
        rw [show -20000 + c.over = c.over - 20000 by omega]
      refine And.intro (fun h3 => ?_) (fun h3 => ?_)
      · have h3 : badA c.over (axis c i) = true := key.symm.trans h3
        have h3' : axErr c = 2 := by unfold axErr; rw [a1, a2, hj, h3]; rfl
        exact SubR.of_eq (by unfold errC; rw [h1, h2, h3']; rfl)
      have h3 : badA c.over (axis c i) = false := key.symm.trans h3
      repeat first | refine sk ?_ | refine st ?_ | refine sg ?_ | refine sh ?_ | refine su ?_ | refine sn1 ?_ | refine sn0 ?_
      refine callG (Place (axis c i)) ?_
      repeat first | refine sk ?_ | refine st ?_ | refine sg ?_ | refine sh ?_ | refine su ?_ | refine sn1 ?_ | refine sn0 ?_
      refine og (fun hb => ?_) ?_
      · have := decT hb
        show 0 ≤ w64 ((i : Int) - 1) ∧ w64 ((i : Int) - 1) < _
        rw [w64_of (n := (i : Int) - 1) (by omega) (by omega)]
        exact ⟨by omega, by omega⟩
      repeat first | refine sk ?_ | refine st ?_ | refine sg ?_ | refine sh ?_ | refine su ?_ | refine sn1 ?_ | refine sn0 ?_
      refine callG (Place (c.axis.getD (w64 ((i : Int) - 1)).toNat default)) ?_
      repeat first | refine sk ?_ | refine st ?_ | refine sg ?_ | refine sh ?_ | refine su ?_ | refine sn1 ?_ | refine sn0 ?_
      refine And.intro (by kernel_rfl) ?_
      refine And.intro (fun h4 => ?_) (fun h4 => ?_)
      · have h4 : sameA c.axis i = true := h4
        have h3' : axErr c = 5 := by unfold axErr; rw [a1, a2, hj, h3, h4]; rfl
        exact SubR.of_eq (by unfold errC; rw [h1, h2, h3']; rfl)
      · have h4 : sameA c.axis i = false := h4
        refine ⟨i + 1, ⟨by omega, by rw [hj, h3, h4]; rfl⟩, by omega, ?_⟩
        exact SubI.of0 href [] rfl ⟨⟨rfl, LeBx.rfl⟩, trivial⟩ ⟨⟨rfl, LeQ.rfl⟩, ⟨rfl, LeQ.int (w64_of (by omega) (by omega))⟩, trivial⟩
    · have h : ¬ (i : Int) < c.axis.length := decF h
      have h3 : axErr c = 0 := by unfold axErr; rw [a1, a2, hj, show c.axis.length - i = 0 by omega]; rfl
      refine And.intro (fun h4 => ?_) (fun h4 => ?_)
      · exact SubR.of_eq (by unfold errC; rw [h1, h2, h3, h4]; rfl)
      have g4 := decF h4
      refine AW.loopI (fun i : Nat => ⟨[(1, .s (.ptr 1 0)), (5, vI i)], [(1, some (chanB c))]⟩) (fun i => i ≤ c.regions.length ∧ regErrF c.regions c.regions.length 0 = regErrF c.regions (c.regions.length - i) i) (fun i => c.regions.length - i) 0 ⟨Nat.zero_le _, rfl⟩ ?_ ?_
      · exact SubI.of0 href [] rfl ⟨⟨rfl, LeBx.rfl⟩, trivial⟩ ⟨⟨rfl, LeQ.rfl⟩, ⟨rfl, LeQ.rfl⟩, trivial⟩
      · rintro i ⟨hi, hj⟩
        refine ex.sound (rc := []) tab_ok mix href _ ?_
        refine And.intro (fun h => ?_) (fun h => ?_)
        · have h : (i : Int) < c.regions.length := decT h
          rw [show c.regions.length - i = (c.regions.length - (i + 1)) + 1 by omega, regErrF] at hj
          have hok := Reg.okD hc.regs (show i < c.regions.length by omega)
          refine oi ⟨by omega, by omega⟩ ?_
          refine oi ⟨by decide, by show (0 : Int) ≤ (i : Int); omega, by show (i : Int) ≤ _; omega⟩ ?_
          refine callN ((rRegionErr (c.regions.getD i default) (c.regions.take i) hok.1 hok.2.2.1 (by simp; omega)).conv (args' := _) ⟨⟨LeD.refl _, LeD.refl _, LeD.refl _, trivial⟩, take_regs c.regions i hi, trivial⟩) ?_
          refine And.intro (by kernel_rfl) ?_
          refine And.intro (fun h5 => ?_) (fun h5 => ?_)
          · exact SubR.of_eq (by unfold errC; rw [h1, h2, h3, h4, hj, h5]; rfl)
          · refine ⟨i + 1, ⟨by omega, by rw [hj, h5]; rfl⟩, by omega, ?_⟩
            exact SubI.of0 href [] rfl ⟨⟨rfl, LeBx.rfl⟩, trivial⟩ ⟨⟨rfl, LeQ.rfl⟩, ⟨rfl, LeQ.int (w64_of (by omega) (by omega))⟩, trivial⟩
        · have h : ¬ (i : Int) < c.regions.length := decF h
          exact SubR.of_eq (by unfold errC; rw [h1, h2, h3, h4, hj, show c.regions.length - i = 0 by omega]; rfl)

def gridD (g : Grid) : Nat → DV
  | 0 => dI g.x
  | 1 => dI g.y
  | 2 => dI g.side
  | 3 => dI g.cols
  | 4 => dI g.rows
  | 5 => dInts g.levels
  | _ => .junk
def gridEl (l : List Grid) : Nat → Nat → DV := fun i => gridD (l.getD i default)
def dGrids (l : List Grid) : DV := .slc l.length 6 (gridEl l)
def gridsErr (l : List Grid) : Nat → Nat → Int
  | 0, _ => bif ((l.length : Int) == 2) && !alike (l.getD 0 default) (l.getD 1 default) then 10 else 0
  | n + 1, i => bif errG (l.getD i default) != 0 then errG (l.getD i default) else gridsErr l n (i + 1)
def withErr (c : Chan) (l : List Grid) : Int := bif errC c != 0 then errC c else gridsErr l l.length 0
attribute [local irreducible] errG errC in
theorem rWith (c : Chan) (l : List Grid) (hc : c.ok) (hl : ∀ g ∈ l, g.ok) (hn : l.length ≤ 2) : CallP Tryz.prog 10 [chan c, .s (.d (dGrids l))] (vI (withErr c l)) := by
  refine callP_of_ex (rc := []) (N := 40) Tryz.func10 rfl rfl Tryz.call10 tab_ok mix rfl rfl (fun cx href => ?_)
  refine callN (rCheck c hc) ?_
  refine And.intro (fun h1 => ?_) (fun h1 => ?_)
  · exact SubR.of_eq (by unfold withErr; rw [h1]; rfl)
  refine AW.loopI (fun i : Nat => ⟨[(1, .s (.d (dGrids l))), (6, vI i)], []⟩) (fun i => i ≤ l.length ∧ gridsErr l l.length 0 = gridsErr l (l.length - i) i) (fun i => l.length - i) 0 ⟨Nat.zero_le _, rfl⟩ ?_ ?_
  · exact SubI.of0 href [] rfl trivial ⟨⟨rfl, LeQ.rfl⟩, ⟨rfl, LeQ.rfl⟩, trivial⟩
  · rintro i ⟨hi, hj⟩
    refine ex.sound (rc := []) tab_ok mix href _ ?_
    refine And.intro (fun h => ?_) (fun h => ?_)
    · have h : (i : Int) < l.length := decT h
      rw [show l.length - i = (l.length - (i + 1)) + 1 by omega, gridsErr] at hj
      have hok : (l.getD i default).ok := by rw [getD_of (show i < l.length by omega)]; exact hl _ (List.getElem_mem _)
      refine oi ⟨by omega, by omega⟩ ?_
      refine callN (RCheck (l.getD i default) hok.levels) ?_
      refine And.intro (fun h2 => ?_) (fun h2 => ?_)
      · exact SubR.of_eq (by unfold withErr; rw [h1, hj, h2]; rfl)
      · refine ⟨i + 1, ⟨by omega, by rw [hj, h2]; rfl⟩, by omega, ?_⟩
        exact SubI.of0 href [] rfl trivial ⟨⟨rfl, LeQ.rfl⟩, ⟨rfl, LeQ.int (w64_of (by omega) (by omega))⟩, trivial⟩
    · have h : ¬ (i : Int) < l.length := decF h
      rw [show l.length - i = 0 by omega, gridsErr] at hj
      repeat first | refine sk ?_ | refine st ?_ | refine sg ?_ | refine sh ?_ | refine su ?_ | refine sn1 ?_ | refine sn0 ?_
      refine og (fun hb => ?_) ?_
      · have hb : ((l.length : Int) == 2) = true := hb
        simp at hb
        exact ⟨by decide, by omega⟩
      repeat first | refine sk ?_ | refine st ?_ | refine sg ?_ | refine sh ?_ | refine su ?_ | refine sn1 ?_ | refine sn0 ?_
      refine og (fun hb => ?_) ?_
      · have hb : ((l.length : Int) == 2) = true := hb
        simp at hb
        exact ⟨by decide, by omega⟩
      repeat first | refine sk ?_ | refine st ?_ | refine sg ?_ | refine sh ?_ | refine su ?_ | refine sn1 ?_ | refine sn0 ?_
      refine callG (Alike (l.getD 0 default) (l.getD 1 default)) ?_
      repeat first | refine sk ?_ | refine st ?_ | refine sg ?_ | refine sh ?_ | refine su ?_ | refine sn1 ?_ | refine sn0 ?_
      refine And.intro (by kernel_rfl) ?_
      refine And.intro (fun h2 => ?_) (fun h2 => ?_)
      · have h2 : (((l.length : Int) == 2) && !alike (l.getD 0 default) (l.getD 1 default)) = true := h2
        exact SubR.of_eq (by unfold withErr; rw [h1, hj, h2]; rfl)
      · have h2 : (((l.length : Int) == 2) && !alike (l.getD 0 default) (l.getD 1 default)) = false := h2
        exact SubR.of_eq (by unfold withErr; rw [h1, hj, h2]; rfl)
theorem withErr1 (c : Chan) (g : Grid) : withErr c [g] = bif errC c != 0 then errC c else errG g := by
  unfold withErr
  cases h : errC c != 0
  · show gridsErr [g] 1 0 = errG g
    show (bif errG g != 0 then errG g else 0) = errG g
    cases h' : errG g != 0
    · simp at h'; exact h'.symm
    · rfl
  · rfl
theorem withErr2 (c : Chan) (a b : Grid) : withErr c [a, b] = bif errC c != 0 then errC c else bif errG a != 0 then errG a else bif errG b != 0 then errG b else bif !alike a b then 10 else 0 := rfl
attribute [local irreducible] errG errC in
theorem cboth (c : Chan) (g : Grid) (hc : c.ok) (hg : g.ok) : CallP Tryz.prog 25 [chan c, grid g] (vI (withErr c [g])) := by
  rw [withErr1]
  refine callP_of_ex (rc := []) (N := 13) Tryz.func25 rfl rfl Tryz.call25 tab_ok mix rfl rfl (fun cx href => ?_)
  refine callN (gCheck c hc) ?_
  refine And.intro (fun h1 => ?_) (fun h1 => ?_)
  · exact SubR.of_eq (by rw [h1]; rfl)
  refine callN (bcheck g hg.levels) ?_
  exact SubR.of_eq (by rw [h1]; rfl)
attribute [local irreducible] errG errC in
theorem cthree (c : Chan) (a b : Grid) (hc : c.ok) (ha : a.ok) (hb : b.ok) : CallP Tryz.prog 80 [chan c, grid a, grid b] (vI (withErr c [a, b])) := by
  have hw := withErr1 c a
  rw [withErr2]
  refine callP_of_ex (rc := []) (N := 53) Tryz.func80 rfl rfl Tryz.call80 tab_ok mix rfl rfl (fun cx href => ?_)
  refine callN (cboth c a hc ha) ?_
  refine And.intro (fun h1 => ?_) (fun h1 => ?_)
  · refine SubR.of_eq ?_
    show vI (withErr c [a]) = _
    have h1 : (withErr c [a] != 0) = true := h1
    rw [hw] at h1 ⊢
    cases h2 : errC c != 0
    · rw [h2] at h1
      have h1 : (errG a != 0) = true := h1
      rw [h1]; rfl
    · rfl
  have h1 : (withErr c [a] != 0) = false := h1
  rw [hw] at h1
  have h2 : (errC c != 0) = false := by
    cases h2 : errC c != 0
    · rfl
    · rw [h2] at h1
      have h1 : (errC c != 0) = false := h1
      rw [h2] at h1; cases h1
  rw [h2] at h1
  have h3 : (errG a != 0) = false := h1
  refine callN (bcheck b hb.levels) ?_
  refine And.intro (fun h4 => ?_) (fun h4 => ?_)
  · exact SubR.of_eq (by rw [h2, h3, h4]; rfl)
  repeat first | refine sk ?_ | refine st ?_ | refine sg ?_ | refine sh ?_ | refine su ?_ | refine sn1 ?_ | refine sn0 ?_
  have key : (a.x != b.x || a.y != b.y || a.side != b.side || a.cols != b.cols || a.rows != b.rows) = !alike a b := by
    unfold alike
    simp only [Bool.not_and, bne]
  refine And.intro (fun h5 => ?_) (fun h5 => ?_)
  · exact SubR.of_eq (by rw [h2, h3, h4, ← key]; rw [show (a.x != b.x || a.y != b.y || a.side != b.side || a.cols != b.cols || a.rows != b.rows) = true from h5]; rfl)
  · exact SubR.of_eq (by rw [h2, h3, h4, ← key]; rw [show (a.x != b.x || a.y != b.y || a.side != b.side || a.cols != b.cols || a.rows != b.rows) = false from h5]; rfl)

theorem axErrF_zero {over : Int} {l : List Ap} : ∀ {n i : Nat}, axErrF over l n i = 0 → ∀ j, i ≤ j → j < i + n → badA over (l.getD j default) = false ∧ sameA l j = false
  | 0, i, _, j, h1, h2 => by omega
  | n + 1, i, h, j, h1, h2 => by
    rw [axErrF] at h
    cases hb : badA over (l.getD i default) with
    | true => rw [hb] at h; cases h
    | false =>
      cases hs : sameA l i with
      | true => rw [hb, hs] at h; cases h
      | false =>
        rw [hb, hs] at h
        by_cases hij : j = i
        · subst hij; exact ⟨hb, hs⟩
        · exact axErrF_zero (n := n) (i := i + 1) h j (by omega) (by omega)
theorem val_of (c : Chan) (h : errC c = 0) : Val c := by
  unfold errC at h
  cases h1 : isName c.name with
  | false => rw [h1] at h; cases h
  | true =>
    rw [h1] at h
    cases h2 : (!within c.over 0 1000 || !within c.buffer 0 100000) with
    | true => rw [h2] at h; cases h
    | false =>
      rw [h2] at h
      cases h3 : axErr c != 0 with
      | true =>
        rw [h3] at h
        have h : axErr c = 0 := h
        rw [h] at h3; cases h3
      | false =>
        have h3 : axErr c = 0 := by simpa using h3
        unfold axErr at h3
        cases a1 : decide ((c.axis.length : Int) < 2) with
        | true => rw [a1] at h3; cases h3
        | false =>
          cases a2 : decide ((c.axis.length : Int) > 20) with
          | true => rw [a1, a2] at h3; cases h3
          | false =>
            rw [a1, a2] at h3
            have h3 : axErrF c.over c.axis c.axis.length 0 = 0 := h3
            have g1 := decF a1
            have g2 := decF a2
            simp [within] at h2
            have hov : w64 (c.over - 20000) = c.over - 20000 := w64_of (by omega) (by omega)
            have hA : ∀ i, i < c.axis.length → badA c.over (axis c i) = false ∧ sameA c.axis i = false := fun i hi => axErrF_zero h3 i (Nat.zero_le _) (by omega)
            have hB : ∀ i, i < c.axis.length → good (axis c i).pt = true ∧ (1 ≤ (axis c i).half ∧ (axis c i).half ≤ 100000) ∧ (c.over - 20000 ≤ (axis c i).level ∧ (axis c i).level ≤ 20000) ∧ (0 ≤ (axis c i).run ∧ (axis c i).run ≤ 1000) := by
              intro i hi
              have := (hA i hi).1
              unfold badA at this
              rw [hov] at this
              simp only [Bool.or_eq_false_iff, Bool.not_eq_false'] at this
              obtain ⟨⟨⟨q1, q2⟩, q3⟩, q4⟩ := this
              simp only [within, Bool.and_eq_true, decide_eq_true_eq, ge_iff_le] at q2 q3 q4
              exact ⟨q1, q2, q3, q4⟩
            refine ⟨by omega, by omega, fun i hi => (hB i hi).1, fun i hi => (hB i hi).2.1, fun i hi => (hB i hi).2.2.1, fun i hi => (hB i hi).2.2.2, fun i hi => ?_, by omega, by omega⟩
            intro he
            have := (hA (i + 1) hi).2
            unfold sameA at this
            rw [decide_eq_true (by omega), Bool.true_and, w64_of (by omega) (by omega)] at this
            have e : ((((i + 1 : Nat) : Int) - 1).toNat) = i := by omega
            rw [e] at this
            rw [samePt_iff.2 he.symm] at this
            cases this
end Go.Ch
