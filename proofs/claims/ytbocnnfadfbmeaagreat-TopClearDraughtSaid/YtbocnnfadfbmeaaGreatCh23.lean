/- Part Ch23: lemmas that the proofs of this seat share; by itself it claims nothing. -/
import Derived.Test.YtbocnnfadfbmeaaGreatCh22
namespace Go.Ch
open Go Go.Ax Go.Proofs Go.Proofs.Tryz
set_option maxRecDepth 100000
set_option pp.maxSteps 400
set_option maxHeartbeats 1000000

def laQ (a b : Grid) (i : Nat) : Int := bif b.levels.getD i 0 == 30000 then a.levels.getD i 0 else b.levels.getD i 0
def laH (a b : Grid) (k : Nat) : Nat → Int := fun j => if j < k then laQ a b j else b.levels.getD j 0
theorem laH_zero {a b : Grid} {j : Nat} : laH a b 0 j = b.levels.getD j 0 := if_neg (Nat.not_lt_zero j)
theorem laH_done {a b : Grid} {k j : Nat} (h : j < k) : laH a b k j = laQ a b j := if_pos h
theorem laH_new {a b : Grid} {k : Nat} (h : b.levels.getD k 0 = 30000) : laH a b (k + 1) k = a.levels.getD k 0 := by
  rw [laH_done (Nat.lt_succ_self k)]; unfold laQ; rw [h]; rfl
theorem laH_keep {a b : Grid} {k : Nat} (h : b.levels.getD k 0 ≠ 30000) : laH a b (k + 1) k = laH a b k k := by
  rw [laH_done (Nat.lt_succ_self k)]; unfold laQ laH
  rw [if_neg (Nat.lt_irrefl k), beq_eq_false_iff_ne.2 h]; rfl
theorem laH_old {a b : Grid} {k j : Nat} (h : j ≠ k) : laH a b (k + 1) j = laH a b k j := by
  unfold laH
  by_cases e : j < k
  · rw [if_pos e, if_pos (by omega)]
  · rw [if_neg e, if_neg (by omega)]
def shQ (a b : Grid) (i : Nat) : Int := bif a.levels.getD i 0 != 30000 && decide (a.levels.getD i 0 > laQ a b i) then a.levels.getD i 0 else laQ a b i
def shH (a b : Grid) (k : Nat) : Nat → Int := fun j => if j < k then shQ a b j else laH a b b.levels.length j
theorem shH_old {a b : Grid} {k j : Nat} (h : j ≠ k) : shH a b (k + 1) j = shH a b k j := by
  unfold shH
  by_cases e : j < k
  · rw [if_pos e, if_pos (by omega)]
  · rw [if_neg e, if_neg (by omega)]
end Go.Ch

namespace Go.Ch
open Go Go.Ax Go.Proofs Go.Proofs.Tryz
set_option maxRecDepth 100000
set_option pp.maxSteps 400
set_option maxHeartbeats 1000000

theorem sameC_eq {a b : Grid} (h : sameC a b = true) : a.x = b.x ∧ a.y = b.y ∧ a.side = b.side ∧ a.cols = b.cols ∧ a.rows = b.rows := by
  unfold sameC at h
  simpa using h
theorem withG_eq {a b : Grid} {f h : Nat → Int} (hs : sameC a b = true) (hl : b.levels.length = a.levels.length) (hf : ∀ i, i < a.levels.length → f i = h i) : withG a f = withG b h := by
  obtain ⟨h1, h2, h3, h4, h5⟩ := sameC_eq hs
  unfold withG
  rw [h1, h2, h3, h4, h5, hl]
  congr 1
  exact List.map_congr_left fun i hi => hf i (List.mem_range.1 hi)
set_option linter.unusedSimpArgs false
theorem lat_eq {a b : Grid} (i : Nat) : latP a b i = laQ a b i := by
  unfold latP laQ
  generalize a.levels.getD i 0 = x
  generalize b.levels.getD i 0 = y
  by_cases hb : y = 30000
  · have hb1 : (y == 30000) = true := beq_iff_eq.2 hb
    have hb2 : (y != 30000) = false := by rw [bne, hb1]; rfl
    by_cases ha : x = 30000
    · have ha1 : (x == 30000) = true := beq_iff_eq.2 ha
      have ha2 : (x != 30000) = false := by rw [bne, ha1]; rfl
      simp only [ha1, ha2, hb1, hb2, cond_true, cond_false, Bool.not_true, Bool.not_false, Bool.true_and, Bool.false_and, Bool.false_or, Bool.or_false]
      try (first | rfl | omega | (simp; done) | (simp; omega))
    · have ha1 : (x == 30000) = false := beq_eq_false_iff_ne.2 ha
      have ha2 : (x != 30000) = true := by rw [bne, ha1]; rfl
      simp only [ha1, ha2, hb1, hb2, cond_true, cond_false, Bool.not_true, Bool.not_false, Bool.true_and, Bool.false_and, Bool.false_or, Bool.or_false]
      try (first | rfl | omega | (simp; done) | (simp; omega))
  · have hb1 : (y == 30000) = false := beq_eq_false_iff_ne.2 hb
    have hb2 : (y != 30000) = true := by rw [bne, hb1]; rfl
    by_cases ha : x = 30000
    · have ha1 : (x == 30000) = true := beq_iff_eq.2 ha
      have ha2 : (x != 30000) = false := by rw [bne, ha1]; rfl
      simp only [ha1, ha2, hb1, hb2, cond_true, cond_false, Bool.not_true, Bool.not_false, Bool.true_and, Bool.false_and, Bool.false_or, Bool.or_false]
      try (first | rfl | omega | (simp; done) | (simp; omega))
    · have ha1 : (x == 30000) = false := beq_eq_false_iff_ne.2 ha
      have ha2 : (x != 30000) = true := by rw [bne, ha1]; rfl
      simp only [ha1, ha2, hb1, hb2, cond_true, cond_false, Bool.not_true, Bool.not_false, Bool.true_and, Bool.false_and, Bool.false_or, Bool.or_false]
      try (first | rfl | omega | (simp; done) | (simp; omega))
theorem sho_eq {a b : Grid} (i : Nat) : shoP a b i = shQ a b i := by
  unfold shoP shQ laQ mm
  generalize a.levels.getD i 0 = x
  generalize b.levels.getD i 0 = y
  by_cases hb : y = 30000
  · have hb1 : (y == 30000) = true := beq_iff_eq.2 hb
    have hb2 : (y != 30000) = false := by rw [bne, hb1]; rfl
    by_cases ha : x = 30000
    · have ha1 : (x == 30000) = true := beq_iff_eq.2 ha
      have ha2 : (x != 30000) = false := by rw [bne, ha1]; rfl
      simp only [ha1, ha2, hb1, hb2, cond_true, cond_false, Bool.not_true, Bool.not_false, Bool.true_and, Bool.false_and, Bool.false_or, Bool.or_false]
      try (first | rfl | omega | (simp; done) | (simp; omega))
    · have ha1 : (x == 30000) = false := beq_eq_false_iff_ne.2 ha
      have ha2 : (x != 30000) = true := by rw [bne, ha1]; rfl
      simp only [ha1, ha2, hb1, hb2, cond_true, cond_false, Bool.not_true, Bool.not_false, Bool.true_and, Bool.false_and, Bool.false_or, Bool.or_false]
      try (first | rfl | omega | (simp; done) | (simp; omega))
  · have hb1 : (y == 30000) = false := beq_eq_false_iff_ne.2 hb
    have hb2 : (y != 30000) = true := by rw [bne, hb1]; rfl
    by_cases ha : x = 30000
    · have ha1 : (x == 30000) = true := beq_iff_eq.2 ha
      have ha2 : (x != 30000) = false := by rw [bne, ha1]; rfl
      simp only [ha1, ha2, hb1, hb2, cond_true, cond_false, Bool.not_true, Bool.not_false, Bool.true_and, Bool.false_and, Bool.false_or, Bool.or_false]
      try (first | rfl | omega | (simp; done) | (simp; omega))
    · have ha1 : (x == 30000) = false := beq_eq_false_iff_ne.2 ha
      have ha2 : (x != 30000) = true := by rw [bne, ha1]; rfl
      simp only [ha1, ha2, hb1, hb2, cond_true, cond_false, Bool.not_true, Bool.not_false, Bool.true_and, Bool.false_and, Bool.false_or, Bool.or_false]
      by_cases h : x > y
      · rw [decide_eq_true h, cond_true, if_neg (by omega)]
      · rw [decide_eq_false h, cond_false]
        split <;> omega
theorem sho_comm {a b : Grid} (i : Nat) : shoP a b i = shoP b a i := by
  unfold shoP mm
  generalize a.levels.getD i 0 = x
  generalize b.levels.getD i 0 = y
  by_cases hb : y = 30000
  · have hb1 : (y == 30000) = true := beq_iff_eq.2 hb
    have hb2 : (y != 30000) = false := by rw [bne, hb1]; rfl
    by_cases ha : x = 30000
    · have ha1 : (x == 30000) = true := beq_iff_eq.2 ha
      have ha2 : (x != 30000) = false := by rw [bne, ha1]; rfl
      simp only [ha1, ha2, hb1, hb2, cond_true, cond_false, Bool.not_true, Bool.not_false, Bool.true_and, Bool.false_and, Bool.false_or, Bool.or_false]
      try (first | rfl | omega | (simp; done) | (simp; omega))
    · have ha1 : (x == 30000) = false := beq_eq_false_iff_ne.2 ha
      have ha2 : (x != 30000) = true := by rw [bne, ha1]; rfl
      simp only [ha1, ha2, hb1, hb2, cond_true, cond_false, Bool.not_true, Bool.not_false, Bool.true_and, Bool.false_and, Bool.false_or, Bool.or_false]
      try (first | rfl | omega | (simp; done) | (simp; omega))
  · have hb1 : (y == 30000) = false := beq_eq_false_iff_ne.2 hb
    have hb2 : (y != 30000) = true := by rw [bne, hb1]; rfl
    by_cases ha : x = 30000
    · have ha1 : (x == 30000) = true := beq_iff_eq.2 ha
      have ha2 : (x != 30000) = false := by rw [bne, ha1]; rfl
      simp only [ha1, ha2, hb1, hb2, cond_true, cond_false, Bool.not_true, Bool.not_false, Bool.true_and, Bool.false_and, Bool.false_or, Bool.or_false]
      try (first | rfl | omega | (simp; done) | (simp; omega))
    · have ha1 : (x == 30000) = false := beq_eq_false_iff_ne.2 ha
      have ha2 : (x != 30000) = true := by rw [bne, ha1]; rfl
      simp only [ha1, ha2, hb1, hb2, cond_true, cond_false, Bool.not_true, Bool.not_false, Bool.true_and, Bool.false_and, Bool.false_or, Bool.or_false]
      split <;> split <;> omega
theorem sho_ge {a b : Grid} (i : Nat) : ((a.levels.getD i 0 != 30000 && decide (shoP a b i < a.levels.getD i 0)) || (b.levels.getD i 0 != 30000 && decide (shoP a b i < b.levels.getD i 0))) = false := by
  unfold shoP mm
  generalize a.levels.getD i 0 = x
  generalize b.levels.getD i 0 = y
  by_cases hb : y = 30000
  · have hb1 : (y == 30000) = true := beq_iff_eq.2 hb
    have hb2 : (y != 30000) = false := by rw [bne, hb1]; rfl
    by_cases ha : x = 30000
    · have ha1 : (x == 30000) = true := beq_iff_eq.2 ha
      have ha2 : (x != 30000) = false := by rw [bne, ha1]; rfl
      simp only [ha1, ha2, hb1, hb2, cond_true, cond_false, Bool.not_true, Bool.not_false, Bool.true_and, Bool.false_and, Bool.false_or, Bool.or_false]
      try (first | rfl | omega | (simp; done) | (simp; omega))
    · have ha1 : (x == 30000) = false := beq_eq_false_iff_ne.2 ha
      have ha2 : (x != 30000) = true := by rw [bne, ha1]; rfl
      simp only [ha1, ha2, hb1, hb2, cond_true, cond_false, Bool.not_true, Bool.not_false, Bool.true_and, Bool.false_and, Bool.false_or, Bool.or_false]
      try (first | rfl | omega | (simp; done) | (simp; omega))
  · have hb1 : (y == 30000) = false := beq_eq_false_iff_ne.2 hb
    have hb2 : (y != 30000) = true := by rw [bne, hb1]; rfl
    by_cases ha : x = 30000
    · have ha1 : (x == 30000) = true := beq_iff_eq.2 ha
      have ha2 : (x != 30000) = false := by rw [bne, ha1]; rfl
      simp only [ha1, ha2, hb1, hb2, cond_true, cond_false, Bool.not_true, Bool.not_false, Bool.true_and, Bool.false_and, Bool.false_or, Bool.or_false]
      try (first | rfl | omega | (simp; done) | (simp; omega))
    · have ha1 : (x == 30000) = false := beq_eq_false_iff_ne.2 ha
      have ha2 : (x != 30000) = true := by rw [bne, ha1]; rfl
      simp only [ha1, ha2, hb1, hb2, cond_true, cond_false, Bool.not_true, Bool.not_false, Bool.true_and, Bool.false_and, Bool.false_or, Bool.or_false]
      rw [Bool.or_eq_false_iff, decide_eq_false_iff_not, decide_eq_false_iff_not]
      split <;> omega
theorem sameC_symm {a b : Grid} (h : sameC a b = true) : sameC b a = true := by
  obtain ⟨h1, h2, h3, h4, h5⟩ := sameC_eq h
  unfold sameC
  simp [h1, h2, h3, h4, h5]
theorem withG_len {g : Grid} {f : Nat → Int} : (withG g f).levels.length = g.levels.length := by simp [withG]
end Go.Ch

namespace Go.Ch
open Go Go.Ax Go.Proofs Go.Proofs.Tryz
set_option maxRecDepth 100000
set_option pp.maxSteps 400
set_option maxHeartbeats 1000000

/-- The cell of a place. -/
def outG (g : Grid) (p : Pt) : Bool := ((decide (p.x < g.x) || decide (p.y < g.y)) || decide (p.x ≥ g.x + g.cols * g.side)) || decide (p.y ≥ g.y + g.rows * g.side)
def cellI (g : Grid) (p : Pt) : Int := bif outG g p then -1 else (p.y - g.y) / g.side * g.cols + (p.x - g.x) / g.side
/-- A cell contains a place. -/
def mtC (g : Grid) (p : Pt) (i : Nat) : Bool :=
  ((decide (p.x ≥ g.x + (i : Int) % g.cols * g.side) && decide (p.x < g.x + (i : Int) % g.cols * g.side + g.side)) && decide (p.y ≥ g.y + (i : Int) / g.cols * g.side)) && decide (p.y < g.y + (i : Int) / g.cols * g.side + g.side)
theorem div_range {a s q : Int} (hs : 0 < s) : (q * s ≤ a ∧ a < q * s + s) ↔ a / s = q := by
  constructor
  · rintro ⟨h1, h2⟩
    have e1 : q ≤ a / s := (Int.le_ediv_iff_mul_le hs).2 h1
    have e2 : a / s < q + 1 := (Int.ediv_lt_iff_lt_mul hs).2 (by rw [Int.add_mul, Int.one_mul]; exact h2)
    omega
  · rintro rfl
    have h1 := Int.ediv_mul_le a (show s ≠ 0 by omega)
    have h2 := Int.lt_ediv_add_one_mul_self a hs
    rw [Int.add_mul, Int.one_mul] at h2
    exact ⟨h1, h2⟩
theorem mtC_iff {g : Grid} (hg : GVal g) {p : Pt} {i : Nat} : mtC g p i = true ↔ (p.x - g.x) / g.side = (i : Int) % g.cols ∧ (p.y - g.y) / g.side = (i : Int) / g.cols := by
  have hs := hg.side
  unfold mtC
  simp only [Bool.and_eq_true, decide_eq_true_eq]
  rw [← div_range (a := p.x - g.x) (q := (i : Int) % g.cols) (show 0 < g.side by omega), ← div_range (a := p.y - g.y) (q := (i : Int) / g.cols) (show 0 < g.side by omega)]
  constructor
  · rintro ⟨⟨⟨h1, h2⟩, h3⟩, h4⟩
    exact ⟨⟨by omega, by omega⟩, by omega, by omega⟩
  · rintro ⟨⟨h1, h2⟩, h3, h4⟩
    exact ⟨⟨⟨by omega, by omega⟩, by omega⟩, by omega⟩
theorem ij_range {g : Grid} (hg : GVal g) {i : Nat} (hi : i < g.levels.length) : 0 ≤ (i : Int) % g.cols ∧ (i : Int) % g.cols < g.cols ∧ 0 ≤ (i : Int) / g.cols ∧ (i : Int) / g.cols < g.rows := by
  have hc := hg.cols
  refine ⟨Int.emod_nonneg _ (by omega), Int.emod_lt_of_pos _ (by omega), Int.ediv_nonneg (by omega) (by omega), ?_⟩
  refine (Int.ediv_lt_iff_lt_mul (by omega)).2 ?_
  have := hg.len
  rw [Int.mul_comm]; omega
/-- Where the place is in. -/
theorem cellI_in {g : Grid} (hg : GVal g) {p : Pt} (h : outG g p = false) : 0 ≤ cellI g p ∧ cellI g p < g.levels.length ∧ cellI g p % g.cols = (p.x - g.x) / g.side ∧ cellI g p / g.cols = (p.y - g.y) / g.side ∧
    0 ≤ (p.x - g.x) / g.side ∧ (p.x - g.x) / g.side < g.cols ∧ 0 ≤ (p.y - g.y) / g.side ∧ (p.y - g.y) / g.side < g.rows := by
  have hs := hg.side
  have hc := hg.cols
  have hl := hg.len
  have ho := h
  unfold outG at h
  simp only [Bool.or_eq_false_iff, decide_eq_false_iff_not] at h
  obtain ⟨⟨⟨h1, h2⟩, h3⟩, h4⟩ := h
  have q1 : 0 ≤ (p.x - g.x) / g.side := Int.ediv_nonneg (by omega) (by omega)
  have q2 : (p.x - g.x) / g.side < g.cols := (Int.ediv_lt_iff_lt_mul (by omega)).2 (by omega)
  have q3 : 0 ≤ (p.y - g.y) / g.side := Int.ediv_nonneg (by omega) (by omega)
  have q4 : (p.y - g.y) / g.side < g.rows := (Int.ediv_lt_iff_lt_mul (by omega)).2 (by omega)
  have e : cellI g p = (p.y - g.y) / g.side * g.cols + (p.x - g.x) / g.side := by unfold cellI; rw [ho]; rfl
  rw [e]
  generalize (p.x - g.x) / g.side = u at q1 q2 ⊢
  generalize (p.y - g.y) / g.side = v at q3 q4 ⊢
  have m1 : 0 ≤ v * g.cols := Int.mul_nonneg q3 (by omega)
  have m2 : (v + 1) * g.cols ≤ g.rows * g.cols := Int.mul_le_mul_of_nonneg_right (by omega) (by omega)
  rw [Int.add_mul, Int.one_mul, Int.mul_comm g.rows] at m2
  refine ⟨by omega, by omega, ?_, ?_, q1, q2, q3, q4⟩
  · rw [Int.add_comm, Int.add_mul_emod_self_right]
    exact Int.emod_eq_of_lt q1 q2
  · rw [Int.add_comm, Int.add_mul_ediv_right _ _ (by omega), Int.ediv_eq_zero_of_lt q1 q2]; omega
theorem mtC_cell {g : Grid} (hg : GVal g) {p : Pt} {i : Nat} (hi : i < g.levels.length) : mtC g p i = (!outG g p && ((i : Int) == cellI g p)) := by
  have hs := hg.side
  have hr := ij_range hg hi
  rw [Bool.eq_iff_iff, mtC_iff hg]
  cases ho : outG g p with
  | true =>
    simp only [Bool.not_true, Bool.false_and, Bool.false_eq_true, iff_false]
    rintro ⟨e1, e2⟩
    have r1 := (div_range (a := p.x - g.x) (q := (i : Int) % g.cols) (show 0 < g.side by omega)).2 e1
    have r2 := (div_range (a := p.y - g.y) (q := (i : Int) / g.cols) (show 0 < g.side by omega)).2 e2
    have m1 : 0 ≤ (i : Int) % g.cols * g.side := Int.mul_nonneg hr.1 (by omega)
    have m2 : 0 ≤ (i : Int) / g.cols * g.side := Int.mul_nonneg hr.2.2.1 (by omega)
    have m3 : ((i : Int) % g.cols + 1) * g.side ≤ g.cols * g.side := Int.mul_le_mul_of_nonneg_right (by omega) (by omega)
    have m4 : ((i : Int) / g.cols + 1) * g.side ≤ g.rows * g.side := Int.mul_le_mul_of_nonneg_right (by omega) (by omega)
    rw [Int.add_mul, Int.one_mul] at m3 m4
    have : outG g p = false := by
      unfold outG
      simp only [Bool.or_eq_false_iff, decide_eq_false_iff_not]
      exact ⟨⟨⟨by omega, by omega⟩, by omega⟩, by omega⟩
    rw [this] at ho; cases ho
  | false =>
    obtain ⟨c1, c2, c3, c4, _⟩ := cellI_in hg ho
    simp only [Bool.not_false, Bool.true_and, beq_iff_eq]
    rw [← c3, ← c4]
    constructor
    · rintro ⟨e1, e2⟩
      have d1 := Int.emod_add_mul_ediv (i : Int) g.cols
      have d2 := Int.emod_add_mul_ediv (cellI g p) g.cols
      rw [e1, e2] at d2
      omega
    · intro e
      rw [e]; exact ⟨rfl, rfl⟩
end Go.Ch

namespace Go.Ch
open Go Go.Ax Go.Proofs Go.Proofs.Tryz
set_option maxRecDepth 100000
set_option pp.maxSteps 400
set_option maxHeartbeats 1000000

theorem gw {g : Grid} (hg : GVal g) : w64 (g.cols * g.side) = g.cols * g.side ∧ w64 (g.rows * g.side) = g.rows * g.side ∧ w64 (g.x + g.cols * g.side) = g.x + g.cols * g.side ∧ w64 (g.y + g.rows * g.side) = g.y + g.rows * g.side := by
  have hx := hg.x
  have hy := hg.y
  have hs := hg.side
  have hc := hg.cols
  have hr := hg.rows
  have h1 := hg.right
  have h2 := hg.top
  have m1 : 0 ≤ g.cols * g.side := Int.mul_nonneg (by omega) (by omega)
  have m2 : 0 ≤ g.rows * g.side := Int.mul_nonneg (by omega) (by omega)
  exact ⟨w64_of (by omega) (by omega), w64_of (by omega) (by omega), w64_of (by omega) (by omega), w64_of (by omega) (by omega)⟩
def rcF (g : Grid) (p : Pt) : Nat → Nat → Int
  | 0, _ => -1
  | n + 1, i => bif mtC g p i then (i : Int) else rcF g p n (i + 1)
theorem rcF_eq {g : Grid} (hg : GVal g) {p : Pt} : ∀ n i, i + n = g.levels.length → (outG g p = true ∨ (i : Int) ≤ cellI g p) → rcF g p n i = cellI g p
  | 0, i, h, ho => by
    rw [rcF]
    cases hb : outG g p with
    | true => unfold cellI; rw [hb]; rfl
    | false =>
      have := (cellI_in hg hb).2.1
      rw [hb] at ho
      rcases ho with ho | ho
      · cases ho
      · omega
  | n + 1, i, h, ho => by
    rw [rcF, mtC_cell hg (by omega)]
    cases hb : outG g p with
    | true =>
      rw [Bool.not_true, Bool.false_and, cond_false]
      exact rcF_eq hg n (i + 1) (by omega) (.inl hb)
    | false =>
      rw [hb] at ho
      have ho := ho.resolve_left (fun h => by cases h)
      rw [Bool.not_false, Bool.true_and]
      cases he : (i : Int) == cellI g p with
      | true => rw [cond_true]; exact beq_iff_eq.1 he
      | false =>
        have he := beq_eq_false_iff_ne.1 he
        rw [cond_false]
        exact rcF_eq hg n (i + 1) (by omega) (.inr (by omega))
theorem mw {g : Grid} (hg : GVal g) {i : Nat} (hi : i < g.levels.length) : w64 (g.x + w64 ((i : Int).tmod g.cols * g.side)) = g.x + (i : Int) % g.cols * g.side ∧ w64 (g.y + w64 (w64 ((i : Int).tdiv g.cols) * g.side)) = g.y + (i : Int) / g.cols * g.side ∧
    w64 (g.x + (i : Int) % g.cols * g.side + g.side) = g.x + (i : Int) % g.cols * g.side + g.side ∧ w64 (g.y + (i : Int) / g.cols * g.side + g.side) = g.y + (i : Int) / g.cols * g.side + g.side := by
  have hr := ij_range hg hi
  have hs := hg.side
  have hx := hg.x
  have hy := hg.y
  have h1 := hg.right
  have h2 := hg.top
  have hrr := hg.rows
  have m1 : 0 ≤ (i : Int) % g.cols * g.side := Int.mul_nonneg hr.1 (by omega)
  have m2 : 0 ≤ (i : Int) / g.cols * g.side := Int.mul_nonneg hr.2.2.1 (by omega)
  have m3 : ((i : Int) % g.cols + 1) * g.side ≤ g.cols * g.side := Int.mul_le_mul_of_nonneg_right (by omega) (by omega)
  have m4 : ((i : Int) / g.cols + 1) * g.side ≤ g.rows * g.side := Int.mul_le_mul_of_nonneg_right (by omega) (by omega)
  rw [Int.add_mul, Int.one_mul] at m3 m4
  rw [Int.tmod_eq_emod_of_nonneg (by omega), Int.tdiv_eq_ediv_of_nonneg (by omega)]
  have a1 : w64 ((i : Int) / g.cols) = (i : Int) / g.cols := w64_of (by omega) (by omega)
  have a2 : w64 ((i : Int) % g.cols * g.side) = (i : Int) % g.cols * g.side := w64_of (by omega) (by omega)
  have a3 : w64 ((i : Int) / g.cols * g.side) = (i : Int) / g.cols * g.side := w64_of (by omega) (by omega)
  rw [a1, a2, a3]
  exact ⟨w64_of (by omega) (by omega), w64_of (by omega) (by omega), w64_of (by omega) (by omega), w64_of (by omega) (by omega)⟩
end Go.Ch

namespace Go.Ch
open Go Go.Ax Go.Proofs Go.Proofs.Tryz
set_option maxRecDepth 100000
set_option pp.maxSteps 400
set_option maxHeartbeats 1000000

def absI (n : Int) : Int := if n < 0 then -n else n
def neigh (g : Grid) (i k : Int) : Bool := absI (i % g.cols - k % g.cols) + absI (i / g.cols - k / g.cols) == 1
theorem divmod {c q r k : Int} (hk : k = c * q + r) (h0 : 0 ≤ r) (h1 : r < c) : k % c = r ∧ k / c = q := by
  subst hk
  have hc : c ≠ 0 := by omega
  constructor
  · rw [Int.add_comm, Int.add_mul_emod_self_left]
    exact Int.emod_eq_of_lt h0 h1
  · rw [Int.add_comm, Int.add_mul_ediv_left _ _ hc, Int.ediv_eq_zero_of_lt h0 h1]; omega
theorem neigh_iff {g : Grid} (hc : 1 ≤ g.cols) {i k : Int} : neigh g i k = true ↔ (k = i - g.cols ∨ k = i + g.cols ∨ (k = i - 1 ∧ i % g.cols > 0) ∨ (k = i + 1 ∧ i % g.cols < g.cols - 1)) := by
  unfold neigh
  rw [beq_iff_eq]
  have di := Int.emod_add_mul_ediv i g.cols
  have dk := Int.emod_add_mul_ediv k g.cols
  have ri := Int.emod_nonneg i (show g.cols ≠ 0 by omega)
  have ri' := Int.emod_lt_of_pos i (show 0 < g.cols by omega)
  have rk := Int.emod_nonneg k (show g.cols ≠ 0 by omega)
  have rk' := Int.emod_lt_of_pos k (show 0 < g.cols by omega)
  constructor
  · intro h
    generalize i % g.cols = a at *
    generalize k % g.cols = b at *
    generalize i / g.cols = p at *
    generalize k / g.cols = q at *
    unfold absI at h
    have hq : q = p ∨ q = p + 1 ∨ q = p - 1 := by split at h <;> split at h <;> omega
    rcases hq with rfl | rfl | rfl
    · have : b = a + 1 ∨ b = a - 1 := by split at h <;> split at h <;> omega
      rcases this with e | e
      · exact .inr (.inr (.inr ⟨by omega, by omega⟩))
      · exact .inr (.inr (.inl ⟨by omega, by omega⟩))
    · have : b = a := by split at h <;> split at h <;> omega
      rw [Int.mul_add, Int.mul_one] at dk
      exact .inr (.inl (by omega))
    · have : b = a := by split at h <;> split at h <;> omega
      rw [Int.mul_sub, Int.mul_one] at dk
      exact .inl (by omega)
  · have fin : ∀ r q, k = g.cols * q + r → 0 ≤ r → r < g.cols → absI (i % g.cols - r) + absI (i / g.cols - q) = 1 → absI (i % g.cols - k % g.cols) + absI (i / g.cols - k / g.cols) = 1 := by
      intro r q hk h0 h1 h
      obtain ⟨e1, e2⟩ := divmod hk h0 h1
      rw [e1, e2]; exact h
    rintro (h | h | ⟨h, h'⟩ | ⟨h, h'⟩)
    · refine fin (i % g.cols) (i / g.cols - 1) (by rw [Int.mul_sub, Int.mul_one]; omega) ri ri' ?_
      rw [Int.sub_self, show i / g.cols - (i / g.cols - 1) = 1 by omega]; rfl
    · refine fin (i % g.cols) (i / g.cols + 1) (by rw [Int.mul_add, Int.mul_one]; omega) ri ri' ?_
      rw [Int.sub_self, show i / g.cols - (i / g.cols + 1) = -1 by omega]; rfl
    · refine fin (i % g.cols - 1) (i / g.cols) (by omega) (by omega) (by omega) ?_
      rw [Int.sub_self, show i % g.cols - (i % g.cols - 1) = 1 by omega]; rfl
    · refine fin (i % g.cols + 1) (i / g.cols) (by omega) (by omega) (by omega) ?_
      rw [Int.sub_self, show i % g.cols - (i % g.cols + 1) = -1 by omega]; rfl
def rnL (g : Grid) (i : Int) (m : Nat) : List Int := (List.range m).filterMap fun k : Nat => bif neigh g i (k : Int) then some (k : Int) else none
theorem rnL_succ (g : Grid) (i : Int) (m : Nat) : rnL g i (m + 1) = rnL g i m ++ (bif neigh g i m then [(m : Int)] else []) := by
  unfold rnL
  rw [filterMap_range_succ]
  cases neigh g i m <;> rfl
theorem rnL_mem {g : Grid} {i k : Int} {m : Nat} : k ∈ rnL g i m ↔ 0 ≤ k ∧ k < m ∧ neigh g i k = true := by
  unfold rnL
  simp only [List.mem_filterMap, List.mem_range]
  constructor
  · rintro ⟨j, hj, h⟩
    cases hn : neigh g i j with
    | false => rw [hn] at h; cases h
    | true => rw [hn] at h; cases h; exact ⟨by omega, by omega, hn⟩
  · rintro ⟨h0, h1, h2⟩
    refine ⟨k.toNat, by omega, ?_⟩
    rw [show ((k.toNat : Nat) : Int) = k by omega, h2]; rfl
theorem rnL_pw (g : Grid) (i : Int) : ∀ m, (rnL g i m).Pairwise (fun a b => a < b)
  | 0 => List.Pairwise.nil
  | m + 1 => by
    rw [rnL_succ]
    cases neigh g i m with
    | false => rw [cond_false, List.append_nil]; exact rnL_pw g i m
    | true =>
      rw [cond_true, List.pairwise_append]
      refine ⟨rnL_pw g i m, List.pairwise_singleton _ _, fun a ha b hb => ?_⟩
      have := (rnL_mem.1 ha).2.1
      have hb : b = m := by simpa using hb
      omega
theorem mem_bif {b : Bool} {x k : Int} : k ∈ (bif b then [x] else []) ↔ b = true ∧ k = x := by cases b <;> simp
theorem nearL_mem {g : Grid} {i k : Int} : k ∈ nearL g i ↔ (i ≥ g.cols ∧ k = i - g.cols) ∨ (i % g.cols > 0 ∧ k = i - 1) ∨ (i % g.cols < g.cols - 1 ∧ k = i + 1) ∨ (i + g.cols < g.levels.length ∧ k = i + g.cols) := by
  unfold nearL
  simp only [List.mem_append, mem_bif, decide_eq_true_eq, or_assoc]
theorem nearL_pw {g : Grid} (hc : 1 ≤ g.cols) (i : Int) : (nearL g i).Pairwise (fun a b => a < b) := by
  have ri := Int.emod_nonneg i (show g.cols ≠ 0 by omega)
  have ri' := Int.emod_lt_of_pos i (show 0 < g.cols by omega)
  have one : ∀ (b : Bool) (x : Int), (bif b then [x] else []).Pairwise (fun a b : Int => a < b) := fun b x => by cases b <;> simp
  unfold nearL
  simp only [List.pairwise_append, List.mem_append, mem_bif, decide_eq_true_eq]
  refine ⟨⟨⟨one _ _, one _ _, ?_⟩, one _ _, ?_⟩, one _ _, ?_⟩
  · rintro a ⟨h1, rfl⟩ b ⟨h2, rfl⟩; omega
  · rintro a (⟨h1, rfl⟩ | ⟨h1, rfl⟩) b ⟨h2, rfl⟩ <;> omega
  · rintro a ((⟨h1, rfl⟩ | ⟨h1, rfl⟩) | ⟨h1, rfl⟩) b ⟨h2, rfl⟩ <;> omega
theorem ascend_eq {l m : List Int} (hl : l.Pairwise (fun a b => a < b)) (hm : m.Pairwise (fun a b => a < b)) (h : ∀ x, x ∈ l ↔ x ∈ m) : l = m := by
  have nd : ∀ {l : List Int}, l.Pairwise (fun a b => a < b) → l.Nodup := fun hl => hl.imp fun h => by omega
  refine List.Perm.eq_of_pairwise (le := fun a b => a < b) (fun a b _ _ h1 h2 => by omega) hl hm ((List.perm_ext_iff_of_nodup (nd hl) (nd hm)).2 h)
theorem near_eq {g : Grid} (hg : GVal g) {i : Int} (h0 : 0 ≤ i) (hi : i < g.levels.length) : rnL g i g.levels.length = nearL g i := by
  have hc := hg.cols
  have ri := Int.emod_nonneg i (show g.cols ≠ 0 by omega)
  have ri' := Int.emod_lt_of_pos i (show 0 < g.cols by omega)
  have di := Int.emod_add_mul_ediv i g.cols
  have hq : i / g.cols < g.rows := (Int.ediv_lt_iff_lt_mul (by omega)).2 (by have := hg.len; rw [Int.mul_comm]; omega)
  have hq0 : 0 ≤ i / g.cols := Int.ediv_nonneg h0 (by omega)
  refine ascend_eq (rnL_pw g i _) (nearL_pw (by omega) i) fun k => ?_
  rw [rnL_mem, nearL_mem, neigh_iff (by omega)]
  have hlen := hg.len
  have m2 : g.cols * (i / g.cols + 1) ≤ g.cols * g.rows := Int.mul_le_mul_of_nonneg_left (by omega) (by omega)
  rw [Int.mul_add, Int.mul_one] at m2
  have m3 : 0 ≤ g.cols * (i / g.cols) := Int.mul_nonneg (by omega) hq0
  constructor
  · rintro ⟨h1, h2, h | h | ⟨h, h'⟩ | ⟨h, h'⟩⟩
    · exact .inl ⟨by omega, h⟩
    · exact .inr (.inr (.inr ⟨by omega, h⟩))
    · exact .inr (.inl ⟨h', h⟩)
    · exact .inr (.inr (.inl ⟨h', h⟩))
  · rintro (⟨h', h⟩ | ⟨h', h⟩ | ⟨h', h⟩ | ⟨h', h⟩)
    · exact ⟨by omega, by omega, .inl h⟩
    · exact ⟨by omega, by omega, .inr (.inr (.inl ⟨h, h'⟩))⟩
    · exact ⟨by omega, by omega, .inr (.inr (.inr ⟨h, h'⟩))⟩
    · exact ⟨by omega, by omega, .inr (.inl h)⟩
end Go.Ch

namespace Go.Ch
open Go Go.Ax Go.Proofs Go.Proofs.Tryz
set_option maxRecDepth 100000
set_option pp.maxSteps 400
set_option maxHeartbeats 1000000

theorem Neighbours (g : Grid) (i k : Int) (hg : GVal g) (h0 : 0 ≤ i ∧ i < g.levels.length) (h1 : 0 ≤ k ∧ k < g.levels.length) : CallP Tryz.prog 43 [grid g, vI i, vI k] (vB (neigh g i k)) := by
  have hn := hg.n
  have hc := hg.cols
  have ri := Int.emod_nonneg i (show g.cols ≠ 0 by omega)
  have ri' := Int.emod_lt_of_pos i (show 0 < g.cols by omega)
  have rk := Int.emod_nonneg k (show g.cols ≠ 0 by omega)
  have rk' := Int.emod_lt_of_pos k (show 0 < g.cols by omega)
  have qi := Int.ediv_nonneg h0.1 (show 0 ≤ g.cols by omega)
  have qi' := Int.ediv_le_self g.cols h0.1
  have qk := Int.ediv_nonneg h1.1 (show 0 ≤ g.cols by omega)
  have qk' := Int.ediv_le_self g.cols h1.1
  have e1 : i.tmod g.cols = i % g.cols := Int.tmod_eq_emod_of_nonneg h0.1
  have e2 : k.tmod g.cols = k % g.cols := Int.tmod_eq_emod_of_nonneg h1.1
  have e3 : i.tdiv g.cols = i / g.cols := Int.tdiv_eq_ediv_of_nonneg h0.1
  have e4 : k.tdiv g.cols = k / g.cols := Int.tdiv_eq_ediv_of_nonneg h1.1
  have wa : ∀ n : Int, -5000 ≤ n → n ≤ 5000 → (if w64 n < 0 then w64 (0 - w64 n) else w64 n) = absI n := by
    intro n h h'
    rw [w64_of (n := n) (by omega) (by omega)]
    unfold absI
    split
    · rw [w64_of (by omega) (by omega)]; omega
    · rfl
  refine callP_of_ex (rc := []) (N := 29) Tryz.func43 rfl rfl Tryz.call43 tab_ok mix rfl rfl (fun cx _ => ?_)
  refine oi (show g.cols ≠ 0 by omega) ?_
  refine oi (show g.cols ≠ 0 by omega) ?_
  refine callN (Abs _) ?_
  refine oi (show g.cols ≠ 0 by omega) ?_
  refine oi (show g.cols ≠ 0 by omega) ?_
  refine callN (Abs _) ?_
  refine And.intro (by kernel_rfl) ?_
  refine SubR.of_eq (congrArg vB ?_)
  show (w64 ((if w64 (i.tmod g.cols - k.tmod g.cols) < 0 then w64 (0 - w64 (i.tmod g.cols - k.tmod g.cols)) else w64 (i.tmod g.cols - k.tmod g.cols)) +
    (if w64 (w64 (i.tdiv g.cols) - w64 (k.tdiv g.cols)) < 0 then w64 (0 - w64 (w64 (i.tdiv g.cols) - w64 (k.tdiv g.cols))) else w64 (w64 (i.tdiv g.cols) - w64 (k.tdiv g.cols)))) == 1) = neigh g i k
  rw [e1, e2, e3, e4, w64_of (n := i / g.cols) (by omega) (by omega), w64_of (n := k / g.cols) (by omega) (by omega), wa _ (by omega) (by omega), wa _ (by omega) (by omega)]
  unfold neigh
  rw [w64_of]
  · unfold absI; split <;> split <;> omega
  · unfold absI; split <;> split <;> omega
def hasE (g : Grid) (i : Int) : Int := bif errG g != 0 then errG g else bif there g i then 0 else 6
def cellE (g : Grid) (p : Pt) : Int × Int := bif errG g != 0 then (0, errG g) else bif decide (cellI g p < 0) then (0, 11) else (cellI g p, 0)
def centreE (g : Grid) (i : Int) : Pt × Int := bif hasE g i != 0 then (⟨0, 0⟩, hasE g i) else (centreG g i, 0)
def nearE (g : Grid) (i : Int) : List Int × Int := bif hasE g i != 0 then ([], hasE g i) else (nearL g i, 0)
def levelE (g : Grid) (p : Pt) : Int × Int := bif (cellE g p).2 != 0 then (0, (cellE g p).2) else bif !knownG g (cellE g p).1 then (0, 12) else (levelAt g (cellE g p).1, 0)
abbrev rII (r : Int × Int) : AV := .t [.s (.d (dI r.1)), .s (.d (dI r.2))]
theorem has_eq (g : Grid) (i : Int) : (bif errG g != 0 then errG g else bif within i 0 ((g.levels.length : Int) - 1) then 0 else 6) = hasE g i := rfl
theorem gCentre (g : Grid) (i : Int) (hg : g.ok) : CallP Tryz.prog 56 [grid g, vI i] (.t [.g [.d (dI (centreE g i).1.x), .d (dI (centreE g i).1.y)], .s (.d (dI (centreE g i).2))]) := by
  refine callP_of_ex (rc := []) (N := 17) Tryz.func56 rfl rfl Tryz.call56 tab_ok mix rfl rfl (fun cx _ => ?_)
  refine callN (hasG g i hg) ?_
  rw [has_eq]
  unfold centreE
  refine And.intro (fun h => ?_) (fun h => ?_)
  · have h : (hasE g i != 0) = true := h
    rw [h]; exact SubR.refl _
  · have h : (hasE g i != 0) = false := h
    have hv : GVal g := by
      refine GVal.of ?_
      have h : hasE g i = 0 := by simpa using h
      unfold hasE at h
      cases he : errG g != 0 with
      | true => rw [he, cond_true] at h; exact h
      | false => simpa using he
    rw [h, cond_false]
    refine callN (bcentre g i (by have := hv.cols; omega)) ?_
    exact SubR.refl _
theorem hasE_zero {g : Grid} {i : Int} (h : hasE g i = 0) : errG g = 0 ∧ there g i = true := by
  unfold hasE at h
  cases he : errG g != 0 with
  | true =>
    rw [he, cond_true] at h
    rw [h] at he; cases he
  | false =>
    rw [he, cond_false] at h
    refine ⟨by simpa using he, ?_⟩
    cases ht : there g i with
    | true => rfl
    | false => rw [ht] at h; cases h
end Go.Ch

namespace Go.Ch
open Go Go.Ax Go.Proofs Go.Proofs.Tryz
set_option maxRecDepth 100000
set_option pp.maxSteps 400
set_option maxHeartbeats 1000000

theorem tdmf {a b : Int} (hb : 0 < b) : a.tmod b + b * a.tdiv b = a ∧ -b < a.tmod b ∧ a.tmod b < b ∧ (0 ≤ a → 0 ≤ a.tmod b) ∧ (a ≤ 0 → a.tmod b ≤ 0) := by
  refine ⟨Int.tmod_add_mul_tdiv a b, ?_, Int.tmod_lt_of_pos a hb, fun h => Int.tmod_nonneg b h, fun h => ?_⟩
  · rcases Int.le_total 0 a with h | h
    · have := Int.tmod_nonneg b h; omega
    · have h1 : (-a).tmod b < b := Int.tmod_lt_of_pos _ hb
      rw [Int.neg_tmod] at h1; omega
  · have h1 : 0 ≤ (-a).tmod b := Int.tmod_nonneg b (by omega)
    rw [Int.neg_tmod] at h1; omega
theorem fl_prog {a b : Int} (hb : 0 < b) : (if a.tmod b < 0 then a.tdiv b - 1 else a.tdiv b) = a / b := by
  obtain ⟨h1, h2, h3, h4, h5⟩ := tdmf (a := a) hb
  symm
  rw [← div_range hb]
  have e : a.tdiv b * b = b * a.tdiv b := Int.mul_comm _ _
  split
  · rw [Int.sub_mul, Int.one_mul]; omega
  · omega
theorem fl_ref {a b : Int} (hb : 0 < b) : Int.tdiv (a - (if a.tmod b < 0 then a.tmod b + b else a.tmod b)) b = a / b := by
  have h0 := fl_prog (a := a) hb
  obtain ⟨h1, h2, h3, h4, h5⟩ := tdmf (a := a) hb
  have key : a - (if a.tmod b < 0 then a.tmod b + b else a.tmod b) = (a / b) * b := by
    rw [← h0]
    have e : a.tdiv b * b = b * a.tdiv b := Int.mul_comm _ _
    split
    · rw [Int.sub_mul, Int.one_mul]; omega
    · omega
  rw [key]
  exact Int.mul_tdiv_cancel _ (by omega)
theorem rfloor (a b : Int) (ha : -1000000000 ≤ a ∧ a ≤ 1000000000) (hb : 0 < b ∧ b ≤ 1000000) : CallP Tryz.prog 127 [vI a, vI b] (vI (a / b)) := by
  obtain ⟨h1, h2, h3, h4, h5⟩ := tdmf (a := a) hb.1
  have h := Floor0 a b (by omega)
  have hq := Int.natAbs_tdiv_le_natAbs a b
  have e1 : (if a.tmod b < 0 then w64 (a.tmod b + b) else a.tmod b) = (if a.tmod b < 0 then a.tmod b + b else a.tmod b) := by
    split
    · exact w64_of (by omega) (by omega)
    · rfl
  have e2 : w64 (a - (if a.tmod b < 0 then a.tmod b + b else a.tmod b)) = a - (if a.tmod b < 0 then a.tmod b + b else a.tmod b) := by
    split
    · exact w64_of (by omega) (by omega)
    · exact w64_of (by omega) (by omega)
  rw [e1, e2, fl_ref hb.1] at h
  have e3 : w64 (a / b) = a / b := by
    rw [← fl_prog hb.1]
    split
    · exact w64_of (by omega) (by omega)
    · exact w64_of (by omega) (by omega)
  rw [e3] at h
  exact h
def plK (a b : Pt) (n : Int) (k : Nat) : Pt := ⟨a.x + (b.x - a.x) * k / n, a.y + (b.y - a.y) * k / n⟩
def pvK (g : Grid) (a b : Pt) (n : Int) (k : Nat) : Int := bif decide (cellI g (plK a b n k) < 0) then 30000 else levelAt g (cellI g (plK a b n k))
def profL (g : Grid) (a b : Pt) (n : Int) (m : Nat) : List Int := (List.range m).map (pvK g a b n)
theorem profL_succ (g : Grid) (a b : Pt) (n : Int) (m : Nat) : profL g a b n (m + 1) = profL g a b n m ++ [pvK g a b n m] := by
  unfold profL; rw [List.range_succ, List.map_append]; rfl
theorem profL_len {g : Grid} {a b : Pt} {n : Int} {m : Nat} : (profL g a b n m).length = m := by simp [profL]
theorem plK_w {a b : Pt} {n : Int} {k : Nat} (ha : good a = true) (hb : good b = true) (hn : 1 ≤ n ∧ n ≤ 200) (hk : (k : Int) ≤ n) :
    w64 (b.x - a.x) = b.x - a.x ∧ w64 (b.y - a.y) = b.y - a.y ∧ w64 ((b.x - a.x) * k) = (b.x - a.x) * k ∧ w64 ((b.y - a.y) * k) = (b.y - a.y) * k ∧
    (-1000000000 ≤ (b.x - a.x) * k ∧ (b.x - a.x) * k ≤ 1000000000) ∧ (-1000000000 ≤ (b.y - a.y) * k ∧ (b.y - a.y) * k ≤ 1000000000) ∧
    w64 (a.x + (b.x - a.x) * k / n) = a.x + (b.x - a.x) * k / n ∧ w64 (a.y + (b.y - a.y) * k / n) = a.y + (b.y - a.y) * k / n := by
  rw [good_iff] at ha hb
  have mul : ∀ d : Int, -2000000 ≤ d → d ≤ 2000000 → -1000000000 ≤ d * k ∧ d * k ≤ 1000000000 := by
    intro d h1 h2
    have := mul_le_of (a := d) (b := (k : Int)) (A := 2000000) (B := 200) (by omega) (by omega) (by omega) (by omega)
    omega
  have dv : ∀ d : Int, -1000000000 ≤ d → d ≤ 1000000000 → -2000000000 ≤ d / n ∧ d / n ≤ 2000000000 := by
    intro d h1 h2
    have e1 : -1000000000 ≤ d / n := (Int.le_ediv_iff_mul_le (by omega)).2 (by
      have : (-1000000000 : Int) * n ≤ -1000000000 := by omega
      omega)
    have e2 : d / n ≤ 1000000000 := by
      refine Int.ediv_le_of_le_mul (by omega) ?_
      have : (1000000000 : Int) ≤ 1000000000 * n := by omega
      omega
    exact ⟨by omega, by omega⟩
  have m1 := mul (b.x - a.x) (by omega) (by omega)
  have m2 := mul (b.y - a.y) (by omega) (by omega)
  have d1 := dv _ m1.1 m1.2
  have d2 := dv _ m2.1 m2.2
  exact ⟨w64_of (by omega) (by omega), w64_of (by omega) (by omega), w64_of (by omega) (by omega), w64_of (by omega) (by omega), m1, m2, w64_of (by omega) (by omega), w64_of (by omega) (by omega)⟩
end Go.Ch
