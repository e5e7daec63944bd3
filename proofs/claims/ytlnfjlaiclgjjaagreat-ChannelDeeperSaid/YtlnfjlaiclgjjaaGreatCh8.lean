/- Part Ch8: lemmas that the proofs of this seat share; by itself it claims nothing. -/
import Derived.Test.YtlnfjlaiclgjjaaGreatCh5
namespace Go.Ch
open Go Go.Ax Go.Proofs Go.Proofs.Tryz
set_option maxRecDepth 100000
set_option pp.maxSteps 400
set_option maxHeartbeats 1000000

abbrev uI (x : Int) : AV := .s (.d (.val (.int .u64 x)))
abbrev duI (x : Int) : DV := .val (.int .u64 x)
theorem u64_of {n : Int} (h : 0 ≤ n) (k : n ≤ 18446744073709551615) : IntKind.u64.wrap n = n := by
  rw [IntKind.wrap_u64]; omega
theorem andM {y : Int} (h : 0 ≤ y) (k : y < 4294967296) : andI .u64 y 4294967295 = y := by
  obtain ⟨n, rfl⟩ := Int.eq_ofNat_of_zero_le h
  have hn : n < 4294967296 := by omega
  unfold andI
  have e : (BitVec.ofInt IntKind.u64.bits (n : Int) &&& BitVec.ofInt IntKind.u64.bits 4294967295).toNat = n := by
    show (BitVec.ofInt 64 (n : Int) &&& BitVec.ofInt 64 4294967295).toNat = n
    rw [BitVec.toNat_and, show (BitVec.ofInt 64 4294967295).toNat = 2 ^ 32 - 1 from rfl, Nat.and_two_pow_sub_one_eq_mod, BitVec.toNat_ofInt]
    omega
  rw [e]
  exact u64_of (by omega) (by omega)
theorem shr0 {y : Int} (h : 0 ≤ y) (k : y < 4294967296) : shrI .u64 y 32 = 0 := by
  show y.fdiv 4294967296 = 0
  rw [Int.fdiv_eq_ediv_of_nonneg _ (by omega)]
  omega
theorem Mul64 (n : Int) (h : 0 ≤ n) (k : n < 4294967296) : CallP Tryz.prog 185 [uI 1, uI n] (.t [.s (.d (duI 0)), .s (.d (duI n))]) := by
  refine callP_of_ex (rc := []) (N := 51) Tryz.func185 rfl rfl Tryz.call185 tab_ok mix rfl rfl (fun cx _ => ?_)
  refine oi (by decide) ?_
  refine oi (by decide) ?_
  refine oi (by decide) ?_
  refine oi (by decide) ?_
  refine oi (by decide) ?_
  refine SubR.of_eq ?_
  have e1 : andI .u64 1 4294967295 = 1 := andM (by decide) (by decide)
  have e2 : shrI .u64 1 32 = 0 := shr0 (by decide) (by decide)
  have e3 := andM h k
  have e4 := shr0 h k
  have e5 : IntKind.u64.wrap n = n := u64_of h (by omega)
  have e6 : IntKind.u64.wrap 0 = 0 := rfl
  have e7 : andI .u64 0 4294967295 = 0 := andM (by decide) (by decide)
  have e8 : shrI .u64 0 32 = 0 := shr0 (by decide) (by decide)
  show AV.t [.s (.d (.val (.int .u64 _))), .s (.d (.val (.int .u64 _)))] = _
  simp only [e1, e2, e3, e4, e5, e6, e7, e8, Int.one_mul, Int.zero_mul, Int.mul_zero, Int.add_zero]
theorem Mul (n : Int) (h : 0 ≤ n) (k : n < 4294967296) : CallP Tryz.prog 182 [uI 1, uI n] (.t [.s (.d (duI 0)), .s (.d (duI n))]) := by
  refine callP_of_ex (rc := []) (N := 30) Tryz.func182 rfl rfl Tryz.call182 tab_ok mix rfl rfl (fun cx _ => ?_)
  refine callN (Mul64 n h k) ?_
  exact SubR.refl _

/-- The row while it is filled. -/
def fillF (v : Int) (k : Nat) : Nat → Nat → DV := fun i _ => if i < k then dI v else dI 0
theorem cpF_fill {v : Int} {k q : Nat} {i j : Nat} (hq : q ≤ k) : cpF k q (fillF v k) (fun i => fillF v k (0 + i)) i j = fillF v (k + q) i j := by
  unfold cpF
  show (if k ≤ i ∧ i < k + q then (if 0 + (i - k) < k then dI v else dI 0) else (if i < k then dI v else dI 0)) = (if i < k + q then dI v else dI 0)
  by_cases h1 : k ≤ i ∧ i < k + q
  · rw [if_pos h1, if_pos (by omega), if_pos (by omega)]
  · rw [if_neg h1]
    by_cases h2 : i < k
    · rw [if_pos h2, if_pos (by omega)]
    · rw [if_neg h2, if_neg (by omega)]
theorem RepeatO {f : Nat → Nat → DV} {v : Int} {n : Nat} (hf : f 0 0 = dI v) (hn : n ≤ 1000000) : CallR Tryz.prog 168 [.s (.own 1001), vI n] [(1001, .row 3 1 1 f)] (.s (.own 30)) [(1001, .row 3 1 1 f), (30, .row 3 n 1 (fillF v n))] := by
  refine callO_of_ex (rc := []) (N := 48) Tryz.func168 rfl rfl Tryz.call168 tab_ok mix rfl rfl rfl rfl (fun cx href => ?_)
  refine And.intro (fun h => absurd (decT h) (by omega)) (fun _ => ?_)
  have e1 : IntKind.u64.wrap (1 : Int) = 1 := rfl
  have e2 : IntKind.u64.wrap (n : Int) = n := u64_of (by omega) (by omega)
  have hM : CallP Tryz.prog 182 [uI (IntKind.u64.wrap ((1 : Nat) : Int)), uI (IntKind.u64.wrap n)] (.t [.s (.d (duI 0)), .s (.d (duI n))]) := by
    rw [e2]; exact Mul n (by omega) (by omega)
  refine callN hM ?_
  repeat first | refine sk ?_ | refine st ?_ | refine sg ?_
  refine And.intro (fun h => ?_) (fun _ => ?_)
  · have h : (decide ((0 : Int) > 0) || decide ((n : Int) > 9223372036854775807)) = true := h
    simp only [gt_iff_lt, Int.lt_irrefl, decide_false, Bool.false_or, decide_eq_true_eq] at h
    omega
  have e3 : IntKind.i64.wrap (n : Int) = n := w64_of (by omega) (by omega)
  refine ob (show 0 ≤ IntKind.i64.wrap (n : Int) by omega) ?_
  refine ob (Int.le_refl _) ?_
  refine ob (show ((8 : Nat) : Int) * IntKind.i64.wrap (n : Int) ≤ _ by omega) ?_
  refine ob (fun k j hk hj => ?_) ?_
  · obtain rfl : k = 0 := by omega
    obtain rfl : j = 0 := by omega
    rw [hf]; rfl
  refine AW.loopI (fun k : Nat => ⟨[(7, .s (.own 30)), (8, vI k)], [(30, some (.row 3 n 1 (fillF v k))), (1001, some (.row 3 1 1 f))]⟩)
    (fun k => k ≤ n ∧ (0 < n → 0 < k)) (fun k => n - k) (min 1 n) (by omega) ?_ ?_
  · refine SubI.of [] (by rw [href]; rfl) rfl ⟨⟨rfl, LeBx.row (by rw [e3]; rfl) fun k j hk hj => LeD.of_eq ?_⟩, ⟨rfl, LeBx.rfl⟩, trivial⟩ ⟨⟨rfl, LeQ.rfl⟩, ⟨rfl, LeQ.int ?_⟩, trivial⟩
    · have hj : j = 0 := by have : j < 1 := hj; omega
      subst hj
      have hk : k < (IntKind.i64.wrap (n : Int)).toNat := hk
      rw [e3] at hk ⊢
      show (if 0 ≤ k ∧ k < 0 + Nat.min 1 n then f (k - 0) 0 else dI 0) = (if k < min 1 n then dI v else dI 0)
      rw [Nat.zero_add]
      by_cases h1 : k < min 1 n
      · obtain rfl : k = 0 := by omega
        rw [if_pos h1, if_pos ⟨Nat.zero_le _, h1⟩, hf]
      · rw [if_neg h1, if_neg (fun h => h1 h.2)]
    · rw [e3]; rfl
  · intro k ⟨hk, hk0⟩
    refine ex.sound (rc := []) tab_ok mix href _ ?_
    refine And.intro (fun h => ?_) (fun h => ?_)
    · have h : (k : Int) < n := decT h
      refine oi (show 0 ≤ (k : Int) ∧ (k : Int) ≤ (n : Int) ∧ (n : Int) ≤ n by omega) ?_
      refine oi (show (0 : Int) ≤ 0 ∧ (0 : Int) ≤ (k : Int) ∧ (k : Int) ≤ n by omega) ?_
      refine ob (fun i j _ _ => ?_) ?_
      · show (if 0 + i < k then dI v else dI 0).fit = true
        split <;> rfl
      refine And.intro (by kernel_rfl) ?_
      have hq : Nat.min (k - 0) (n - k) ≤ k := Nat.min_le_left _ _
      have hq2 : Nat.min (k - 0) (n - k) ≤ n - k := Nat.min_le_right _ _
      have hq3 : 0 < Nat.min (k - 0) (n - k) := Nat.lt_min.2 ⟨by omega, by omega⟩
      refine ⟨k + Nat.min (k - 0) (n - k), ⟨by omega, by omega⟩, by omega, ?_⟩
      refine SubI.of [] (by rw [href]; rfl) rfl ⟨⟨rfl, LeBx.row rfl fun i j hi hj => LeD.of_eq ?_⟩, ⟨rfl, LeBx.rfl⟩, trivial⟩ ⟨⟨rfl, LeQ.rfl⟩, ⟨rfl, LeQ.int ?_⟩, trivial⟩
      · show cpF k (Nat.min (k - 0) (n - k)) (fillF v k) (fun i => fillF v k (0 + i)) i j = _
        exact cpF_fill hq
      · show w64 ((k : Int) + ((Nat.min (k - 0) (n - k) : Nat) : Int)) = _
        rw [w64_of (by omega) (by omega)]; omega
    · have h : ¬ (k : Int) < n := decF h
      obtain rfl : k = n := by omega
      exact ⟨LeQ.rfl, rfl, rfl, trivial⟩
theorem FrameO (g : Grid) (hg : GVal g) : CallR Tryz.prog 140 [grid g] [] (.g [.d (dI g.x), .d (dI g.y), .d (dI g.side), .d (dI g.cols), .d (dI g.rows), .own 601]) [(601, .row 3 g.levels.length 1 (fillF 30000 g.levels.length))] := by
  have hn := hg.n
  have e : w64 (g.cols * g.rows) = (g.levels.length : Int) := by rw [← hg.len]; exact w64_of (by omega) (by omega)
  refine callO_of_ex (rc := [168]) (N := 12) Tryz.func140 rfl rfl Tryz.call140 tab_ok mix rfl rfl rfl rfl (fun cx _ => ?_)
  refine ⟨[(1001, 3), (30, 601)], _, _, _, _, RepeatO (v := 30000) (n := g.levels.length) rfl (by omega), congrArg (fun n => [_, vI n]) e, ⟨rfl, trivial⟩, rfl, ?_⟩
  exact ⟨LeQ.rfl, rfl, trivial⟩
end Go.Ch

namespace Go.Ch
open Go Go.Ax Go.Proofs Go.Proofs.Tryz
set_option maxRecDepth 100000
set_option pp.maxSteps 400
set_option maxHeartbeats 1000000

abbrev rGE (g : Grid) (e : Int) : AV := .t [.g [.d (dI g.x), .d (dI g.y), .d (dI g.side), .d (dI g.cols), .d (dI g.rows), .d (dInts g.levels)], .s (.d (dI e))]
def zeroG : Grid := ⟨0, 0, 0, 0, 0, []⟩
theorem zero_rGE {e e' : Int} (h : e = e') : SubR (.t [.g (zvs ty28.zero), .s (.d (dI e))]) (rGE zeroG e') := by
  subst h
  exact SubR.t ⟨⟨LeD.refl _, LeD.refl _, LeD.refl _, LeD.refl _, LeD.refl _, LeD.nil, trivial⟩, LeD.refl _, trivial⟩
/-- The program's grid of levels of the design, less something. -/
def gridR (c : Chan) (g : Grid) (less : Int) : Grid × Int := bif withErr c [g] != 0 then (zeroG, withErr c [g]) else (designG c g less, 0)
def dgP (c : Chan) (g : Grid) (less : Int) (i : Nat) : Nat → Nat → DV := fun k _ => dI (if k < i then cellT c g less k else 30000)
attribute [local irreducible] errG errC in
theorem gGrid (c : Chan) (g : Grid) (less : Int) (hc : c.ok) (hg : g.ok) : CallP Tryz.prog 88 [chan c, grid g, vI less] (rGE (gridR c g less).1 (gridR c g less).2) := by
  refine callP_of_ex (rc := [140]) (N := 46) Tryz.func88 rfl rfl Tryz.call88 tab_ok mix rfl rfl (fun cx href => ?_)
  refine callN (cboth c g hc hg) ?_
  refine And.intro (fun h1 => ?_) (fun h1 => ?_)
  · have h1 : (withErr c [g] != 0) = true := h1
    have e : gridR c g less = (zeroG, withErr c [g]) := by unfold gridR; rw [h1]; rfl
    rw [e]
    exact zero_rGE rfl
  have h1 : (withErr c [g] != 0) = false := h1
  have h0 : withErr c [g] = 0 := by simpa using h1
  obtain ⟨e1, e2⟩ := withErr1_zero h0
  have e : gridR c g less = (designG c g less, 0) := by unfold gridR; rw [h1]; rfl
  rw [e]
  have hv := val_of c e1
  have gv := GVal.of e2
  have hn := gv.n
  refine ⟨[(601, 601)], _, _, _, _, FrameO g gv, rfl, trivial, rfl, ?_⟩
  refine AW.loopI (fun i : Nat => ⟨[(2, vI less), (3, .s (.ptr 3 0)), (4, .s (.ptr 4 0)), (6, .s (.ptr 6 0)), (9, .s (.ptr 9 0)), (24, vI g.levels.length), (25, vI i)],
      [(3, some (chanB c)), (4, some (gridB g)), (6, some (.cells [.d (dI 0), .d (dI 0), .d (dI 0), .d (dI 0), .d (dI 0), .d (.val (.slice none 0 0))])), (9, some (.cells [.d (dI g.x), .d (dI g.y), .d (dI g.side), .d (dI g.cols), .d (dI g.rows), .own 601])), (601, some (.row 3 g.levels.length 1 (dgP c g less i)))]⟩)
    (fun i => i ≤ g.levels.length) (fun i => g.levels.length - i) 0 (Nat.zero_le _) ?_ ?_
  · refine SubI.of0 href [] rfl ⟨⟨rfl, LeBx.rfl⟩, ⟨rfl, LeBx.rfl⟩, ⟨rfl, LeBx.rfl⟩, ⟨rfl, LeBx.rfl⟩, ⟨rfl, LeBx.row rfl fun k j hk _ => LeD.of_eq ?_⟩, trivial⟩ ⟨⟨rfl, LeQ.rfl⟩, ⟨rfl, LeQ.rfl⟩, ⟨rfl, LeQ.rfl⟩, ⟨rfl, LeQ.rfl⟩, ⟨rfl, LeQ.rfl⟩, ⟨rfl, LeQ.rfl⟩, ⟨rfl, LeQ.rfl⟩, trivial⟩
    unfold fillF dgP
    rw [if_pos hk, if_neg (Nat.not_lt_zero k)]
  · intro i hi
    refine ex.sound (rc := [140]) tab_ok mix href _ ?_
    refine And.intro (fun h => ?_) (fun h => ?_)
    · have h : (i : Int) < g.levels.length := decT h
      have hi' : i < g.levels.length := by omega
      have hgd := (centre_good gv hi').1
      refine callN (ccentre g i e2 (by omega) h (by omega)) ?_
      refine callN (design c (centreG g i) hv hgd) ?_
      refine And.intro (by kernel_rfl) ?_
      refine And.intro (fun h2 => ?_) (fun h2 => ?_)
      · have h2 : (desF c (centreG g i)).2 = true := h2
        have e : cellT c g less i = w64 ((desF c (centreG g i)).1 - less) := by unfold cellT; rw [h2]; rfl
        refine oi ⟨by omega, by omega⟩ ?_
        refine ob hi' ?_
        refine ⟨i + 1, by omega, by omega, ?_⟩
        refine SubI.of0 href [] rfl ⟨⟨rfl, LeBx.rfl⟩, ⟨rfl, LeBx.rfl⟩, ⟨rfl, LeBx.rfl⟩, ⟨rfl, LeBx.rfl⟩, ⟨rfl, LeBx.row rfl fun k j hk hj => LeD.of_eq ?_⟩, trivial⟩ ⟨⟨rfl, LeQ.rfl⟩, ⟨rfl, LeQ.rfl⟩, ⟨rfl, LeQ.rfl⟩, ⟨rfl, LeQ.rfl⟩, ⟨rfl, LeQ.rfl⟩, ⟨rfl, LeQ.rfl⟩, ⟨rfl, LeQ.int (w64_of (by omega) (by omega))⟩, trivial⟩
        have hj : j = 0 := by have : j < 1 := hj; omega
        subst hj
        by_cases hki : k = i
        · subst hki
          refine rowSet_self.trans ?_
          unfold dgP
          rw [if_pos (Nat.lt_succ_self _), e]
        · refine (rowSet_ne hki).trans ?_
          unfold dgP
          by_cases hlt : k < i
          · rw [if_pos hlt, if_pos (by omega)]
          · rw [if_neg hlt, if_neg (by omega)]
      · have h2 : (desF c (centreG g i)).2 = false := h2
        have e : cellT c g less i = 30000 := by unfold cellT; rw [h2]; rfl
        refine ⟨i + 1, by omega, by omega, ?_⟩
        refine SubI.of0 href [] rfl ⟨⟨rfl, LeBx.rfl⟩, ⟨rfl, LeBx.rfl⟩, ⟨rfl, LeBx.rfl⟩, ⟨rfl, LeBx.rfl⟩, ⟨rfl, LeBx.row rfl fun k j hk hj => LeD.of_eq ?_⟩, trivial⟩ ⟨⟨rfl, LeQ.rfl⟩, ⟨rfl, LeQ.rfl⟩, ⟨rfl, LeQ.rfl⟩, ⟨rfl, LeQ.rfl⟩, ⟨rfl, LeQ.rfl⟩, ⟨rfl, LeQ.rfl⟩, ⟨rfl, LeQ.int (w64_of (by omega) (by omega))⟩, trivial⟩
        unfold dgP
        by_cases hki : k = i
        · subst hki
          rw [if_neg (Nat.lt_irrefl _), if_pos (Nat.lt_succ_self _), e]
        · by_cases hlt : k < i
          · rw [if_pos hlt, if_pos (by omega)]
          · rw [if_neg hlt, if_neg (by omega)]
    · have h : ¬ (i : Int) < g.levels.length := decF h
      have hi' : i = g.levels.length := by omega
      subst hi'
      refine SubR.t ⟨⟨LeD.refl _, LeD.refl _, LeD.refl _, LeD.refl _, LeD.refl _, LeD.slc' (by simp [designG]) fun k j hk hj => LeD.of_eq ?_, trivial⟩, LeD.refl _, trivial⟩
      unfold dgP intEl
      rw [if_pos hk]
      congr 2
      simp [designG, hk]
theorem gDesignGrid (c : Chan) (g : Grid) (hc : c.ok) (hg : g.ok) : CallP Tryz.prog 36 [chan c, grid g] (rGE (gridR c g 0).1 (gridR c g 0).2) := by
  refine callP_of_ex (rc := []) (N := 11) Tryz.func36 rfl rfl Tryz.call36 tab_ok mix rfl rfl (fun cx href => ?_)
  refine callN (gGrid c g 0 hc hg) ?_
  exact SubR.refl _
theorem gToleranceGrid (c : Chan) (g : Grid) (hc : c.ok) (hg : g.ok) : CallP Tryz.prog 38 [chan c, grid g] (rGE (gridR c g c.over).1 (gridR c g c.over).2) := by
  refine callP_of_ex (rc := []) (N := 13) Tryz.func38 rfl rfl Tryz.call38 tab_ok mix rfl rfl (fun cx href => ?_)
  refine callN (gGrid c g c.over hc hg) ?_
  exact SubR.refl _
end Go.Ch

namespace Go.Ch
open Go Go.Ax Go.Proofs Go.Proofs.Tryz
set_option maxRecDepth 100000
set_option pp.maxSteps 400
set_option maxHeartbeats 1000000

theorem rSame (g : Grid) (hl : g.levels.length ≤ 1000000) : CallP Tryz.prog 39 [grid g, grid g] (vB true) := by
  refine callP_of_ex (rc := []) (N := 45) Tryz.func39 rfl rfl Tryz.call39 tab_ok mix rfl rfl (fun cx href => ?_)
  repeat first | refine sk ?_ | refine st ?_ | refine sg ?_ | refine sh ?_ | refine su ?_ | refine sn1 ?_ | refine sn0 ?_
  refine callG (rIntsEq g.levels hl) ?_
  repeat first | refine sk ?_ | refine st ?_ | refine sg ?_ | refine sh ?_ | refine su ?_ | refine sn1 ?_ | refine sn0 ?_
  refine SubR.of_eq ?_
  show vB (((((g.x == g.x && g.y == g.y) && g.side == g.side) && g.cols == g.cols) && g.rows == g.rows) && true) = vB true
  simp
theorem errG_levels {g : Grid} {l : List Int} (h : errG g = 0) (hn : l.length = g.levels.length) (hb : l.any badL = false) : errG { g with levels := l } = 0 := by
  unfold errG at h ⊢
  rw [show e1 { g with levels := l } = e1 g from rfl]
  cases h1 : e1 g with
  | true => rw [h1] at h; cases h
  | false =>
    rw [h1] at h
    simp only [cond_false, hn, hb] at h ⊢
    cases h2 : decide (w64 (g.cols * g.rows) > 1024) with
    | true => rw [h2] at h; cases h
    | false =>
      rw [h2] at h
      simp only [cond_false] at h ⊢
      cases h3 : (decide (w64 (g.x + w64 (g.cols * g.side)) > 1000000) || decide (w64 (g.y + w64 (g.rows * g.side)) > 1000000)) with
      | true => rw [h3] at h; cases h
      | false =>
        rw [h3] at h
        simp only [cond_false] at h ⊢
        cases h4 : ((g.levels.length : Int) != w64 (g.cols * g.rows)) with
        | true => rw [h4] at h; cases h
        | false => rfl
theorem errG_tol {c : Chan} {g : Grid} (hv : Val c) (he : errG g = 0) : errG (designG c g c.over) = 0 := by
  have gv := GVal.of he
  refine errG_levels he (by simp) ?_
  rw [List.any_eq_false]
  intro n hn
  rw [List.mem_map] at hn
  obtain ⟨i, hi, rfl⟩ := hn
  have hi := List.mem_range.1 hi
  have ho := hv.over
  unfold cellT
  cases h : (desF c (centreG g i)).2 with
  | false => simp [badL]
  | true =>
    have hd := desF_ok hv (centre_good gv hi).1 h
    generalize (desF c (centreG g i)).1 = D at *
    simp only [cond_true]
    rw [w64_of (by omega) (by omega)]
    simp [badL, within]
    omega
theorem few_len {g : Grid} (h : few g = true) : g.levels.length ≤ 1100 := by
  unfold few at h
  simp only [Bool.or_eq_true, Bool.and_eq_true, decide_eq_true_eq] at h
  omega
attribute [local irreducible] withErr few small designG errG in
theorem Grids (c : Chan) (g : Grid) (hc : c.ok) (hg : g.ok) : CallP Tryz.prog 8 [chan c, grid g] (vB true) := by
  refine callP_of_ex (rc := []) (N := 87) Tryz.func8 rfl rfl Tryz.call8 tab_ok mix rfl rfl (fun cx href => ?_)
  refine callN awake ?_
  refine And.intro (fun h => by cases h) (fun _ => ?_)
  refine callN (Small c hc) ?_
  repeat first | refine sk ?_ | refine st ?_ | refine sg ?_ | refine sh ?_ | refine su ?_ | refine sn1 ?_ | refine sn0 ?_
  refine callG (Few g hg.levels) ?_
  repeat first | refine sk ?_ | refine st ?_ | refine sg ?_ | refine sh ?_ | refine su ?_ | refine sn1 ?_ | refine sn0 ?_
  refine And.intro (fun _ => SubR.lit rfl) (fun h1 => ?_)
  have h1 : (!small c || !few g) = false := h1
  have hs : small c = true := by
    cases h : small c
    · rw [h] at h1; cases h1
    · rfl
  have hf : few g = true := by
    cases h : few g
    · rw [h, Bool.not_false, Bool.or_true] at h1; cases h1
    · rfl
  have hgl := few_len hf
  refine callN (Copied c (Sm.of hs)) ?_
  refine callN (CopyGrid g (by omega)) ?_
  refine callN (gDesignGrid c g hc hg) ?_
  refine And.intro (by kernel_rfl) ?_
  refine callN (Copied c (Sm.of hs)) ?_
  refine callN (CopyGrid g (by omega)) ?_
  refine callN (gToleranceGrid c g hc hg) ?_
  refine And.intro (by kernel_rfl) ?_
  refine callN ((rWith c [g] hc (by intro x hx; simp at hx; subst hx; exact hg) (by simp)).conv (args' := _) ⟨⟨LeD.refl _, LeD.refl _, LeD.refl _, LeD.refl _, LeD.refl _, trivial⟩, LeD.slc' rfl fun i j hi hj => LeD.of_eq ?_, trivial⟩) ?_
  · match i, j, hi, hj with
    | 0, 0, _, _ => rfl
    | 0, 1, _, _ => rfl
    | 0, 2, _, _ => rfl
    | 0, 3, _, _ => rfl
    | 0, 4, _, _ => rfl
    | 0, 5, _, _ => rfl
  refine And.intro (fun h2 => ?_) (fun h2 => ?_)
  · have h2 : (withErr c [g] != 0) = true := h2
    rw [show gridR c g 0 = (zeroG, withErr c [g]) by unfold gridR; rw [h2]; rfl, show gridR c g c.over = (zeroG, withErr c [g]) by unfold gridR; rw [h2]; rfl]
    repeat first | refine sk ?_ | refine st ?_ | refine sg ?_ | refine sh ?_ | refine su ?_ | refine sn1 ?_ | refine sn0 ?_
    refine callG ((rSame zeroG (by decide)).conv (args' := _) ⟨⟨LeD.refl _, LeD.refl _, LeD.refl _, LeD.refl _, LeD.refl _, LeD.refl _, trivial⟩, ⟨LeD.refl _, LeD.refl _, LeD.refl _, LeD.refl _, LeD.refl _, LeD.nil, trivial⟩, trivial⟩) ?_
    repeat first | refine sk ?_ | refine st ?_ | refine sg ?_ | refine sh ?_ | refine su ?_ | refine sn1 ?_ | refine sn0 ?_
    refine callG ((rSame zeroG (by decide)).conv (args' := _) ⟨⟨LeD.refl _, LeD.refl _, LeD.refl _, LeD.refl _, LeD.refl _, LeD.refl _, trivial⟩, ⟨LeD.refl _, LeD.refl _, LeD.refl _, LeD.refl _, LeD.refl _, LeD.nil, trivial⟩, trivial⟩) ?_
    repeat first | refine sk ?_ | refine st ?_ | refine sg ?_ | refine sh ?_ | refine su ?_ | refine sn1 ?_ | refine sn0 ?_
    refine SubR.of_eq ?_
    show vB (((withErr c [g] == withErr c [g] && withErr c [g] == withErr c [g]) && true) && true) = vB true
    simp
  · have h2 : (withErr c [g] != 0) = false := h2
    have h0 : withErr c [g] = 0 := by simpa using h2
    obtain ⟨g1, g2⟩ := withErr1_zero h0
    have hv := val_of c g1
    have gv := GVal.of g2
    have hn := gv.n
    have hd0 : (designG c g 0).levels.length = g.levels.length := designG_len _ _ _
    have hd1 : (designG c g c.over).levels.length = g.levels.length := designG_len _ _ _
    rw [show gridR c g 0 = (designG c g 0, 0) by unfold gridR; rw [h2]; rfl, show gridR c g c.over = (designG c g c.over, 0) by unfold gridR; rw [h2]; rfl]
    repeat first | refine sk ?_ | refine st ?_ | refine sg ?_ | refine sh ?_ | refine su ?_ | refine sn1 ?_ | refine sn0 ?_
    refine callG (rDesignGrid c g 0 hv gv) ?_
    repeat first | refine sk ?_ | refine st ?_ | refine sg ?_ | refine sh ?_ | refine su ?_ | refine sn1 ?_ | refine sn0 ?_
    refine callG (rSame (designG c g 0) (by omega)) ?_
    repeat first | refine sk ?_ | refine st ?_ | refine sg ?_ | refine sh ?_ | refine su ?_ | refine sn1 ?_ | refine sn0 ?_
    refine callG (rDesignGrid c g c.over hv gv) ?_
    repeat first | refine sk ?_ | refine st ?_ | refine sg ?_ | refine sh ?_ | refine su ?_ | refine sn1 ?_ | refine sn0 ?_
    refine callG (rSame (designG c g c.over) (by omega)) ?_
    repeat first | refine sk ?_ | refine st ?_ | refine sg ?_ | refine sh ?_ | refine su ?_ | refine sn1 ?_ | refine sn0 ?_
    refine callG (bcheck (designG c g c.over) (by omega)) ?_
    repeat first | refine sk ?_ | refine st ?_ | refine sg ?_ | refine sh ?_ | refine su ?_ | refine sn1 ?_ | refine sn0 ?_
    refine And.intro (by kernel_rfl) ?_
    refine SubR.of_eq ?_
    show vB ((((((0 : Int) == 0) && ((0 : Int) == 0)) && true) && true) && errG (designG c g c.over) == 0) = vB true
    rw [errG_tol hv g2]; rfl
end Go.Ch

namespace Go.Ch
open Go Go.Ax Go.Proofs Go.Proofs.Tryz
set_option maxRecDepth 100000
set_option pp.maxSteps 400
set_option maxHeartbeats 1000000

theorem bknown (g : Grid) (i : Nat) (hi : i < g.levels.length) (hl : g.levels.length ≤ 1000000) : CallP Tryz.prog 154 [grid g, vI i] (vB (g.levels.getD i 0 != 30000)) := by
  refine callP_of_ex (rc := []) (N := 20) Tryz.func154 rfl rfl Tryz.call154 tab_ok mix rfl rfl (fun cx _ => ?_)
  refine callN ((bbetween 0 (w64 ((g.levels.length : Int) - 1)) [(i : Int)] (by simp)).conv (args' := _) ⟨LeD.refl _, LeD.refl _, LeD.slc fun i j hi hj => ?_, trivial⟩) ?_
  · obtain rfl : i = 0 := by have : i < 1 := hi; omega
    obtain rfl : j = 0 := by have : j < 1 := hj; omega
    exact LeD.of_eq rfl
  repeat first | refine sk ?_ | refine st ?_ | refine sg ?_ | refine sh ?_ | refine su ?_ | refine sn1 ?_ | refine sn0 ?_
  refine og (fun _ => ⟨by omega, by omega⟩) ?_
  repeat first | refine sk ?_ | refine st ?_ | refine sg ?_ | refine sh ?_ | refine su ?_ | refine sn1 ?_ | refine sn0 ?_
  refine SubR.of_eq ?_
  show vB ((!outL 0 (w64 ((g.levels.length : Int) - 1)) [(i : Int)]) && (g.levels.getD i 0 != 30000)) = _
  have e : outL 0 (w64 ((g.levels.length : Int) - 1)) [(i : Int)] = false := by
    rw [w64_of (by omega) (by omega)]
    simp [outL, within]
    omega
  rw [e]; rfl
def partV (lo hi a b : Int) : Int := mm true 0 (w64 (mm false b hi - mm true a lo))
theorem bpart (lo hi a b : Int) : CallP Tryz.prog 155 [.g [.d (dI lo), .d (dI hi)], vI a, vI b] (vI (partV lo hi a b)) := by
  refine callP_of_ex (rc := []) (N := 17) Tryz.func155 rfl rfl Tryz.call155 tab_ok mix rfl rfl (fun cx _ => ?_)
  exact SubR.refl _
theorem bcells (g : Grid) : CallP Tryz.prog 153 [grid g] (.g [.d (dI g.x), .d (dI g.y), .d (dI g.side), .d (dI g.cols), .d (dI g.rows)]) := by
  refine callP_of_ex (rc := []) (N := 14) Tryz.func153 rfl rfl Tryz.call153 tab_ok mix rfl rfl (fun cx _ => ?_)
  exact SubR.refl _
theorem ball : CallP Tryz.prog 108 [] (.g [.d (dI (-20000)), .d (dI 20000)]) := by
  refine callP_of_ex (rc := []) (N := 2) Tryz.func108 rfl rfl Tryz.call108 tab_ok mix rfl rfl (fun cx _ => ?_)
  exact SubR.refl _
theorem bany (i : Int) : CallP Tryz.prog 109 [vI i] (vB true) := by
  refine callP_of_ex (rc := []) (N := 3) Tryz.func109 rfl rfl Tryz.call109 tab_ok mix rfl rfl (fun cx _ => ?_)
  exact SubR.lit rfl
def sameC (a b : Grid) : Bool := a.x == b.x && (a.y == b.y && (a.side == b.side && (a.cols == b.cols && (a.rows == b.rows && true))))
def err2 (a b : Grid) : Int := bif errG a != 0 then errG a else bif errG b != 0 then errG b else bif !sameC a b then 10 else 0
attribute [local irreducible] errG in
theorem bboth (a b : Grid) (ha : a.ok) (hb : b.ok) : CallP Tryz.prog 106 [grid a, grid b] (vI (err2 a b)) := by
  refine callP_of_ex (rc := []) (N := 27) Tryz.func106 rfl rfl Tryz.call106 tab_ok mix rfl rfl (fun cx href => ?_)
  refine AW.loopI (fun i : Nat => ⟨[(2, .s (.ptr 2 0)), (3, .s (.ptr 3 0)), (10, .s (.own 10)), (11, vI 2), (12, vI i)],
      [(2, some (gridB a)), (3, some (gridB b)), (10, some (.row 28 2 6 (rowF 6 [.d (dI a.x), .d (dI a.y), .d (dI a.side), .d (dI a.cols), .d (dI a.rows), .d (dInts a.levels), .d (dI b.x), .d (dI b.y), .d (dI b.side), .d (dI b.cols), .d (dI b.rows), .d (dInts b.levels)])))]⟩)
    (fun i => i ≤ 2 ∧ (0 < i → errG a = 0) ∧ (1 < i → errG b = 0)) (fun i => 2 - i) 0 ⟨by omega, by omega, by omega⟩ ?_ ?_
  · exact SubI.of0 href [] rfl ⟨⟨rfl, LeBx.rfl⟩, ⟨rfl, LeBx.rfl⟩, ⟨rfl, LeBx.rfl⟩, trivial⟩ ⟨⟨rfl, LeQ.rfl⟩, ⟨rfl, LeQ.rfl⟩, ⟨rfl, LeQ.rfl⟩, ⟨rfl, LeQ.rfl⟩, ⟨rfl, LeQ.rfl⟩, trivial⟩
  · rintro i ⟨hi, ea, eb⟩
    refine ex.sound (rc := []) tab_ok mix href _ ?_
    refine And.intro (fun h => ?_) (fun h => ?_)
    · have h : (i : Int) < 2 := decT h
      match i, h, ea with
      | 0, _, _ =>
        refine oi ⟨by omega, by omega⟩ ?_
        refine oi (by decide) ?_
        refine callN (bcheck a ha.levels) ?_
        refine And.intro (fun h2 => ?_) (fun h2 => ?_)
        · have h2 : (errG a != 0) = true := h2
          exact SubR.of_eq (by unfold err2; rw [h2]; rfl)
        · have h2 : (errG a != 0) = false := h2
          refine ⟨1, ⟨by omega, fun _ => by simpa using h2, by omega⟩, by omega, ?_⟩
          exact SubI.of0 href [] rfl ⟨⟨rfl, LeBx.rfl⟩, ⟨rfl, LeBx.rfl⟩, ⟨rfl, LeBx.rfl⟩, trivial⟩ ⟨⟨rfl, LeQ.rfl⟩, ⟨rfl, LeQ.rfl⟩, ⟨rfl, LeQ.rfl⟩, ⟨rfl, LeQ.rfl⟩, ⟨rfl, LeQ.int rfl⟩, trivial⟩
      | 1, _, ea =>
        have ea := ea (by omega)
        refine oi ⟨by omega, by omega⟩ ?_
        refine oi (by decide) ?_
        refine callN (bcheck b hb.levels) ?_
        refine And.intro (fun h2 => ?_) (fun h2 => ?_)
        · have h2 : (errG b != 0) = true := h2
          exact SubR.of_eq (by unfold err2; rw [ea, h2]; rfl)
        · have h2 : (errG b != 0) = false := h2
          refine ⟨2, ⟨by omega, fun _ => ea, fun _ => by simpa using h2⟩, by omega, ?_⟩
          exact SubI.of0 href [] rfl ⟨⟨rfl, LeBx.rfl⟩, ⟨rfl, LeBx.rfl⟩, ⟨rfl, LeBx.rfl⟩, trivial⟩ ⟨⟨rfl, LeQ.rfl⟩, ⟨rfl, LeQ.rfl⟩, ⟨rfl, LeQ.rfl⟩, ⟨rfl, LeQ.rfl⟩, ⟨rfl, LeQ.int rfl⟩, trivial⟩
    · have h : ¬ (i : Int) < 2 := decF h
      have ea := ea (by omega)
      have eb := eb (by omega)
      refine callN (bcells a) ?_
      refine callN (bcells b) ?_
      refine And.intro (by kernel_rfl) ?_
      have e : err2 a b = bif !sameC a b then 10 else 0 := by unfold err2; rw [ea, eb]; rfl
      refine And.intro (fun h2 => ?_) (fun h2 => ?_)
      · have h2 : (!sameC a b) = true := h2
        exact SubR.of_eq (by rw [e, h2]; rfl)
      · have h2 : (!sameC a b) = false := h2
        exact SubR.of_eq (by rw [e, h2]; rfl)
end Go.Ch

namespace Go.Ch
open Go Go.Ax Go.Proofs Go.Proofs.Tryz
set_option maxRecDepth 100000
set_option pp.maxSteps 400
set_option maxHeartbeats 1000000

/-- Cut, fill and unknown cells. -/
structure Chg where
  cut : Int
  fill : Int
  unk : Int
def chS (a b : Grid) (lo hi : Int) (s : Chg) (i : Nat) : Chg :=
  bif !(a.levels.getD i 0 != 30000) || !(b.levels.getD i 0 != 30000) then ⟨s.cut, s.fill, w64 (s.unk + 1)⟩
  else ⟨w64 (s.cut + w64 (w64 (a.side * a.side) * partV lo hi (b.levels.getD i 0) (a.levels.getD i 0))), w64 (s.fill + w64 (w64 (a.side * a.side) * partV lo hi (a.levels.getD i 0) (b.levels.getD i 0))), s.unk⟩
def chF (a b : Grid) (lo hi : Int) : Nat → Chg
  | 0 => ⟨0, 0, 0⟩
  | i + 1 => chS a b lo hi (chF a b lo hi i) i
abbrev chg (s : Chg) : AV := .g [.d (dI s.cut), .d (dI s.fill), .d (dI s.unk)]
abbrev chgB (s : Chg) : Box := .cells [.d (dI s.cut), .d (dI s.fill), .d (dI s.unk)]
theorem bchange (a b : Grid) (lo hi : Int) (ha : a.levels.length ≤ 1000000) (hb : b.levels.length = a.levels.length) :
    CallP Tryz.prog 107 [grid a, grid b, .g [.d (dI lo), .d (dI hi)], .s (.d (.clo 109 0 fun _ => .junk))] (chg (chF a b lo hi a.levels.length)) := by
  refine callP_of_ex (rc := []) (N := 77) Tryz.func107 rfl rfl Tryz.call107 tab_ok mix rfl rfl (fun cx href => ?_)
  refine AW.loopI (fun i : Nat => ⟨[(3, .s (.d (.clo 109 0 fun _ => .junk))), (4, .s (.ptr 4 0)), (5, .s (.ptr 5 0)), (6, .s (.ptr 6 0)), (8, .s (.ptr 8 0)), (9, .s (.ptr 9 0)), (10, vI (w64 (a.side * a.side))), (21, vI a.levels.length), (22, vI i)],
      [(4, some (gridB a)), (5, some (gridB b)), (6, some (.cells [.d (dI lo), .d (dI hi)])), (8, some (chgB ⟨0, 0, 0⟩)), (9, some (chgB (chF a b lo hi i)))]⟩)
    (fun i => i ≤ a.levels.length) (fun i => a.levels.length - i) 0 (Nat.zero_le _) ?_ ?_
  · exact SubI.of0 href [] rfl ⟨⟨rfl, LeBx.rfl⟩, ⟨rfl, LeBx.rfl⟩, ⟨rfl, LeBx.rfl⟩, ⟨rfl, LeBx.rfl⟩, ⟨rfl, LeBx.rfl⟩, trivial⟩ ⟨⟨rfl, LeQ.rfl⟩, ⟨rfl, LeQ.rfl⟩, ⟨rfl, LeQ.rfl⟩, ⟨rfl, LeQ.rfl⟩, ⟨rfl, LeQ.rfl⟩, ⟨rfl, LeQ.rfl⟩, ⟨rfl, LeQ.rfl⟩, ⟨rfl, LeQ.rfl⟩, ⟨rfl, LeQ.rfl⟩, trivial⟩
  · intro i hi'
    refine ex.sound (rc := []) tab_ok mix href _ ?_
    refine And.intro (fun h => ?_) (fun h => ?_)
    · have h : (i : Int) < a.levels.length := decT h
      refine oi ⟨by omega, by omega⟩ ?_
      refine oi ⟨by omega, by omega⟩ ?_
      refine And.intro (by kernel_rfl) ?_
      refine callN (bany i) ?_
      refine And.intro (fun h2 => by cases h2) (fun _ => ?_)
      refine callN (bknown a i (by omega) ha) ?_
      repeat first | refine sk ?_ | refine st ?_ | refine sg ?_ | refine sh ?_ | refine su ?_ | refine sn1 ?_ | refine sn0 ?_
      refine callG (bknown b i (by omega) (by omega)) ?_
      repeat first | refine sk ?_ | refine st ?_ | refine sg ?_ | refine sh ?_ | refine su ?_ | refine sn1 ?_ | refine sn0 ?_
      refine And.intro (fun h2 => ?_) (fun h2 => ?_)
      · have h2 : (!(a.levels.getD i 0 != 30000) || !(b.levels.getD i 0 != 30000)) = true := h2
        have e : chF a b lo hi (i + 1) = ⟨(chF a b lo hi i).cut, (chF a b lo hi i).fill, w64 ((chF a b lo hi i).unk + 1)⟩ := by rw [chF, chS, h2]; rfl
        refine ⟨i + 1, by omega, by omega, ?_⟩
        exact SubI.of0 href [] rfl ⟨⟨rfl, LeBx.rfl⟩, ⟨rfl, LeBx.rfl⟩, ⟨rfl, LeBx.rfl⟩, ⟨rfl, LeBx.rfl⟩, ⟨rfl, LeBx.of_eq (by rw [e]; rfl)⟩, trivial⟩ ⟨⟨rfl, LeQ.rfl⟩, ⟨rfl, LeQ.rfl⟩, ⟨rfl, LeQ.rfl⟩, ⟨rfl, LeQ.rfl⟩, ⟨rfl, LeQ.rfl⟩, ⟨rfl, LeQ.rfl⟩, ⟨rfl, LeQ.rfl⟩, ⟨rfl, LeQ.rfl⟩, ⟨rfl, LeQ.int (w64_of (by omega) (by omega))⟩, trivial⟩
      · have h2 : (!(a.levels.getD i 0 != 30000) || !(b.levels.getD i 0 != 30000)) = false := h2
        have e : chF a b lo hi (i + 1) = ⟨w64 ((chF a b lo hi i).cut + w64 (w64 (a.side * a.side) * partV lo hi (b.levels.getD i 0) (a.levels.getD i 0))), w64 ((chF a b lo hi i).fill + w64 (w64 (a.side * a.side) * partV lo hi (a.levels.getD i 0) (b.levels.getD i 0))), (chF a b lo hi i).unk⟩ := by rw [chF, chS, h2]; rfl
        refine callN (bpart lo hi _ _) ?_
        refine And.intro (by kernel_rfl) ?_
        refine callN (bpart lo hi _ _) ?_
        refine And.intro (by kernel_rfl) ?_
        refine ⟨i + 1, by omega, by omega, ?_⟩
        exact SubI.of0 href [] rfl ⟨⟨rfl, LeBx.rfl⟩, ⟨rfl, LeBx.rfl⟩, ⟨rfl, LeBx.rfl⟩, ⟨rfl, LeBx.rfl⟩, ⟨rfl, LeBx.of_eq (by rw [e]; rfl)⟩, trivial⟩ ⟨⟨rfl, LeQ.rfl⟩, ⟨rfl, LeQ.rfl⟩, ⟨rfl, LeQ.rfl⟩, ⟨rfl, LeQ.rfl⟩, ⟨rfl, LeQ.rfl⟩, ⟨rfl, LeQ.rfl⟩, ⟨rfl, LeQ.rfl⟩, ⟨rfl, LeQ.rfl⟩, ⟨rfl, LeQ.int (w64_of (by omega) (by omega))⟩, trivial⟩
    · have h : ¬ (i : Int) < a.levels.length := decF h
      obtain rfl : i = a.levels.length := by omega
      exact SubR.refl _
theorem sameC_len {a b : Grid} (ga : GVal a) (gb : GVal b) (h : sameC a b = true) : b.levels.length = a.levels.length := by
  unfold sameC at h
  simp only [Bool.and_eq_true, beq_iff_eq] at h
  have h1 := ga.len
  have h2 := gb.len
  rw [h.2.2.2.1, h.2.2.2.2.1] at h1
  omega
theorem err2_zero {a b : Grid} (h : err2 a b = 0) : errG a = 0 ∧ errG b = 0 ∧ sameC a b = true := by
  unfold err2 at h
  cases h1 : errG a != 0 with
  | true => rw [h1] at h; simp at h1; exact absurd h h1
  | false =>
    cases h2 : errG b != 0 with
    | true => rw [h1, h2] at h; simp at h2; exact absurd h h2
    | false =>
      cases h3 : sameC a b with
      | false => rw [h1, h2, h3] at h; cases h
      | true => simp at h1 h2; exact ⟨h1, h2, rfl⟩
def cmpR (a b : Grid) : Chg × Int := bif err2 a b != 0 then (⟨0, 0, 0⟩, err2 a b) else (chF a b (-20000) 20000 a.levels.length, 0)
attribute [local irreducible] err2 in
theorem gCompare (a b : Grid) (ha : a.ok) (hb : b.ok) : CallP Tryz.prog 47 [grid a, grid b] (.t [.g [.d (dI (cmpR a b).1.cut), .d (dI (cmpR a b).1.fill), .d (dI (cmpR a b).1.unk)], .s (.d (dI (cmpR a b).2))]) := by
  refine callP_of_ex (rc := []) (N := 18) Tryz.func47 rfl rfl Tryz.call47 tab_ok mix rfl rfl (fun cx href => ?_)
  refine callN (bboth a b ha hb) ?_
  refine And.intro (fun h => ?_) (fun h => ?_)
  · have h : (err2 a b != 0) = true := h
    rw [show cmpR a b = (⟨0, 0, 0⟩, err2 a b) by unfold cmpR; rw [h]; rfl]
    exact SubR.refl _
  · have h : (err2 a b != 0) = false := h
    obtain ⟨e1, e2, e3⟩ := err2_zero (show err2 a b = 0 by simpa using h)
    have ga := GVal.of e1
    have gb := GVal.of e2
    have hn := ga.n
    rw [show cmpR a b = (chF a b (-20000) 20000 a.levels.length, 0) by unfold cmpR; rw [h]; rfl]
    refine callN ball ?_
    refine callN ((bchange a b (-20000) 20000 (by omega) (sameC_len ga gb e3)).conv (args' := _) ⟨⟨LeD.refl _, LeD.refl _, LeD.refl _, LeD.refl _, LeD.refl _, LeD.refl _, trivial⟩, ⟨LeD.refl _, LeD.refl _, LeD.refl _, LeD.refl _, LeD.refl _, LeD.refl _, trivial⟩, ⟨LeD.refl _, LeD.refl _, trivial⟩, LeD.clo fun j hj => absurd hj (Nat.not_lt_zero j), trivial⟩) ?_
    refine And.intro (by kernel_rfl) ?_
    exact SubR.refl _
end Go.Ch

namespace Go.Ch
open Go Go.Ax Go.Proofs Go.Proofs.Tryz
set_option maxRecDepth 100000
set_option pp.maxSteps 400
set_option maxHeartbeats 1000000

theorem mm_hi (x y : Int) : mm true x y = max x y := by unfold mm; simp only; split <;> omega
theorem mm_lo (x y : Int) : mm false x y = min x y := by unfold mm; simp only; split <;> omega

/-- A bed that was lowered once, and twice. -/
def oneV (c : Chan) (g : Grid) (p : Int) (k : Nat) : Int :=
  bif cellT c g 0 k == 30000 then g.levels.getD k 0 else bif g.levels.getD k 0 != 30000 then mm true (-20000) (w64 (g.levels.getD k 0 - (w64 p).tmod 700)) else g.levels.getD k 0
def twoV (c : Chan) (g : Grid) (p q : Int) (k : Nat) : Int :=
  bif cellT c g 0 k == 30000 then g.levels.getD k 0 else bif g.levels.getD k 0 != 30000 then mm true (-20000) (w64 (oneV c g p k - (w64 (w64 q + w64 (37 * k))).tmod 700)) else g.levels.getD k 0
def oneG (c : Chan) (g : Grid) (p : Int) : Grid := { g with levels := (List.range g.levels.length).map (oneV c g p) }
def twoG (c : Chan) (g : Grid) (p q : Int) : Grid := { g with levels := (List.range g.levels.length).map (twoV c g p q) }
def u16ok (n : Int) : Prop := 0 ≤ n ∧ n ≤ 65535
section
variable {c : Chan} {g : Grid} {p q : Int} {i : Nat}
theorem one_at (hi : i < g.levels.length) : (oneG c g p).levels.getD i 0 = oneV c g p i := by simp [oneG, hi]
theorem two_at (hi : i < g.levels.length) : (twoG c g p q).levels.getD i 0 = twoV c g p q i := by simp [twoG, hi]
theorem rem_in {n : Int} (h : 0 ≤ n) : 0 ≤ n.tmod 700 ∧ n.tmod 700 < 700 := by
  rw [Int.tmod_eq_emod_of_nonneg h]
  exact ⟨Int.emod_nonneg _ (by decide), Int.emod_lt_of_pos _ (by decide)⟩
/-- One cell's levels. -/
theorem cuts_cell (hv : Val c) (gv : GVal g) (hp : u16ok p) (hq : u16ok q) (hi : i < g.levels.length) :
    (g.levels.getD i 0 = 30000 ∧ oneV c g p i = 30000 ∧ twoV c g p q i = 30000) ∨
    (g.levels.getD i 0 ≠ 30000 ∧ -20000 ≤ twoV c g p q i ∧ twoV c g p q i ≤ oneV c g p i ∧ oneV c g p i ≤ g.levels.getD i 0 ∧ g.levels.getD i 0 ≤ 20000 ∧ ((desF c (centreG g i)).2 = false → twoV c g p q i = g.levels.getD i 0)) := by
  have hn := gv.n
  have h0 := cellT0_ne hv gv hi
  obtain ⟨p0, p1⟩ := hp
  obtain ⟨q0, q1⟩ := hq
  have e1 : w64 p = p := w64_of (by omega) (by omega)
  have e2 : w64 (w64 q + w64 (37 * i)) = q + 37 * i := by
    rw [w64_of (n := q) (by omega) (by omega), w64_of (n := 37 * (i : Int)) (by omega) (by omega), w64_of (by omega) (by omega)]
  obtain ⟨r0, r1⟩ := rem_in p0
  obtain ⟨s0, s1⟩ := rem_in (show 0 ≤ q + 37 * (i : Int) by omega)
  by_cases hg : g.levels.getD i 0 = 30000
  · left
    refine ⟨hg, ?_, ?_⟩
    · unfold oneV; rw [hg]; cases (cellT c g 0 i == 30000) <;> rfl
    · unfold twoV; rw [hg]; cases (cellT c g 0 i == 30000) <;> rfl
  · right
    have hl := lev_in gv hi (by simpa using hg)
    have hb : (g.levels.getD i 0 != 30000) = true := by simpa using hg
    refine ⟨hg, ?_⟩
    cases hD : (desF c (centreG g i)).2 with
    | false =>
      rw [hD] at h0
      have hc : (cellT c g 0 i == 30000) = true := by simpa using h0
      unfold twoV oneV
      rw [hc]
      simp only [cond_true]
      exact ⟨by omega, Int.le_refl _, Int.le_refl _, by omega, fun _ => trivial⟩
    | true =>
      rw [hD] at h0
      have hc : (cellT c g 0 i == 30000) = false := by simpa using h0
      have eo : oneV c g p i = max (-20000) (g.levels.getD i 0 - p.tmod 700) := by
        unfold oneV; rw [hc, hb, e1]; simp only [cond_true, cond_false]
        rw [mm_hi, w64_of (by omega) (by omega)]
      have et : twoV c g p q i = max (-20000) (oneV c g p i - (q + 37 * i).tmod 700) := by
        unfold twoV; rw [hc, hb, e2]; simp only [cond_true, cond_false]
        rw [mm_hi, w64_of (by omega) (by omega)]
      exact ⟨by omega, by omega, by omega, by omega, fun h => by cases h⟩
end
/-- One known cell's payment. -/
theorem payS_known {h : Int → Int → Int → Int} {b a : Grid} {over sum level x : Int} {i : Nat} (gv : GVal b) (hb : b.levels.getD i 0 ≠ 30000) (ha : a.levels.getD i 0 ≠ 30000) (hx : h (b.levels.getD i 0) (a.levels.getD i 0) (w64 (level - over)) = x)
    (hx1 : x ≤ 100000) (h0 : 0 ≤ sum) (h1 : sum ≤ i * 10000000000000) (hi : i ≤ 1024) : payS h b a over sum i level = sum + areaG b * max 0 x ∧ 0 ≤ areaG b * max 0 x ∧ areaG b * max 0 x ≤ 10000000000000 := by
  obtain ⟨_, hA⟩ := area_in gv
  obtain ⟨v1, v2, v3⟩ := vol_in hA hx1
  refine ⟨?_, v2, v3⟩
  unfold payS
  rw [show (b.levels.getD i 0 != 30000) = true by simpa using hb, show (a.levels.getD i 0 != 30000) = true by simpa using ha]
  simp only [Bool.and_self, cond_true, hx]
  rw [v1, w64_of (by omega) (by omega)]
theorem payS_unk {h : Int → Int → Int → Int} {b a : Grid} {over sum level : Int} {i : Nat} (hb : b.levels.getD i 0 = 30000 ∨ a.levels.getD i 0 = 30000) : payS h b a over sum i level = sum := by
  unfold payS
  rcases hb with hb | hb <;> rw [hb] <;> simp
theorem paidH_eq {x y z : Int} (hx : -100000 ≤ x ∧ x ≤ 100000) (hy : -100000 ≤ y ∧ y ≤ 100000) (hz : -100000 ≤ z ∧ z ≤ 100000) : paidH x y z = x - max y z := by
  unfold paidH; rw [mm_hi, w64_of (by omega) (by omega)]
theorem overH_eq {x y z : Int} (hx : -100000 ≤ x ∧ x ≤ 100000) (hy : -100000 ≤ y ∧ y ≤ 100000) (hz : -100000 ≤ z ∧ z ≤ 100000) : overH x y z = min x z - y := by
  unfold overH; rw [mm_lo, w64_of (by omega) (by omega)]
theorem partV_eq {a b : Int} (ha : -20000 ≤ a ∧ a ≤ 20000) (hb : -20000 ≤ b ∧ b ≤ 20000) : partV (-20000) 20000 a b = max 0 (b - a) := by
  unfold partV; rw [mm_hi, mm_hi, mm_lo, w64_of (by omega) (by omega)]; omega
structure CutsI (c : Chan) (g : Grid) (p q : Int) (i : Nat) : Prop where
  p0 : 0 ≤ payL paidH c g (twoG c g p q) i
  p1 : payL paidH c g (twoG c g p q) i ≤ i * 10000000000000
  o0 : 0 ≤ payL overH c g (twoG c g p q) i
  o1 : payL overH c g (twoG c g p q) i ≤ i * 10000000000000
  a0 : 0 ≤ payL paidH c g (oneG c g p) i
  a1 : payL paidH c g (oneG c g p) i ≤ i * 10000000000000
  b0 : 0 ≤ payL paidH c (oneG c g p) (twoG c g p q) i
  b1 : payL paidH c (oneG c g p) (twoG c g p q) i ≤ i * 10000000000000
  cut : (chF g (twoG c g p q) (-20000) 20000 i).cut = payL paidH c g (twoG c g p q) i + payL overH c g (twoG c g p q) i
  fill : (chF g (twoG c g p q) (-20000) 20000 i).fill = 0
  twice : payL paidH c g (oneG c g p) i + payL paidH c (oneG c g p) (twoG c g p q) i = payL paidH c g (twoG c g p q) i
theorem chS_unk {a b : Grid} {lo hi : Int} {s : Chg} {i : Nat} (ha : a.levels.getD i 0 = 30000) : (chS a b lo hi s i).cut = s.cut ∧ (chS a b lo hi s i).fill = s.fill := by
  unfold chS; rw [ha]; exact ⟨rfl, rfl⟩
theorem chS_known {a b : Grid} {s : Chg} {i : Nat} (gv : GVal a) (ha : a.levels.getD i 0 ≠ 30000) (hb : b.levels.getD i 0 ≠ 30000) (ha2 : -20000 ≤ a.levels.getD i 0 ∧ a.levels.getD i 0 ≤ 20000) (hb2 : -20000 ≤ b.levels.getD i 0 ∧ b.levels.getD i 0 ≤ a.levels.getD i 0)
    (h0 : 0 ≤ s.cut) (h1 : s.cut ≤ i * 20000000000000) (hi : i ≤ 1024) (hf : s.fill = 0) :
    (chS a b (-20000) 20000 s i).cut = s.cut + areaG a * (a.levels.getD i 0 - b.levels.getD i 0) ∧ (chS a b (-20000) 20000 s i).fill = 0 := by
  obtain ⟨_, hA⟩ := area_in gv
  unfold chS
  rw [show (a.levels.getD i 0 != 30000) = true by simpa using ha, show (b.levels.getD i 0 != 30000) = true by simpa using hb]
  simp only [Bool.not_true, Bool.or_self, cond_false]
  rw [partV_eq ⟨hb2.1, by omega⟩ ha2, partV_eq ha2 ⟨hb2.1, by omega⟩, hf]
  generalize a.levels.getD i 0 = x at *
  generalize b.levels.getD i 0 = y at *
  have e1 : max 0 (x - y) = x - y := by omega
  have e2 : max 0 (y - x) = 0 := by omega
  rw [e1, e2]
  obtain ⟨v1, v2, v3⟩ := vol_in (x := x - y) hA (by omega)
  rw [mm_max, e1] at v1
  rw [e1] at v2 v3
  rw [v1, w64_of (by omega) (by omega)]
  exact ⟨rfl, by simp; rfl⟩
end Go.Ch

namespace Go.Ch
open Go Go.Ax Go.Proofs Go.Proofs.Tryz
set_option maxRecDepth 100000
set_option pp.maxSteps 400
set_option maxHeartbeats 1000000

section
variable {c : Chan} {g : Grid} {p q : Int}
theorem errG_one (hv : Val c) (he : errG g = 0) (hp : u16ok p) (hq : u16ok q) : errG (oneG c g p) = 0 := by
  refine errG_levels he (by simp) ?_
  rw [List.any_eq_false]
  intro n hn
  rw [List.mem_map] at hn
  obtain ⟨i, hi, rfl⟩ := hn
  rcases cuts_cell hv (GVal.of he) hp hq (List.mem_range.1 hi) with h | h
  · rw [h.2.1]; decide
  · simp [badL, within]; omega
theorem errG_two (hv : Val c) (he : errG g = 0) (hp : u16ok p) (hq : u16ok q) : errG (twoG c g p q) = 0 := by
  refine errG_levels he (by simp) ?_
  rw [List.any_eq_false]
  intro n hn
  rw [List.mem_map] at hn
  obtain ⟨i, hi, rfl⟩ := hn
  rcases cuts_cell hv (GVal.of he) hp hq (List.mem_range.1 hi) with h | h
  · rw [h.2.2]; decide
  · simp [badL, within]; omega
theorem cutsI (hv : Val c) (he : errG g = 0) (hp : u16ok p) (hq : u16ok q) : ∀ i, i ≤ g.levels.length → CutsI c g p q i
  | 0, _ => ⟨Int.le_refl _, Int.le_refl _, Int.le_refl _, Int.le_refl _, Int.le_refl _, Int.le_refl _, Int.le_refl _, Int.le_refl _, rfl, rfl, rfl⟩
  | i + 1, hi => by
    have gv := GVal.of he
    have g1 := GVal.of (errG_one hv he hp hq)
    have hi' : i < g.levels.length := by omega
    have hn := gv.n
    have ih := cutsI hv he hp hq i (by omega)
    obtain ⟨p0, p1, o0, o1, a0, a1, b0, b1, hcut, hfill, htw⟩ := ih
    have ho := one_at (c := c) (p := p) hi'
    have ht := two_at (c := c) (p := p) (q := q) hi'
    have eP : payL paidH c g (twoG c g p q) (i + 1) = bif (desF c (centreG g i)).2 then payS paidH g (twoG c g p q) c.over (payL paidH c g (twoG c g p q) i) i (desF c (centreG g i)).1 else payL paidH c g (twoG c g p q) i := rfl
    have eO : payL overH c g (twoG c g p q) (i + 1) = bif (desF c (centreG g i)).2 then payS overH g (twoG c g p q) c.over (payL overH c g (twoG c g p q) i) i (desF c (centreG g i)).1 else payL overH c g (twoG c g p q) i := rfl
    have eA : payL paidH c g (oneG c g p) (i + 1) = bif (desF c (centreG g i)).2 then payS paidH g (oneG c g p) c.over (payL paidH c g (oneG c g p) i) i (desF c (centreG g i)).1 else payL paidH c g (oneG c g p) i := rfl
    have eB : payL paidH c (oneG c g p) (twoG c g p q) (i + 1) = bif (desF c (centreG g i)).2 then payS paidH (oneG c g p) (twoG c g p q) c.over (payL paidH c (oneG c g p) (twoG c g p q) i) i (desF c (centreG g i)).1 else payL paidH c (oneG c g p) (twoG c g p q) i := rfl
    have eC : chF g (twoG c g p q) (-20000) 20000 (i + 1) = chS g (twoG c g p q) (-20000) 20000 (chF g (twoG c g p q) (-20000) 20000 i) i := rfl
    have hA1 : areaG (oneG c g p) = areaG g := rfl
    obtain ⟨_, hA⟩ := area_in gv
    generalize chF g (twoG c g p q) (-20000) 20000 i = S at *
    generalize payL paidH c g (twoG c g p q) i = P at *
    generalize payL overH c g (twoG c g p q) i = O at *
    generalize payL paidH c g (oneG c g p) i = A1 at *
    generalize payL paidH c (oneG c g p) (twoG c g p q) i = B1 at *
    rcases cuts_cell hv gv hp hq hi' with ⟨h1, h2, h3⟩ | ⟨h1, h2, h3, h4, h5, h6⟩
    · obtain ⟨k1, k2⟩ := chS_unk (a := g) (b := twoG c g p q) (lo := -20000) (hi := 20000) (s := S) h1
      rw [payS_unk (.inl h1), Bool.cond_self] at eP
      rw [payS_unk (.inl h1), Bool.cond_self] at eO
      rw [payS_unk (.inl h1), Bool.cond_self] at eA
      rw [payS_unk (.inl (ho.trans h2)), Bool.cond_self] at eB
      refine ⟨?_, ?_, ?_, ?_, ?_, ?_, ?_, ?_, ?_, ?_, ?_⟩ <;> first
        | (rw [eC, k1, eP, eO]; exact hcut)
        | (rw [eC, k2]; exact hfill)
        | (simp only [eP, eO, eA, eB]; omega)
    · obtain ⟨k1, k2⟩ := chS_known (b := twoG c g p q) (s := S) gv h1 (by rw [ht]; omega) ⟨by omega, h5⟩ ⟨by rw [ht]; omega, by rw [ht]; omega⟩ (by omega) (by omega) (by omega) hfill
      rw [ht] at k1
      cases hD : (desF c (centreG g i)).2 with
      | false =>
        rw [hD] at eP eO eA eB
        simp only [cond_false] at eP eO eA eB
        rw [h6 hD, Int.sub_self, Int.mul_zero, Int.add_zero] at k1
        refine ⟨?_, ?_, ?_, ?_, ?_, ?_, ?_, ?_, ?_, ?_, ?_⟩ <;> first
          | (rw [eC, k1, eP, eO]; exact hcut)
          | (rw [eC]; exact k2)
          | (simp only [eP, eO, eA, eB]; omega)
      | true =>
        rw [hD] at eP eO eA eB
        simp only [cond_true] at eP eO eA eB
        have hd := desF_ok hv (centre_good gv hi').1 hD
        have hov := hv.over
        have eT : w64 ((desF c (centreG g i)).1 - c.over) = (desF c (centreG g i)).1 - c.over := w64_of (by omega) (by omega)
        have q1 := payS_known (h := paidH) (b := g) (a := twoG c g p q) (over := c.over) (sum := P) (level := (desF c (centreG g i)).1) (i := i) (x := g.levels.getD i 0 - max (twoV c g p q i) ((desF c (centreG g i)).1 - c.over)) gv h1 (by rw [ht]; omega)
          (by rw [ht, eT, paidH_eq (by omega) (by omega) (by omega)]) (by omega) p0 p1 (by omega)
        have q2 := payS_known (h := overH) (b := g) (a := twoG c g p q) (over := c.over) (sum := O) (level := (desF c (centreG g i)).1) (i := i) (x := min (g.levels.getD i 0) ((desF c (centreG g i)).1 - c.over) - twoV c g p q i) gv h1 (by rw [ht]; omega)
          (by rw [ht, eT, overH_eq (by omega) (by omega) (by omega)]) (by omega) o0 o1 (by omega)
        have q3 := payS_known (h := paidH) (b := g) (a := oneG c g p) (over := c.over) (sum := A1) (level := (desF c (centreG g i)).1) (i := i) (x := g.levels.getD i 0 - max (oneV c g p i) ((desF c (centreG g i)).1 - c.over)) gv h1 (by rw [ho]; omega)
          (by rw [ho, eT, paidH_eq (by omega) (by omega) (by omega)]) (by omega) a0 a1 (by omega)
        have q4 := payS_known (h := paidH) (b := oneG c g p) (a := twoG c g p q) (over := c.over) (sum := B1) (level := (desF c (centreG g i)).1) (i := i) (x := oneV c g p i - max (twoV c g p q i) ((desF c (centreG g i)).1 - c.over)) g1 (by rw [ho]; omega) (by rw [ht]; omega)
          (by rw [ho, ht, eT, paidH_eq (by omega) (by omega) (by omega)]) (by omega) b0 b1 (by omega)
        rw [hA1] at q4
        obtain ⟨q1, q1a, q1b⟩ := q1
        obtain ⟨q2, q2a, q2b⟩ := q2
        obtain ⟨q3, q3a, q3b⟩ := q3
        obtain ⟨q4, q4a, q4b⟩ := q4
        have s1 : areaG g * max 0 (g.levels.getD i 0 - max (twoV c g p q i) ((desF c (centreG g i)).1 - c.over)) + areaG g * max 0 (min (g.levels.getD i 0) ((desF c (centreG g i)).1 - c.over) - twoV c g p q i) = areaG g * (g.levels.getD i 0 - twoV c g p q i) := by
          rw [← Int.mul_add]; congr 1; omega
        have s2 : areaG g * max 0 (g.levels.getD i 0 - max (oneV c g p i) ((desF c (centreG g i)).1 - c.over)) + areaG g * max 0 (oneV c g p i - max (twoV c g p q i) ((desF c (centreG g i)).1 - c.over)) = areaG g * max 0 (g.levels.getD i 0 - max (twoV c g p q i) ((desF c (centreG g i)).1 - c.over)) := by
          rw [← Int.mul_add]; congr 1; omega
        rw [← s1] at k1
        generalize areaG g * max 0 (g.levels.getD i 0 - max (twoV c g p q i) ((desF c (centreG g i)).1 - c.over)) = X1 at *
        generalize areaG g * max 0 (min (g.levels.getD i 0) ((desF c (centreG g i)).1 - c.over) - twoV c g p q i) = X2 at *
        generalize areaG g * max 0 (g.levels.getD i 0 - max (oneV c g p i) ((desF c (centreG g i)).1 - c.over)) = X3 at *
        generalize areaG g * max 0 (oneV c g p i - max (twoV c g p q i) ((desF c (centreG g i)).1 - c.over)) = X4 at *
        rw [q1] at eP
        rw [q2] at eO
        rw [q3] at eA
        rw [q4] at eB
        refine ⟨?_, ?_, ?_, ?_, ?_, ?_, ?_, ?_, ?_, ?_, ?_⟩ <;> first
          | (rw [eC, k1, eP, eO, hcut]; omega)
          | (rw [eC]; exact k2)
          | (simp only [eP, eO, eA, eB]; omega)
end
end Go.Ch

namespace Go.Ch
open Go Go.Ax Go.Proofs Go.Proofs.Tryz
set_option maxRecDepth 100000
set_option pp.maxSteps 400
set_option maxHeartbeats 1000000

abbrev u16D (n : Int) : DV := .val (.int .u16 n)
def lowF (g : Grid) (v : Nat → Int) (i : Nat) : Nat → Nat → DV := fun k _ => dI (if k < i then v k else g.levels.getD k 0)
theorem lowF_next {g : Grid} {v : Nat → Int} {i k j : Nat} {x : Int} (hj : j < 1) (h : x = v i) : rowSet (lowF g v i) i 0 [.d (dI x)] k j = lowF g v (i + 1) k j := by
  obtain rfl : j = 0 := by omega
  subst h
  by_cases hki : k = i
  · subst hki
    refine rowSet_self.trans ?_
    unfold lowF
    rw [if_pos (Nat.lt_succ_self _)]
  · refine (rowSet_ne hki).trans ?_
    unfold lowF
    by_cases hlt : k < i
    · rw [if_pos hlt, if_pos (by omega)]
    · rw [if_neg hlt, if_neg (by omega)]
theorem lowF_same {g : Grid} {v : Nat → Int} {i k j : Nat} (h : v i = g.levels.getD i 0) : lowF g v i k j = lowF g v (i + 1) k j := by
  unfold lowF
  by_cases hki : k = i
  · subst hki
    rw [if_neg (Nat.lt_irrefl _), if_pos (Nat.lt_succ_self _), h]
  · by_cases hlt : k < i
    · rw [if_pos hlt, if_pos (by omega)]
    · rw [if_neg hlt, if_neg (by omega)]
theorem lowF_le {g : Grid} {v : Nat → Int} {n : Nat} : LeD (.slc n 1 (lowF g v n)) (dInts ((List.range n).map v)) := by
  refine LeD.slc' (by simp) fun k j hk hj => LeD.of_eq ?_
  unfold lowF intEl
  rw [if_pos hk]
  congr 2
  simp [hk]
theorem alike_same (g : Grid) (l : List Int) : alike g { g with levels := l } = true := by unfold alike; simp
theorem withErr2_of {c : Chan} {a b : Grid} (h1 : errC c = 0) (h2 : errG a = 0) (h3 : errG b = 0) (h4 : alike a b = true) : withErr c [a, b] = 0 := by rw [withErr2, h1, h2, h3, h4]; rfl
theorem err2_of {g : Grid} {l : List Int} (h2 : errG g = 0) (h3 : errG { g with levels := l } = 0) : err2 g { g with levels := l } = 0 := by unfold err2; rw [h2, h3]; simp [sameC]
theorem remF_zero {h : Int → Int → Int → Int} {c : Chan} {a b : Grid} (e : withErr c [a, b] = 0) : remF h c a b = payL h c a b a.levels.length := by unfold remF; rw [e]; rfl
theorem ok_levels {g : Grid} {v : Nat → Int} {n : Nat} (hg : g.ok) (hn : n ≤ 1000000) (h : ∀ i, i < n → -20000 ≤ v i ∧ v i ≤ 30000) : ({ g with levels := (List.range n).map v } : Grid).ok := by
  refine ⟨hg.x, hg.y, hg.side, hg.cols, hg.rows, by simp; omega, fun a ha => ?_⟩
  rw [List.mem_map] at ha
  obtain ⟨i, hi, rfl⟩ := ha
  have := h i (List.mem_range.1 hi)
  simp [i64ok, Lit.wf, IntKind.min, IntKind.max, IntKind.signed, IntKind.bits]
  omega
/-- Arrays of two. -/
theorem rd_arr2 {P : Program} {t e : TypeId} {α : Type} {rep : α → List SV} {ok : α → Prop} (ht : P.underlying t = some (.array 2 e)) (hc : P.cellsOf t = 2) (h : Rd P e 1 rep ok) :
    Rd P t 2 (fun a : α × α => rep a.1 ++ rep a.2) (fun a => ok a.1 ∧ ok a.2) := by
  refine ⟨hc, fun H enc W base spare held fuel cs x hx => ?_⟩
  obtain ⟨xs, m, _, _, hlen, hxl, hf⟩ := DataW.trod_array ht hx
  rw [hc] at hlen
  have f0 := hf 0 (by decide)
  have f1 := hf 1 (by decide)
  rw [h.1] at f0 f1
  rw [List.getElem?_eq_getElem (by omega)] at f0 f1
  obtain ⟨_, a, ha, ra⟩ := h.2 H enc W base spare held m _ _ f0
  obtain ⟨_, b, hb, rb⟩ := h.2 H enc W base spare held m _ _ f1
  refine ⟨hlen, (a, b), ⟨ha, hb⟩, ?_⟩
  have := ra.append rb
  match cs, hlen, this with
  | [u, v], _, this => exact this
theorem rU16s : RdA Tryz.prog 84 (fun b : Int × Int => .g [.d (u16D b.1), .d (u16D b.2)]) (fun b => u16ok b.1 ∧ u16ok b.2) :=
  rda_arr Tryz.underlying84 ((rd_arr2 Tryz.underlying84 (by kernel_rfl) (rd_int Tryz.underlying83 (by kernel_rfl))).to (ok' := fun b : Int × Int => u16ok b.1 ∧ u16ok b.2) id (fun _ => rfl) (fun a h => by
    have key : ∀ n : Int, (Lit.int .u16 n).wf = true → u16ok n := fun n h => by
      simp [Lit.wf, IntKind.min, IntKind.max, IntKind.signed, IntKind.bits] at h
      exact ⟨by omega, by omega⟩
    exact ⟨key _ h.1, key _ h.2⟩))
attribute [local irreducible] withErr few small designG errG cellT in
theorem Cuts (c : Chan) (g : Grid) (b : Int × Int) (hc : c.ok) (hg : g.ok) (hb : u16ok b.1 ∧ u16ok b.2) : CallP Tryz.prog 10 [chan c, grid g, .g [.d (u16D b.1), .d (u16D b.2)]] (vB true) := by
  obtain ⟨p, q⟩ := b
  obtain ⟨hp, hq⟩ := hb
  simp only at hp hq ⊢
  refine callP_of_ex (rc := [1000037]) (N := 182) Tryz.func10 rfl rfl Tryz.call10 tab_ok mix rfl rfl (fun cx href => ?_)
  refine callN awake ?_
  refine And.intro (fun h => by cases h) (fun _ => ?_)
  refine callN (Small c hc) ?_
  repeat first | refine sk ?_ | refine st ?_ | refine sg ?_ | refine sh ?_ | refine su ?_ | refine sn1 ?_ | refine sn0 ?_
  refine callG (Few g hg.levels) ?_
  repeat first | refine sk ?_ | refine st ?_ | refine sg ?_ | refine sh ?_ | refine su ?_ | refine sn1 ?_ | refine sn0 ?_
  refine And.intro (fun h1 => ?_) (fun _ => SubR.lit rfl)
  refine ob (congrArg (gpol false) h1) ?_
  refine ob (congrArg (gpol false) h1) ?_
  refine callN ((rWith c [g] hc (by intro x hx; simp at hx; subst hx; exact hg) (by simp)).conv (args' := _) ⟨⟨LeD.refl _, LeD.refl _, LeD.refl _, LeD.refl _, LeD.refl _, trivial⟩, LeD.slc' rfl fun i j hi hj => LeD.of_eq ?_, trivial⟩) ?_
  · match i, j, hi, hj with
    | 0, 0, _, _ => rfl
    | 0, 1, _, _ => rfl
    | 0, 2, _, _ => rfl
    | 0, 3, _, _ => rfl
    | 0, 4, _, _ => rfl
    | 0, 5, _, _ => rfl
  refine And.intro (fun _ => SubR.lit rfl) (fun h2 => ?_)
  have h2 : (withErr c [g] != 0) = false := h2
  have h0 : withErr c [g] = 0 := by simpa using h2
  obtain ⟨g1, g2⟩ := withErr1_zero h0
  have hv := val_of c g1
  have gv := GVal.of g2
  have hn := gv.n
  have hdl := designG_len c g 0
  refine callN (gDesignGrid c g hc hg) ?_
  rw [show gridR c g 0 = (designG c g 0, 0) by unfold gridR; rw [h2]; rfl]
  repeat first | refine sk ?_ | refine st ?_ | refine sg ?_ | refine sh ?_ | refine su ?_ | refine sn1 ?_ | refine sn0 ?_
  refine And.intro (fun h3 => ?_) (fun _ => ?_)
  · exfalso
    have h3 : ((0 : Int) != 0 || ((designG c g 0).levels.length : Int) != (g.levels.length : Int)) = true := h3
    rw [hdl] at h3
    simp at h3
  refine ⟨[(501, 901)], _, _, _, _, CopyGridO g (by omega), rfl, rfl, rfl, ?_⟩
  refine ⟨[(501, 902)], _, _, _, _, CopyGridO g (by omega), rfl, rfl, rfl, ?_⟩
  refine And.intro (by kernel_rfl) ?_
  refine AW.loopI (fun i : Nat => ⟨[(3, .s (.ptr 3 0)), (4, .s (.ptr 4 0)), (5, .s (.ptr 5 0)), (7, .s (.ptr 7 0)), (9, .s (.ptr 9 0)), (10, .s (.ptr 10 0)), (11, vI i)],
      [(3, some (chanB c)), (4, some (gridB g)), (5, some (.cells [.d (u16D p), .d (u16D q)])), (7, some (gridB (designG c g 0))), (9, some (.cells [.d (dI g.x), .d (dI g.y), .d (dI g.side), .d (dI g.cols), .d (dI g.rows), .own 901])), (10, some (.cells [.d (dI g.x), .d (dI g.y), .d (dI g.side), .d (dI g.cols), .d (dI g.rows), .own 902])),
       (901, some (.row 3 g.levels.length 1 (lowF g (oneV c g p) i))), (902, some (.row 3 g.levels.length 1 (lowF g (twoV c g p q) i)))]⟩)
    (fun i => i ≤ g.levels.length) (fun i => g.levels.length - i) 0 (Nat.zero_le _) ?_ ?_
  · exact SubI.of0 href [] rfl ⟨⟨rfl, LeBx.rfl⟩, ⟨rfl, LeBx.rfl⟩, ⟨rfl, LeBx.rfl⟩, ⟨rfl, LeBx.rfl⟩, ⟨rfl, LeBx.rfl⟩, ⟨rfl, LeBx.rfl⟩, ⟨rfl, LeBx.row rfl fun k j hk hj => LeD.of_eq rfl⟩, ⟨rfl, LeBx.row rfl fun k j hk hj => LeD.of_eq rfl⟩, trivial⟩ ⟨⟨rfl, LeQ.rfl⟩, ⟨rfl, LeQ.rfl⟩, ⟨rfl, LeQ.rfl⟩, ⟨rfl, LeQ.rfl⟩, ⟨rfl, LeQ.rfl⟩, ⟨rfl, LeQ.rfl⟩, ⟨rfl, LeQ.rfl⟩, trivial⟩
  · intro i hi
    refine AW.seq (ex.sound (rc := [1000037]) tab_ok mix href _ ?_)
    refine And.intro (fun h => ?_) (fun h => ?_)
    · have h : (i : Int) < g.levels.length := decT h
      have hi' : i < g.levels.length := by omega
      have hcell := cuts_cell hv gv hp hq hi'
      have hda := designG_at c g 0 hi'
      have hdn := cellT0_ne hv gv hi'
      refine AW.seq (AW.block ?_)
      refine AW.seq (ex.sound (rc := [1000037]) tab_ok mix href _ ?_)
      refine oi ⟨by omega, by omega⟩ ?_
      refine And.intro (fun h3 => ?_) (fun h3 => ?_)
      · have h3 : ((designG c g 0).levels.getD i 0 == 30000) = true := h3
        rw [hda] at h3
        have eo : oneV c g p i = g.levels.getD i 0 := by unfold oneV; rw [h3]; rfl
        have et : twoV c g p q i = g.levels.getD i 0 := by unfold twoV; rw [h3]; rfl
        refine ex.sound (rc := [1000037]) tab_ok mix href _ ?_
        refine ⟨i + 1, by omega, by omega, ?_⟩
        exact SubI.of0 href [] rfl ⟨⟨rfl, LeBx.rfl⟩, ⟨rfl, LeBx.rfl⟩, ⟨rfl, LeBx.rfl⟩, ⟨rfl, LeBx.rfl⟩, ⟨rfl, LeBx.rfl⟩, ⟨rfl, LeBx.rfl⟩, ⟨rfl, LeBx.row rfl fun k j hk hj => LeD.of_eq (lowF_same eo)⟩, ⟨rfl, LeBx.row rfl fun k j hk hj => LeD.of_eq (lowF_same et)⟩, trivial⟩ ⟨⟨rfl, LeQ.rfl⟩, ⟨rfl, LeQ.rfl⟩, ⟨rfl, LeQ.rfl⟩, ⟨rfl, LeQ.rfl⟩, ⟨rfl, LeQ.rfl⟩, ⟨rfl, LeQ.rfl⟩, ⟨rfl, LeQ.int (w64_of (by omega) (by omega))⟩, trivial⟩
      · have h3 : ((designG c g 0).levels.getD i 0 == 30000) = false := h3
        rw [hda] at h3
        refine AW.seq (ex.sound (rc := [1000037]) tab_ok mix href _ ?_)
        refine oi ⟨by omega, by omega⟩ ?_
        refine AW.cond ?_
        refine And.intro (fun h4 => ?_) (fun h4 => ?_)
        · have h4 : (g.levels.getD i 0 != 30000) = true := h4
          refine AW.seq (ex.sound (rc := [1000037]) tab_ok mix href _ ?_)
          refine oi ⟨by omega, by omega⟩ ?_
          refine oi ⟨by omega, by omega⟩ ?_
          refine oi (by decide) ?_
          refine oi ⟨by omega, by omega⟩ ?_
          refine ob hi' ?_
          refine And.intro (by kernel_rfl) ?_
          refine AW.subI (σ' := ⟨[(3, .s (.ptr 3 0)), (4, .s (.ptr 4 0)), (5, .s (.ptr 5 0)), (7, .s (.ptr 7 0)), (9, .s (.ptr 9 0)), (10, .s (.ptr 10 0)), (11, vI i)],
      [(3, some (chanB c)), (4, some (gridB g)), (5, some (.cells [.d (u16D p), .d (u16D q)])), (7, some (gridB (designG c g 0))), (9, some (.cells [.d (dI g.x), .d (dI g.y), .d (dI g.side), .d (dI g.cols), .d (dI g.rows), .own 901])), (10, some (.cells [.d (dI g.x), .d (dI g.y), .d (dI g.side), .d (dI g.cols), .d (dI g.rows), .own 902])),
       (901, some (.row 3 g.levels.length 1 (lowF g (oneV c g p) (i + 1)))), (902, some (.row 3 g.levels.length 1 (lowF g (twoV c g p q) i)))]⟩) ?_ ?_
          · refine SubI.of0 href [] rfl ⟨⟨rfl, LeBx.rfl⟩, ⟨rfl, LeBx.rfl⟩, ⟨rfl, LeBx.rfl⟩, ⟨rfl, LeBx.rfl⟩, ⟨rfl, LeBx.rfl⟩, ⟨rfl, LeBx.rfl⟩, ⟨rfl, LeBx.row rfl fun k j hk hj => LeD.of_eq (lowF_next hj ?_)⟩, ⟨rfl, LeBx.rfl⟩, trivial⟩ ⟨⟨rfl, LeQ.rfl⟩, ⟨rfl, LeQ.rfl⟩, ⟨rfl, LeQ.rfl⟩, ⟨rfl, LeQ.rfl⟩, ⟨rfl, LeQ.rfl⟩, ⟨rfl, LeQ.rfl⟩, ⟨rfl, LeQ.rfl⟩, trivial⟩
            unfold oneV; rw [h3, h4]; rfl
          refine ex.sound (rc := [1000037]) tab_ok mix href _ ?_
          refine oi ⟨by omega, by omega⟩ ?_
          refine oi hi' ?_
          refine oi ⟨by omega, by omega⟩ ?_
          refine oi (by decide) ?_
          refine oi ⟨by omega, by omega⟩ ?_
          refine ob hi' ?_
          refine And.intro (by kernel_rfl) ?_
          refine ex.sound (rc := [1000037]) tab_ok mix href _ ?_
          refine ⟨i + 1, by omega, by omega, ?_⟩
          refine SubI.of0 href [] rfl ⟨⟨rfl, LeBx.rfl⟩, ⟨rfl, LeBx.rfl⟩, ⟨rfl, LeBx.rfl⟩, ⟨rfl, LeBx.rfl⟩, ⟨rfl, LeBx.rfl⟩, ⟨rfl, LeBx.rfl⟩, ⟨rfl, LeBx.rfl⟩, ⟨rfl, LeBx.row rfl fun k j hk hj => LeD.of_eq (lowF_next hj ?_)⟩, trivial⟩ ⟨⟨rfl, LeQ.rfl⟩, ⟨rfl, LeQ.rfl⟩, ⟨rfl, LeQ.rfl⟩, ⟨rfl, LeQ.rfl⟩, ⟨rfl, LeQ.rfl⟩, ⟨rfl, LeQ.rfl⟩, ⟨rfl, LeQ.int (w64_of (by omega) (by omega))⟩, trivial⟩
          unfold twoV; rw [h3, h4]
          show mm true (-20000) (w64 ((if i < i + 1 then oneV c g p i else g.levels.getD i 0) - (w64 (w64 q + w64 (37 * i))).tmod 700)) = mm true (-20000) (w64 (oneV c g p i - (w64 (w64 q + w64 (37 * i))).tmod 700))
          rw [if_pos (Nat.lt_succ_self i)]
        · have h4 : (g.levels.getD i 0 != 30000) = false := h4
          have eo : oneV c g p i = g.levels.getD i 0 := by unfold oneV; rw [h3, h4]; rfl
          have et : twoV c g p q i = g.levels.getD i 0 := by unfold twoV; rw [h3, h4]; rfl
          refine ex.sound (rc := [1000037]) tab_ok mix href _ ?_
          refine ex.sound (rc := [1000037]) tab_ok mix href _ ?_
          refine ⟨i + 1, by omega, by omega, ?_⟩
          exact SubI.of0 href [] rfl ⟨⟨rfl, LeBx.rfl⟩, ⟨rfl, LeBx.rfl⟩, ⟨rfl, LeBx.rfl⟩, ⟨rfl, LeBx.rfl⟩, ⟨rfl, LeBx.rfl⟩, ⟨rfl, LeBx.rfl⟩, ⟨rfl, LeBx.row rfl fun k j hk hj => LeD.of_eq (lowF_same eo)⟩, ⟨rfl, LeBx.row rfl fun k j hk hj => LeD.of_eq (lowF_same et)⟩, trivial⟩ ⟨⟨rfl, LeQ.rfl⟩, ⟨rfl, LeQ.rfl⟩, ⟨rfl, LeQ.rfl⟩, ⟨rfl, LeQ.rfl⟩, ⟨rfl, LeQ.rfl⟩, ⟨rfl, LeQ.rfl⟩, ⟨rfl, LeQ.int (w64_of (by omega) (by omega))⟩, trivial⟩
    · have h : ¬ (i : Int) < g.levels.length := decF h
      obtain rfl : i = g.levels.length := by omega
      have e1 := errG_one hv g2 hp hq
      have e2 := errG_two hv g2 hp hq
      have k1 : (oneG c g p).ok := ok_levels hg (by omega) fun i hi => by
        rcases cuts_cell hv gv hp hq hi with h | h <;> omega
      have k2 : (twoG c g p q).ok := ok_levels hg (by omega) fun i hi => by
        rcases cuts_cell hv gv hp hq hi with h | h <;> omega
      have hl1 : (oneG c g p).levels.length = g.levels.length := by simp [oneG]
      have w1 := withErr2_of (c := c) g1 g2 e1 (alike_same g _)
      have w2 := withErr2_of (c := c) g1 g2 e2 (alike_same g _)
      have w3 : withErr c [oneG c g p, twoG c g p q] = 0 := withErr2_of g1 e1 e2 (alike_same (oneG c g p) _)
      obtain ⟨p0, p1, o0, o1, a0, a1, b0, b1, hcut, hfill, htw⟩ := cutsI hv g2 hp hq g.levels.length (Nat.le_refl _)
      have eC : cmpR g (twoG c g p q) = (chF g (twoG c g p q) (-20000) 20000 g.levels.length, 0) := by unfold cmpR; rw [show err2 g (twoG c g p q) = 0 from err2_of g2 e2]; rfl
      have hC := gCompare g (twoG c g p q) hg k2
      have hP := gPaid c g (twoG c g p q) hc hg k2
      have hO := gOvercut c g (twoG c g p q) hc hg k2
      have hA := gPaid c g (oneG c g p) hc hg k1
      have hB := gPaid c (oneG c g p) (twoG c g p q) hc k1 k2
      rw [eC] at hC
      rw [remF_zero w2, w2] at hP hO
      rw [remF_zero w1, w1] at hA
      rw [remF_zero w3, w3, hl1] at hB
      generalize chF g (twoG c g p q) (-20000) 20000 g.levels.length = S at *
      generalize payL paidH c g (twoG c g p q) g.levels.length = P at *
      generalize payL overH c g (twoG c g p q) g.levels.length = O at *
      generalize payL paidH c g (oneG c g p) g.levels.length = A at *
      generalize payL paidH c (oneG c g p) (twoG c g p q) g.levels.length = B at *
      refine callN (hC.conv (args' := _) ⟨⟨LeD.refl _, LeD.refl _, LeD.refl _, LeD.refl _, LeD.refl _, LeD.refl _, trivial⟩, ⟨LeD.refl _, LeD.refl _, LeD.refl _, LeD.refl _, LeD.refl _, lowF_le, trivial⟩, trivial⟩) ?_
      refine callN (hP.conv (args' := _) ⟨⟨LeD.refl _, LeD.refl _, LeD.refl _, LeD.refl _, LeD.refl _, trivial⟩, ⟨LeD.refl _, LeD.refl _, LeD.refl _, LeD.refl _, LeD.refl _, LeD.refl _, trivial⟩, ⟨LeD.refl _, LeD.refl _, LeD.refl _, LeD.refl _, LeD.refl _, lowF_le, trivial⟩, trivial⟩) ?_
      refine callN (hO.conv (args' := _) ⟨⟨LeD.refl _, LeD.refl _, LeD.refl _, LeD.refl _, LeD.refl _, trivial⟩, ⟨LeD.refl _, LeD.refl _, LeD.refl _, LeD.refl _, LeD.refl _, LeD.refl _, trivial⟩, ⟨LeD.refl _, LeD.refl _, LeD.refl _, LeD.refl _, LeD.refl _, lowF_le, trivial⟩, trivial⟩) ?_
      repeat first | refine sk ?_ | refine st ?_ | refine sg ?_ | refine sh ?_ | refine su ?_ | refine sn1 ?_ | refine sn0 ?_
      refine And.intro (fun h5 => ?_) (fun _ => ?_)
      · exfalso
        have h5 : (((((0 : Int) != 0 || (0 : Int) != 0) || (0 : Int) != 0) || S.fill != 0) || S.cut != w64 (P + O)) = true := h5
        rw [hfill, hcut, w64_of (by omega) (by omega)] at h5
        simp at h5
      refine callN (hA.conv (args' := _) ⟨⟨LeD.refl _, LeD.refl _, LeD.refl _, LeD.refl _, LeD.refl _, trivial⟩, ⟨LeD.refl _, LeD.refl _, LeD.refl _, LeD.refl _, LeD.refl _, LeD.refl _, trivial⟩, ⟨LeD.refl _, LeD.refl _, LeD.refl _, LeD.refl _, LeD.refl _, lowF_le, trivial⟩, trivial⟩) ?_
      refine callN (hB.conv (args' := _) ⟨⟨LeD.refl _, LeD.refl _, LeD.refl _, LeD.refl _, LeD.refl _, trivial⟩, ⟨LeD.refl _, LeD.refl _, LeD.refl _, LeD.refl _, LeD.refl _, lowF_le, trivial⟩, ⟨LeD.refl _, LeD.refl _, LeD.refl _, LeD.refl _, LeD.refl _, lowF_le, trivial⟩, trivial⟩) ?_
      repeat first | refine sk ?_ | refine st ?_ | refine sg ?_ | refine sh ?_ | refine su ?_ | refine sn1 ?_ | refine sn0 ?_
      refine SubR.of_eq ?_
      show vB ((((0 : Int) == 0) && ((0 : Int) == 0)) && w64 (A + B) == P) = vB true
      rw [w64_of (by omega) (by omega), htw]
      simp
end Go.Ch
