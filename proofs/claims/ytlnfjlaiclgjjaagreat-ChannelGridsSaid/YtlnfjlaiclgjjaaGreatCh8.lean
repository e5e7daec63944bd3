/- Part Ch8: lemmas that the proofs of this seat share; by itself it claims nothing. -/
import Derived.Test.YtlnfjlaiclgjjaaGreatCh4
namespace Go.Ch
open Go Go.Ax Go.Proofs Go.Proofs.Tryz
set_option maxRecDepth 100000
set_option pp.maxSteps 400
set_option maxHeartbeats 1000000

abbrev uI (x : Int) : AV := .s (.d (.val (.int .u64 x)))
abbrev duI (x : Int) : DV := .val (.int .u64 x)
theorem u64_of {n : Int} (h : 0 ≤ n) (k : n ≤ 18446744073709551615) : IntKind.u64.wrap n = n := by
  rw [IntKind.wrap_u64]; omega
theorem andM {y : Int} (h : 0 ≤ y) (k : y < 4294967296) : andI .u64 y 4294967295 = y := by
  obtain ⟨n, rfl⟩ := Int.eq_ofNat_of_zero_le h
  have hn : n < 4294967296 := by omega
  unfold andI
  have e : (BitVec.ofInt IntKind.u64.bits (n : Int) &&& BitVec.ofInt IntKind.u64.bits 4294967295).toNat = n := by
    show (BitVec.ofInt 64 (n : Int) &&& BitVec.ofInt 64 4294967295).toNat = n
    rw [BitVec.toNat_and, show (BitVec.ofInt 64 4294967295).toNat = 2 ^ 32 - 1 from rfl, Nat.and_two_pow_sub_one_eq_mod, BitVec.toNat_ofInt]
    omega
  rw [e]
  exact u64_of (by omega) (by omega)
theorem shr0 {y : Int} (h : 0 ≤ y) (k : y < 4294967296) : shrI .u64 y 32 = 0 := by
  show y.fdiv 4294967296 = 0
  rw [Int.fdiv_eq_ediv_of_nonneg _ (by omega)]
  omega
theorem Mul64 (n : Int) (h : 0 ≤ n) (k : n < 4294967296) : CallP Tryz.prog 185 [uI 1, uI n] (.t [.s (.d (duI 0)), .s (.d (duI n))]) := by
  refine callP_of_ex (rc := []) (N := 51) Tryz.func185 rfl rfl Tryz.call185 tab_ok mix rfl rfl (fun cx _ => ?_)
  refine oi (by decide) ?_
  refine oi (by decide) ?_
  refine oi (by decide) ?_
  refine oi (by decide) ?_
  refine oi (by decide) ?_
  refine SubR.of_eq ?_
  have e1 : andI .u64 1 4294967295 = 1 := andM (by decide) (by decide)
  have e2 : shrI .u64 1 32 = 0 := shr0 (by decide) (by decide)
  have e3 := andM h k
  have e4 := shr0 h k
  have e5 : IntKind.u64.wrap n = n := u64_of h (by omega)
  have e6 : IntKind.u64.wrap 0 = 0 := rfl
  have e7 : andI .u64 0 4294967295 = 0 := andM (by decide) (by decide)
  have e8 : shrI .u64 0 32 = 0 := shr0 (by decide) (by decide)
  show AV.t [.s (.d (.val (.int .u64 _))), .s (.d (.val (.int .u64 _)))] = _
  simp only [e1, e2, e3, e4, e5, e6, e7, e8, Int.one_mul, Int.zero_mul, Int.mul_zero, Int.add_zero]
theorem Mul (n : Int) (h : 0 ≤ n) (k : n < 4294967296) : CallP Tryz.prog 182 [uI 1, uI n] (.t [.s (.d (duI 0)), .s (.d (duI n))]) := by
  refine callP_of_ex (rc := []) (N := 30) Tryz.func182 rfl rfl Tryz.call182 tab_ok mix rfl rfl (fun cx _ => ?_)
  refine callN (Mul64 n h k) ?_
  exact SubR.refl _

/-- The row while it is filled. -/
def fillF (v : Int) (k : Nat) : Nat → Nat → DV := fun i _ => if i < k then dI v else dI 0
theorem cpF_fill {v : Int} {k q : Nat} {i j : Nat} (hq : q ≤ k) : cpF k q (fillF v k) (fun i => fillF v k (0 + i)) i j = fillF v (k + q) i j := by
  unfold cpF
  show (if k ≤ i ∧ i < k + q then (if 0 + (i - k) < k then dI v else dI 0) else (if i < k then dI v else dI 0)) = (if i < k + q then dI v else dI 0)
  by_cases h1 : k ≤ i ∧ i < k + q
  · rw [if_pos h1, if_pos (by omega), if_pos (by omega)]
  · rw [if_neg h1]
    by_cases h2 : i < k
    · rw [if_pos h2, if_pos (by omega)]
    · rw [if_neg h2, if_neg (by omega)]
theorem RepeatO {f : Nat → Nat → DV} {v : Int} {n : Nat} (hf : f 0 0 = dI v) (hn : n ≤ 1000000) : CallR Tryz.prog 168 [.s (.own 1001), vI n] [(1001, .row 3 1 1 f)] (.s (.own 30)) [(1001, .row 3 1 1 f), (30, .row 3 n 1 (fillF v n))] := by
  refine callO_of_ex (rc := []) (N := 48) Tryz.func168 rfl rfl Tryz.call168 tab_ok mix rfl rfl rfl rfl (fun cx href => ?_)
  refine And.intro (fun h => absurd (decT h) (by omega)) (fun _ => ?_)
  have e1 : IntKind.u64.wrap (1 : Int) = 1 := rfl
  have e2 : IntKind.u64.wrap (n : Int) = n := u64_of (by omega) (by omega)
  have hM : CallP Tryz.prog 182 [uI (IntKind.u64.wrap ((1 : Nat) : Int)), uI (IntKind.u64.wrap n)] (.t [.s (.d (duI 0)), .s (.d (duI n))]) := by
    rw [e2]; exact Mul n (by omega) (by omega)
  refine callN hM ?_
  repeat first | refine sk ?_ | refine st ?_ | refine sg ?_
  refine And.intro (fun h => ?_) (fun _ => ?_)
  · have h : (decide ((0 : Int) > 0) || decide ((n : Int) > 9223372036854775807)) = true := h
    simp only [gt_iff_lt, Int.lt_irrefl, decide_false, Bool.false_or, decide_eq_true_eq] at h
    omega
  have e3 : IntKind.i64.wrap (n : Int) = n := w64_of (by omega) (by omega)
  refine ob (show 0 ≤ IntKind.i64.wrap (n : Int) by omega) ?_
  refine ob (Int.le_refl _) ?_
  refine ob (show ((8 : Nat) : Int) * IntKind.i64.wrap (n : Int) ≤ _ by omega) ?_
  refine ob (fun k j hk hj => ?_) ?_
  · obtain rfl : k = 0 := by omega
    obtain rfl : j = 0 := by omega
    rw [hf]; rfl
  refine AW.loopI (fun k : Nat => ⟨[(7, .s (.own 30)), (8, vI k)], [(30, some (.row 3 n 1 (fillF v k))), (1001, some (.row 3 1 1 f))]⟩)
    (fun k => k ≤ n ∧ (0 < n → 0 < k)) (fun k => n - k) (min 1 n) (by omega) ?_ ?_
  · refine SubI.of [] (by rw [href]; rfl) rfl ⟨⟨rfl, LeBx.row (by rw [e3]; rfl) fun k j hk hj => LeD.of_eq ?_⟩, ⟨rfl, LeBx.rfl⟩, trivial⟩ ⟨⟨rfl, LeQ.rfl⟩, ⟨rfl, LeQ.int ?_⟩, trivial⟩
    · have hj : j = 0 := by have : j < 1 := hj; omega
      subst hj
      have hk : k < (IntKind.i64.wrap (n : Int)).toNat := hk
      rw [e3] at hk ⊢
      show (if 0 ≤ k ∧ k < 0 + Nat.min 1 n then f (k - 0) 0 else dI 0) = (if k < min 1 n then dI v else dI 0)
      rw [Nat.zero_add]
      by_cases h1 : k < min 1 n
      · obtain rfl : k = 0 := by omega
        rw [if_pos h1, if_pos ⟨Nat.zero_le _, h1⟩, hf]
      · rw [if_neg h1, if_neg (fun h => h1 h.2)]
    · rw [e3]; rfl
  · intro k ⟨hk, hk0⟩
    refine ex.sound (rc := []) tab_ok mix href _ ?_
    refine And.intro (fun h => ?_) (fun h => ?_)
    · have h : (k : Int) < n := decT h
      refine oi (show 0 ≤ (k : Int) ∧ (k : Int) ≤ (n : Int) ∧ (n : Int) ≤ n by omega) ?_
      refine oi (show (0 : Int) ≤ 0 ∧ (0 : Int) ≤ (k : Int) ∧ (k : Int) ≤ n by omega) ?_
      refine ob (fun i j _ _ => ?_) ?_
      · show (if 0 + i < k then dI v else dI 0).fit = true
        split <;> rfl
      refine And.intro (by kernel_rfl) ?_
      have hq : Nat.min (k - 0) (n - k) ≤ k := Nat.min_le_left _ _
      have hq2 : Nat.min (k - 0) (n - k) ≤ n - k := Nat.min_le_right _ _
      have hq3 : 0 < Nat.min (k - 0) (n - k) := Nat.lt_min.2 ⟨by omega, by omega⟩
      refine ⟨k + Nat.min (k - 0) (n - k), ⟨by omega, by omega⟩, by omega, ?_⟩
      refine SubI.of [] (by rw [href]; rfl) rfl ⟨⟨rfl, LeBx.row rfl fun i j hi hj => LeD.of_eq ?_⟩, ⟨rfl, LeBx.rfl⟩, trivial⟩ ⟨⟨rfl, LeQ.rfl⟩, ⟨rfl, LeQ.int ?_⟩, trivial⟩
      · show cpF k (Nat.min (k - 0) (n - k)) (fillF v k) (fun i => fillF v k (0 + i)) i j = _
        exact cpF_fill hq
      · show w64 ((k : Int) + ((Nat.min (k - 0) (n - k) : Nat) : Int)) = _
        rw [w64_of (by omega) (by omega)]; omega
    · have h : ¬ (k : Int) < n := decF h
      obtain rfl : k = n := by omega
      exact ⟨LeQ.rfl, rfl, rfl, trivial⟩
theorem FrameO (g : Grid) (hg : GVal g) : CallR Tryz.prog 140 [grid g] [] (.g [.d (dI g.x), .d (dI g.y), .d (dI g.side), .d (dI g.cols), .d (dI g.rows), .own 601]) [(601, .row 3 g.levels.length 1 (fillF 30000 g.levels.length))] := by
  have hn := hg.n
  have e : w64 (g.cols * g.rows) = (g.levels.length : Int) := by rw [← hg.len]; exact w64_of (by omega) (by omega)
  refine callO_of_ex (rc := [168]) (N := 12) Tryz.func140 rfl rfl Tryz.call140 tab_ok mix rfl rfl rfl rfl (fun cx _ => ?_)
  refine ⟨[(1001, 3), (30, 601)], _, _, _, _, RepeatO (v := 30000) (n := g.levels.length) rfl (by omega), congrArg (fun n => [_, vI n]) e, ⟨rfl, trivial⟩, rfl, ?_⟩
  exact ⟨LeQ.rfl, rfl, trivial⟩
end Go.Ch

namespace Go.Ch
open Go Go.Ax Go.Proofs Go.Proofs.Tryz
set_option maxRecDepth 100000
set_option pp.maxSteps 400
set_option maxHeartbeats 1000000

abbrev rGE (g : Grid) (e : Int) : AV := .t [.g [.d (dI g.x), .d (dI g.y), .d (dI g.side), .d (dI g.cols), .d (dI g.rows), .d (dInts g.levels)], .s (.d (dI e))]
def zeroG : Grid := ⟨0, 0, 0, 0, 0, []⟩
theorem zero_rGE {e e' : Int} (h : e = e') : SubR (.t [.g (zvs ty28.zero), .s (.d (dI e))]) (rGE zeroG e') := by
  subst h
  exact SubR.t ⟨⟨LeD.refl _, LeD.refl _, LeD.refl _, LeD.refl _, LeD.refl _, LeD.nil, trivial⟩, LeD.refl _, trivial⟩
/-- The program's grid of levels of the design, less something. -/
def gridR (c : Chan) (g : Grid) (less : Int) : Grid × Int := bif withErr c [g] != 0 then (zeroG, withErr c [g]) else (designG c g less, 0)
def dgP (c : Chan) (g : Grid) (less : Int) (i : Nat) : Nat → Nat → DV := fun k _ => dI (if k < i then cellT c g less k else 30000)
attribute [local irreducible] errG errC in
theorem gGrid (c : Chan) (g : Grid) (less : Int) (hc : c.ok) (hg : g.ok) : CallP Tryz.prog 88 [chan c, grid g, vI less] (rGE (gridR c g less).1 (gridR c g less).2) := by
  refine callP_of_ex (rc := [140]) (N := 46) Tryz.func88 rfl rfl Tryz.call88 tab_ok mix rfl rfl (fun cx href => ?_)
  refine callN (cboth c g hc hg) ?_
  refine And.intro (fun h1 => ?_) (fun h1 => ?_)
  · have h1 : (withErr c [g] != 0) = true := h1
    have e : gridR c g less = (zeroG, withErr c [g]) := by unfold gridR; rw [h1]; rfl
    rw [e]
    exact zero_rGE rfl
  have h1 : (withErr c [g] != 0) = false := h1
  have h0 : withErr c [g] = 0 := by simpa using h1
  obtain ⟨e1, e2⟩ := withErr1_zero h0
  have e : gridR c g less = (designG c g less, 0) := by unfold gridR; rw [h1]; rfl
  rw [e]
  have hv := val_of c e1
  have gv := GVal.of e2
  have hn := gv.n
  refine ⟨[(601, 601)], _, _, _, _, FrameO g gv, rfl, trivial, rfl, ?_⟩
  refine AW.loopI (fun i : Nat => ⟨[(2, vI less), (3, .s (.ptr 3 0)), (4, .s (.ptr 4 0)), (6, .s (.ptr 6 0)), (9, .s (.ptr 9 0)), (24, vI g.levels.length), (25, vI i)],
      [(3, some (chanB c)), (4, some (gridB g)), (6, some (.cells [.d (dI 0), .d (dI 0), .d (dI 0), .d (dI 0), .d (dI 0), .d (.val (.slice none 0 0))])), (9, some (.cells [.d (dI g.x), .d (dI g.y), .d (dI g.side), .d (dI g.cols), .d (dI g.rows), .own 601])), (601, some (.row 3 g.levels.length 1 (dgP c g less i)))]⟩)
    (fun i => i ≤ g.levels.length) (fun i => g.levels.length - i) 0 (Nat.zero_le _) ?_ ?_
  · refine SubI.of0 href [] rfl ⟨⟨rfl, LeBx.rfl⟩, ⟨rfl, LeBx.rfl⟩, ⟨rfl, LeBx.rfl⟩, ⟨rfl, LeBx.rfl⟩, ⟨rfl, LeBx.row rfl fun k j hk _ => LeD.of_eq ?_⟩, trivial⟩ ⟨⟨rfl, LeQ.rfl⟩, ⟨rfl, LeQ.rfl⟩, ⟨rfl, LeQ.rfl⟩, ⟨rfl, LeQ.rfl⟩, ⟨rfl, LeQ.rfl⟩, ⟨rfl, LeQ.rfl⟩, ⟨rfl, LeQ.rfl⟩, trivial⟩
    unfold fillF dgP
    rw [if_pos hk, if_neg (Nat.not_lt_zero k)]
  · intro i hi
    refine ex.sound (rc := [140]) tab_ok mix href _ ?_
    refine And.intro (fun h => ?_) (fun h => ?_)
    · have h : (i : Int) < g.levels.length := decT h
      have hi' : i < g.levels.length := by omega
      have hgd := (centre_good gv hi').1
      refine callN (ccentre g i e2 (by omega) h (by omega)) ?_
      refine callN (design c (centreG g i) hv hgd) ?_
      refine And.intro (by kernel_rfl) ?_
      refine And.intro (fun h2 => ?_) (fun h2 => ?_)
      · have h2 : (desF c (centreG g i)).2 = true := h2
        have e : cellT c g less i = w64 ((desF c (centreG g i)).1 - less) := by unfold cellT; rw [h2]; rfl
        refine oi ⟨by omega, by omega⟩ ?_
        refine ob hi' ?_
        refine ⟨i + 1, by omega, by omega, ?_⟩
        refine SubI.of0 href [] rfl ⟨⟨rfl, LeBx.rfl⟩, ⟨rfl, LeBx.rfl⟩, ⟨rfl, LeBx.rfl⟩, ⟨rfl, LeBx.rfl⟩, ⟨rfl, LeBx.row rfl fun k j hk hj => LeD.of_eq ?_⟩, trivial⟩ ⟨⟨rfl, LeQ.rfl⟩, ⟨rfl, LeQ.rfl⟩, ⟨rfl, LeQ.rfl⟩, ⟨rfl, LeQ.rfl⟩, ⟨rfl, LeQ.rfl⟩, ⟨rfl, LeQ.rfl⟩, ⟨rfl, LeQ.int (w64_of (by omega) (by omega))⟩, trivial⟩
        have hj : j = 0 := by have : j < 1 := hj; omega
        subst hj
        by_cases hki : k = i
        · subst hki
          refine rowSet_self.trans ?_
          unfold dgP
          rw [if_pos (Nat.lt_succ_self _), e]
        · refine (rowSet_ne hki).trans ?_
          unfold dgP
          by_cases hlt : k < i
          · rw [if_pos hlt, if_pos (by omega)]
          · rw [if_neg hlt, if_neg (by omega)]
      · have h2 : (desF c (centreG g i)).2 = false := h2
        have e : cellT c g less i = 30000 := by unfold cellT; rw [h2]; rfl
        refine ⟨i + 1, by omega, by omega, ?_⟩
        refine SubI.of0 href [] rfl ⟨⟨rfl, LeBx.rfl⟩, ⟨rfl, LeBx.rfl⟩, ⟨rfl, LeBx.rfl⟩, ⟨rfl, LeBx.rfl⟩, ⟨rfl, LeBx.row rfl fun k j hk hj => LeD.of_eq ?_⟩, trivial⟩ ⟨⟨rfl, LeQ.rfl⟩, ⟨rfl, LeQ.rfl⟩, ⟨rfl, LeQ.rfl⟩, ⟨rfl, LeQ.rfl⟩, ⟨rfl, LeQ.rfl⟩, ⟨rfl, LeQ.rfl⟩, ⟨rfl, LeQ.int (w64_of (by omega) (by omega))⟩, trivial⟩
        unfold dgP
        by_cases hki : k = i
        · subst hki
          rw [if_neg (Nat.lt_irrefl _), if_pos (Nat.lt_succ_self _), e]
        · by_cases hlt : k < i
          · rw [if_pos hlt, if_pos (by omega)]
          · rw [if_neg hlt, if_neg (by omega)]
    · have h : ¬ (i : Int) < g.levels.length := decF h
      have hi' : i = g.levels.length := by omega
      subst hi'
      refine SubR.t ⟨⟨LeD.refl _, LeD.refl _, LeD.refl _, LeD.refl _, LeD.refl _, LeD.slc' (by simp [designG]) fun k j hk hj => LeD.of_eq ?_, trivial⟩, LeD.refl _, trivial⟩
      unfold dgP intEl
      rw [if_pos hk]
      congr 2
      simp [designG, hk]
theorem gDesignGrid (c : Chan) (g : Grid) (hc : c.ok) (hg : g.ok) : CallP Tryz.prog 36 [chan c, grid g] (rGE (gridR c g 0).1 (gridR c g 0).2) := by
  refine callP_of_ex (rc := []) (N := 11) Tryz.func36 rfl rfl Tryz.call36 tab_ok mix rfl rfl (fun cx href => ?_)
  refine callN (gGrid c g 0 hc hg) ?_
  exact SubR.refl _
theorem gToleranceGrid (c : Chan) (g : Grid) (hc : c.ok) (hg : g.ok) : CallP Tryz.prog 38 [chan c, grid g] (rGE (gridR c g c.over).1 (gridR c g c.over).2) := by
  refine callP_of_ex (rc := []) (N := 13) Tryz.func38 rfl rfl Tryz.call38 tab_ok mix rfl rfl (fun cx href => ?_)
  refine callN (gGrid c g c.over hc hg) ?_
  exact SubR.refl _
end Go.Ch

namespace Go.Ch
open Go Go.Ax Go.Proofs Go.Proofs.Tryz
set_option maxRecDepth 100000
set_option pp.maxSteps 400
set_option maxHeartbeats 1000000

theorem rSame (g : Grid) (hl : g.levels.length ≤ 1000000) : CallP Tryz.prog 39 [grid g, grid g] (vB true) := by
  refine callP_of_ex (rc := []) (N := 45) Tryz.func39 rfl rfl Tryz.call39 tab_ok mix rfl rfl (fun cx href => ?_)
  repeat first | refine sk ?_ | refine st ?_ | refine sg ?_ | refine sh ?_ | refine su ?_ | refine sn1 ?_ | refine sn0 ?_
  refine callG (rIntsEq g.levels hl) ?_
  repeat first | refine sk ?_ | refine st ?_ | refine sg ?_ | refine sh ?_ | refine su ?_ | refine sn1 ?_ | refine sn0 ?_
  refine SubR.of_eq ?_
  show vB (((((g.x == g.x && g.y == g.y) && g.side == g.side) && g.cols == g.cols) && g.rows == g.rows) && true) = vB true
  simp
theorem errG_levels {g : Grid} {l : List Int} (h : errG g = 0) (hn : l.length = g.levels.length) (hb : l.any badL = false) : errG { g with levels := l } = 0 := by
  unfold errG at h ⊢
  rw [show e1 { g with levels := l } = e1 g from rfl]
  cases h1 : e1 g with
  | true => rw [h1] at h; cases h
  | false =>
    rw [h1] at h
    simp only [cond_false, hn, hb] at h ⊢
    cases h2 : decide (w64 (g.cols * g.rows) > 1024) with
    | true => rw [h2] at h; cases h
    | false =>
      rw [h2] at h
      simp only [cond_false] at h ⊢
      cases h3 : (decide (w64 (g.x + w64 (g.cols * g.side)) > 1000000) || decide (w64 (g.y + w64 (g.rows * g.side)) > 1000000)) with
      | true => rw [h3] at h; cases h
      | false =>
        rw [h3] at h
        simp only [cond_false] at h ⊢
        cases h4 : ((g.levels.length : Int) != w64 (g.cols * g.rows)) with
        | true => rw [h4] at h; cases h
        | false => rfl
theorem errG_tol {c : Chan} {g : Grid} (hv : Val c) (he : errG g = 0) : errG (designG c g c.over) = 0 := by
  have gv := GVal.of he
  refine errG_levels he (by simp) ?_
  rw [List.any_eq_false]
  intro n hn
  rw [List.mem_map] at hn
  obtain ⟨i, hi, rfl⟩ := hn
  have hi := List.mem_range.1 hi
  have ho := hv.over
  unfold cellT
  cases h : (desF c (centreG g i)).2 with
  | false => simp [badL]
  | true =>
    have hd := desF_ok hv (centre_good gv hi).1 h
    generalize (desF c (centreG g i)).1 = D at *
    simp only [cond_true]
    rw [w64_of (by omega) (by omega)]
    simp [badL, within]
    omega
theorem few_len {g : Grid} (h : few g = true) : g.levels.length ≤ 1100 := by
  unfold few at h
  simp only [Bool.or_eq_true, Bool.and_eq_true, decide_eq_true_eq] at h
  omega
attribute [local irreducible] withErr few small designG errG in
theorem Grids (c : Chan) (g : Grid) (hc : c.ok) (hg : g.ok) : CallP Tryz.prog 8 [chan c, grid g] (vB true) := by
  refine callP_of_ex (rc := []) (N := 87) Tryz.func8 rfl rfl Tryz.call8 tab_ok mix rfl rfl (fun cx href => ?_)
  refine callN awake ?_
  refine And.intro (fun h => by cases h) (fun _ => ?_)
  refine callN (Small c hc) ?_
  repeat first | refine sk ?_ | refine st ?_ | refine sg ?_ | refine sh ?_ | refine su ?_ | refine sn1 ?_ | refine sn0 ?_
  refine callG (Few g hg.levels) ?_
  repeat first | refine sk ?_ | refine st ?_ | refine sg ?_ | refine sh ?_ | refine su ?_ | refine sn1 ?_ | refine sn0 ?_
  refine And.intro (fun _ => SubR.lit rfl) (fun h1 => ?_)
  have h1 : (!small c || !few g) = false := h1
  have hs : small c = true := by
    cases h : small c
    · rw [h] at h1; cases h1
    · rfl
  have hf : few g = true := by
    cases h : few g
    · rw [h, Bool.not_false, Bool.or_true] at h1; cases h1
    · rfl
  have hgl := few_len hf
  refine callN (Copied c (Sm.of hs)) ?_
  refine callN (CopyGrid g (by omega)) ?_
  refine callN (gDesignGrid c g hc hg) ?_
  refine And.intro (by kernel_rfl) ?_
  refine callN (Copied c (Sm.of hs)) ?_
  refine callN (CopyGrid g (by omega)) ?_
  refine callN (gToleranceGrid c g hc hg) ?_
  refine And.intro (by kernel_rfl) ?_
  refine callN ((rWith c [g] hc (by intro x hx; simp at hx; subst hx; exact hg) (by simp)).conv (args' := _) ⟨⟨LeD.refl _, LeD.refl _, LeD.refl _, LeD.refl _, LeD.refl _, trivial⟩, LeD.slc' rfl fun i j hi hj => LeD.of_eq ?_, trivial⟩) ?_
  · match i, j, hi, hj with
    | 0, 0, _, _ => rfl
    | 0, 1, _, _ => rfl
    | 0, 2, _, _ => rfl
    | 0, 3, _, _ => rfl
    | 0, 4, _, _ => rfl
    | 0, 5, _, _ => rfl
  refine And.intro (fun h2 => ?_) (fun h2 => ?_)
  · have h2 : (withErr c [g] != 0) = true := h2
    rw [show gridR c g 0 = (zeroG, withErr c [g]) by unfold gridR; rw [h2]; rfl, show gridR c g c.over = (zeroG, withErr c [g]) by unfold gridR; rw [h2]; rfl]
    repeat first | refine sk ?_ | refine st ?_ | refine sg ?_ | refine sh ?_ | refine su ?_ | refine sn1 ?_ | refine sn0 ?_
    refine callG ((rSame zeroG (by decide)).conv (args' := _) ⟨⟨LeD.refl _, LeD.refl _, LeD.refl _, LeD.refl _, LeD.refl _, LeD.refl _, trivial⟩, ⟨LeD.refl _, LeD.refl _, LeD.refl _, LeD.refl _, LeD.refl _, LeD.nil, trivial⟩, trivial⟩) ?_
    repeat first | refine sk ?_ | refine st ?_ | refine sg ?_ | refine sh ?_ | refine su ?_ | refine sn1 ?_ | refine sn0 ?_
    refine callG ((rSame zeroG (by decide)).conv (args' := _) ⟨⟨LeD.refl _, LeD.refl _, LeD.refl _, LeD.refl _, LeD.refl _, LeD.refl _, trivial⟩, ⟨LeD.refl _, LeD.refl _, LeD.refl _, LeD.refl _, LeD.refl _, LeD.nil, trivial⟩, trivial⟩) ?_
    repeat first | refine sk ?_ | refine st ?_ | refine sg ?_ | refine sh ?_ | refine su ?_ | refine sn1 ?_ | refine sn0 ?_
    refine SubR.of_eq ?_
    show vB (((withErr c [g] == withErr c [g] && withErr c [g] == withErr c [g]) && true) && true) = vB true
    simp
  · have h2 : (withErr c [g] != 0) = false := h2
    have h0 : withErr c [g] = 0 := by simpa using h2
    obtain ⟨g1, g2⟩ := withErr1_zero h0
    have hv := val_of c g1
    have gv := GVal.of g2
    have hn := gv.n
    have hd0 : (designG c g 0).levels.length = g.levels.length := designG_len _ _ _
    have hd1 : (designG c g c.over).levels.length = g.levels.length := designG_len _ _ _
    rw [show gridR c g 0 = (designG c g 0, 0) by unfold gridR; rw [h2]; rfl, show gridR c g c.over = (designG c g c.over, 0) by unfold gridR; rw [h2]; rfl]
    repeat first | refine sk ?_ | refine st ?_ | refine sg ?_ | refine sh ?_ | refine su ?_ | refine sn1 ?_ | refine sn0 ?_
    refine callG (rDesignGrid c g 0 hv gv) ?_
    repeat first | refine sk ?_ | refine st ?_ | refine sg ?_ | refine sh ?_ | refine su ?_ | refine sn1 ?_ | refine sn0 ?_
    refine callG (rSame (designG c g 0) (by omega)) ?_
    repeat first | refine sk ?_ | refine st ?_ | refine sg ?_ | refine sh ?_ | refine su ?_ | refine sn1 ?_ | refine sn0 ?_
    refine callG (rDesignGrid c g c.over hv gv) ?_
    repeat first | refine sk ?_ | refine st ?_ | refine sg ?_ | refine sh ?_ | refine su ?_ | refine sn1 ?_ | refine sn0 ?_
    refine callG (rSame (designG c g c.over) (by omega)) ?_
    repeat first | refine sk ?_ | refine st ?_ | refine sg ?_ | refine sh ?_ | refine su ?_ | refine sn1 ?_ | refine sn0 ?_
    refine callG (bcheck (designG c g c.over) (by omega)) ?_
    repeat first | refine sk ?_ | refine st ?_ | refine sg ?_ | refine sh ?_ | refine su ?_ | refine sn1 ?_ | refine sn0 ?_
    refine And.intro (by kernel_rfl) ?_
    refine SubR.of_eq ?_
    show vB ((((((0 : Int) == 0) && ((0 : Int) == 0)) && true) && true) && errG (designG c g c.over) == 0) = vB true
    rw [errG_tol hv g2]; rfl
end Go.Ch
