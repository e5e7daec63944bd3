/- Part Ch8: lemmas that the proofs of this seat share; by itself it claims nothing. -/
import Derived.Test.YtbocnnfadfbmeaaGreatCh4
namespace Go.Ch
open Go Go.Ax Go.Proofs Go.Proofs.Tryz
set_option maxRecDepth 100000
set_option pp.maxSteps 400
set_option maxHeartbeats 1000000

abbrev uI (x : Int) : AV := .s (.d (.val (.int .u64 x)))
abbrev duI (x : Int) : DV := .val (.int .u64 x)
theorem u64_of {n : Int} (h : 0 ≤ n) (k : n ≤ 18446744073709551615) : IntKind.u64.wrap n = n := by
  rw [IntKind.wrap_u64]; omega
theorem andM {y : Int} (h : 0 ≤ y) (k : y < 4294967296) : andI .u64 y 4294967295 = y := by
  obtain ⟨n, rfl⟩ := Int.eq_ofNat_of_zero_le h
  have hn : n < 4294967296 := by omega
  unfold andI
  have e : (BitVec.ofInt IntKind.u64.bits (n : Int) &&& BitVec.ofInt IntKind.u64.bits 4294967295).toNat = n := by
    show (BitVec.ofInt 64 (n : Int) &&& BitVec.ofInt 64 4294967295).toNat = n
    rw [BitVec.toNat_and, show (BitVec.ofInt 64 4294967295).toNat = 2 ^ 32 - 1 from rfl, Nat.and_two_pow_sub_one_eq_mod, BitVec.toNat_ofInt]
    omega
  rw [e]
  exact u64_of (by omega) (by omega)
theorem shr0 {y : Int} (h : 0 ≤ y) (k : y < 4294967296) : shrI .u64 y 32 = 0 := by
  show y.fdiv 4294967296 = 0
  rw [Int.fdiv_eq_ediv_of_nonneg _ (by omega)]
  omega
theorem Mul64 (n : Int) (h : 0 ≤ n) (k : n < 4294967296) : CallP Tryz.prog 112 [uI 1, uI n] (.t [.s (.d (duI 0)), .s (.d (duI n))]) := by
  refine callP_of_ex (rc := []) (N := 51) Tryz.func112 rfl rfl Tryz.call112 tab_ok mix rfl rfl (fun cx _ => ?_)
  refine oi (by decide) ?_
  refine oi (by decide) ?_
  refine oi (by decide) ?_
  refine oi (by decide) ?_
  refine oi (by decide) ?_
  refine SubR.of_eq ?_
  have e1 : andI .u64 1 4294967295 = 1 := andM (by decide) (by decide)
  have e2 : shrI .u64 1 32 = 0 := shr0 (by decide) (by decide)
  have e3 := andM h k
  have e4 := shr0 h k
  have e5 : IntKind.u64.wrap n = n := u64_of h (by omega)
  have e6 : IntKind.u64.wrap 0 = 0 := rfl
  have e7 : andI .u64 0 4294967295 = 0 := andM (by decide) (by decide)
  have e8 : shrI .u64 0 32 = 0 := shr0 (by decide) (by decide)
  show AV.t [.s (.d (.val (.int .u64 _))), .s (.d (.val (.int .u64 _)))] = _
  simp only [e1, e2, e3, e4, e5, e6, e7, e8, Int.one_mul, Int.zero_mul, Int.mul_zero, Int.add_zero]
theorem Mul (n : Int) (h : 0 ≤ n) (k : n < 4294967296) : CallP Tryz.prog 87 [uI 1, uI n] (.t [.s (.d (duI 0)), .s (.d (duI n))]) := by
  refine callP_of_ex (rc := []) (N := 30) Tryz.func87 rfl rfl Tryz.call87 tab_ok mix rfl rfl (fun cx _ => ?_)
  refine callN (Mul64 n h k) ?_
  exact SubR.refl _

/-- The row while it is filled. -/
def fillF (v : Int) (k : Nat) : Nat → Nat → DV := fun i _ => if i < k then dI v else dI 0
theorem cpF_fill {v : Int} {k q : Nat} {i j : Nat} (hq : q ≤ k) : cpF k q (fillF v k) (fun i => fillF v k (0 + i)) i j = fillF v (k + q) i j := by
  unfold cpF
  show (if k ≤ i ∧ i < k + q then (if 0 + (i - k) < k then dI v else dI 0) else (if i < k then dI v else dI 0)) = (if i < k + q then dI v else dI 0)
  by_cases h1 : k ≤ i ∧ i < k + q
  · rw [if_pos h1, if_pos (by omega), if_pos (by omega)]
  · rw [if_neg h1]
    by_cases h2 : i < k
    · rw [if_pos h2, if_pos (by omega)]
    · rw [if_neg h2, if_neg (by omega)]
theorem RepeatO {f : Nat → Nat → DV} {v : Int} {n : Nat} (hf : f 0 0 = dI v) (hn : n ≤ 1000000) : CallR Tryz.prog 55 [.s (.own 1001), vI n] [(1001, .row 3 1 1 f)] (.s (.own 30)) [(1001, .row 3 1 1 f), (30, .row 3 n 1 (fillF v n))] := by
  refine callO_of_ex (rc := []) (N := 48) Tryz.func55 rfl rfl Tryz.call55 tab_ok mix rfl rfl rfl rfl (fun cx href => ?_)
  refine And.intro (fun h => absurd (decT h) (by omega)) (fun _ => ?_)
  have e1 : IntKind.u64.wrap (1 : Int) = 1 := rfl
  have e2 : IntKind.u64.wrap (n : Int) = n := u64_of (by omega) (by omega)
  have hM : CallP Tryz.prog 87 [uI (IntKind.u64.wrap ((1 : Nat) : Int)), uI (IntKind.u64.wrap n)] (.t [.s (.d (duI 0)), .s (.d (duI n))]) := by
    rw [e2]; exact Mul n (by omega) (by omega)
  refine callN hM ?_
  repeat first | refine sk ?_ | refine st ?_ | refine sg ?_
  refine And.intro (fun h => ?_) (fun _ => ?_)
  · have h : (decide ((0 : Int) > 0) || decide ((n : Int) > 9223372036854775807)) = true := h
    simp only [gt_iff_lt, Int.lt_irrefl, decide_false, Bool.false_or, decide_eq_true_eq] at h
    omega
  have e3 : IntKind.i64.wrap (n : Int) = n := w64_of (by omega) (by omega)
  refine ob (show 0 ≤ IntKind.i64.wrap (n : Int) by omega) ?_
  refine ob (Int.le_refl _) ?_
  refine ob (show ((8 : Nat) : Int) * IntKind.i64.wrap (n : Int) ≤ _ by omega) ?_
  refine ob (fun k j hk hj => ?_) ?_
  · obtain rfl : k = 0 := by omega
    obtain rfl : j = 0 := by omega
    rw [hf]; rfl
  refine AW.loopI (fun k : Nat => ⟨[(7, .s (.own 30)), (8, vI k)], [(30, some (.row 3 n 1 (fillF v k))), (1001, some (.row 3 1 1 f))]⟩)
    (fun k => k ≤ n ∧ (0 < n → 0 < k)) (fun k => n - k) (min 1 n) (by omega) ?_ ?_
  · refine SubI.of [] (by rw [href]; rfl) rfl ⟨⟨rfl, LeBx.row (by rw [e3]; rfl) fun k j hk hj => LeD.of_eq ?_⟩, ⟨rfl, LeBx.rfl⟩, trivial⟩ ⟨⟨rfl, LeQ.rfl⟩, ⟨rfl, LeQ.int ?_⟩, trivial⟩
    · have hj : j = 0 := by have : j < 1 := hj; omega
      subst hj
      have hk : k < (IntKind.i64.wrap (n : Int)).toNat := hk
      rw [e3] at hk ⊢
      show (if 0 ≤ k ∧ k < 0 + Nat.min 1 n then f (k - 0) 0 else dI 0) = (if k < min 1 n then dI v else dI 0)
      rw [Nat.zero_add]
      by_cases h1 : k < min 1 n
      · obtain rfl : k = 0 := by omega
        rw [if_pos h1, if_pos ⟨Nat.zero_le _, h1⟩, hf]
      · rw [if_neg h1, if_neg (fun h => h1 h.2)]
    · rw [e3]; rfl
  · intro k ⟨hk, hk0⟩
    refine ex.sound (rc := []) tab_ok mix href _ ?_
    refine And.intro (fun h => ?_) (fun h => ?_)
    · have h : (k : Int) < n := decT h
      refine oi (show 0 ≤ (k : Int) ∧ (k : Int) ≤ (n : Int) ∧ (n : Int) ≤ n by omega) ?_
      refine oi (show (0 : Int) ≤ 0 ∧ (0 : Int) ≤ (k : Int) ∧ (k : Int) ≤ n by omega) ?_
      refine ob (fun i j _ _ => ?_) ?_
      · show (if 0 + i < k then dI v else dI 0).fit = true
        split <;> rfl
      refine And.intro (by kernel_rfl) ?_
      have hq : Nat.min (k - 0) (n - k) ≤ k := Nat.min_le_left _ _
      have hq2 : Nat.min (k - 0) (n - k) ≤ n - k := Nat.min_le_right _ _
      have hq3 : 0 < Nat.min (k - 0) (n - k) := Nat.lt_min.2 ⟨by omega, by omega⟩
      refine ⟨k + Nat.min (k - 0) (n - k), ⟨by omega, by omega⟩, by omega, ?_⟩
      refine SubI.of [] (by rw [href]; rfl) rfl ⟨⟨rfl, LeBx.row rfl fun i j hi hj => LeD.of_eq ?_⟩, ⟨rfl, LeBx.rfl⟩, trivial⟩ ⟨⟨rfl, LeQ.rfl⟩, ⟨rfl, LeQ.int ?_⟩, trivial⟩
      · show cpF k (Nat.min (k - 0) (n - k)) (fillF v k) (fun i => fillF v k (0 + i)) i j = _
        exact cpF_fill hq
      · show w64 ((k : Int) + ((Nat.min (k - 0) (n - k) : Nat) : Int)) = _
        rw [w64_of (by omega) (by omega)]; omega
    · have h : ¬ (k : Int) < n := decF h
      obtain rfl : k = n := by omega
      exact ⟨LeQ.rfl, rfl, rfl, trivial⟩
theorem FrameO (g : Grid) (hg : GVal g) : CallR Tryz.prog 26 [grid g] [] (.g [.d (dI g.x), .d (dI g.y), .d (dI g.side), .d (dI g.cols), .d (dI g.rows), .own 601]) [(601, .row 3 g.levels.length 1 (fillF 30000 g.levels.length))] := by
  have hn := hg.n
  have e : w64 (g.cols * g.rows) = (g.levels.length : Int) := by rw [← hg.len]; exact w64_of (by omega) (by omega)
  refine callO_of_ex (rc := [55]) (N := 12) Tryz.func26 rfl rfl Tryz.call26 tab_ok mix rfl rfl rfl rfl (fun cx _ => ?_)
  refine ⟨[(1001, 3), (30, 601)], _, _, _, _, RepeatO (v := 30000) (n := g.levels.length) rfl (by omega), congrArg (fun n => [_, vI n]) e, ⟨rfl, trivial⟩, rfl, ?_⟩
  exact ⟨LeQ.rfl, rfl, trivial⟩
end Go.Ch

namespace Go.Ch
open Go Go.Ax Go.Proofs Go.Proofs.Tryz
set_option maxRecDepth 100000
set_option pp.maxSteps 400
set_option maxHeartbeats 1000000

abbrev rGE (g : Grid) (e : Int) : AV := .t [.g [.d (dI g.x), .d (dI g.y), .d (dI g.side), .d (dI g.cols), .d (dI g.rows), .d (dInts g.levels)], .s (.d (dI e))]
def zeroG : Grid := ⟨0, 0, 0, 0, 0, []⟩
theorem zero_rGE {e e' : Int} (h : e = e') : SubR (.t [.g (zvs ty28.zero), .s (.d (dI e))]) (rGE zeroG e') := by
  subst h
  exact SubR.t ⟨⟨LeD.refl _, LeD.refl _, LeD.refl _, LeD.refl _, LeD.refl _, LeD.nil, trivial⟩, LeD.refl _, trivial⟩
/-- The program's grid of levels of the design, less something. -/
def gridR (c : Chan) (g : Grid) (less : Int) : Grid × Int := bif withErr c [g] != 0 then (zeroG, withErr c [g]) else (designG c g less, 0)
def dgP (c : Chan) (g : Grid) (less : Int) (i : Nat) : Nat → Nat → DV := fun k _ => dI (if k < i then cellT c g less k else 30000)
end Go.Ch

namespace Go.Ch
open Go Go.Ax Go.Proofs Go.Proofs.Tryz
set_option maxRecDepth 100000
set_option pp.maxSteps 400
set_option maxHeartbeats 1000000

theorem errG_levels {g : Grid} {l : List Int} (h : errG g = 0) (hn : l.length = g.levels.length) (hb : l.any badL = false) : errG { g with levels := l } = 0 := by
  unfold errG at h ⊢
  rw [show e1 { g with levels := l } = e1 g from rfl]
  cases h1 : e1 g with
  | true => rw [h1] at h; cases h
  | false =>
    rw [h1] at h
    simp only [cond_false, hn, hb] at h ⊢
    cases h2 : decide (w64 (g.cols * g.rows) > 1024) with
    | true => rw [h2] at h; cases h
    | false =>
      rw [h2] at h
      simp only [cond_false] at h ⊢
      cases h3 : (decide (w64 (g.x + w64 (g.cols * g.side)) > 1000000) || decide (w64 (g.y + w64 (g.rows * g.side)) > 1000000)) with
      | true => rw [h3] at h; cases h
      | false =>
        rw [h3] at h
        simp only [cond_false] at h ⊢
        cases h4 : ((g.levels.length : Int) != w64 (g.cols * g.rows)) with
        | true => rw [h4] at h; cases h
        | false => rfl
theorem errG_tol {c : Chan} {g : Grid} (hv : Val c) (he : errG g = 0) : errG (designG c g c.over) = 0 := by
  have gv := GVal.of he
  refine errG_levels he (by simp) ?_
  rw [List.any_eq_false]
  intro n hn
  rw [List.mem_map] at hn
  obtain ⟨i, hi, rfl⟩ := hn
  have hi := List.mem_range.1 hi
  have ho := hv.over
  unfold cellT
  cases h : (desF c (centreG g i)).2 with
  | false => simp [badL]
  | true =>
    have hd := desF_ok hv (centre_good gv hi).1 h
    generalize (desF c (centreG g i)).1 = D at *
    simp only [cond_true]
    rw [w64_of (by omega) (by omega)]
    simp [badL, within]
    omega
theorem few_len {g : Grid} (h : few g = true) : g.levels.length ≤ 1100 := by
  unfold few at h
  simp only [Bool.or_eq_true, Bool.and_eq_true, decide_eq_true_eq] at h
  omega
end Go.Ch

namespace Go.Ch
open Go Go.Ax Go.Proofs Go.Proofs.Tryz
set_option maxRecDepth 100000
set_option pp.maxSteps 400
set_option maxHeartbeats 1000000

theorem bknown (g : Grid) (i : Nat) (hi : i < g.levels.length) (hl : g.levels.length ≤ 1000000) : CallP Tryz.prog 66 [grid g, vI i] (vB (g.levels.getD i 0 != 30000)) := by
  refine callP_of_ex (rc := []) (N := 20) Tryz.func66 rfl rfl Tryz.call66 tab_ok mix rfl rfl (fun cx _ => ?_)
  refine callN ((bbetween 0 (w64 ((g.levels.length : Int) - 1)) [(i : Int)] (by simp)).conv (args' := _) ⟨LeD.refl _, LeD.refl _, LeD.slc fun i j hi hj => ?_, trivial⟩) ?_
  · obtain rfl : i = 0 := by have : i < 1 := hi; omega
    obtain rfl : j = 0 := by have : j < 1 := hj; omega
    exact LeD.of_eq rfl
  repeat first | refine sk ?_ | refine st ?_ | refine sg ?_ | refine sh ?_ | refine su ?_ | refine sn1 ?_ | refine sn0 ?_
  refine og (fun _ => ⟨by omega, by omega⟩) ?_
  repeat first | refine sk ?_ | refine st ?_ | refine sg ?_ | refine sh ?_ | refine su ?_ | refine sn1 ?_ | refine sn0 ?_
  refine SubR.of_eq ?_
  show vB ((!outL 0 (w64 ((g.levels.length : Int) - 1)) [(i : Int)]) && (g.levels.getD i 0 != 30000)) = _
  have e : outL 0 (w64 ((g.levels.length : Int) - 1)) [(i : Int)] = false := by
    rw [w64_of (by omega) (by omega)]
    simp [outL, within]
    omega
  rw [e]; rfl
def partV (lo hi a b : Int) : Int := mm true 0 (w64 (mm false b hi - mm true a lo))
def sameC (a b : Grid) : Bool := a.x == b.x && (a.y == b.y && (a.side == b.side && (a.cols == b.cols && (a.rows == b.rows && true))))
def err2 (a b : Grid) : Int := bif errG a != 0 then errG a else bif errG b != 0 then errG b else bif !sameC a b then 10 else 0
end Go.Ch

namespace Go.Ch
open Go Go.Ax Go.Proofs Go.Proofs.Tryz
set_option maxRecDepth 100000
set_option pp.maxSteps 400
set_option maxHeartbeats 1000000

/-- Cut, fill and unknown cells. -/
structure Chg where
  cut : Int
  fill : Int
  unk : Int
def chS (a b : Grid) (lo hi : Int) (s : Chg) (i : Nat) : Chg :=
  bif !(a.levels.getD i 0 != 30000) || !(b.levels.getD i 0 != 30000) then ⟨s.cut, s.fill, w64 (s.unk + 1)⟩
  else ⟨w64 (s.cut + w64 (w64 (a.side * a.side) * partV lo hi (b.levels.getD i 0) (a.levels.getD i 0))), w64 (s.fill + w64 (w64 (a.side * a.side) * partV lo hi (a.levels.getD i 0) (b.levels.getD i 0))), s.unk⟩
def chF (a b : Grid) (lo hi : Int) : Nat → Chg
  | 0 => ⟨0, 0, 0⟩
  | i + 1 => chS a b lo hi (chF a b lo hi i) i
abbrev chg (s : Chg) : AV := .g [.d (dI s.cut), .d (dI s.fill), .d (dI s.unk)]
abbrev chgB (s : Chg) : Box := .cells [.d (dI s.cut), .d (dI s.fill), .d (dI s.unk)]
theorem sameC_len {a b : Grid} (ga : GVal a) (gb : GVal b) (h : sameC a b = true) : b.levels.length = a.levels.length := by
  unfold sameC at h
  simp only [Bool.and_eq_true, beq_iff_eq] at h
  have h1 := ga.len
  have h2 := gb.len
  rw [h.2.2.2.1, h.2.2.2.2.1] at h1
  omega
theorem err2_zero {a b : Grid} (h : err2 a b = 0) : errG a = 0 ∧ errG b = 0 ∧ sameC a b = true := by
  unfold err2 at h
  cases h1 : errG a != 0 with
  | true => rw [h1] at h; simp at h1; exact absurd h h1
  | false =>
    cases h2 : errG b != 0 with
    | true => rw [h1, h2] at h; simp at h2; exact absurd h h2
    | false =>
      cases h3 : sameC a b with
      | false => rw [h1, h2, h3] at h; cases h
      | true => simp at h1 h2; exact ⟨h1, h2, rfl⟩
def cmpR (a b : Grid) : Chg × Int := bif err2 a b != 0 then (⟨0, 0, 0⟩, err2 a b) else (chF a b (-20000) 20000 a.levels.length, 0)
end Go.Ch
