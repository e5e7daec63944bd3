/- Part 5: lemmas that the proofs of this seat share; by itself it claims nothing. -/
import Derived.Test.YtlnfjlaiclgjjaaPt4
namespace Go.Ch
open Go Go.Ax Go.Proofs Go.Proofs.Try
set_option maxRecDepth 100000
set_option pp.maxSteps 400
set_option maxHeartbeats 1000000

abbrev uI (x : Int) : AV := .s (.d (.val (.int .u64 x)))
abbrev duI (x : Int) : DV := .val (.int .u64 x)
theorem u64_of {n : Int} (h : 0 ≤ n) (k : n ≤ 18446744073709551615) : IntKind.u64.wrap n = n := by
  rw [IntKind.wrap_u64]; omega
theorem andM {y : Int} (h : 0 ≤ y) (k : y < 4294967296) : andI .u64 y 4294967295 = y := by
  obtain ⟨n, rfl⟩ := Int.eq_ofNat_of_zero_le h
  have hn : n < 4294967296 := by omega
  unfold andI
  have e : (BitVec.ofInt IntKind.u64.bits (n : Int) &&& BitVec.ofInt IntKind.u64.bits 4294967295).toNat = n := by
    show (BitVec.ofInt 64 (n : Int) &&& BitVec.ofInt 64 4294967295).toNat = n
    rw [BitVec.toNat_and, show (BitVec.ofInt 64 4294967295).toNat = 2 ^ 32 - 1 from rfl, Nat.and_two_pow_sub_one_eq_mod, BitVec.toNat_ofInt]
    omega
  rw [e]
  exact u64_of (by omega) (by omega)
theorem shr0 {y : Int} (h : 0 ≤ y) (k : y < 4294967296) : shrI .u64 y 32 = 0 := by
  show y.fdiv 4294967296 = 0
  rw [Int.fdiv_eq_ediv_of_nonneg _ (by omega)]
  omega
theorem Mul64 (n : Int) (h : 0 ≤ n) (k : n < 4294967296) : CallP Try.prog 125 [uI 1, uI n] (.t [.s (.d (duI 0)), .s (.d (duI n))]) := by
  refine callP_of_ex (rc := []) (N := 51) Try.func125 rfl rfl Try.call125 tab_ok mix rfl rfl (fun cx _ => ?_)
  refine oi (by decide) ?_
  refine oi (by decide) ?_
  refine oi (by decide) ?_
  refine oi (by decide) ?_
  refine oi (by decide) ?_
  refine SubR.of_eq ?_
  have e1 : andI .u64 1 4294967295 = 1 := andM (by decide) (by decide)
  have e2 : shrI .u64 1 32 = 0 := shr0 (by decide) (by decide)
  have e3 := andM h k
  have e4 := shr0 h k
  have e5 : IntKind.u64.wrap n = n := u64_of h (by omega)
  have e6 : IntKind.u64.wrap 0 = 0 := rfl
  have e7 : andI .u64 0 4294967295 = 0 := andM (by decide) (by decide)
  have e8 : shrI .u64 0 32 = 0 := shr0 (by decide) (by decide)
  show AV.t [.s (.d (.val (.int .u64 _))), .s (.d (.val (.int .u64 _)))] = _
  simp only [e1, e2, e3, e4, e5, e6, e7, e8, Int.one_mul, Int.zero_mul, Int.mul_zero, Int.add_zero]
theorem Mul (n : Int) (h : 0 ≤ n) (k : n < 4294967296) : CallP Try.prog 111 [uI 1, uI n] (.t [.s (.d (duI 0)), .s (.d (duI n))]) := by
  refine callP_of_ex (rc := []) (N := 30) Try.func111 rfl rfl Try.call111 tab_ok mix rfl rfl (fun cx _ => ?_)
  refine callN (Mul64 n h k) ?_
  exact SubR.refl _

/-- The row while it is filled. -/
def fillF (v : Int) (k : Nat) : Nat → Nat → DV := fun i _ => if i < k then dI v else dI 0
theorem cpF_fill {v : Int} {k q : Nat} {i j : Nat} (hq : q ≤ k) : cpF k q (fillF v k) (fun i => fillF v k (0 + i)) i j = fillF v (k + q) i j := by
  unfold cpF
  show (if k ≤ i ∧ i < k + q then (if 0 + (i - k) < k then dI v else dI 0) else (if i < k then dI v else dI 0)) = (if i < k + q then dI v else dI 0)
  by_cases h1 : k ≤ i ∧ i < k + q
  · rw [if_pos h1, if_pos (by omega), if_pos (by omega)]
  · rw [if_neg h1]
    by_cases h2 : i < k
    · rw [if_pos h2, if_pos (by omega)]
    · rw [if_neg h2, if_neg (by omega)]
theorem RepeatO {f : Nat → Nat → DV} {v : Int} {n : Nat} (hf : f 0 0 = dI v) (hn : n ≤ 1000000) : CallR Try.prog 91 [.s (.own 1001), vI n] [(1001, .row 3 1 1 f)] (.s (.own 30)) [(1001, .row 3 1 1 f), (30, .row 3 n 1 (fillF v n))] := by
  refine callO_of_ex (rc := []) (N := 48) Try.func91 rfl rfl Try.call91 tab_ok mix rfl rfl rfl rfl (fun cx href => ?_)
  refine And.intro (fun h => absurd (decT h) (by omega)) (fun _ => ?_)
  have e1 : IntKind.u64.wrap (1 : Int) = 1 := rfl
  have e2 : IntKind.u64.wrap (n : Int) = n := u64_of (by omega) (by omega)
  have hM : CallP Try.prog 111 [uI (IntKind.u64.wrap ((1 : Nat) : Int)), uI (IntKind.u64.wrap n)] (.t [.s (.d (duI 0)), .s (.d (duI n))]) := by
    rw [e2]; exact Mul n (by omega) (by omega)
  refine callN hM ?_
  repeat first | refine sk ?_ | refine st ?_ | refine sg ?_
  refine And.intro (fun h => ?_) (fun _ => ?_)
  · have h : (decide ((0 : Int) > 0) || decide ((n : Int) > 9223372036854775807)) = true := h
    simp only [gt_iff_lt, Int.lt_irrefl, decide_false, Bool.false_or, decide_eq_true_eq] at h
    omega
  have e3 : IntKind.i64.wrap (n : Int) = n := w64_of (by omega) (by omega)
  refine ob (show 0 ≤ IntKind.i64.wrap (n : Int) by omega) ?_
  refine ob (Int.le_refl _) ?_
  refine ob (show ((8 : Nat) : Int) * IntKind.i64.wrap (n : Int) ≤ _ by omega) ?_
  refine ob (fun k j hk hj => ?_) ?_
  · obtain rfl : k = 0 := by omega
    obtain rfl : j = 0 := by omega
    rw [hf]; rfl
  refine AW.loopI (fun k : Nat => ⟨[(7, .s (.own 30)), (8, vI k)], [(30, some (.row 3 n 1 (fillF v k))), (1001, some (.row 3 1 1 f))]⟩)
    (fun k => k ≤ n ∧ (0 < n → 0 < k)) (fun k => n - k) (min 1 n) (by omega) ?_ ?_
  · refine SubI.of [] (by rw [href]; rfl) rfl ⟨⟨rfl, LeBx.row (by rw [e3]; rfl) fun k j hk hj => LeD.of_eq ?_⟩, ⟨rfl, LeBx.rfl⟩, trivial⟩ ⟨⟨rfl, LeQ.rfl⟩, ⟨rfl, LeQ.int ?_⟩, trivial⟩
    · have hj : j = 0 := by have : j < 1 := hj; omega
      subst hj
      have hk : k < (IntKind.i64.wrap (n : Int)).toNat := hk
      rw [e3] at hk ⊢
      show (if 0 ≤ k ∧ k < 0 + Nat.min 1 n then f (k - 0) 0 else dI 0) = (if k < min 1 n then dI v else dI 0)
      rw [Nat.zero_add]
      by_cases h1 : k < min 1 n
      · obtain rfl : k = 0 := by omega
        rw [if_pos h1, if_pos ⟨Nat.zero_le _, h1⟩, hf]
      · rw [if_neg h1, if_neg (fun h => h1 h.2)]
    · rw [e3]; rfl
  · intro k ⟨hk, hk0⟩
    refine ex.sound (rc := []) tab_ok mix href _ ?_
    refine And.intro (fun h => ?_) (fun h => ?_)
    · have h : (k : Int) < n := decT h
      refine oi (show 0 ≤ (k : Int) ∧ (k : Int) ≤ (n : Int) ∧ (n : Int) ≤ n by omega) ?_
      refine oi (show (0 : Int) ≤ 0 ∧ (0 : Int) ≤ (k : Int) ∧ (k : Int) ≤ n by omega) ?_
      refine ob (fun i j _ _ => ?_) ?_
      · show (if 0 + i < k then dI v else dI 0).fit = true
        split <;> rfl
      refine And.intro (by kernel_rfl) ?_
      have hq : Nat.min (k - 0) (n - k) ≤ k := Nat.min_le_left _ _
      have hq2 : Nat.min (k - 0) (n - k) ≤ n - k := Nat.min_le_right _ _
      have hq3 : 0 < Nat.min (k - 0) (n - k) := Nat.lt_min.2 ⟨by omega, by omega⟩
      refine ⟨k + Nat.min (k - 0) (n - k), ⟨by omega, by omega⟩, by omega, ?_⟩
      refine SubI.of [] (by rw [href]; rfl) rfl ⟨⟨rfl, LeBx.row rfl fun i j hi hj => LeD.of_eq ?_⟩, ⟨rfl, LeBx.rfl⟩, trivial⟩ ⟨⟨rfl, LeQ.rfl⟩, ⟨rfl, LeQ.int ?_⟩, trivial⟩
      · show cpF k (Nat.min (k - 0) (n - k)) (fillF v k) (fun i => fillF v k (0 + i)) i j = _
        exact cpF_fill hq
      · show w64 ((k : Int) + ((Nat.min (k - 0) (n - k) : Nat) : Int)) = _
        rw [w64_of (by omega) (by omega)]; omega
    · have h : ¬ (k : Int) < n := decF h
      obtain rfl : k = n := by omega
      exact ⟨LeQ.rfl, rfl, rfl, trivial⟩
theorem FrameO (g : Grid) (hg : GVal g) : CallR Try.prog 73 [grid g] [] (.g [.d (dI g.x), .d (dI g.y), .d (dI g.side), .d (dI g.cols), .d (dI g.rows), .own 601]) [(601, .row 3 g.levels.length 1 (fillF 30000 g.levels.length))] := by
  have hn := hg.n
  have e : w64 (g.cols * g.rows) = (g.levels.length : Int) := by rw [← hg.len]; exact w64_of (by omega) (by omega)
  refine callO_of_ex (rc := [91]) (N := 12) Try.func73 rfl rfl Try.call73 tab_ok mix rfl rfl rfl rfl (fun cx _ => ?_)
  refine ⟨[(1001, 3), (30, 601)], _, _, _, _, RepeatO (v := 30000) (n := g.levels.length) rfl (by omega), congrArg (fun n => [_, vI n]) e, ⟨rfl, trivial⟩, rfl, ?_⟩
  exact ⟨LeQ.rfl, rfl, trivial⟩
end Go.Ch

namespace Go.Ch
open Go Go.Ax Go.Proofs Go.Proofs.Try
set_option maxRecDepth 100000
set_option pp.maxSteps 400
set_option maxHeartbeats 1000000

theorem withErr1_zero {c : Chan} {g : Grid} (h : withErr c [g] = 0) : errC c = 0 ∧ errG g = 0 := by
  rw [withErr1] at h
  cases h1 : errC c != 0 with
  | true => rw [h1] at h; simp at h1; exact absurd h h1
  | false => rw [h1] at h; exact ⟨by simpa using h1, h⟩
abbrev rGE (g : Grid) (e : Int) : AV := .t [.g [.d (dI g.x), .d (dI g.y), .d (dI g.side), .d (dI g.cols), .d (dI g.rows), .d (dInts g.levels)], .s (.d (dI e))]
def zeroG : Grid := ⟨0, 0, 0, 0, 0, []⟩
theorem zero_rGE {e e' : Int} (h : e = e') : SubR (.t [.g (zvs ty51.zero), .s (.d (dI e))]) (rGE zeroG e') := by
  subst h
  exact SubR.t ⟨⟨LeD.refl _, LeD.refl _, LeD.refl _, LeD.refl _, LeD.refl _, LeD.nil, trivial⟩, LeD.refl _, trivial⟩
/-- The program's grid of levels of the design, less something. -/
def gridR (c : Chan) (g : Grid) (less : Int) : Grid × Int := bif withErr c [g] != 0 then (zeroG, withErr c [g]) else (designG c g less, 0)
def dgP (c : Chan) (g : Grid) (less : Int) (i : Nat) : Nat → Nat → DV := fun k _ => dI (if k < i then cellT c g less k else 30000)
attribute [local irreducible] errG errC in
theorem gGrid (c : Chan) (g : Grid) (less : Int) (hc : c.ok) (hg : g.ok) : CallP Try.prog 56 [chan c, grid g, vI less] (rGE (gridR c g less).1 (gridR c g less).2) := by
  refine callP_of_ex (rc := [73]) (N := 46) Try.func56 rfl rfl Try.call56 tab_ok mix rfl rfl (fun cx href => ?_)
  refine callN (cboth c g hc hg) ?_
  refine And.intro (fun h1 => ?_) (fun h1 => ?_)
  · have h1 : (withErr c [g] != 0) = true := h1
    have e : gridR c g less = (zeroG, withErr c [g]) := by unfold gridR; rw [h1]; rfl
    rw [e]
    exact zero_rGE rfl
  have h1 : (withErr c [g] != 0) = false := h1
  have h0 : withErr c [g] = 0 := by simpa using h1
  obtain ⟨e1, e2⟩ := withErr1_zero h0
  have e : gridR c g less = (designG c g less, 0) := by unfold gridR; rw [h1]; rfl
  rw [e]
  have hv := val_of c e1
  have gv := GVal.of e2
  have hn := gv.n
  refine ⟨[(601, 601)], _, _, _, _, FrameO g gv, rfl, trivial, rfl, ?_⟩
  refine AW.loopI (fun i : Nat => ⟨[(2, vI less), (3, .s (.ptr 3 0)), (4, .s (.ptr 4 0)), (6, .s (.ptr 6 0)), (9, .s (.ptr 9 0)), (24, vI g.levels.length), (25, vI i)],
      [(3, some (chanB c)), (4, some (gridB g)), (6, some (.cells [.d (dI 0), .d (dI 0), .d (dI 0), .d (dI 0), .d (dI 0), .d (.val (.slice none 0 0))])), (9, some (.cells [.d (dI g.x), .d (dI g.y), .d (dI g.side), .d (dI g.cols), .d (dI g.rows), .own 601])), (601, some (.row 3 g.levels.length 1 (dgP c g less i)))]⟩)
    (fun i => i ≤ g.levels.length) (fun i => g.levels.length - i) 0 (Nat.zero_le _) ?_ ?_
  · refine SubI.of0 href [] rfl ⟨⟨rfl, LeBx.rfl⟩, ⟨rfl, LeBx.rfl⟩, ⟨rfl, LeBx.rfl⟩, ⟨rfl, LeBx.rfl⟩, ⟨rfl, LeBx.row rfl fun k j hk _ => LeD.of_eq ?_⟩, trivial⟩ ⟨⟨rfl, LeQ.rfl⟩, ⟨rfl, LeQ.rfl⟩, ⟨rfl, LeQ.rfl⟩, ⟨rfl, LeQ.rfl⟩, ⟨rfl, LeQ.rfl⟩, ⟨rfl, LeQ.rfl⟩, ⟨rfl, LeQ.rfl⟩, trivial⟩
    unfold fillF dgP
    rw [if_pos hk, if_neg (Nat.not_lt_zero k)]
  · intro i hi
    refine ex.sound (rc := [73]) tab_ok mix href _ ?_
    refine And.intro (fun h => ?_) (fun h => ?_)
    · have h : (i : Int) < g.levels.length := decT h
      have hi' : i < g.levels.length := by omega
      have hgd := (centre_good gv hi').1
      refine callN (ccentre g i e2 (by omega) h (by omega)) ?_
      refine callN (design c (centreG g i) hv hgd) ?_
      refine And.intro (by kernel_rfl) ?_
      refine And.intro (fun h2 => ?_) (fun h2 => ?_)
      · have h2 : (desF c (centreG g i)).2 = true := h2
        have e : cellT c g less i = w64 ((desF c (centreG g i)).1 - less) := by unfold cellT; rw [h2]; rfl
        refine oi ⟨by omega, by omega⟩ ?_
        refine ob hi' ?_
        refine ⟨i + 1, by omega, by omega, ?_⟩
        refine SubI.of0 href [] rfl ⟨⟨rfl, LeBx.rfl⟩, ⟨rfl, LeBx.rfl⟩, ⟨rfl, LeBx.rfl⟩, ⟨rfl, LeBx.rfl⟩, ⟨rfl, LeBx.row rfl fun k j hk hj => LeD.of_eq ?_⟩, trivial⟩ ⟨⟨rfl, LeQ.rfl⟩, ⟨rfl, LeQ.rfl⟩, ⟨rfl, LeQ.rfl⟩, ⟨rfl, LeQ.rfl⟩, ⟨rfl, LeQ.rfl⟩, ⟨rfl, LeQ.rfl⟩, ⟨rfl, LeQ.int (w64_of (by omega) (by omega))⟩, trivial⟩
        have hj : j = 0 := by have : j < 1 := hj; omega
        subst hj
        by_cases hki : k = i
        · subst hki
          refine rowSet_self.trans ?_
          unfold dgP
          rw [if_pos (Nat.lt_succ_self _), e]
        · refine (rowSet_ne hki).trans ?_
          unfold dgP
          by_cases hlt : k < i
          · rw [if_pos hlt, if_pos (by omega)]
          · rw [if_neg hlt, if_neg (by omega)]
      · have h2 : (desF c (centreG g i)).2 = false := h2
        have e : cellT c g less i = 30000 := by unfold cellT; rw [h2]; rfl
        refine ⟨i + 1, by omega, by omega, ?_⟩
        refine SubI.of0 href [] rfl ⟨⟨rfl, LeBx.rfl⟩, ⟨rfl, LeBx.rfl⟩, ⟨rfl, LeBx.rfl⟩, ⟨rfl, LeBx.rfl⟩, ⟨rfl, LeBx.row rfl fun k j hk hj => LeD.of_eq ?_⟩, trivial⟩ ⟨⟨rfl, LeQ.rfl⟩, ⟨rfl, LeQ.rfl⟩, ⟨rfl, LeQ.rfl⟩, ⟨rfl, LeQ.rfl⟩, ⟨rfl, LeQ.rfl⟩, ⟨rfl, LeQ.rfl⟩, ⟨rfl, LeQ.int (w64_of (by omega) (by omega))⟩, trivial⟩
        unfold dgP
        by_cases hki : k = i
        · subst hki
          rw [if_neg (Nat.lt_irrefl _), if_pos (Nat.lt_succ_self _), e]
        · by_cases hlt : k < i
          · rw [if_pos hlt, if_pos (by omega)]
          · rw [if_neg hlt, if_neg (by omega)]
    · have h : ¬ (i : Int) < g.levels.length := decF h
      have hi' : i = g.levels.length := by omega
      subst hi'
      refine SubR.t ⟨⟨LeD.refl _, LeD.refl _, LeD.refl _, LeD.refl _, LeD.refl _, LeD.slc' (by simp [designG]) fun k j hk hj => LeD.of_eq ?_, trivial⟩, LeD.refl _, trivial⟩
      unfold dgP intEl
      rw [if_pos hk]
      congr 2
      simp [designG, hk]
theorem gDesignGrid (c : Chan) (g : Grid) (hc : c.ok) (hg : g.ok) : CallP Try.prog 27 [chan c, grid g] (rGE (gridR c g 0).1 (gridR c g 0).2) := by
  refine callP_of_ex (rc := []) (N := 11) Try.func27 rfl rfl Try.call27 tab_ok mix rfl rfl (fun cx href => ?_)
  refine callN (gGrid c g 0 hc hg) ?_
  exact SubR.refl _
theorem gToleranceGrid (c : Chan) (g : Grid) (hc : c.ok) (hg : g.ok) : CallP Try.prog 28 [chan c, grid g] (rGE (gridR c g c.over).1 (gridR c g c.over).2) := by
  refine callP_of_ex (rc := []) (N := 13) Try.func28 rfl rfl Try.call28 tab_ok mix rfl rfl (fun cx href => ?_)
  refine callN (gGrid c g c.over hc hg) ?_
  exact SubR.refl _
end Go.Ch

/- A copy of a channel's regions, each one's corners in a row of its own. By a program (gen/genM1.py). -/
namespace Go.Ch
open Go Go.Ax Go.Proofs Go.Proofs.Try
set_option maxRecDepth 100000
set_option pp.maxSteps 400
set_option maxHeartbeats 1000000

theorem ClonePtsO (l : List Pt) (h0 : 0 < l.length) (hl : l.length ≤ 1000000) : CallR Try.prog 89 [pts l] [] (.s (.own 7)) [(7, .row 63 l.length 2 (ptEl l))] := by
  refine callO_of_ex (rc := []) (N := 8) Try.func89 rfl rfl Try.call89 tab_ok mix rfl rfl rfl rfl (fun cx _ => ?_)
  intro b hb
  refine And.intro (fun h => ?_) (fun _ => ?_)
  · exact absurd (hb h) (by omega)
  refine ob (show (0 + l.length) * 16 ≤ _ by omega) ?_
  refine ob (fun k j hk hj => by
    have hj : j < 2 := hj
    match j, hj with
    | 0, _ => rfl
    | 1, _ => rfl) ?_
  refine ⟨LeQ.rfl, ?_, trivial⟩
  show some (some (Box.row 63 (0 + l.length) 2 (catF 0 _ (ptEl l)))) = _
  rw [Nat.zero_add, catF0]
def cpS1 (nm : ByteArray) (ax : List Ap) (ov bu : Int) (r0 : Reg) : Nat → St
  | 0 => ⟨[(1, .s (.ptr 1 0)), (2, .s (.ptr 2 0)), (14, vI 1), (15, vI 0)], [(1, some (.cells [.d (dS nm), .own 501, .d (dI ov), .d (dI bu), .osl 502 3 0 1])), (2, some (.cells (zvs ty25.zero))), (501, some (.row 58 ax.length 5 (apEl ax))), (502, some (.cells [.d (dS r0.name), .d (dI r0.kind), .d (dPts r0.corners)]))]⟩
  | _ => ⟨[(1, .s (.ptr 1 0)), (2, .s (.ptr 2 0)), (14, vI 1), (15, vI 1)], [(1, some (.cells [.d (dS nm), .own 501, .d (dI ov), .d (dI bu), .osl 502 3 0 1])), (2, some (.cells (zvs ty25.zero))), (501, some (.row 58 ax.length 5 (apEl ax))), (502, some (.cells [.d (dS r0.name), .d (dI r0.kind), .own 510])), (510, some (.row 63 r0.corners.length 2 (ptEl r0.corners)))]⟩
theorem copied1 (nm : ByteArray) (ax : List Ap) (ov bu : Int) (r0 : Reg) (h0 : 0 < ax.length) (h1 : ax.length ≤ 1000) (n0 : 0 < r0.corners.length) (m0 : r0.corners.length ≤ 1000000) :
    CallR Try.prog 70 [chan ⟨nm, ax, ov, bu, [r0]⟩] [] (.g [.d (dS nm), .own 501, .d (dI ov), .d (dI bu), .osl 502 3 0 1]) [(501, .row 58 ax.length 5 (apEl ax)), (502, .cells [.d (dS r0.name), .d (dI r0.kind), .own 510]), (510, .row 63 r0.corners.length 2 (ptEl r0.corners))] := by
  refine callO_of_aw Try.func70 rfl rfl Try.call70 tab_ok rfl rfl rfl rfl (fun cx href => ?_)
  refine AW.seq (ex.sound (rc := []) tab_ok mix href _ ?_)
  refine AW.seq (ex.sound (rc := [87]) tab_ok mix href _ ?_)
  refine ⟨[(7, 501)], _, _, _, _, CloneAx ax h0 h1, rfl, trivial, rfl, ?_⟩
  refine AW.seq (ex.sound (rc := [88]) tab_ok mix href _ ?_)
  refine ⟨[(7, 502)], _, _, _, _, CloneRegs [r0] (by simp) (by simp), rfl, trivial, rfl, ?_⟩
  refine AW.subI (SubI.opn 1 4 502 rfl rfl rfl (ds := [.d (dS r0.name), .d (dI r0.kind), .d (dPts r0.corners)]) (by kernel_rfl)) ?_
  refine AW.subI (σ' := ⟨[(1, .s (.ptr 1 0)), (2, .s (.ptr 2 0))], [(1, some (.cells [.d (dS nm), .own 501, .d (dI ov), .d (dI bu), .osl 502 3 0 1])), (2, some (.cells (zvs ty25.zero))), (501, some (.row 58 ax.length 5 (apEl ax))), (502, some (.cells [.d (dS r0.name), .d (dI r0.kind), .d (dPts r0.corners)]))]⟩) (SubI.of0 href [] rfl ⟨⟨rfl, LeBx.rfl⟩, ⟨rfl, LeBx.rfl⟩, ⟨rfl, LeBx.rfl⟩, ⟨rfl, LeBx.rfl⟩, trivial⟩ ⟨⟨rfl, LeQ.rfl⟩, ⟨rfl, LeQ.rfl⟩, trivial⟩) ?_
  refine AW.cut (σ' := cpS1 nm ax ov bu r0 1) (ex.sound (rc := []) tab_ok mix href _ ?_) ?_
  · refine AW.loopI (fun i : Nat => cpS1 nm ax ov bu r0 i) (fun i => i ≤ 1) (fun i => 1 - i) 0 (Nat.zero_le _) ?_ ?_
    · exact SubI.of0 href [] rfl ⟨⟨rfl, LeBx.rfl⟩, ⟨rfl, LeBx.rfl⟩, ⟨rfl, LeBx.rfl⟩, ⟨rfl, LeBx.rfl⟩, trivial⟩ ⟨⟨rfl, LeQ.rfl⟩, ⟨rfl, LeQ.rfl⟩, ⟨rfl, LeQ.rfl⟩, ⟨rfl, LeQ.rfl⟩, trivial⟩
    · intro i hi
      match i, hi with
      | 0, _ =>
        refine ex.sound (rc := [1000089]) tab_ok mix href _ ?_
        refine And.intro (fun _ => ?_) (fun h => by cases (show (decide ((0 : Int) < 1)) = false from h))
        repeat first | refine sk ?_ | refine st ?_ | refine sg ?_ | refine sh ?_ | refine su ?_ | refine sn1 ?_ | refine sn0 ?_ | refine And.intro (show imp none (gimp _ none) from trivial) ?_
        refine oi ⟨by decide, by decide⟩ ?_
        repeat first | refine sk ?_ | refine st ?_ | refine sg ?_ | refine sh ?_ | refine su ?_ | refine sn1 ?_ | refine sn0 ?_ | refine And.intro (show imp none (gimp _ none) from trivial) ?_
        refine ⟨[(7, 510)], _, _, _, _, ClonePtsO r0.corners n0 m0, rfl, rfl, rfl, ?_⟩
        repeat first | refine sk ?_ | refine st ?_ | refine sg ?_ | refine sh ?_ | refine su ?_ | refine sn1 ?_ | refine sn0 ?_ | refine And.intro (show imp none (gimp _ none) from trivial) ?_
        refine oi ⟨by decide, by decide⟩ ?_
        repeat first | refine sk ?_ | refine st ?_ | refine sg ?_ | refine sh ?_ | refine su ?_ | refine sn1 ?_ | refine sn0 ?_ | refine And.intro (show imp none (gimp _ none) from trivial) ?_
        refine And.intro (by kernel_rfl) ?_
        refine ⟨1, by decide, by decide, ?_⟩
        exact SubI.of0 href [] rfl ⟨⟨rfl, LeBx.rfl⟩, ⟨rfl, LeBx.rfl⟩, ⟨rfl, LeBx.rfl⟩, ⟨rfl, LeBx.rfl⟩, ⟨rfl, LeBx.rfl⟩, trivial⟩ ⟨⟨rfl, LeQ.rfl⟩, ⟨rfl, LeQ.rfl⟩, ⟨rfl, LeQ.rfl⟩, ⟨rfl, LeQ.rfl⟩, trivial⟩
      | 1, _ =>
        refine ex.sound (rc := []) tab_ok mix href _ ?_
        refine And.intro (fun h => by cases (show (decide ((1 : Int) < 1)) = true from h)) (fun _ => ?_)
        exact ⟨rfl, SubI.of0 href [] rfl ⟨⟨rfl, LeBx.rfl⟩, ⟨rfl, LeBx.rfl⟩, ⟨rfl, LeBx.rfl⟩, ⟨rfl, LeBx.rfl⟩, ⟨rfl, LeBx.rfl⟩, trivial⟩ ⟨⟨rfl, LeQ.rfl⟩, ⟨rfl, LeQ.rfl⟩, ⟨rfl, LeQ.rfl⟩, ⟨rfl, LeQ.rfl⟩, trivial⟩⟩
  · refine ex.sound (rc := []) tab_ok mix href _ ?_
    exact ⟨LeQ.rfl, rfl, rfl, rfl, trivial⟩
def cpS2 (nm : ByteArray) (ax : List Ap) (ov bu : Int) (r0 r1 : Reg) : Nat → St
  | 0 => ⟨[(1, .s (.ptr 1 0)), (2, .s (.ptr 2 0)), (14, vI 2), (15, vI 0)], [(1, some (.cells [.d (dS nm), .own 501, .d (dI ov), .d (dI bu), .osl 502 3 0 2])), (2, some (.cells (zvs ty25.zero))), (501, some (.row 58 ax.length 5 (apEl ax))), (502, some (.cells [.d (dS r0.name), .d (dI r0.kind), .d (dPts r0.corners), .d (dS r1.name), .d (dI r1.kind), .d (dPts r1.corners)]))]⟩
  | 1 => ⟨[(1, .s (.ptr 1 0)), (2, .s (.ptr 2 0)), (14, vI 2), (15, vI 1)], [(1, some (.cells [.d (dS nm), .own 501, .d (dI ov), .d (dI bu), .osl 502 3 0 2])), (2, some (.cells (zvs ty25.zero))), (501, some (.row 58 ax.length 5 (apEl ax))), (502, some (.cells [.d (dS r0.name), .d (dI r0.kind), .own 510, .d (dS r1.name), .d (dI r1.kind), .d (dPts r1.corners)])), (510, some (.row 63 r0.corners.length 2 (ptEl r0.corners)))]⟩
  | _ => ⟨[(1, .s (.ptr 1 0)), (2, .s (.ptr 2 0)), (14, vI 2), (15, vI 2)], [(1, some (.cells [.d (dS nm), .own 501, .d (dI ov), .d (dI bu), .osl 502 3 0 2])), (2, some (.cells (zvs ty25.zero))), (501, some (.row 58 ax.length 5 (apEl ax))), (502, some (.cells [.d (dS r0.name), .d (dI r0.kind), .own 510, .d (dS r1.name), .d (dI r1.kind), .own 511])), (510, some (.row 63 r0.corners.length 2 (ptEl r0.corners))), (511, some (.row 63 r1.corners.length 2 (ptEl r1.corners)))]⟩
theorem copied2 (nm : ByteArray) (ax : List Ap) (ov bu : Int) (r0 r1 : Reg) (h0 : 0 < ax.length) (h1 : ax.length ≤ 1000) (n0 : 0 < r0.corners.length) (m0 : r0.corners.length ≤ 1000000) (n1 : 0 < r1.corners.length) (m1 : r1.corners.length ≤ 1000000) :
    CallR Try.prog 70 [chan ⟨nm, ax, ov, bu, [r0, r1]⟩] [] (.g [.d (dS nm), .own 501, .d (dI ov), .d (dI bu), .osl 502 3 0 2]) [(501, .row 58 ax.length 5 (apEl ax)), (502, .cells [.d (dS r0.name), .d (dI r0.kind), .own 510, .d (dS r1.name), .d (dI r1.kind), .own 511]), (510, .row 63 r0.corners.length 2 (ptEl r0.corners)), (511, .row 63 r1.corners.length 2 (ptEl r1.corners))] := by
  refine callO_of_aw Try.func70 rfl rfl Try.call70 tab_ok rfl rfl rfl rfl (fun cx href => ?_)
  refine AW.seq (ex.sound (rc := []) tab_ok mix href _ ?_)
  refine AW.seq (ex.sound (rc := [87]) tab_ok mix href _ ?_)
  refine ⟨[(7, 501)], _, _, _, _, CloneAx ax h0 h1, rfl, trivial, rfl, ?_⟩
  refine AW.seq (ex.sound (rc := [88]) tab_ok mix href _ ?_)
  refine ⟨[(7, 502)], _, _, _, _, CloneRegs [r0, r1] (by simp) (by simp), rfl, trivial, rfl, ?_⟩
  refine AW.subI (SubI.opn 1 4 502 rfl rfl rfl (ds := [.d (dS r0.name), .d (dI r0.kind), .d (dPts r0.corners), .d (dS r1.name), .d (dI r1.kind), .d (dPts r1.corners)]) (by kernel_rfl)) ?_
  refine AW.subI (σ' := ⟨[(1, .s (.ptr 1 0)), (2, .s (.ptr 2 0))], [(1, some (.cells [.d (dS nm), .own 501, .d (dI ov), .d (dI bu), .osl 502 3 0 2])), (2, some (.cells (zvs ty25.zero))), (501, some (.row 58 ax.length 5 (apEl ax))), (502, some (.cells [.d (dS r0.name), .d (dI r0.kind), .d (dPts r0.corners), .d (dS r1.name), .d (dI r1.kind), .d (dPts r1.corners)]))]⟩) (SubI.of0 href [] rfl ⟨⟨rfl, LeBx.rfl⟩, ⟨rfl, LeBx.rfl⟩, ⟨rfl, LeBx.rfl⟩, ⟨rfl, LeBx.rfl⟩, trivial⟩ ⟨⟨rfl, LeQ.rfl⟩, ⟨rfl, LeQ.rfl⟩, trivial⟩) ?_
  refine AW.cut (σ' := cpS2 nm ax ov bu r0 r1 2) (ex.sound (rc := []) tab_ok mix href _ ?_) ?_
  · refine AW.loopI (fun i : Nat => cpS2 nm ax ov bu r0 r1 i) (fun i => i ≤ 2) (fun i => 2 - i) 0 (Nat.zero_le _) ?_ ?_
    · exact SubI.of0 href [] rfl ⟨⟨rfl, LeBx.rfl⟩, ⟨rfl, LeBx.rfl⟩, ⟨rfl, LeBx.rfl⟩, ⟨rfl, LeBx.rfl⟩, trivial⟩ ⟨⟨rfl, LeQ.rfl⟩, ⟨rfl, LeQ.rfl⟩, ⟨rfl, LeQ.rfl⟩, ⟨rfl, LeQ.rfl⟩, trivial⟩
    · intro i hi
      match i, hi with
      | 0, _ =>
        refine ex.sound (rc := [1000089]) tab_ok mix href _ ?_
        refine And.intro (fun _ => ?_) (fun h => by cases (show (decide ((0 : Int) < 2)) = false from h))
        repeat first | refine sk ?_ | refine st ?_ | refine sg ?_ | refine sh ?_ | refine su ?_ | refine sn1 ?_ | refine sn0 ?_ | refine And.intro (show imp none (gimp _ none) from trivial) ?_
        refine oi ⟨by decide, by decide⟩ ?_
        repeat first | refine sk ?_ | refine st ?_ | refine sg ?_ | refine sh ?_ | refine su ?_ | refine sn1 ?_ | refine sn0 ?_ | refine And.intro (show imp none (gimp _ none) from trivial) ?_
        refine ⟨[(7, 510)], _, _, _, _, ClonePtsO r0.corners n0 m0, rfl, rfl, rfl, ?_⟩
        repeat first | refine sk ?_ | refine st ?_ | refine sg ?_ | refine sh ?_ | refine su ?_ | refine sn1 ?_ | refine sn0 ?_ | refine And.intro (show imp none (gimp _ none) from trivial) ?_
        refine oi ⟨by decide, by decide⟩ ?_
        repeat first | refine sk ?_ | refine st ?_ | refine sg ?_ | refine sh ?_ | refine su ?_ | refine sn1 ?_ | refine sn0 ?_ | refine And.intro (show imp none (gimp _ none) from trivial) ?_
        refine And.intro (by kernel_rfl) ?_
        refine ⟨1, by decide, by decide, ?_⟩
        exact SubI.of0 href [] rfl ⟨⟨rfl, LeBx.rfl⟩, ⟨rfl, LeBx.rfl⟩, ⟨rfl, LeBx.rfl⟩, ⟨rfl, LeBx.rfl⟩, ⟨rfl, LeBx.rfl⟩, trivial⟩ ⟨⟨rfl, LeQ.rfl⟩, ⟨rfl, LeQ.rfl⟩, ⟨rfl, LeQ.rfl⟩, ⟨rfl, LeQ.rfl⟩, trivial⟩
      | 1, _ =>
        refine ex.sound (rc := [1000089]) tab_ok mix href _ ?_
        refine And.intro (fun _ => ?_) (fun h => by cases (show (decide ((1 : Int) < 2)) = false from h))
        repeat first | refine sk ?_ | refine st ?_ | refine sg ?_ | refine sh ?_ | refine su ?_ | refine sn1 ?_ | refine sn0 ?_ | refine And.intro (show imp none (gimp _ none) from trivial) ?_
        refine oi ⟨by decide, by decide⟩ ?_
        repeat first | refine sk ?_ | refine st ?_ | refine sg ?_ | refine sh ?_ | refine su ?_ | refine sn1 ?_ | refine sn0 ?_ | refine And.intro (show imp none (gimp _ none) from trivial) ?_
        refine ⟨[(7, 511)], _, _, _, _, ClonePtsO r1.corners n1 m1, rfl, rfl, rfl, ?_⟩
        repeat first | refine sk ?_ | refine st ?_ | refine sg ?_ | refine sh ?_ | refine su ?_ | refine sn1 ?_ | refine sn0 ?_ | refine And.intro (show imp none (gimp _ none) from trivial) ?_
        refine oi ⟨by decide, by decide⟩ ?_
        repeat first | refine sk ?_ | refine st ?_ | refine sg ?_ | refine sh ?_ | refine su ?_ | refine sn1 ?_ | refine sn0 ?_ | refine And.intro (show imp none (gimp _ none) from trivial) ?_
        refine And.intro (by kernel_rfl) ?_
        refine ⟨2, by decide, by decide, ?_⟩
        exact SubI.of0 href [] rfl ⟨⟨rfl, LeBx.rfl⟩, ⟨rfl, LeBx.rfl⟩, ⟨rfl, LeBx.rfl⟩, ⟨rfl, LeBx.rfl⟩, ⟨rfl, LeBx.rfl⟩, ⟨rfl, LeBx.rfl⟩, trivial⟩ ⟨⟨rfl, LeQ.rfl⟩, ⟨rfl, LeQ.rfl⟩, ⟨rfl, LeQ.rfl⟩, ⟨rfl, LeQ.rfl⟩, trivial⟩
      | 2, _ =>
        refine ex.sound (rc := []) tab_ok mix href _ ?_
        refine And.intro (fun h => by cases (show (decide ((2 : Int) < 2)) = true from h)) (fun _ => ?_)
        exact ⟨rfl, SubI.of0 href [] rfl ⟨⟨rfl, LeBx.rfl⟩, ⟨rfl, LeBx.rfl⟩, ⟨rfl, LeBx.rfl⟩, ⟨rfl, LeBx.rfl⟩, ⟨rfl, LeBx.rfl⟩, ⟨rfl, LeBx.rfl⟩, trivial⟩ ⟨⟨rfl, LeQ.rfl⟩, ⟨rfl, LeQ.rfl⟩, ⟨rfl, LeQ.rfl⟩, ⟨rfl, LeQ.rfl⟩, trivial⟩⟩
  · refine ex.sound (rc := []) tab_ok mix href _ ?_
    exact ⟨LeQ.rfl, rfl, rfl, rfl, rfl, trivial⟩
def cpS3 (nm : ByteArray) (ax : List Ap) (ov bu : Int) (r0 r1 r2 : Reg) : Nat → St
  | 0 => ⟨[(1, .s (.ptr 1 0)), (2, .s (.ptr 2 0)), (14, vI 3), (15, vI 0)], [(1, some (.cells [.d (dS nm), .own 501, .d (dI ov), .d (dI bu), .osl 502 3 0 3])), (2, some (.cells (zvs ty25.zero))), (501, some (.row 58 ax.length 5 (apEl ax))), (502, some (.cells [.d (dS r0.name), .d (dI r0.kind), .d (dPts r0.corners), .d (dS r1.name), .d (dI r1.kind), .d (dPts r1.corners), .d (dS r2.name), .d (dI r2.kind), .d (dPts r2.corners)]))]⟩
  | 1 => ⟨[(1, .s (.ptr 1 0)), (2, .s (.ptr 2 0)), (14, vI 3), (15, vI 1)], [(1, some (.cells [.d (dS nm), .own 501, .d (dI ov), .d (dI bu), .osl 502 3 0 3])), (2, some (.cells (zvs ty25.zero))), (501, some (.row 58 ax.length 5 (apEl ax))), (502, some (.cells [.d (dS r0.name), .d (dI r0.kind), .own 510, .d (dS r1.name), .d (dI r1.kind), .d (dPts r1.corners), .d (dS r2.name), .d (dI r2.kind), .d (dPts r2.corners)])), (510, some (.row 63 r0.corners.length 2 (ptEl r0.corners)))]⟩
  | 2 => ⟨[(1, .s (.ptr 1 0)), (2, .s (.ptr 2 0)), (14, vI 3), (15, vI 2)], [(1, some (.cells [.d (dS nm), .own 501, .d (dI ov), .d (dI bu), .osl 502 3 0 3])), (2, some (.cells (zvs ty25.zero))), (501, some (.row 58 ax.length 5 (apEl ax))), (502, some (.cells [.d (dS r0.name), .d (dI r0.kind), .own 510, .d (dS r1.name), .d (dI r1.kind), .own 511, .d (dS r2.name), .d (dI r2.kind), .d (dPts r2.corners)])), (510, some (.row 63 r0.corners.length 2 (ptEl r0.corners))), (511, some (.row 63 r1.corners.length 2 (ptEl r1.corners)))]⟩
  | _ => ⟨[(1, .s (.ptr 1 0)), (2, .s (.ptr 2 0)), (14, vI 3), (15, vI 3)], [(1, some (.cells [.d (dS nm), .own 501, .d (dI ov), .d (dI bu), .osl 502 3 0 3])), (2, some (.cells (zvs ty25.zero))), (501, some (.row 58 ax.length 5 (apEl ax))), (502, some (.cells [.d (dS r0.name), .d (dI r0.kind), .own 510, .d (dS r1.name), .d (dI r1.kind), .own 511, .d (dS r2.name), .d (dI r2.kind), .own 512])), (510, some (.row 63 r0.corners.length 2 (ptEl r0.corners))), (511, some (.row 63 r1.corners.length 2 (ptEl r1.corners))), (512, some (.row 63 r2.corners.length 2 (ptEl r2.corners)))]⟩
theorem copied3 (nm : ByteArray) (ax : List Ap) (ov bu : Int) (r0 r1 r2 : Reg) (h0 : 0 < ax.length) (h1 : ax.length ≤ 1000) (n0 : 0 < r0.corners.length) (m0 : r0.corners.length ≤ 1000000) (n1 : 0 < r1.corners.length) (m1 : r1.corners.length ≤ 1000000) (n2 : 0 < r2.corners.length) (m2 : r2.corners.length ≤ 1000000) :
    CallR Try.prog 70 [chan ⟨nm, ax, ov, bu, [r0, r1, r2]⟩] [] (.g [.d (dS nm), .own 501, .d (dI ov), .d (dI bu), .osl 502 3 0 3]) [(501, .row 58 ax.length 5 (apEl ax)), (502, .cells [.d (dS r0.name), .d (dI r0.kind), .own 510, .d (dS r1.name), .d (dI r1.kind), .own 511, .d (dS r2.name), .d (dI r2.kind), .own 512]), (510, .row 63 r0.corners.length 2 (ptEl r0.corners)), (511, .row 63 r1.corners.length 2 (ptEl r1.corners)), (512, .row 63 r2.corners.length 2 (ptEl r2.corners))] := by
  refine callO_of_aw Try.func70 rfl rfl Try.call70 tab_ok rfl rfl rfl rfl (fun cx href => ?_)
  refine AW.seq (ex.sound (rc := []) tab_ok mix href _ ?_)
  refine AW.seq (ex.sound (rc := [87]) tab_ok mix href _ ?_)
  refine ⟨[(7, 501)], _, _, _, _, CloneAx ax h0 h1, rfl, trivial, rfl, ?_⟩
  refine AW.seq (ex.sound (rc := [88]) tab_ok mix href _ ?_)
  refine ⟨[(7, 502)], _, _, _, _, CloneRegs [r0, r1, r2] (by simp) (by simp), rfl, trivial, rfl, ?_⟩
  refine AW.subI (SubI.opn 1 4 502 rfl rfl rfl (ds := [.d (dS r0.name), .d (dI r0.kind), .d (dPts r0.corners), .d (dS r1.name), .d (dI r1.kind), .d (dPts r1.corners), .d (dS r2.name), .d (dI r2.kind), .d (dPts r2.corners)]) (by kernel_rfl)) ?_
  refine AW.subI (σ' := ⟨[(1, .s (.ptr 1 0)), (2, .s (.ptr 2 0))], [(1, some (.cells [.d (dS nm), .own 501, .d (dI ov), .d (dI bu), .osl 502 3 0 3])), (2, some (.cells (zvs ty25.zero))), (501, some (.row 58 ax.length 5 (apEl ax))), (502, some (.cells [.d (dS r0.name), .d (dI r0.kind), .d (dPts r0.corners), .d (dS r1.name), .d (dI r1.kind), .d (dPts r1.corners), .d (dS r2.name), .d (dI r2.kind), .d (dPts r2.corners)]))]⟩) (SubI.of0 href [] rfl ⟨⟨rfl, LeBx.rfl⟩, ⟨rfl, LeBx.rfl⟩, ⟨rfl, LeBx.rfl⟩, ⟨rfl, LeBx.rfl⟩, trivial⟩ ⟨⟨rfl, LeQ.rfl⟩, ⟨rfl, LeQ.rfl⟩, trivial⟩) ?_
  refine AW.cut (σ' := cpS3 nm ax ov bu r0 r1 r2 3) (ex.sound (rc := []) tab_ok mix href _ ?_) ?_
  · refine AW.loopI (fun i : Nat => cpS3 nm ax ov bu r0 r1 r2 i) (fun i => i ≤ 3) (fun i => 3 - i) 0 (Nat.zero_le _) ?_ ?_
    · exact SubI.of0 href [] rfl ⟨⟨rfl, LeBx.rfl⟩, ⟨rfl, LeBx.rfl⟩, ⟨rfl, LeBx.rfl⟩, ⟨rfl, LeBx.rfl⟩, trivial⟩ ⟨⟨rfl, LeQ.rfl⟩, ⟨rfl, LeQ.rfl⟩, ⟨rfl, LeQ.rfl⟩, ⟨rfl, LeQ.rfl⟩, trivial⟩
    · intro i hi
      match i, hi with
      | 0, _ =>
        refine ex.sound (rc := [1000089]) tab_ok mix href _ ?_
        refine And.intro (fun _ => ?_) (fun h => by cases (show (decide ((0 : Int) < 3)) = false from h))
        repeat first | refine sk ?_ | refine st ?_ | refine sg ?_ | refine sh ?_ | refine su ?_ | refine sn1 ?_ | refine sn0 ?_ | refine And.intro (show imp none (gimp _ none) from trivial) ?_
        refine oi ⟨by decide, by decide⟩ ?_
        repeat first | refine sk ?_ | refine st ?_ | refine sg ?_ | refine sh ?_ | refine su ?_ | refine sn1 ?_ | refine sn0 ?_ | refine And.intro (show imp none (gimp _ none) from trivial) ?_
        refine ⟨[(7, 510)], _, _, _, _, ClonePtsO r0.corners n0 m0, rfl, rfl, rfl, ?_⟩
        repeat first | refine sk ?_ | refine st ?_ | refine sg ?_ | refine sh ?_ | refine su ?_ | refine sn1 ?_ | refine sn0 ?_ | refine And.intro (show imp none (gimp _ none) from trivial) ?_
        refine oi ⟨by decide, by decide⟩ ?_
        repeat first | refine sk ?_ | refine st ?_ | refine sg ?_ | refine sh ?_ | refine su ?_ | refine sn1 ?_ | refine sn0 ?_ | refine And.intro (show imp none (gimp _ none) from trivial) ?_
        refine And.intro (by kernel_rfl) ?_
        refine ⟨1, by decide, by decide, ?_⟩
        exact SubI.of0 href [] rfl ⟨⟨rfl, LeBx.rfl⟩, ⟨rfl, LeBx.rfl⟩, ⟨rfl, LeBx.rfl⟩, ⟨rfl, LeBx.rfl⟩, ⟨rfl, LeBx.rfl⟩, trivial⟩ ⟨⟨rfl, LeQ.rfl⟩, ⟨rfl, LeQ.rfl⟩, ⟨rfl, LeQ.rfl⟩, ⟨rfl, LeQ.rfl⟩, trivial⟩
      | 1, _ =>
        refine ex.sound (rc := [1000089]) tab_ok mix href _ ?_
        refine And.intro (fun _ => ?_) (fun h => by cases (show (decide ((1 : Int) < 3)) = false from h))
        repeat first | refine sk ?_ | refine st ?_ | refine sg ?_ | refine sh ?_ | refine su ?_ | refine sn1 ?_ | refine sn0 ?_ | refine And.intro (show imp none (gimp _ none) from trivial) ?_
        refine oi ⟨by decide, by decide⟩ ?_
        repeat first | refine sk ?_ | refine st ?_ | refine sg ?_ | refine sh ?_ | refine su ?_ | refine sn1 ?_ | refine sn0 ?_ | refine And.intro (show imp none (gimp _ none) from trivial) ?_
        refine ⟨[(7, 511)], _, _, _, _, ClonePtsO r1.corners n1 m1, rfl, rfl, rfl, ?_⟩
        repeat first | refine sk ?_ | refine st ?_ | refine sg ?_ | refine sh ?_ | refine su ?_ | refine sn1 ?_ | refine sn0 ?_ | refine And.intro (show imp none (gimp _ none) from trivial) ?_
        refine oi ⟨by decide, by decide⟩ ?_
        repeat first | refine sk ?_ | refine st ?_ | refine sg ?_ | refine sh ?_ | refine su ?_ | refine sn1 ?_ | refine sn0 ?_ | refine And.intro (show imp none (gimp _ none) from trivial) ?_
        refine And.intro (by kernel_rfl) ?_
        refine ⟨2, by decide, by decide, ?_⟩
        exact SubI.of0 href [] rfl ⟨⟨rfl, LeBx.rfl⟩, ⟨rfl, LeBx.rfl⟩, ⟨rfl, LeBx.rfl⟩, ⟨rfl, LeBx.rfl⟩, ⟨rfl, LeBx.rfl⟩, ⟨rfl, LeBx.rfl⟩, trivial⟩ ⟨⟨rfl, LeQ.rfl⟩, ⟨rfl, LeQ.rfl⟩, ⟨rfl, LeQ.rfl⟩, ⟨rfl, LeQ.rfl⟩, trivial⟩
      | 2, _ =>
        refine ex.sound (rc := [1000089]) tab_ok mix href _ ?_
        refine And.intro (fun _ => ?_) (fun h => by cases (show (decide ((2 : Int) < 3)) = false from h))
        repeat first | refine sk ?_ | refine st ?_ | refine sg ?_ | refine sh ?_ | refine su ?_ | refine sn1 ?_ | refine sn0 ?_ | refine And.intro (show imp none (gimp _ none) from trivial) ?_
        refine oi ⟨by decide, by decide⟩ ?_
        repeat first | refine sk ?_ | refine st ?_ | refine sg ?_ | refine sh ?_ | refine su ?_ | refine sn1 ?_ | refine sn0 ?_ | refine And.intro (show imp none (gimp _ none) from trivial) ?_
        refine ⟨[(7, 512)], _, _, _, _, ClonePtsO r2.corners n2 m2, rfl, rfl, rfl, ?_⟩
        repeat first | refine sk ?_ | refine st ?_ | refine sg ?_ | refine sh ?_ | refine su ?_ | refine sn1 ?_ | refine sn0 ?_ | refine And.intro (show imp none (gimp _ none) from trivial) ?_
        refine oi ⟨by decide, by decide⟩ ?_
        repeat first | refine sk ?_ | refine st ?_ | refine sg ?_ | refine sh ?_ | refine su ?_ | refine sn1 ?_ | refine sn0 ?_ | refine And.intro (show imp none (gimp _ none) from trivial) ?_
        refine And.intro (by kernel_rfl) ?_
        refine ⟨3, by decide, by decide, ?_⟩
        exact SubI.of0 href [] rfl ⟨⟨rfl, LeBx.rfl⟩, ⟨rfl, LeBx.rfl⟩, ⟨rfl, LeBx.rfl⟩, ⟨rfl, LeBx.rfl⟩, ⟨rfl, LeBx.rfl⟩, ⟨rfl, LeBx.rfl⟩, ⟨rfl, LeBx.rfl⟩, trivial⟩ ⟨⟨rfl, LeQ.rfl⟩, ⟨rfl, LeQ.rfl⟩, ⟨rfl, LeQ.rfl⟩, ⟨rfl, LeQ.rfl⟩, trivial⟩
      | 3, _ =>
        refine ex.sound (rc := []) tab_ok mix href _ ?_
        refine And.intro (fun h => by cases (show (decide ((3 : Int) < 3)) = true from h)) (fun _ => ?_)
        exact ⟨rfl, SubI.of0 href [] rfl ⟨⟨rfl, LeBx.rfl⟩, ⟨rfl, LeBx.rfl⟩, ⟨rfl, LeBx.rfl⟩, ⟨rfl, LeBx.rfl⟩, ⟨rfl, LeBx.rfl⟩, ⟨rfl, LeBx.rfl⟩, ⟨rfl, LeBx.rfl⟩, trivial⟩ ⟨⟨rfl, LeQ.rfl⟩, ⟨rfl, LeQ.rfl⟩, ⟨rfl, LeQ.rfl⟩, ⟨rfl, LeQ.rfl⟩, trivial⟩⟩
  · refine ex.sound (rc := []) tab_ok mix href _ ?_
    exact ⟨LeQ.rfl, rfl, rfl, rfl, rfl, rfl, trivial⟩
def cpS4 (nm : ByteArray) (ax : List Ap) (ov bu : Int) (r0 r1 r2 r3 : Reg) : Nat → St
  | 0 => ⟨[(1, .s (.ptr 1 0)), (2, .s (.ptr 2 0)), (14, vI 4), (15, vI 0)], [(1, some (.cells [.d (dS nm), .own 501, .d (dI ov), .d (dI bu), .osl 502 3 0 4])), (2, some (.cells (zvs ty25.zero))), (501, some (.row 58 ax.length 5 (apEl ax))), (502, some (.cells [.d (dS r0.name), .d (dI r0.kind), .d (dPts r0.corners), .d (dS r1.name), .d (dI r1.kind), .d (dPts r1.corners), .d (dS r2.name), .d (dI r2.kind), .d (dPts r2.corners), .d (dS r3.name), .d (dI r3.kind), .d (dPts r3.corners)]))]⟩
  | 1 => ⟨[(1, .s (.ptr 1 0)), (2, .s (.ptr 2 0)), (14, vI 4), (15, vI 1)], [(1, some (.cells [.d (dS nm), .own 501, .d (dI ov), .d (dI bu), .osl 502 3 0 4])), (2, some (.cells (zvs ty25.zero))), (501, some (.row 58 ax.length 5 (apEl ax))), (502, some (.cells [.d (dS r0.name), .d (dI r0.kind), .own 510, .d (dS r1.name), .d (dI r1.kind), .d (dPts r1.corners), .d (dS r2.name), .d (dI r2.kind), .d (dPts r2.corners), .d (dS r3.name), .d (dI r3.kind), .d (dPts r3.corners)])), (510, some (.row 63 r0.corners.length 2 (ptEl r0.corners)))]⟩
  | 2 => ⟨[(1, .s (.ptr 1 0)), (2, .s (.ptr 2 0)), (14, vI 4), (15, vI 2)], [(1, some (.cells [.d (dS nm), .own 501, .d (dI ov), .d (dI bu), .osl 502 3 0 4])), (2, some (.cells (zvs ty25.zero))), (501, some (.row 58 ax.length 5 (apEl ax))), (502, some (.cells [.d (dS r0.name), .d (dI r0.kind), .own 510, .d (dS r1.name), .d (dI r1.kind), .own 511, .d (dS r2.name), .d (dI r2.kind), .d (dPts r2.corners), .d (dS r3.name), .d (dI r3.kind), .d (dPts r3.corners)])), (510, some (.row 63 r0.corners.length 2 (ptEl r0.corners))), (511, some (.row 63 r1.corners.length 2 (ptEl r1.corners)))]⟩
  | 3 => ⟨[(1, .s (.ptr 1 0)), (2, .s (.ptr 2 0)), (14, vI 4), (15, vI 3)], [(1, some (.cells [.d (dS nm), .own 501, .d (dI ov), .d (dI bu), .osl 502 3 0 4])), (2, some (.cells (zvs ty25.zero))), (501, some (.row 58 ax.length 5 (apEl ax))), (502, some (.cells [.d (dS r0.name), .d (dI r0.kind), .own 510, .d (dS r1.name), .d (dI r1.kind), .own 511, .d (dS r2.name), .d (dI r2.kind), .own 512, .d (dS r3.name), .d (dI r3.kind), .d (dPts r3.corners)])), (510, some (.row 63 r0.corners.length 2 (ptEl r0.corners))), (511, some (.row 63 r1.corners.length 2 (ptEl r1.corners))), (512, some (.row 63 r2.corners.length 2 (ptEl r2.corners)))]⟩
  | _ => ⟨[(1, .s (.ptr 1 0)), (2, .s (.ptr 2 0)), (14, vI 4), (15, vI 4)], [(1, some (.cells [.d (dS nm), .own 501, .d (dI ov), .d (dI bu), .osl 502 3 0 4])), (2, some (.cells (zvs ty25.zero))), (501, some (.row 58 ax.length 5 (apEl ax))), (502, some (.cells [.d (dS r0.name), .d (dI r0.kind), .own 510, .d (dS r1.name), .d (dI r1.kind), .own 511, .d (dS r2.name), .d (dI r2.kind), .own 512, .d (dS r3.name), .d (dI r3.kind), .own 513])), (510, some (.row 63 r0.corners.length 2 (ptEl r0.corners))), (511, some (.row 63 r1.corners.length 2 (ptEl r1.corners))), (512, some (.row 63 r2.corners.length 2 (ptEl r2.corners))), (513, some (.row 63 r3.corners.length 2 (ptEl r3.corners)))]⟩
theorem copied4 (nm : ByteArray) (ax : List Ap) (ov bu : Int) (r0 r1 r2 r3 : Reg) (h0 : 0 < ax.length) (h1 : ax.length ≤ 1000) (n0 : 0 < r0.corners.length) (m0 : r0.corners.length ≤ 1000000) (n1 : 0 < r1.corners.length) (m1 : r1.corners.length ≤ 1000000) (n2 : 0 < r2.corners.length) (m2 : r2.corners.length ≤ 1000000) (n3 : 0 < r3.corners.length) (m3 : r3.corners.length ≤ 1000000) :
    CallR Try.prog 70 [chan ⟨nm, ax, ov, bu, [r0, r1, r2, r3]⟩] [] (.g [.d (dS nm), .own 501, .d (dI ov), .d (dI bu), .osl 502 3 0 4]) [(501, .row 58 ax.length 5 (apEl ax)), (502, .cells [.d (dS r0.name), .d (dI r0.kind), .own 510, .d (dS r1.name), .d (dI r1.kind), .own 511, .d (dS r2.name), .d (dI r2.kind), .own 512, .d (dS r3.name), .d (dI r3.kind), .own 513]), (510, .row 63 r0.corners.length 2 (ptEl r0.corners)), (511, .row 63 r1.corners.length 2 (ptEl r1.corners)), (512, .row 63 r2.corners.length 2 (ptEl r2.corners)), (513, .row 63 r3.corners.length 2 (ptEl r3.corners))] := by
  refine callO_of_aw Try.func70 rfl rfl Try.call70 tab_ok rfl rfl rfl rfl (fun cx href => ?_)
  refine AW.seq (ex.sound (rc := []) tab_ok mix href _ ?_)
  refine AW.seq (ex.sound (rc := [87]) tab_ok mix href _ ?_)
  refine ⟨[(7, 501)], _, _, _, _, CloneAx ax h0 h1, rfl, trivial, rfl, ?_⟩
  refine AW.seq (ex.sound (rc := [88]) tab_ok mix href _ ?_)
  refine ⟨[(7, 502)], _, _, _, _, CloneRegs [r0, r1, r2, r3] (by simp) (by simp), rfl, trivial, rfl, ?_⟩
  refine AW.subI (SubI.opn 1 4 502 rfl rfl rfl (ds := [.d (dS r0.name), .d (dI r0.kind), .d (dPts r0.corners), .d (dS r1.name), .d (dI r1.kind), .d (dPts r1.corners), .d (dS r2.name), .d (dI r2.kind), .d (dPts r2.corners), .d (dS r3.name), .d (dI r3.kind), .d (dPts r3.corners)]) (by kernel_rfl)) ?_
  refine AW.subI (σ' := ⟨[(1, .s (.ptr 1 0)), (2, .s (.ptr 2 0))], [(1, some (.cells [.d (dS nm), .own 501, .d (dI ov), .d (dI bu), .osl 502 3 0 4])), (2, some (.cells (zvs ty25.zero))), (501, some (.row 58 ax.length 5 (apEl ax))), (502, some (.cells [.d (dS r0.name), .d (dI r0.kind), .d (dPts r0.corners), .d (dS r1.name), .d (dI r1.kind), .d (dPts r1.corners), .d (dS r2.name), .d (dI r2.kind), .d (dPts r2.corners), .d (dS r3.name), .d (dI r3.kind), .d (dPts r3.corners)]))]⟩) (SubI.of0 href [] rfl ⟨⟨rfl, LeBx.rfl⟩, ⟨rfl, LeBx.rfl⟩, ⟨rfl, LeBx.rfl⟩, ⟨rfl, LeBx.rfl⟩, trivial⟩ ⟨⟨rfl, LeQ.rfl⟩, ⟨rfl, LeQ.rfl⟩, trivial⟩) ?_
  refine AW.cut (σ' := cpS4 nm ax ov bu r0 r1 r2 r3 4) (ex.sound (rc := []) tab_ok mix href _ ?_) ?_
  · refine AW.loopI (fun i : Nat => cpS4 nm ax ov bu r0 r1 r2 r3 i) (fun i => i ≤ 4) (fun i => 4 - i) 0 (Nat.zero_le _) ?_ ?_
    · exact SubI.of0 href [] rfl ⟨⟨rfl, LeBx.rfl⟩, ⟨rfl, LeBx.rfl⟩, ⟨rfl, LeBx.rfl⟩, ⟨rfl, LeBx.rfl⟩, trivial⟩ ⟨⟨rfl, LeQ.rfl⟩, ⟨rfl, LeQ.rfl⟩, ⟨rfl, LeQ.rfl⟩, ⟨rfl, LeQ.rfl⟩, trivial⟩
    · intro i hi
      match i, hi with
      | 0, _ =>
        refine ex.sound (rc := [1000089]) tab_ok mix href _ ?_
        refine And.intro (fun _ => ?_) (fun h => by cases (show (decide ((0 : Int) < 4)) = false from h))
        repeat first | refine sk ?_ | refine st ?_ | refine sg ?_ | refine sh ?_ | refine su ?_ | refine sn1 ?_ | refine sn0 ?_ | refine And.intro (show imp none (gimp _ none) from trivial) ?_
        refine oi ⟨by decide, by decide⟩ ?_
        repeat first | refine sk ?_ | refine st ?_ | refine sg ?_ | refine sh ?_ | refine su ?_ | refine sn1 ?_ | refine sn0 ?_ | refine And.intro (show imp none (gimp _ none) from trivial) ?_
        refine ⟨[(7, 510)], _, _, _, _, ClonePtsO r0.corners n0 m0, rfl, rfl, rfl, ?_⟩
        repeat first | refine sk ?_ | refine st ?_ | refine sg ?_ | refine sh ?_ | refine su ?_ | refine sn1 ?_ | refine sn0 ?_ | refine And.intro (show imp none (gimp _ none) from trivial) ?_
        refine oi ⟨by decide, by decide⟩ ?_
        repeat first | refine sk ?_ | refine st ?_ | refine sg ?_ | refine sh ?_ | refine su ?_ | refine sn1 ?_ | refine sn0 ?_ | refine And.intro (show imp none (gimp _ none) from trivial) ?_
        refine And.intro (by kernel_rfl) ?_
        refine ⟨1, by decide, by decide, ?_⟩
        exact SubI.of0 href [] rfl ⟨⟨rfl, LeBx.rfl⟩, ⟨rfl, LeBx.rfl⟩, ⟨rfl, LeBx.rfl⟩, ⟨rfl, LeBx.rfl⟩, ⟨rfl, LeBx.rfl⟩, trivial⟩ ⟨⟨rfl, LeQ.rfl⟩, ⟨rfl, LeQ.rfl⟩, ⟨rfl, LeQ.rfl⟩, ⟨rfl, LeQ.rfl⟩, trivial⟩
      | 1, _ =>
        refine ex.sound (rc := [1000089]) tab_ok mix href _ ?_
        refine And.intro (fun _ => ?_) (fun h => by cases (show (decide ((1 : Int) < 4)) = false from h))
        repeat first | refine sk ?_ | refine st ?_ | refine sg ?_ | refine sh ?_ | refine su ?_ | refine sn1 ?_ | refine sn0 ?_ | refine And.intro (show imp none (gimp _ none) from trivial) ?_
        refine oi ⟨by decide, by decide⟩ ?_
        repeat first | refine sk ?_ | refine st ?_ | refine sg ?_ | refine sh ?_ | refine su ?_ | refine sn1 ?_ | refine sn0 ?_ | refine And.intro (show imp none (gimp _ none) from trivial) ?_
        refine ⟨[(7, 511)], _, _, _, _, ClonePtsO r1.corners n1 m1, rfl, rfl, rfl, ?_⟩
        repeat first | refine sk ?_ | refine st ?_ | refine sg ?_ | refine sh ?_ | refine su ?_ | refine sn1 ?_ | refine sn0 ?_ | refine And.intro (show imp none (gimp _ none) from trivial) ?_
        refine oi ⟨by decide, by decide⟩ ?_
        repeat first | refine sk ?_ | refine st ?_ | refine sg ?_ | refine sh ?_ | refine su ?_ | refine sn1 ?_ | refine sn0 ?_ | refine And.intro (show imp none (gimp _ none) from trivial) ?_
        refine And.intro (by kernel_rfl) ?_
        refine ⟨2, by decide, by decide, ?_⟩
        exact SubI.of0 href [] rfl ⟨⟨rfl, LeBx.rfl⟩, ⟨rfl, LeBx.rfl⟩, ⟨rfl, LeBx.rfl⟩, ⟨rfl, LeBx.rfl⟩, ⟨rfl, LeBx.rfl⟩, ⟨rfl, LeBx.rfl⟩, trivial⟩ ⟨⟨rfl, LeQ.rfl⟩, ⟨rfl, LeQ.rfl⟩, ⟨rfl, LeQ.rfl⟩, ⟨rfl, LeQ.rfl⟩, trivial⟩
      | 2, _ =>
        refine ex.sound (rc := [1000089]) tab_ok mix href _ ?_
        refine And.intro (fun _ => ?_) (fun h => by cases (show (decide ((2 : Int) < 4)) = false from h))
        repeat first | refine sk ?_ | refine st ?_ | refine sg ?_ | refine sh ?_ | refine su ?_ | refine sn1 ?_ | refine sn0 ?_ | refine And.intro (show imp none (gimp _ none) from trivial) ?_
        refine oi ⟨by decide, by decide⟩ ?_
        repeat first | refine sk ?_ | refine st ?_ | refine sg ?_ | refine sh ?_ | refine su ?_ | refine sn1 ?_ | refine sn0 ?_ | refine And.intro (show imp none (gimp _ none) from trivial) ?_
        refine ⟨[(7, 512)], _, _, _, _, ClonePtsO r2.corners n2 m2, rfl, rfl, rfl, ?_⟩
        repeat first | refine sk ?_ | refine st ?_ | refine sg ?_ | refine sh ?_ | refine su ?_ | refine sn1 ?_ | refine sn0 ?_ | refine And.intro (show imp none (gimp _ none) from trivial) ?_
        refine oi ⟨by decide, by decide⟩ ?_
        repeat first | refine sk ?_ | refine st ?_ | refine sg ?_ | refine sh ?_ | refine su ?_ | refine sn1 ?_ | refine sn0 ?_ | refine And.intro (show imp none (gimp _ none) from trivial) ?_
        refine And.intro (by kernel_rfl) ?_
        refine ⟨3, by decide, by decide, ?_⟩
        exact SubI.of0 href [] rfl ⟨⟨rfl, LeBx.rfl⟩, ⟨rfl, LeBx.rfl⟩, ⟨rfl, LeBx.rfl⟩, ⟨rfl, LeBx.rfl⟩, ⟨rfl, LeBx.rfl⟩, ⟨rfl, LeBx.rfl⟩, ⟨rfl, LeBx.rfl⟩, trivial⟩ ⟨⟨rfl, LeQ.rfl⟩, ⟨rfl, LeQ.rfl⟩, ⟨rfl, LeQ.rfl⟩, ⟨rfl, LeQ.rfl⟩, trivial⟩
      | 3, _ =>
        refine ex.sound (rc := [1000089]) tab_ok mix href _ ?_
        refine And.intro (fun _ => ?_) (fun h => by cases (show (decide ((3 : Int) < 4)) = false from h))
        repeat first | refine sk ?_ | refine st ?_ | refine sg ?_ | refine sh ?_ | refine su ?_ | refine sn1 ?_ | refine sn0 ?_ | refine And.intro (show imp none (gimp _ none) from trivial) ?_
        refine oi ⟨by decide, by decide⟩ ?_
        repeat first | refine sk ?_ | refine st ?_ | refine sg ?_ | refine sh ?_ | refine su ?_ | refine sn1 ?_ | refine sn0 ?_ | refine And.intro (show imp none (gimp _ none) from trivial) ?_
        refine ⟨[(7, 513)], _, _, _, _, ClonePtsO r3.corners n3 m3, rfl, rfl, rfl, ?_⟩
        repeat first | refine sk ?_ | refine st ?_ | refine sg ?_ | refine sh ?_ | refine su ?_ | refine sn1 ?_ | refine sn0 ?_ | refine And.intro (show imp none (gimp _ none) from trivial) ?_
        refine oi ⟨by decide, by decide⟩ ?_
        repeat first | refine sk ?_ | refine st ?_ | refine sg ?_ | refine sh ?_ | refine su ?_ | refine sn1 ?_ | refine sn0 ?_ | refine And.intro (show imp none (gimp _ none) from trivial) ?_
        refine And.intro (by kernel_rfl) ?_
        refine ⟨4, by decide, by decide, ?_⟩
        exact SubI.of0 href [] rfl ⟨⟨rfl, LeBx.rfl⟩, ⟨rfl, LeBx.rfl⟩, ⟨rfl, LeBx.rfl⟩, ⟨rfl, LeBx.rfl⟩, ⟨rfl, LeBx.rfl⟩, ⟨rfl, LeBx.rfl⟩, ⟨rfl, LeBx.rfl⟩, ⟨rfl, LeBx.rfl⟩, trivial⟩ ⟨⟨rfl, LeQ.rfl⟩, ⟨rfl, LeQ.rfl⟩, ⟨rfl, LeQ.rfl⟩, ⟨rfl, LeQ.rfl⟩, trivial⟩
      | 4, _ =>
        refine ex.sound (rc := []) tab_ok mix href _ ?_
        refine And.intro (fun h => by cases (show (decide ((4 : Int) < 4)) = true from h)) (fun _ => ?_)
        exact ⟨rfl, SubI.of0 href [] rfl ⟨⟨rfl, LeBx.rfl⟩, ⟨rfl, LeBx.rfl⟩, ⟨rfl, LeBx.rfl⟩, ⟨rfl, LeBx.rfl⟩, ⟨rfl, LeBx.rfl⟩, ⟨rfl, LeBx.rfl⟩, ⟨rfl, LeBx.rfl⟩, ⟨rfl, LeBx.rfl⟩, trivial⟩ ⟨⟨rfl, LeQ.rfl⟩, ⟨rfl, LeQ.rfl⟩, ⟨rfl, LeQ.rfl⟩, ⟨rfl, LeQ.rfl⟩, trivial⟩⟩
  · refine ex.sound (rc := []) tab_ok mix href _ ?_
    exact ⟨LeQ.rfl, rfl, rfl, rfl, rfl, rfl, rfl, trivial⟩
end Go.Ch

/- Box and Deepen of a channel, the result in memory of its own. By a program (gen/genM2.py). -/
namespace Go.Ch
open Go Go.Ax Go.Proofs Go.Proofs.Try
set_option maxRecDepth 100000
set_option pp.maxSteps 400
set_option maxHeartbeats 1000000

theorem copied0 (nm : ByteArray) (ax : List Ap) (ov bu : Int) (h0 : 0 < ax.length) (h1 : ax.length ≤ 1000) :
    CallR Try.prog 70 [chan ⟨nm, ax, ov, bu, []⟩] [] (.g [.d (dS nm), .own 501, .d (dI ov), .d (dI bu), .d (dRegs [])]) [(501, .row 58 ax.length 5 (apEl ax))] :=
  copiedO ⟨nm, ax, ov, bu, []⟩ h0 h1 (by simp) (by simp)
theorem chgBox0 (nm : ByteArray) (ax : List Ap) (ov bu : Int) (m : Int) (hc : (⟨nm, ax, ov, bu, []⟩ : Chan).ok) (a2 : 2 ≤ ax.length) (a20 : ax.length ≤ 20)  (he : errC (boxC ⟨nm, ax, ov, bu, []⟩ m) = 0) :
    CallR Try.prog 50 [chan ⟨nm, ax, ov, bu, []⟩, .s (.clo 51 [.ptr 1001 0])] [(1001, .cells [.d (dI m)])] (.t [.g [.d (dS nm), .own 601, .d (dI ov), .d (dI bu), .d (dRegs [])], .s (.d (dI 0))]) [(1001, .cells [.d (dI m)]), (601, .row 58 ax.length 5 (boxF ⟨nm, ax, ov, bu, []⟩ m ax.length))] := by
  refine callO_of_ex (rc := [51, 70]) (N := 31) Try.func50 rfl rfl Try.call50 tab_ok mix rfl rfl rfl rfl (fun cx href => ?_)
  refine ⟨[(501, 601)], _, _, _, _, copied0 nm ax ov bu (by omega) (by omega), rfl, trivial, rfl, ?_⟩
  refine AW.loopI (fun i : Nat => ⟨[(1, .s (.clo 51 [.ptr 1001 0])), (2, .s (.ptr 2 0)), (4, .s (.ptr 4 0)), (5, vI 0), (6, .s (.ptr 6 0)), (13, vI ax.length), (14, vI i)],
      [(2, some (chanB ⟨nm, ax, ov, bu, []⟩)), (4, some (.cells (zvs ty25.zero))), (6, some (.cells [.d (dS nm), .own 601, .d (dI ov), .d (dI bu), .d (dRegs [])])), (601, some (.row 58 ax.length 5 (boxF ⟨nm, ax, ov, bu, []⟩ m i))), (1001, some (.cells [.d (dI m)]))]⟩)
    (fun i => i ≤ ax.length) (fun i => ax.length - i) 0 (Nat.zero_le _) ?_ ?_
  · exact SubI.of [] (by rw [href]; rfl) rfl ⟨⟨rfl, LeBx.rfl⟩, ⟨rfl, LeBx.rfl⟩, ⟨rfl, LeBx.rfl⟩, ⟨rfl, LeBx.row rfl fun k j _ _ => LeD.refl _⟩, ⟨rfl, LeBx.rfl⟩, trivial⟩ ⟨⟨rfl, LeQ.rfl⟩, ⟨rfl, LeQ.rfl⟩, ⟨rfl, LeQ.rfl⟩, ⟨rfl, LeQ.rfl⟩, ⟨rfl, LeQ.rfl⟩, ⟨rfl, LeQ.rfl⟩, ⟨rfl, LeQ.rfl⟩, trivial⟩
  · intro i hi
    refine ex.sound (rc := [51, 70]) tab_ok mix href _ ?_
    refine And.intro (fun h1 => ?_) (fun h1 => ?_)
    · have h1 : (i : Int) < ax.length := decT h1
      have hi' : i < ax.length := by omega
      refine oi ⟨by omega, by omega⟩ ?_
      refine ⟨[(1002, 601)], _, _, _, _, box1 ⟨nm, ax, ov, bu, []⟩ m i hi', rfl, ⟨rfl, rfl, trivial⟩, rfl, ?_⟩
      refine ⟨i + 1, by omega, by omega, ?_⟩
      exact SubI.of [] (by rw [href]; rfl) rfl ⟨⟨rfl, LeBx.rfl⟩, ⟨rfl, LeBx.rfl⟩, ⟨rfl, LeBx.rfl⟩, ⟨rfl, LeBx.row rfl fun k j hk hj => LeD.of_eq (box_step (c := ⟨nm, ax, ov, bu, []⟩) hi' hk hj)⟩, ⟨rfl, LeBx.rfl⟩, trivial⟩ ⟨⟨rfl, LeQ.rfl⟩, ⟨rfl, LeQ.rfl⟩, ⟨rfl, LeQ.rfl⟩, ⟨rfl, LeQ.rfl⟩, ⟨rfl, LeQ.rfl⟩, ⟨rfl, LeQ.rfl⟩, ⟨rfl, LeQ.int (w64_of (by omega) (by omega))⟩, trivial⟩
    · have h1 : ¬ (i : Int) < ax.length := decF h1
      obtain rfl : i = ax.length := by omega
      have hle : LeD (.slc ax.length 5 (boxF ⟨nm, ax, ov, bu, []⟩ m ax.length)) (dAps (boxC ⟨nm, ax, ov, bu, []⟩ m).axis) := LeD.slc' (by simp [boxC]) fun k j hk hj => LeD.of_eq (boxF_all (c := ⟨nm, ax, ov, bu, []⟩) hk)
      refine callN ((gCheck (boxC ⟨nm, ax, ov, bu, []⟩ m) (boxC_ok hc m)).conv (args' := _) ⟨⟨LeD.refl _, hle, LeD.refl _, LeD.refl _, ?_, trivial⟩, trivial⟩) ?_
      · exact LeD.refl _
      rw [he]
      refine And.intro (fun h2 => by cases (show ((0 : Int) != 0) = true from h2)) (fun _ => ?_)
      exact ⟨LeQ.rfl, rfl, rfl, trivial⟩
attribute [local irreducible] errC in
theorem BoxO0 (nm : ByteArray) (ax : List Ap) (ov bu : Int) (m : Int) (hc : (⟨nm, ax, ov, bu, []⟩ : Chan).ok)  (h1 : errC (⟨nm, ax, ov, bu, []⟩ : Chan) = 0) (h2 : within m 0 100000 = true) (he : errC (boxC ⟨nm, ax, ov, bu, []⟩ m) = 0) :
    CallR Try.prog 19 [chan ⟨nm, ax, ov, bu, []⟩, vI m] [] (.t [.g [.d (dS nm), .own 701, .d (dI ov), .d (dI bu), .d (dRegs [])], .s (.d (dI 0))]) [(701, .row 58 ax.length 5 (boxF ⟨nm, ax, ov, bu, []⟩ m ax.length))] := by
  have hv := val_of _ h1
  refine callO_of_ex (rc := [50]) (N := 21) Try.func19 rfl rfl Try.call19 tab_ok mix rfl rfl rfl rfl (fun cx href => ?_)
  refine callN (gCheck _ hc) ?_
  rw [h1]
  refine And.intro (fun h => by cases (show ((0 : Int) != 0) = true from h)) (fun _ => ?_)
  refine callN (outside _ _ _) ?_
  refine And.intro (fun h => ?_) (fun _ => ?_)
  · have h : (!within m 0 100000) = true := h
    rw [h2] at h; cases h
  refine ⟨(1001, 3) :: [(601, 701)], _, _, _, _, chgBox0 nm ax ov bu  m hc hv.n2 hv.n20  he, rfl, ⟨rfl, trivial⟩, rfl, ?_⟩
  exact ⟨LeQ.rfl, rfl, trivial⟩
theorem chgDeep0 (nm : ByteArray) (ax : List Ap) (ov bu : Int) (m : Int) (hc : (⟨nm, ax, ov, bu, []⟩ : Chan).ok) (a2 : 2 ≤ ax.length) (a20 : ax.length ≤ 20)  (he : errC (deepC ⟨nm, ax, ov, bu, []⟩ m) = 0) :
    CallR Try.prog 50 [chan ⟨nm, ax, ov, bu, []⟩, .s (.clo 52 [.ptr 1001 0])] [(1001, .cells [.d (dI m)])] (.t [.g [.d (dS nm), .own 601, .d (dI ov), .d (dI bu), .d (dRegs [])], .s (.d (dI 0))]) [(1001, .cells [.d (dI m)]), (601, .row 58 ax.length 5 (deepF ⟨nm, ax, ov, bu, []⟩ m ax.length))] := by
  refine callO_of_ex (rc := [52, 70]) (N := 31) Try.func50 rfl rfl Try.call50 tab_ok mix rfl rfl rfl rfl (fun cx href => ?_)
  refine ⟨[(501, 601)], _, _, _, _, copied0 nm ax ov bu (by omega) (by omega), rfl, trivial, rfl, ?_⟩
  refine AW.loopI (fun i : Nat => ⟨[(1, .s (.clo 52 [.ptr 1001 0])), (2, .s (.ptr 2 0)), (4, .s (.ptr 4 0)), (5, vI 0), (6, .s (.ptr 6 0)), (13, vI ax.length), (14, vI i)],
      [(2, some (chanB ⟨nm, ax, ov, bu, []⟩)), (4, some (.cells (zvs ty25.zero))), (6, some (.cells [.d (dS nm), .own 601, .d (dI ov), .d (dI bu), .d (dRegs [])])), (601, some (.row 58 ax.length 5 (deepF ⟨nm, ax, ov, bu, []⟩ m i))), (1001, some (.cells [.d (dI m)]))]⟩)
    (fun i => i ≤ ax.length) (fun i => ax.length - i) 0 (Nat.zero_le _) ?_ ?_
  · exact SubI.of [] (by rw [href]; rfl) rfl ⟨⟨rfl, LeBx.rfl⟩, ⟨rfl, LeBx.rfl⟩, ⟨rfl, LeBx.rfl⟩, ⟨rfl, LeBx.row rfl fun k j _ _ => LeD.refl _⟩, ⟨rfl, LeBx.rfl⟩, trivial⟩ ⟨⟨rfl, LeQ.rfl⟩, ⟨rfl, LeQ.rfl⟩, ⟨rfl, LeQ.rfl⟩, ⟨rfl, LeQ.rfl⟩, ⟨rfl, LeQ.rfl⟩, ⟨rfl, LeQ.rfl⟩, ⟨rfl, LeQ.rfl⟩, trivial⟩
  · intro i hi
    refine ex.sound (rc := [52, 70]) tab_ok mix href _ ?_
    refine And.intro (fun h1 => ?_) (fun h1 => ?_)
    · have h1 : (i : Int) < ax.length := decT h1
      have hi' : i < ax.length := by omega
      refine oi ⟨by omega, by omega⟩ ?_
      refine ⟨[(1002, 601)], _, _, _, _, deep1 ⟨nm, ax, ov, bu, []⟩ m i hi', rfl, ⟨rfl, rfl, trivial⟩, rfl, ?_⟩
      refine ⟨i + 1, by omega, by omega, ?_⟩
      exact SubI.of [] (by rw [href]; rfl) rfl ⟨⟨rfl, LeBx.rfl⟩, ⟨rfl, LeBx.rfl⟩, ⟨rfl, LeBx.rfl⟩, ⟨rfl, LeBx.row rfl fun k j hk hj => LeD.of_eq (deep_step (c := ⟨nm, ax, ov, bu, []⟩) hi' hk hj)⟩, ⟨rfl, LeBx.rfl⟩, trivial⟩ ⟨⟨rfl, LeQ.rfl⟩, ⟨rfl, LeQ.rfl⟩, ⟨rfl, LeQ.rfl⟩, ⟨rfl, LeQ.rfl⟩, ⟨rfl, LeQ.rfl⟩, ⟨rfl, LeQ.rfl⟩, ⟨rfl, LeQ.int (w64_of (by omega) (by omega))⟩, trivial⟩
    · have h1 : ¬ (i : Int) < ax.length := decF h1
      obtain rfl : i = ax.length := by omega
      have hle : LeD (.slc ax.length 5 (deepF ⟨nm, ax, ov, bu, []⟩ m ax.length)) (dAps (deepC ⟨nm, ax, ov, bu, []⟩ m).axis) := LeD.slc' (by simp [deepC]) fun k j hk hj => LeD.of_eq (deepF_all (c := ⟨nm, ax, ov, bu, []⟩) hk)
      refine callN ((gCheck (deepC ⟨nm, ax, ov, bu, []⟩ m) (deepC_ok hc m)).conv (args' := _) ⟨⟨LeD.refl _, hle, LeD.refl _, LeD.refl _, ?_, trivial⟩, trivial⟩) ?_
      · exact LeD.refl _
      rw [he]
      refine And.intro (fun h2 => by cases (show ((0 : Int) != 0) = true from h2)) (fun _ => ?_)
      exact ⟨LeQ.rfl, rfl, rfl, trivial⟩
attribute [local irreducible] errC in
theorem DeepO0 (nm : ByteArray) (ax : List Ap) (ov bu : Int) (m : Int) (hc : (⟨nm, ax, ov, bu, []⟩ : Chan).ok)  (h1 : errC (⟨nm, ax, ov, bu, []⟩ : Chan) = 0) (h2 : within m (-20000) 20000 = true) (he : errC (deepC ⟨nm, ax, ov, bu, []⟩ m) = 0) :
    CallR Try.prog 20 [chan ⟨nm, ax, ov, bu, []⟩, vI m] [] (.t [.g [.d (dS nm), .own 701, .d (dI ov), .d (dI bu), .d (dRegs [])], .s (.d (dI 0))]) [(701, .row 58 ax.length 5 (deepF ⟨nm, ax, ov, bu, []⟩ m ax.length))] := by
  have hv := val_of _ h1
  refine callO_of_ex (rc := [50]) (N := 21) Try.func20 rfl rfl Try.call20 tab_ok mix rfl rfl rfl rfl (fun cx href => ?_)
  refine callN (gCheck _ hc) ?_
  rw [h1]
  refine And.intro (fun h => by cases (show ((0 : Int) != 0) = true from h)) (fun _ => ?_)
  refine callN (outside _ _ _) ?_
  refine And.intro (fun h => ?_) (fun _ => ?_)
  · have h : (!within m (-20000) 20000) = true := h
    rw [h2] at h; cases h
  refine ⟨(1001, 3) :: [(601, 701)], _, _, _, _, chgDeep0 nm ax ov bu  m hc hv.n2 hv.n20  he, rfl, ⟨rfl, trivial⟩, rfl, ?_⟩
  exact ⟨LeQ.rfl, rfl, trivial⟩
theorem chgBox1 (nm : ByteArray) (ax : List Ap) (ov bu : Int) (r0 : Reg) (m : Int) (hc : (⟨nm, ax, ov, bu, [r0]⟩ : Chan).ok) (a2 : 2 ≤ ax.length) (a20 : ax.length ≤ 20) (n0 : 0 < r0.corners.length) (m0 : r0.corners.length ≤ 1000000) (he : errC (boxC ⟨nm, ax, ov, bu, [r0]⟩ m) = 0) :
    CallR Try.prog 50 [chan ⟨nm, ax, ov, bu, [r0]⟩, .s (.clo 51 [.ptr 1001 0])] [(1001, .cells [.d (dI m)])] (.t [.g [.d (dS nm), .own 601, .d (dI ov), .d (dI bu), .osl 602 3 0 1], .s (.d (dI 0))]) [(1001, .cells [.d (dI m)]), (601, .row 58 ax.length 5 (boxF ⟨nm, ax, ov, bu, [r0]⟩ m ax.length)), (602, .cells [.d (dS r0.name), .d (dI r0.kind), .own 610]), (610, .row 63 r0.corners.length 2 (ptEl r0.corners))] := by
  refine callO_of_ex (rc := [51, 70]) (N := 31) Try.func50 rfl rfl Try.call50 tab_ok mix rfl rfl rfl rfl (fun cx href => ?_)
  refine ⟨[(501, 601), (502, 602), (510, 610)], _, _, _, _, copied1 nm ax ov bu r0 (by omega) (by omega) n0 m0, rfl, trivial, rfl, ?_⟩
  refine AW.loopI (fun i : Nat => ⟨[(1, .s (.clo 51 [.ptr 1001 0])), (2, .s (.ptr 2 0)), (4, .s (.ptr 4 0)), (5, vI 0), (6, .s (.ptr 6 0)), (13, vI ax.length), (14, vI i)],
      [(2, some (chanB ⟨nm, ax, ov, bu, [r0]⟩)), (4, some (.cells (zvs ty25.zero))), (6, some (.cells [.d (dS nm), .own 601, .d (dI ov), .d (dI bu), .osl 602 3 0 1])), (601, some (.row 58 ax.length 5 (boxF ⟨nm, ax, ov, bu, [r0]⟩ m i))), (602, some (.cells [.d (dS r0.name), .d (dI r0.kind), .own 610])), (610, some (.row 63 r0.corners.length 2 (ptEl r0.corners))), (1001, some (.cells [.d (dI m)]))]⟩)
    (fun i => i ≤ ax.length) (fun i => ax.length - i) 0 (Nat.zero_le _) ?_ ?_
  · exact SubI.of [] (by rw [href]; rfl) rfl ⟨⟨rfl, LeBx.rfl⟩, ⟨rfl, LeBx.rfl⟩, ⟨rfl, LeBx.rfl⟩, ⟨rfl, LeBx.row rfl fun k j _ _ => LeD.refl _⟩, ⟨rfl, LeBx.rfl⟩, ⟨rfl, LeBx.rfl⟩, ⟨rfl, LeBx.rfl⟩, trivial⟩ ⟨⟨rfl, LeQ.rfl⟩, ⟨rfl, LeQ.rfl⟩, ⟨rfl, LeQ.rfl⟩, ⟨rfl, LeQ.rfl⟩, ⟨rfl, LeQ.rfl⟩, ⟨rfl, LeQ.rfl⟩, ⟨rfl, LeQ.rfl⟩, trivial⟩
  · intro i hi
    refine ex.sound (rc := [51, 70]) tab_ok mix href _ ?_
    refine And.intro (fun h1 => ?_) (fun h1 => ?_)
    · have h1 : (i : Int) < ax.length := decT h1
      have hi' : i < ax.length := by omega
      refine oi ⟨by omega, by omega⟩ ?_
      refine ⟨[(1002, 601)], _, _, _, _, box1 ⟨nm, ax, ov, bu, [r0]⟩ m i hi', rfl, ⟨rfl, rfl, trivial⟩, rfl, ?_⟩
      refine ⟨i + 1, by omega, by omega, ?_⟩
      exact SubI.of [] (by rw [href]; rfl) rfl ⟨⟨rfl, LeBx.rfl⟩, ⟨rfl, LeBx.rfl⟩, ⟨rfl, LeBx.rfl⟩, ⟨rfl, LeBx.row rfl fun k j hk hj => LeD.of_eq (box_step (c := ⟨nm, ax, ov, bu, [r0]⟩) hi' hk hj)⟩, ⟨rfl, LeBx.rfl⟩, ⟨rfl, LeBx.rfl⟩, ⟨rfl, LeBx.rfl⟩, trivial⟩ ⟨⟨rfl, LeQ.rfl⟩, ⟨rfl, LeQ.rfl⟩, ⟨rfl, LeQ.rfl⟩, ⟨rfl, LeQ.rfl⟩, ⟨rfl, LeQ.rfl⟩, ⟨rfl, LeQ.rfl⟩, ⟨rfl, LeQ.int (w64_of (by omega) (by omega))⟩, trivial⟩
    · have h1 : ¬ (i : Int) < ax.length := decF h1
      obtain rfl : i = ax.length := by omega
      have hle : LeD (.slc ax.length 5 (boxF ⟨nm, ax, ov, bu, [r0]⟩ m ax.length)) (dAps (boxC ⟨nm, ax, ov, bu, [r0]⟩ m).axis) := LeD.slc' (by simp [boxC]) fun k j hk hj => LeD.of_eq (boxF_all (c := ⟨nm, ax, ov, bu, [r0]⟩) hk)
      refine callN ((gCheck (boxC ⟨nm, ax, ov, bu, [r0]⟩ m) (boxC_ok hc m)).conv (args' := _) ⟨⟨LeD.refl _, hle, LeD.refl _, LeD.refl _, ?_, trivial⟩, trivial⟩) ?_
      · refine LeD.slc' rfl fun i j hi hj => ?_
        match i, hi, j, hj with
        | 0, _, 0, _ => exact LeD.of_eq rfl
        | 0, _, 1, _ => exact LeD.of_eq rfl
        | 0, _, 2, _ => exact LeD.of_eq rfl
      rw [he]
      refine And.intro (fun h2 => by cases (show ((0 : Int) != 0) = true from h2)) (fun _ => ?_)
      exact ⟨LeQ.rfl, rfl, rfl, rfl, rfl, trivial⟩
attribute [local irreducible] errC in
theorem BoxO1 (nm : ByteArray) (ax : List Ap) (ov bu : Int) (r0 : Reg) (m : Int) (hc : (⟨nm, ax, ov, bu, [r0]⟩ : Chan).ok) (n0 : 0 < r0.corners.length) (m0 : r0.corners.length ≤ 1000000) (h1 : errC (⟨nm, ax, ov, bu, [r0]⟩ : Chan) = 0) (h2 : within m 0 100000 = true) (he : errC (boxC ⟨nm, ax, ov, bu, [r0]⟩ m) = 0) :
    CallR Try.prog 19 [chan ⟨nm, ax, ov, bu, [r0]⟩, vI m] [] (.t [.g [.d (dS nm), .own 701, .d (dI ov), .d (dI bu), .osl 702 3 0 1], .s (.d (dI 0))]) [(701, .row 58 ax.length 5 (boxF ⟨nm, ax, ov, bu, [r0]⟩ m ax.length)), (702, .cells [.d (dS r0.name), .d (dI r0.kind), .own 710]), (710, .row 63 r0.corners.length 2 (ptEl r0.corners))] := by
  have hv := val_of _ h1
  refine callO_of_ex (rc := [50]) (N := 21) Try.func19 rfl rfl Try.call19 tab_ok mix rfl rfl rfl rfl (fun cx href => ?_)
  refine callN (gCheck _ hc) ?_
  rw [h1]
  refine And.intro (fun h => by cases (show ((0 : Int) != 0) = true from h)) (fun _ => ?_)
  refine callN (outside _ _ _) ?_
  refine And.intro (fun h => ?_) (fun _ => ?_)
  · have h : (!within m 0 100000) = true := h
    rw [h2] at h; cases h
  refine ⟨(1001, 3) :: [(601, 701), (602, 702), (610, 710)], _, _, _, _, chgBox1 nm ax ov bu r0 m hc hv.n2 hv.n20 n0 m0 he, rfl, ⟨rfl, trivial⟩, rfl, ?_⟩
  exact ⟨LeQ.rfl, rfl, rfl, rfl, trivial⟩
theorem chgDeep1 (nm : ByteArray) (ax : List Ap) (ov bu : Int) (r0 : Reg) (m : Int) (hc : (⟨nm, ax, ov, bu, [r0]⟩ : Chan).ok) (a2 : 2 ≤ ax.length) (a20 : ax.length ≤ 20) (n0 : 0 < r0.corners.length) (m0 : r0.corners.length ≤ 1000000) (he : errC (deepC ⟨nm, ax, ov, bu, [r0]⟩ m) = 0) :
    CallR Try.prog 50 [chan ⟨nm, ax, ov, bu, [r0]⟩, .s (.clo 52 [.ptr 1001 0])] [(1001, .cells [.d (dI m)])] (.t [.g [.d (dS nm), .own 601, .d (dI ov), .d (dI bu), .osl 602 3 0 1], .s (.d (dI 0))]) [(1001, .cells [.d (dI m)]), (601, .row 58 ax.length 5 (deepF ⟨nm, ax, ov, bu, [r0]⟩ m ax.length)), (602, .cells [.d (dS r0.name), .d (dI r0.kind), .own 610]), (610, .row 63 r0.corners.length 2 (ptEl r0.corners))] := by
  refine callO_of_ex (rc := [52, 70]) (N := 31) Try.func50 rfl rfl Try.call50 tab_ok mix rfl rfl rfl rfl (fun cx href => ?_)
  refine ⟨[(501, 601), (502, 602), (510, 610)], _, _, _, _, copied1 nm ax ov bu r0 (by omega) (by omega) n0 m0, rfl, trivial, rfl, ?_⟩
  refine AW.loopI (fun i : Nat => ⟨[(1, .s (.clo 52 [.ptr 1001 0])), (2, .s (.ptr 2 0)), (4, .s (.ptr 4 0)), (5, vI 0), (6, .s (.ptr 6 0)), (13, vI ax.length), (14, vI i)],
      [(2, some (chanB ⟨nm, ax, ov, bu, [r0]⟩)), (4, some (.cells (zvs ty25.zero))), (6, some (.cells [.d (dS nm), .own 601, .d (dI ov), .d (dI bu), .osl 602 3 0 1])), (601, some (.row 58 ax.length 5 (deepF ⟨nm, ax, ov, bu, [r0]⟩ m i))), (602, some (.cells [.d (dS r0.name), .d (dI r0.kind), .own 610])), (610, some (.row 63 r0.corners.length 2 (ptEl r0.corners))), (1001, some (.cells [.d (dI m)]))]⟩)
    (fun i => i ≤ ax.length) (fun i => ax.length - i) 0 (Nat.zero_le _) ?_ ?_
  · exact SubI.of [] (by rw [href]; rfl) rfl ⟨⟨rfl, LeBx.rfl⟩, ⟨rfl, LeBx.rfl⟩, ⟨rfl, LeBx.rfl⟩, ⟨rfl, LeBx.row rfl fun k j _ _ => LeD.refl _⟩, ⟨rfl, LeBx.rfl⟩, ⟨rfl, LeBx.rfl⟩, ⟨rfl, LeBx.rfl⟩, trivial⟩ ⟨⟨rfl, LeQ.rfl⟩, ⟨rfl, LeQ.rfl⟩, ⟨rfl, LeQ.rfl⟩, ⟨rfl, LeQ.rfl⟩, ⟨rfl, LeQ.rfl⟩, ⟨rfl, LeQ.rfl⟩, ⟨rfl, LeQ.rfl⟩, trivial⟩
  · intro i hi
    refine ex.sound (rc := [52, 70]) tab_ok mix href _ ?_
    refine And.intro (fun h1 => ?_) (fun h1 => ?_)
    · have h1 : (i : Int) < ax.length := decT h1
      have hi' : i < ax.length := by omega
      refine oi ⟨by omega, by omega⟩ ?_
      refine ⟨[(1002, 601)], _, _, _, _, deep1 ⟨nm, ax, ov, bu, [r0]⟩ m i hi', rfl, ⟨rfl, rfl, trivial⟩, rfl, ?_⟩
      refine ⟨i + 1, by omega, by omega, ?_⟩
      exact SubI.of [] (by rw [href]; rfl) rfl ⟨⟨rfl, LeBx.rfl⟩, ⟨rfl, LeBx.rfl⟩, ⟨rfl, LeBx.rfl⟩, ⟨rfl, LeBx.row rfl fun k j hk hj => LeD.of_eq (deep_step (c := ⟨nm, ax, ov, bu, [r0]⟩) hi' hk hj)⟩, ⟨rfl, LeBx.rfl⟩, ⟨rfl, LeBx.rfl⟩, ⟨rfl, LeBx.rfl⟩, trivial⟩ ⟨⟨rfl, LeQ.rfl⟩, ⟨rfl, LeQ.rfl⟩, ⟨rfl, LeQ.rfl⟩, ⟨rfl, LeQ.rfl⟩, ⟨rfl, LeQ.rfl⟩, ⟨rfl, LeQ.rfl⟩, ⟨rfl, LeQ.int (w64_of (by omega) (by omega))⟩, trivial⟩
    · have h1 : ¬ (i : Int) < ax.length := decF h1
      obtain rfl : i = ax.length := by omega
      have hle : LeD (.slc ax.length 5 (deepF ⟨nm, ax, ov, bu, [r0]⟩ m ax.length)) (dAps (deepC ⟨nm, ax, ov, bu, [r0]⟩ m).axis) := LeD.slc' (by simp [deepC]) fun k j hk hj => LeD.of_eq (deepF_all (c := ⟨nm, ax, ov, bu, [r0]⟩) hk)
      refine callN ((gCheck (deepC ⟨nm, ax, ov, bu, [r0]⟩ m) (deepC_ok hc m)).conv (args' := _) ⟨⟨LeD.refl _, hle, LeD.refl _, LeD.refl _, ?_, trivial⟩, trivial⟩) ?_
      · refine LeD.slc' rfl fun i j hi hj => ?_
        match i, hi, j, hj with
        | 0, _, 0, _ => exact LeD.of_eq rfl
        | 0, _, 1, _ => exact LeD.of_eq rfl
        | 0, _, 2, _ => exact LeD.of_eq rfl
      rw [he]
      refine And.intro (fun h2 => by cases (show ((0 : Int) != 0) = true from h2)) (fun _ => ?_)
      exact ⟨LeQ.rfl, rfl, rfl, rfl, rfl, trivial⟩
attribute [local irreducible] errC in
theorem DeepO1 (nm : ByteArray) (ax : List Ap) (ov bu : Int) (r0 : Reg) (m : Int) (hc : (⟨nm, ax, ov, bu, [r0]⟩ : Chan).ok) (n0 : 0 < r0.corners.length) (m0 : r0.corners.length ≤ 1000000) (h1 : errC (⟨nm, ax, ov, bu, [r0]⟩ : Chan) = 0) (h2 : within m (-20000) 20000 = true) (he : errC (deepC ⟨nm, ax, ov, bu, [r0]⟩ m) = 0) :
    CallR Try.prog 20 [chan ⟨nm, ax, ov, bu, [r0]⟩, vI m] [] (.t [.g [.d (dS nm), .own 701, .d (dI ov), .d (dI bu), .osl 702 3 0 1], .s (.d (dI 0))]) [(701, .row 58 ax.length 5 (deepF ⟨nm, ax, ov, bu, [r0]⟩ m ax.length)), (702, .cells [.d (dS r0.name), .d (dI r0.kind), .own 710]), (710, .row 63 r0.corners.length 2 (ptEl r0.corners))] := by
  have hv := val_of _ h1
  refine callO_of_ex (rc := [50]) (N := 21) Try.func20 rfl rfl Try.call20 tab_ok mix rfl rfl rfl rfl (fun cx href => ?_)
  refine callN (gCheck _ hc) ?_
  rw [h1]
  refine And.intro (fun h => by cases (show ((0 : Int) != 0) = true from h)) (fun _ => ?_)
  refine callN (outside _ _ _) ?_
  refine And.intro (fun h => ?_) (fun _ => ?_)
  · have h : (!within m (-20000) 20000) = true := h
    rw [h2] at h; cases h
  refine ⟨(1001, 3) :: [(601, 701), (602, 702), (610, 710)], _, _, _, _, chgDeep1 nm ax ov bu r0 m hc hv.n2 hv.n20 n0 m0 he, rfl, ⟨rfl, trivial⟩, rfl, ?_⟩
  exact ⟨LeQ.rfl, rfl, rfl, rfl, trivial⟩
theorem chgBox2 (nm : ByteArray) (ax : List Ap) (ov bu : Int) (r0 r1 : Reg) (m : Int) (hc : (⟨nm, ax, ov, bu, [r0, r1]⟩ : Chan).ok) (a2 : 2 ≤ ax.length) (a20 : ax.length ≤ 20) (n0 : 0 < r0.corners.length) (m0 : r0.corners.length ≤ 1000000) (n1 : 0 < r1.corners.length) (m1 : r1.corners.length ≤ 1000000) (he : errC (boxC ⟨nm, ax, ov, bu, [r0, r1]⟩ m) = 0) :
    CallR Try.prog 50 [chan ⟨nm, ax, ov, bu, [r0, r1]⟩, .s (.clo 51 [.ptr 1001 0])] [(1001, .cells [.d (dI m)])] (.t [.g [.d (dS nm), .own 601, .d (dI ov), .d (dI bu), .osl 602 3 0 2], .s (.d (dI 0))]) [(1001, .cells [.d (dI m)]), (601, .row 58 ax.length 5 (boxF ⟨nm, ax, ov, bu, [r0, r1]⟩ m ax.length)), (602, .cells [.d (dS r0.name), .d (dI r0.kind), .own 610, .d (dS r1.name), .d (dI r1.kind), .own 611]), (610, .row 63 r0.corners.length 2 (ptEl r0.corners)), (611, .row 63 r1.corners.length 2 (ptEl r1.corners))] := by
  refine callO_of_ex (rc := [51, 70]) (N := 31) Try.func50 rfl rfl Try.call50 tab_ok mix rfl rfl rfl rfl (fun cx href => ?_)
  refine ⟨[(501, 601), (502, 602), (510, 610), (511, 611)], _, _, _, _, copied2 nm ax ov bu r0 r1 (by omega) (by omega) n0 m0 n1 m1, rfl, trivial, rfl, ?_⟩
  refine AW.loopI (fun i : Nat => ⟨[(1, .s (.clo 51 [.ptr 1001 0])), (2, .s (.ptr 2 0)), (4, .s (.ptr 4 0)), (5, vI 0), (6, .s (.ptr 6 0)), (13, vI ax.length), (14, vI i)],
      [(2, some (chanB ⟨nm, ax, ov, bu, [r0, r1]⟩)), (4, some (.cells (zvs ty25.zero))), (6, some (.cells [.d (dS nm), .own 601, .d (dI ov), .d (dI bu), .osl 602 3 0 2])), (601, some (.row 58 ax.length 5 (boxF ⟨nm, ax, ov, bu, [r0, r1]⟩ m i))), (602, some (.cells [.d (dS r0.name), .d (dI r0.kind), .own 610, .d (dS r1.name), .d (dI r1.kind), .own 611])), (610, some (.row 63 r0.corners.length 2 (ptEl r0.corners))), (611, some (.row 63 r1.corners.length 2 (ptEl r1.corners))), (1001, some (.cells [.d (dI m)]))]⟩)
    (fun i => i ≤ ax.length) (fun i => ax.length - i) 0 (Nat.zero_le _) ?_ ?_
  · exact SubI.of [] (by rw [href]; rfl) rfl ⟨⟨rfl, LeBx.rfl⟩, ⟨rfl, LeBx.rfl⟩, ⟨rfl, LeBx.rfl⟩, ⟨rfl, LeBx.row rfl fun k j _ _ => LeD.refl _⟩, ⟨rfl, LeBx.rfl⟩, ⟨rfl, LeBx.rfl⟩, ⟨rfl, LeBx.rfl⟩, ⟨rfl, LeBx.rfl⟩, trivial⟩ ⟨⟨rfl, LeQ.rfl⟩, ⟨rfl, LeQ.rfl⟩, ⟨rfl, LeQ.rfl⟩, ⟨rfl, LeQ.rfl⟩, ⟨rfl, LeQ.rfl⟩, ⟨rfl, LeQ.rfl⟩, ⟨rfl, LeQ.rfl⟩, trivial⟩
  · intro i hi
    refine ex.sound (rc := [51, 70]) tab_ok mix href _ ?_
    refine And.intro (fun h1 => ?_) (fun h1 => ?_)
    · have h1 : (i : Int) < ax.length := decT h1
      have hi' : i < ax.length := by omega
      refine oi ⟨by omega, by omega⟩ ?_
      refine ⟨[(1002, 601)], _, _, _, _, box1 ⟨nm, ax, ov, bu, [r0, r1]⟩ m i hi', rfl, ⟨rfl, rfl, trivial⟩, rfl, ?_⟩
      refine ⟨i + 1, by omega, by omega, ?_⟩
      exact SubI.of [] (by rw [href]; rfl) rfl ⟨⟨rfl, LeBx.rfl⟩, ⟨rfl, LeBx.rfl⟩, ⟨rfl, LeBx.rfl⟩, ⟨rfl, LeBx.row rfl fun k j hk hj => LeD.of_eq (box_step (c := ⟨nm, ax, ov, bu, [r0, r1]⟩) hi' hk hj)⟩, ⟨rfl, LeBx.rfl⟩, ⟨rfl, LeBx.rfl⟩, ⟨rfl, LeBx.rfl⟩, ⟨rfl, LeBx.rfl⟩, trivial⟩ ⟨⟨rfl, LeQ.rfl⟩, ⟨rfl, LeQ.rfl⟩, ⟨rfl, LeQ.rfl⟩, ⟨rfl, LeQ.rfl⟩, ⟨rfl, LeQ.rfl⟩, ⟨rfl, LeQ.rfl⟩, ⟨rfl, LeQ.int (w64_of (by omega) (by omega))⟩, trivial⟩
    · have h1 : ¬ (i : Int) < ax.length := decF h1
      obtain rfl : i = ax.length := by omega
      have hle : LeD (.slc ax.length 5 (boxF ⟨nm, ax, ov, bu, [r0, r1]⟩ m ax.length)) (dAps (boxC ⟨nm, ax, ov, bu, [r0, r1]⟩ m).axis) := LeD.slc' (by simp [boxC]) fun k j hk hj => LeD.of_eq (boxF_all (c := ⟨nm, ax, ov, bu, [r0, r1]⟩) hk)
      refine callN ((gCheck (boxC ⟨nm, ax, ov, bu, [r0, r1]⟩ m) (boxC_ok hc m)).conv (args' := _) ⟨⟨LeD.refl _, hle, LeD.refl _, LeD.refl _, ?_, trivial⟩, trivial⟩) ?_
      · refine LeD.slc' rfl fun i j hi hj => ?_
        match i, hi, j, hj with
        | 0, _, 0, _ => exact LeD.of_eq rfl
        | 0, _, 1, _ => exact LeD.of_eq rfl
        | 0, _, 2, _ => exact LeD.of_eq rfl
        | 1, _, 0, _ => exact LeD.of_eq rfl
        | 1, _, 1, _ => exact LeD.of_eq rfl
        | 1, _, 2, _ => exact LeD.of_eq rfl
      rw [he]
      refine And.intro (fun h2 => by cases (show ((0 : Int) != 0) = true from h2)) (fun _ => ?_)
      exact ⟨LeQ.rfl, rfl, rfl, rfl, rfl, rfl, trivial⟩
attribute [local irreducible] errC in
theorem BoxO2 (nm : ByteArray) (ax : List Ap) (ov bu : Int) (r0 r1 : Reg) (m : Int) (hc : (⟨nm, ax, ov, bu, [r0, r1]⟩ : Chan).ok) (n0 : 0 < r0.corners.length) (m0 : r0.corners.length ≤ 1000000) (n1 : 0 < r1.corners.length) (m1 : r1.corners.length ≤ 1000000) (h1 : errC (⟨nm, ax, ov, bu, [r0, r1]⟩ : Chan) = 0) (h2 : within m 0 100000 = true) (he : errC (boxC ⟨nm, ax, ov, bu, [r0, r1]⟩ m) = 0) :
    CallR Try.prog 19 [chan ⟨nm, ax, ov, bu, [r0, r1]⟩, vI m] [] (.t [.g [.d (dS nm), .own 701, .d (dI ov), .d (dI bu), .osl 702 3 0 2], .s (.d (dI 0))]) [(701, .row 58 ax.length 5 (boxF ⟨nm, ax, ov, bu, [r0, r1]⟩ m ax.length)), (702, .cells [.d (dS r0.name), .d (dI r0.kind), .own 710, .d (dS r1.name), .d (dI r1.kind), .own 711]), (710, .row 63 r0.corners.length 2 (ptEl r0.corners)), (711, .row 63 r1.corners.length 2 (ptEl r1.corners))] := by
  have hv := val_of _ h1
  refine callO_of_ex (rc := [50]) (N := 21) Try.func19 rfl rfl Try.call19 tab_ok mix rfl rfl rfl rfl (fun cx href => ?_)
  refine callN (gCheck _ hc) ?_
  rw [h1]
  refine And.intro (fun h => by cases (show ((0 : Int) != 0) = true from h)) (fun _ => ?_)
  refine callN (outside _ _ _) ?_
  refine And.intro (fun h => ?_) (fun _ => ?_)
  · have h : (!within m 0 100000) = true := h
    rw [h2] at h; cases h
  refine ⟨(1001, 3) :: [(601, 701), (602, 702), (610, 710), (611, 711)], _, _, _, _, chgBox2 nm ax ov bu r0 r1 m hc hv.n2 hv.n20 n0 m0 n1 m1 he, rfl, ⟨rfl, trivial⟩, rfl, ?_⟩
  exact ⟨LeQ.rfl, rfl, rfl, rfl, rfl, trivial⟩
theorem chgDeep2 (nm : ByteArray) (ax : List Ap) (ov bu : Int) (r0 r1 : Reg) (m : Int) (hc : (⟨nm, ax, ov, bu, [r0, r1]⟩ : Chan).ok) (a2 : 2 ≤ ax.length) (a20 : ax.length ≤ 20) (n0 : 0 < r0.corners.length) (m0 : r0.corners.length ≤ 1000000) (n1 : 0 < r1.corners.length) (m1 : r1.corners.length ≤ 1000000) (he : errC (deepC ⟨nm, ax, ov, bu, [r0, r1]⟩ m) = 0) :
    CallR Try.prog 50 [chan ⟨nm, ax, ov, bu, [r0, r1]⟩, .s (.clo 52 [.ptr 1001 0])] [(1001, .cells [.d (dI m)])] (.t [.g [.d (dS nm), .own 601, .d (dI ov), .d (dI bu), .osl 602 3 0 2], .s (.d (dI 0))]) [(1001, .cells [.d (dI m)]), (601, .row 58 ax.length 5 (deepF ⟨nm, ax, ov, bu, [r0, r1]⟩ m ax.length)), (602, .cells [.d (dS r0.name), .d (dI r0.kind), .own 610, .d (dS r1.name), .d (dI r1.kind), .own 611]), (610, .row 63 r0.corners.length 2 (ptEl r0.corners)), (611, .row 63 r1.corners.length 2 (ptEl r1.corners))] := by
  refine callO_of_ex (rc := [52, 70]) (N := 31) Try.func50 rfl rfl Try.call50 tab_ok mix rfl rfl rfl rfl (fun cx href => ?_)
  refine ⟨[(501, 601), (502, 602), (510, 610), (511, 611)], _, _, _, _, copied2 nm ax ov bu r0 r1 (by omega) (by omega) n0 m0 n1 m1, rfl, trivial, rfl, ?_⟩
  refine AW.loopI (fun i : Nat => ⟨[(1, .s (.clo 52 [.ptr 1001 0])), (2, .s (.ptr 2 0)), (4, .s (.ptr 4 0)), (5, vI 0), (6, .s (.ptr 6 0)), (13, vI ax.length), (14, vI i)],
      [(2, some (chanB ⟨nm, ax, ov, bu, [r0, r1]⟩)), (4, some (.cells (zvs ty25.zero))), (6, some (.cells [.d (dS nm), .own 601, .d (dI ov), .d (dI bu), .osl 602 3 0 2])), (601, some (.row 58 ax.length 5 (deepF ⟨nm, ax, ov, bu, [r0, r1]⟩ m i))), (602, some (.cells [.d (dS r0.name), .d (dI r0.kind), .own 610, .d (dS r1.name), .d (dI r1.kind), .own 611])), (610, some (.row 63 r0.corners.length 2 (ptEl r0.corners))), (611, some (.row 63 r1.corners.length 2 (ptEl r1.corners))), (1001, some (.cells [.d (dI m)]))]⟩)
    (fun i => i ≤ ax.length) (fun i => ax.length - i) 0 (Nat.zero_le _) ?_ ?_
  · exact SubI.of [] (by rw [href]; rfl) rfl ⟨⟨rfl, LeBx.rfl⟩, ⟨rfl, LeBx.rfl⟩, ⟨rfl, LeBx.rfl⟩, ⟨rfl, LeBx.row rfl fun k j _ _ => LeD.refl _⟩, ⟨rfl, LeBx.rfl⟩, ⟨rfl, LeBx.rfl⟩, ⟨rfl, LeBx.rfl⟩, ⟨rfl, LeBx.rfl⟩, trivial⟩ ⟨⟨rfl, LeQ.rfl⟩, ⟨rfl, LeQ.rfl⟩, ⟨rfl, LeQ.rfl⟩, ⟨rfl, LeQ.rfl⟩, ⟨rfl, LeQ.rfl⟩, ⟨rfl, LeQ.rfl⟩, ⟨rfl, LeQ.rfl⟩, trivial⟩
  · intro i hi
    refine ex.sound (rc := [52, 70]) tab_ok mix href _ ?_
    refine And.intro (fun h1 => ?_) (fun h1 => ?_)
    · have h1 : (i : Int) < ax.length := decT h1
      have hi' : i < ax.length := by omega
      refine oi ⟨by omega, by omega⟩ ?_
      refine ⟨[(1002, 601)], _, _, _, _, deep1 ⟨nm, ax, ov, bu, [r0, r1]⟩ m i hi', rfl, ⟨rfl, rfl, trivial⟩, rfl, ?_⟩
      refine ⟨i + 1, by omega, by omega, ?_⟩
      exact SubI.of [] (by rw [href]; rfl) rfl ⟨⟨rfl, LeBx.rfl⟩, ⟨rfl, LeBx.rfl⟩, ⟨rfl, LeBx.rfl⟩, ⟨rfl, LeBx.row rfl fun k j hk hj => LeD.of_eq (deep_step (c := ⟨nm, ax, ov, bu, [r0, r1]⟩) hi' hk hj)⟩, ⟨rfl, LeBx.rfl⟩, ⟨rfl, LeBx.rfl⟩, ⟨rfl, LeBx.rfl⟩, ⟨rfl, LeBx.rfl⟩, trivial⟩ ⟨⟨rfl, LeQ.rfl⟩, ⟨rfl, LeQ.rfl⟩, ⟨rfl, LeQ.rfl⟩, ⟨rfl, LeQ.rfl⟩, ⟨rfl, LeQ.rfl⟩, ⟨rfl, LeQ.rfl⟩, ⟨rfl, LeQ.int (w64_of (by omega) (by omega))⟩, trivial⟩
    · have h1 : ¬ (i : Int) < ax.length := decF h1
      obtain rfl : i = ax.length := by omega
      have hle : LeD (.slc ax.length 5 (deepF ⟨nm, ax, ov, bu, [r0, r1]⟩ m ax.length)) (dAps (deepC ⟨nm, ax, ov, bu, [r0, r1]⟩ m).axis) := LeD.slc' (by simp [deepC]) fun k j hk hj => LeD.of_eq (deepF_all (c := ⟨nm, ax, ov, bu, [r0, r1]⟩) hk)
      refine callN ((gCheck (deepC ⟨nm, ax, ov, bu, [r0, r1]⟩ m) (deepC_ok hc m)).conv (args' := _) ⟨⟨LeD.refl _, hle, LeD.refl _, LeD.refl _, ?_, trivial⟩, trivial⟩) ?_
      · refine LeD.slc' rfl fun i j hi hj => ?_
        match i, hi, j, hj with
        | 0, _, 0, _ => exact LeD.of_eq rfl
        | 0, _, 1, _ => exact LeD.of_eq rfl
        | 0, _, 2, _ => exact LeD.of_eq rfl
        | 1, _, 0, _ => exact LeD.of_eq rfl
        | 1, _, 1, _ => exact LeD.of_eq rfl
        | 1, _, 2, _ => exact LeD.of_eq rfl
      rw [he]
      refine And.intro (fun h2 => by cases (show ((0 : Int) != 0) = true from h2)) (fun _ => ?_)
      exact ⟨LeQ.rfl, rfl, rfl, rfl, rfl, rfl, trivial⟩
attribute [local irreducible] errC in
theorem DeepO2 (nm : ByteArray) (ax : List Ap) (ov bu : Int) (r0 r1 : Reg) (m : Int) (hc : (⟨nm, ax, ov, bu, [r0, r1]⟩ : Chan).ok) (n0 : 0 < r0.corners.length) (m0 : r0.corners.length ≤ 1000000) (n1 : 0 < r1.corners.length) (m1 : r1.corners.length ≤ 1000000) (h1 : errC (⟨nm, ax, ov, bu, [r0, r1]⟩ : Chan) = 0) (h2 : within m (-20000) 20000 = true) (he : errC (deepC ⟨nm, ax, ov, bu, [r0, r1]⟩ m) = 0) :
    CallR Try.prog 20 [chan ⟨nm, ax, ov, bu, [r0, r1]⟩, vI m] [] (.t [.g [.d (dS nm), .own 701, .d (dI ov), .d (dI bu), .osl 702 3 0 2], .s (.d (dI 0))]) [(701, .row 58 ax.length 5 (deepF ⟨nm, ax, ov, bu, [r0, r1]⟩ m ax.length)), (702, .cells [.d (dS r0.name), .d (dI r0.kind), .own 710, .d (dS r1.name), .d (dI r1.kind), .own 711]), (710, .row 63 r0.corners.length 2 (ptEl r0.corners)), (711, .row 63 r1.corners.length 2 (ptEl r1.corners))] := by
  have hv := val_of _ h1
  refine callO_of_ex (rc := [50]) (N := 21) Try.func20 rfl rfl Try.call20 tab_ok mix rfl rfl rfl rfl (fun cx href => ?_)
  refine callN (gCheck _ hc) ?_
  rw [h1]
  refine And.intro (fun h => by cases (show ((0 : Int) != 0) = true from h)) (fun _ => ?_)
  refine callN (outside _ _ _) ?_
  refine And.intro (fun h => ?_) (fun _ => ?_)
  · have h : (!within m (-20000) 20000) = true := h
    rw [h2] at h; cases h
  refine ⟨(1001, 3) :: [(601, 701), (602, 702), (610, 710), (611, 711)], _, _, _, _, chgDeep2 nm ax ov bu r0 r1 m hc hv.n2 hv.n20 n0 m0 n1 m1 he, rfl, ⟨rfl, trivial⟩, rfl, ?_⟩
  exact ⟨LeQ.rfl, rfl, rfl, rfl, rfl, trivial⟩
theorem chgBox3 (nm : ByteArray) (ax : List Ap) (ov bu : Int) (r0 r1 r2 : Reg) (m : Int) (hc : (⟨nm, ax, ov, bu, [r0, r1, r2]⟩ : Chan).ok) (a2 : 2 ≤ ax.length) (a20 : ax.length ≤ 20) (n0 : 0 < r0.corners.length) (m0 : r0.corners.length ≤ 1000000) (n1 : 0 < r1.corners.length) (m1 : r1.corners.length ≤ 1000000) (n2 : 0 < r2.corners.length) (m2 : r2.corners.length ≤ 1000000) (he : errC (boxC ⟨nm, ax, ov, bu, [r0, r1, r2]⟩ m) = 0) :
    CallR Try.prog 50 [chan ⟨nm, ax, ov, bu, [r0, r1, r2]⟩, .s (.clo 51 [.ptr 1001 0])] [(1001, .cells [.d (dI m)])] (.t [.g [.d (dS nm), .own 601, .d (dI ov), .d (dI bu), .osl 602 3 0 3], .s (.d (dI 0))]) [(1001, .cells [.d (dI m)]), (601, .row 58 ax.length 5 (boxF ⟨nm, ax, ov, bu, [r0, r1, r2]⟩ m ax.length)), (602, .cells [.d (dS r0.name), .d (dI r0.kind), .own 610, .d (dS r1.name), .d (dI r1.kind), .own 611, .d (dS r2.name), .d (dI r2.kind), .own 612]), (610, .row 63 r0.corners.length 2 (ptEl r0.corners)), (611, .row 63 r1.corners.length 2 (ptEl r1.corners)), (612, .row 63 r2.corners.length 2 (ptEl r2.corners))] := by
  refine callO_of_ex (rc := [51, 70]) (N := 31) Try.func50 rfl rfl Try.call50 tab_ok mix rfl rfl rfl rfl (fun cx href => ?_)
  refine ⟨[(501, 601), (502, 602), (510, 610), (511, 611), (512, 612)], _, _, _, _, copied3 nm ax ov bu r0 r1 r2 (by omega) (by omega) n0 m0 n1 m1 n2 m2, rfl, trivial, rfl, ?_⟩
  refine AW.loopI (fun i : Nat => ⟨[(1, .s (.clo 51 [.ptr 1001 0])), (2, .s (.ptr 2 0)), (4, .s (.ptr 4 0)), (5, vI 0), (6, .s (.ptr 6 0)), (13, vI ax.length), (14, vI i)],
      [(2, some (chanB ⟨nm, ax, ov, bu, [r0, r1, r2]⟩)), (4, some (.cells (zvs ty25.zero))), (6, some (.cells [.d (dS nm), .own 601, .d (dI ov), .d (dI bu), .osl 602 3 0 3])), (601, some (.row 58 ax.length 5 (boxF ⟨nm, ax, ov, bu, [r0, r1, r2]⟩ m i))), (602, some (.cells [.d (dS r0.name), .d (dI r0.kind), .own 610, .d (dS r1.name), .d (dI r1.kind), .own 611, .d (dS r2.name), .d (dI r2.kind), .own 612])), (610, some (.row 63 r0.corners.length 2 (ptEl r0.corners))), (611, some (.row 63 r1.corners.length 2 (ptEl r1.corners))), (612, some (.row 63 r2.corners.length 2 (ptEl r2.corners))), (1001, some (.cells [.d (dI m)]))]⟩)
    (fun i => i ≤ ax.length) (fun i => ax.length - i) 0 (Nat.zero_le _) ?_ ?_
  · exact SubI.of [] (by rw [href]; rfl) rfl ⟨⟨rfl, LeBx.rfl⟩, ⟨rfl, LeBx.rfl⟩, ⟨rfl, LeBx.rfl⟩, ⟨rfl, LeBx.row rfl fun k j _ _ => LeD.refl _⟩, ⟨rfl, LeBx.rfl⟩, ⟨rfl, LeBx.rfl⟩, ⟨rfl, LeBx.rfl⟩, ⟨rfl, LeBx.rfl⟩, ⟨rfl, LeBx.rfl⟩, trivial⟩ ⟨⟨rfl, LeQ.rfl⟩, ⟨rfl, LeQ.rfl⟩, ⟨rfl, LeQ.rfl⟩, ⟨rfl, LeQ.rfl⟩, ⟨rfl, LeQ.rfl⟩, ⟨rfl, LeQ.rfl⟩, ⟨rfl, LeQ.rfl⟩, trivial⟩
  · intro i hi
    refine ex.sound (rc := [51, 70]) tab_ok mix href _ ?_
    refine And.intro (fun h1 => ?_) (fun h1 => ?_)
    · have h1 : (i : Int) < ax.length := decT h1
      have hi' : i < ax.length := by omega
      refine oi ⟨by omega, by omega⟩ ?_
      refine ⟨[(1002, 601)], _, _, _, _, box1 ⟨nm, ax, ov, bu, [r0, r1, r2]⟩ m i hi', rfl, ⟨rfl, rfl, trivial⟩, rfl, ?_⟩
      refine ⟨i + 1, by omega, by omega, ?_⟩
      exact SubI.of [] (by rw [href]; rfl) rfl ⟨⟨rfl, LeBx.rfl⟩, ⟨rfl, LeBx.rfl⟩, ⟨rfl, LeBx.rfl⟩, ⟨rfl, LeBx.row rfl fun k j hk hj => LeD.of_eq (box_step (c := ⟨nm, ax, ov, bu, [r0, r1, r2]⟩) hi' hk hj)⟩, ⟨rfl, LeBx.rfl⟩, ⟨rfl, LeBx.rfl⟩, ⟨rfl, LeBx.rfl⟩, ⟨rfl, LeBx.rfl⟩, ⟨rfl, LeBx.rfl⟩, trivial⟩ ⟨⟨rfl, LeQ.rfl⟩, ⟨rfl, LeQ.rfl⟩, ⟨rfl, LeQ.rfl⟩, ⟨rfl, LeQ.rfl⟩, ⟨rfl, LeQ.rfl⟩, ⟨rfl, LeQ.rfl⟩, ⟨rfl, LeQ.int (w64_of (by omega) (by omega))⟩, trivial⟩
    · have h1 : ¬ (i : Int) < ax.length := decF h1
      obtain rfl : i = ax.length := by omega
      have hle : LeD (.slc ax.length 5 (boxF ⟨nm, ax, ov, bu, [r0, r1, r2]⟩ m ax.length)) (dAps (boxC ⟨nm, ax, ov, bu, [r0, r1, r2]⟩ m).axis) := LeD.slc' (by simp [boxC]) fun k j hk hj => LeD.of_eq (boxF_all (c := ⟨nm, ax, ov, bu, [r0, r1, r2]⟩) hk)
      refine callN ((gCheck (boxC ⟨nm, ax, ov, bu, [r0, r1, r2]⟩ m) (boxC_ok hc m)).conv (args' := _) ⟨⟨LeD.refl _, hle, LeD.refl _, LeD.refl _, ?_, trivial⟩, trivial⟩) ?_
      · refine LeD.slc' rfl fun i j hi hj => ?_
        match i, hi, j, hj with
        | 0, _, 0, _ => exact LeD.of_eq rfl
        | 0, _, 1, _ => exact LeD.of_eq rfl
        | 0, _, 2, _ => exact LeD.of_eq rfl
        | 1, _, 0, _ => exact LeD.of_eq rfl
        | 1, _, 1, _ => exact LeD.of_eq rfl
        | 1, _, 2, _ => exact LeD.of_eq rfl
        | 2, _, 0, _ => exact LeD.of_eq rfl
        | 2, _, 1, _ => exact LeD.of_eq rfl
        | 2, _, 2, _ => exact LeD.of_eq rfl
      rw [he]
      refine And.intro (fun h2 => by cases (show ((0 : Int) != 0) = true from h2)) (fun _ => ?_)
      exact ⟨LeQ.rfl, rfl, rfl, rfl, rfl, rfl, rfl, trivial⟩
attribute [local irreducible] errC in
theorem BoxO3 (nm : ByteArray) (ax : List Ap) (ov bu : Int) (r0 r1 r2 : Reg) (m : Int) (hc : (⟨nm, ax, ov, bu, [r0, r1, r2]⟩ : Chan).ok) (n0 : 0 < r0.corners.length) (m0 : r0.corners.length ≤ 1000000) (n1 : 0 < r1.corners.length) (m1 : r1.corners.length ≤ 1000000) (n2 : 0 < r2.corners.length) (m2 : r2.corners.length ≤ 1000000) (h1 : errC (⟨nm, ax, ov, bu, [r0, r1, r2]⟩ : Chan) = 0) (h2 : within m 0 100000 = true) (he : errC (boxC ⟨nm, ax, ov, bu, [r0, r1, r2]⟩ m) = 0) :
    CallR Try.prog 19 [chan ⟨nm, ax, ov, bu, [r0, r1, r2]⟩, vI m] [] (.t [.g [.d (dS nm), .own 701, .d (dI ov), .d (dI bu), .osl 702 3 0 3], .s (.d (dI 0))]) [(701, .row 58 ax.length 5 (boxF ⟨nm, ax, ov, bu, [r0, r1, r2]⟩ m ax.length)), (702, .cells [.d (dS r0.name), .d (dI r0.kind), .own 710, .d (dS r1.name), .d (dI r1.kind), .own 711, .d (dS r2.name), .d (dI r2.kind), .own 712]), (710, .row 63 r0.corners.length 2 (ptEl r0.corners)), (711, .row 63 r1.corners.length 2 (ptEl r1.corners)), (712, .row 63 r2.corners.length 2 (ptEl r2.corners))] := by
  have hv := val_of _ h1
  refine callO_of_ex (rc := [50]) (N := 21) Try.func19 rfl rfl Try.call19 tab_ok mix rfl rfl rfl rfl (fun cx href => ?_)
  refine callN (gCheck _ hc) ?_
  rw [h1]
  refine And.intro (fun h => by cases (show ((0 : Int) != 0) = true from h)) (fun _ => ?_)
  refine callN (outside _ _ _) ?_
  refine And.intro (fun h => ?_) (fun _ => ?_)
  · have h : (!within m 0 100000) = true := h
    rw [h2] at h; cases h
  refine ⟨(1001, 3) :: [(601, 701), (602, 702), (610, 710), (611, 711), (612, 712)], _, _, _, _, chgBox3 nm ax ov bu r0 r1 r2 m hc hv.n2 hv.n20 n0 m0 n1 m1 n2 m2 he, rfl, ⟨rfl, trivial⟩, rfl, ?_⟩
  exact ⟨LeQ.rfl, rfl, rfl, rfl, rfl, rfl, trivial⟩
theorem chgDeep3 (nm : ByteArray) (ax : List Ap) (ov bu : Int) (r0 r1 r2 : Reg) (m : Int) (hc : (⟨nm, ax, ov, bu, [r0, r1, r2]⟩ : Chan).ok) (a2 : 2 ≤ ax.length) (a20 : ax.length ≤ 20) (n0 : 0 < r0.corners.length) (m0 : r0.corners.length ≤ 1000000) (n1 : 0 < r1.corners.length) (m1 : r1.corners.length ≤ 1000000) (n2 : 0 < r2.corners.length) (m2 : r2.corners.length ≤ 1000000) (he : errC (deepC ⟨nm, ax, ov, bu, [r0, r1, r2]⟩ m) = 0) :
    CallR Try.prog 50 [chan ⟨nm, ax, ov, bu, [r0, r1, r2]⟩, .s (.clo 52 [.ptr 1001 0])] [(1001, .cells [.d (dI m)])] (.t [.g [.d (dS nm), .own 601, .d (dI ov), .d (dI bu), .osl 602 3 0 3], .s (.d (dI 0))]) [(1001, .cells [.d (dI m)]), (601, .row 58 ax.length 5 (deepF ⟨nm, ax, ov, bu, [r0, r1, r2]⟩ m ax.length)), (602, .cells [.d (dS r0.name), .d (dI r0.kind), .own 610, .d (dS r1.name), .d (dI r1.kind), .own 611, .d (dS r2.name), .d (dI r2.kind), .own 612]), (610, .row 63 r0.corners.length 2 (ptEl r0.corners)), (611, .row 63 r1.corners.length 2 (ptEl r1.corners)), (612, .row 63 r2.corners.length 2 (ptEl r2.corners))] := by
  refine callO_of_ex (rc := [52, 70]) (N := 31) Try.func50 rfl rfl Try.call50 tab_ok mix rfl rfl rfl rfl (fun cx href => ?_)
  refine ⟨[(501, 601), (502, 602), (510, 610), (511, 611), (512, 612)], _, _, _, _, copied3 nm ax ov bu r0 r1 r2 (by omega) (by omega) n0 m0 n1 m1 n2 m2, rfl, trivial, rfl, ?_⟩
  refine AW.loopI (fun i : Nat => ⟨[(1, .s (.clo 52 [.ptr 1001 0])), (2, .s (.ptr 2 0)), (4, .s (.ptr 4 0)), (5, vI 0), (6, .s (.ptr 6 0)), (13, vI ax.length), (14, vI i)],
      [(2, some (chanB ⟨nm, ax, ov, bu, [r0, r1, r2]⟩)), (4, some (.cells (zvs ty25.zero))), (6, some (.cells [.d (dS nm), .own 601, .d (dI ov), .d (dI bu), .osl 602 3 0 3])), (601, some (.row 58 ax.length 5 (deepF ⟨nm, ax, ov, bu, [r0, r1, r2]⟩ m i))), (602, some (.cells [.d (dS r0.name), .d (dI r0.kind), .own 610, .d (dS r1.name), .d (dI r1.kind), .own 611, .d (dS r2.name), .d (dI r2.kind), .own 612])), (610, some (.row 63 r0.corners.length 2 (ptEl r0.corners))), (611, some (.row 63 r1.corners.length 2 (ptEl r1.corners))), (612, some (.row 63 r2.corners.length 2 (ptEl r2.corners))), (1001, some (.cells [.d (dI m)]))]⟩)
    (fun i => i ≤ ax.length) (fun i => ax.length - i) 0 (Nat.zero_le _) ?_ ?_
  · exact SubI.of [] (by rw [href]; rfl) rfl ⟨⟨rfl, LeBx.rfl⟩, ⟨rfl, LeBx.rfl⟩, ⟨rfl, LeBx.rfl⟩, ⟨rfl, LeBx.row rfl fun k j _ _ => LeD.refl _⟩, ⟨rfl, LeBx.rfl⟩, ⟨rfl, LeBx.rfl⟩, ⟨rfl, LeBx.rfl⟩, ⟨rfl, LeBx.rfl⟩, ⟨rfl, LeBx.rfl⟩, trivial⟩ ⟨⟨rfl, LeQ.rfl⟩, ⟨rfl, LeQ.rfl⟩, ⟨rfl, LeQ.rfl⟩, ⟨rfl, LeQ.rfl⟩, ⟨rfl, LeQ.rfl⟩, ⟨rfl, LeQ.rfl⟩, ⟨rfl, LeQ.rfl⟩, trivial⟩
  · intro i hi
    refine ex.sound (rc := [52, 70]) tab_ok mix href _ ?_
    refine And.intro (fun h1 => ?_) (fun h1 => ?_)
    · have h1 : (i : Int) < ax.length := decT h1
      have hi' : i < ax.length := by omega
      refine oi ⟨by omega, by omega⟩ ?_
      refine ⟨[(1002, 601)], _, _, _, _, deep1 ⟨nm, ax, ov, bu, [r0, r1, r2]⟩ m i hi', rfl, ⟨rfl, rfl, trivial⟩, rfl, ?_⟩
      refine ⟨i + 1, by omega, by omega, ?_⟩
      exact SubI.of [] (by rw [href]; rfl) rfl ⟨⟨rfl, LeBx.rfl⟩, ⟨rfl, LeBx.rfl⟩, ⟨rfl, LeBx.rfl⟩, ⟨rfl, LeBx.row rfl fun k j hk hj => LeD.of_eq (deep_step (c := ⟨nm, ax, ov, bu, [r0, r1, r2]⟩) hi' hk hj)⟩, ⟨rfl, LeBx.rfl⟩, ⟨rfl, LeBx.rfl⟩, ⟨rfl, LeBx.rfl⟩, ⟨rfl, LeBx.rfl⟩, ⟨rfl, LeBx.rfl⟩, trivial⟩ ⟨⟨rfl, LeQ.rfl⟩, ⟨rfl, LeQ.rfl⟩, ⟨rfl, LeQ.rfl⟩, ⟨rfl, LeQ.rfl⟩, ⟨rfl, LeQ.rfl⟩, ⟨rfl, LeQ.rfl⟩, ⟨rfl, LeQ.int (w64_of (by omega) (by omega))⟩, trivial⟩
    · have h1 : ¬ (i : Int) < ax.length := decF h1
      obtain rfl : i = ax.length := by omega
      have hle : LeD (.slc ax.length 5 (deepF ⟨nm, ax, ov, bu, [r0, r1, r2]⟩ m ax.length)) (dAps (deepC ⟨nm, ax, ov, bu, [r0, r1, r2]⟩ m).axis) := LeD.slc' (by simp [deepC]) fun k j hk hj => LeD.of_eq (deepF_all (c := ⟨nm, ax, ov, bu, [r0, r1, r2]⟩) hk)
      refine callN ((gCheck (deepC ⟨nm, ax, ov, bu, [r0, r1, r2]⟩ m) (deepC_ok hc m)).conv (args' := _) ⟨⟨LeD.refl _, hle, LeD.refl _, LeD.refl _, ?_, trivial⟩, trivial⟩) ?_
      · refine LeD.slc' rfl fun i j hi hj => ?_
        match i, hi, j, hj with
        | 0, _, 0, _ => exact LeD.of_eq rfl
        | 0, _, 1, _ => exact LeD.of_eq rfl
        | 0, _, 2, _ => exact LeD.of_eq rfl
        | 1, _, 0, _ => exact LeD.of_eq rfl
        | 1, _, 1, _ => exact LeD.of_eq rfl
        | 1, _, 2, _ => exact LeD.of_eq rfl
        | 2, _, 0, _ => exact LeD.of_eq rfl
        | 2, _, 1, _ => exact LeD.of_eq rfl
        | 2, _, 2, _ => exact LeD.of_eq rfl
      rw [he]
      refine And.intro (fun h2 => by cases (show ((0 : Int) != 0) = true from h2)) (fun _ => ?_)
      exact ⟨LeQ.rfl, rfl, rfl, rfl, rfl, rfl, rfl, trivial⟩
attribute [local irreducible] errC in
theorem DeepO3 (nm : ByteArray) (ax : List Ap) (ov bu : Int) (r0 r1 r2 : Reg) (m : Int) (hc : (⟨nm, ax, ov, bu, [r0, r1, r2]⟩ : Chan).ok) (n0 : 0 < r0.corners.length) (m0 : r0.corners.length ≤ 1000000) (n1 : 0 < r1.corners.length) (m1 : r1.corners.length ≤ 1000000) (n2 : 0 < r2.corners.length) (m2 : r2.corners.length ≤ 1000000) (h1 : errC (⟨nm, ax, ov, bu, [r0, r1, r2]⟩ : Chan) = 0) (h2 : within m (-20000) 20000 = true) (he : errC (deepC ⟨nm, ax, ov, bu, [r0, r1, r2]⟩ m) = 0) :
    CallR Try.prog 20 [chan ⟨nm, ax, ov, bu, [r0, r1, r2]⟩, vI m] [] (.t [.g [.d (dS nm), .own 701, .d (dI ov), .d (dI bu), .osl 702 3 0 3], .s (.d (dI 0))]) [(701, .row 58 ax.length 5 (deepF ⟨nm, ax, ov, bu, [r0, r1, r2]⟩ m ax.length)), (702, .cells [.d (dS r0.name), .d (dI r0.kind), .own 710, .d (dS r1.name), .d (dI r1.kind), .own 711, .d (dS r2.name), .d (dI r2.kind), .own 712]), (710, .row 63 r0.corners.length 2 (ptEl r0.corners)), (711, .row 63 r1.corners.length 2 (ptEl r1.corners)), (712, .row 63 r2.corners.length 2 (ptEl r2.corners))] := by
  have hv := val_of _ h1
  refine callO_of_ex (rc := [50]) (N := 21) Try.func20 rfl rfl Try.call20 tab_ok mix rfl rfl rfl rfl (fun cx href => ?_)
  refine callN (gCheck _ hc) ?_
  rw [h1]
  refine And.intro (fun h => by cases (show ((0 : Int) != 0) = true from h)) (fun _ => ?_)
  refine callN (outside _ _ _) ?_
  refine And.intro (fun h => ?_) (fun _ => ?_)
  · have h : (!within m (-20000) 20000) = true := h
    rw [h2] at h; cases h
  refine ⟨(1001, 3) :: [(601, 701), (602, 702), (610, 710), (611, 711), (612, 712)], _, _, _, _, chgDeep3 nm ax ov bu r0 r1 r2 m hc hv.n2 hv.n20 n0 m0 n1 m1 n2 m2 he, rfl, ⟨rfl, trivial⟩, rfl, ?_⟩
  exact ⟨LeQ.rfl, rfl, rfl, rfl, rfl, rfl, trivial⟩
theorem chgBox4 (nm : ByteArray) (ax : List Ap) (ov bu : Int) (r0 r1 r2 r3 : Reg) (m : Int) (hc : (⟨nm, ax, ov, bu, [r0, r1, r2, r3]⟩ : Chan).ok) (a2 : 2 ≤ ax.length) (a20 : ax.length ≤ 20) (n0 : 0 < r0.corners.length) (m0 : r0.corners.length ≤ 1000000) (n1 : 0 < r1.corners.length) (m1 : r1.corners.length ≤ 1000000) (n2 : 0 < r2.corners.length) (m2 : r2.corners.length ≤ 1000000) (n3 : 0 < r3.corners.length) (m3 : r3.corners.length ≤ 1000000) (he : errC (boxC ⟨nm, ax, ov, bu, [r0, r1, r2, r3]⟩ m) = 0) :
    CallR Try.prog 50 [chan ⟨nm, ax, ov, bu, [r0, r1, r2, r3]⟩, .s (.clo 51 [.ptr 1001 0])] [(1001, .cells [.d (dI m)])] (.t [.g [.d (dS nm), .own 601, .d (dI ov), .d (dI bu), .osl 602 3 0 4], .s (.d (dI 0))]) [(1001, .cells [.d (dI m)]), (601, .row 58 ax.length 5 (boxF ⟨nm, ax, ov, bu, [r0, r1, r2, r3]⟩ m ax.length)), (602, .cells [.d (dS r0.name), .d (dI r0.kind), .own 610, .d (dS r1.name), .d (dI r1.kind), .own 611, .d (dS r2.name), .d (dI r2.kind), .own 612, .d (dS r3.name), .d (dI r3.kind), .own 613]), (610, .row 63 r0.corners.length 2 (ptEl r0.corners)), (611, .row 63 r1.corners.length 2 (ptEl r1.corners)), (612, .row 63 r2.corners.length 2 (ptEl r2.corners)), (613, .row 63 r3.corners.length 2 (ptEl r3.corners))] := by
  refine callO_of_ex (rc := [51, 70]) (N := 31) Try.func50 rfl rfl Try.call50 tab_ok mix rfl rfl rfl rfl (fun cx href => ?_)
  refine ⟨[(501, 601), (502, 602), (510, 610), (511, 611), (512, 612), (513, 613)], _, _, _, _, copied4 nm ax ov bu r0 r1 r2 r3 (by omega) (by omega) n0 m0 n1 m1 n2 m2 n3 m3, rfl, trivial, rfl, ?_⟩
  refine AW.loopI (fun i : Nat => ⟨[(1, .s (.clo 51 [.ptr 1001 0])), (2, .s (.ptr 2 0)), (4, .s (.ptr 4 0)), (5, vI 0), (6, .s (.ptr 6 0)), (13, vI ax.length), (14, vI i)],
      [(2, some (chanB ⟨nm, ax, ov, bu, [r0, r1, r2, r3]⟩)), (4, some (.cells (zvs ty25.zero))), (6, some (.cells [.d (dS nm), .own 601, .d (dI ov), .d (dI bu), .osl 602 3 0 4])), (601, some (.row 58 ax.length 5 (boxF ⟨nm, ax, ov, bu, [r0, r1, r2, r3]⟩ m i))), (602, some (.cells [.d (dS r0.name), .d (dI r0.kind), .own 610, .d (dS r1.name), .d (dI r1.kind), .own 611, .d (dS r2.name), .d (dI r2.kind), .own 612, .d (dS r3.name), .d (dI r3.kind), .own 613])), (610, some (.row 63 r0.corners.length 2 (ptEl r0.corners))), (611, some (.row 63 r1.corners.length 2 (ptEl r1.corners))), (612, some (.row 63 r2.corners.length 2 (ptEl r2.corners))), (613, some (.row 63 r3.corners.length 2 (ptEl r3.corners))), (1001, some (.cells [.d (dI m)]))]⟩)
    (fun i => i ≤ ax.length) (fun i => ax.length - i) 0 (Nat.zero_le _) ?_ ?_
  · exact SubI.of [] (by rw [href]; rfl) rfl ⟨⟨rfl, LeBx.rfl⟩, ⟨rfl, LeBx.rfl⟩, ⟨rfl, LeBx.rfl⟩, ⟨rfl, LeBx.row rfl fun k j _ _ => LeD.refl _⟩, ⟨rfl, LeBx.rfl⟩, ⟨rfl, LeBx.rfl⟩, ⟨rfl, LeBx.rfl⟩, ⟨rfl, LeBx.rfl⟩, ⟨rfl, LeBx.rfl⟩, ⟨rfl, LeBx.rfl⟩, trivial⟩ ⟨⟨rfl, LeQ.rfl⟩, ⟨rfl, LeQ.rfl⟩, ⟨rfl, LeQ.rfl⟩, ⟨rfl, LeQ.rfl⟩, ⟨rfl, LeQ.rfl⟩, ⟨rfl, LeQ.rfl⟩, ⟨rfl, LeQ.rfl⟩, trivial⟩
  · intro i hi
    refine ex.sound (rc := [51, 70]) tab_ok mix href _ ?_
    refine And.intro (fun h1 => ?_) (fun h1 => ?_)
    · have h1 : (i : Int) < ax.length := decT h1
      have hi' : i < ax.length := by omega
      refine oi ⟨by omega, by omega⟩ ?_
      refine ⟨[(1002, 601)], _, _, _, _, box1 ⟨nm, ax, ov, bu, [r0, r1, r2, r3]⟩ m i hi', rfl, ⟨rfl, rfl, trivial⟩, rfl, ?_⟩
      refine ⟨i + 1, by omega, by omega, ?_⟩
      exact SubI.of [] (by rw [href]; rfl) rfl ⟨⟨rfl, LeBx.rfl⟩, ⟨rfl, LeBx.rfl⟩, ⟨rfl, LeBx.rfl⟩, ⟨rfl, LeBx.row rfl fun k j hk hj => LeD.of_eq (box_step (c := ⟨nm, ax, ov, bu, [r0, r1, r2, r3]⟩) hi' hk hj)⟩, ⟨rfl, LeBx.rfl⟩, ⟨rfl, LeBx.rfl⟩, ⟨rfl, LeBx.rfl⟩, ⟨rfl, LeBx.rfl⟩, ⟨rfl, LeBx.rfl⟩, ⟨rfl, LeBx.rfl⟩, trivial⟩ ⟨⟨rfl, LeQ.rfl⟩, ⟨rfl, LeQ.rfl⟩, ⟨rfl, LeQ.rfl⟩, ⟨rfl, LeQ.rfl⟩, ⟨rfl, LeQ.rfl⟩, ⟨rfl, LeQ.rfl⟩, ⟨rfl, LeQ.int (w64_of (by omega) (by omega))⟩, trivial⟩
    · have h1 : ¬ (i : Int) < ax.length := decF h1
      obtain rfl : i = ax.length := by omega
      have hle : LeD (.slc ax.length 5 (boxF ⟨nm, ax, ov, bu, [r0, r1, r2, r3]⟩ m ax.length)) (dAps (boxC ⟨nm, ax, ov, bu, [r0, r1, r2, r3]⟩ m).axis) := LeD.slc' (by simp [boxC]) fun k j hk hj => LeD.of_eq (boxF_all (c := ⟨nm, ax, ov, bu, [r0, r1, r2, r3]⟩) hk)
      refine callN ((gCheck (boxC ⟨nm, ax, ov, bu, [r0, r1, r2, r3]⟩ m) (boxC_ok hc m)).conv (args' := _) ⟨⟨LeD.refl _, hle, LeD.refl _, LeD.refl _, ?_, trivial⟩, trivial⟩) ?_
      · refine LeD.slc' rfl fun i j hi hj => ?_
        match i, hi, j, hj with
        | 0, _, 0, _ => exact LeD.of_eq rfl
        | 0, _, 1, _ => exact LeD.of_eq rfl
        | 0, _, 2, _ => exact LeD.of_eq rfl
        | 1, _, 0, _ => exact LeD.of_eq rfl
        | 1, _, 1, _ => exact LeD.of_eq rfl
        | 1, _, 2, _ => exact LeD.of_eq rfl
        | 2, _, 0, _ => exact LeD.of_eq rfl
        | 2, _, 1, _ => exact LeD.of_eq rfl
        | 2, _, 2, _ => exact LeD.of_eq rfl
        | 3, _, 0, _ => exact LeD.of_eq rfl
        | 3, _, 1, _ => exact LeD.of_eq rfl
        | 3, _, 2, _ => exact LeD.of_eq rfl
      rw [he]
      refine And.intro (fun h2 => by cases (show ((0 : Int) != 0) = true from h2)) (fun _ => ?_)
      exact ⟨LeQ.rfl, rfl, rfl, rfl, rfl, rfl, rfl, rfl, trivial⟩
attribute [local irreducible] errC in
theorem BoxO4 (nm : ByteArray) (ax : List Ap) (ov bu : Int) (r0 r1 r2 r3 : Reg) (m : Int) (hc : (⟨nm, ax, ov, bu, [r0, r1, r2, r3]⟩ : Chan).ok) (n0 : 0 < r0.corners.length) (m0 : r0.corners.length ≤ 1000000) (n1 : 0 < r1.corners.length) (m1 : r1.corners.length ≤ 1000000) (n2 : 0 < r2.corners.length) (m2 : r2.corners.length ≤ 1000000) (n3 : 0 < r3.corners.length) (m3 : r3.corners.length ≤ 1000000) (h1 : errC (⟨nm, ax, ov, bu, [r0, r1, r2, r3]⟩ : Chan) = 0) (h2 : within m 0 100000 = true) (he : errC (boxC ⟨nm, ax, ov, bu, [r0, r1, r2, r3]⟩ m) = 0) :
    CallR Try.prog 19 [chan ⟨nm, ax, ov, bu, [r0, r1, r2, r3]⟩, vI m] [] (.t [.g [.d (dS nm), .own 701, .d (dI ov), .d (dI bu), .osl 702 3 0 4], .s (.d (dI 0))]) [(701, .row 58 ax.length 5 (boxF ⟨nm, ax, ov, bu, [r0, r1, r2, r3]⟩ m ax.length)), (702, .cells [.d (dS r0.name), .d (dI r0.kind), .own 710, .d (dS r1.name), .d (dI r1.kind), .own 711, .d (dS r2.name), .d (dI r2.kind), .own 712, .d (dS r3.name), .d (dI r3.kind), .own 713]), (710, .row 63 r0.corners.length 2 (ptEl r0.corners)), (711, .row 63 r1.corners.length 2 (ptEl r1.corners)), (712, .row 63 r2.corners.length 2 (ptEl r2.corners)), (713, .row 63 r3.corners.length 2 (ptEl r3.corners))] := by
  have hv := val_of _ h1
  refine callO_of_ex (rc := [50]) (N := 21) Try.func19 rfl rfl Try.call19 tab_ok mix rfl rfl rfl rfl (fun cx href => ?_)
  refine callN (gCheck _ hc) ?_
  rw [h1]
  refine And.intro (fun h => by cases (show ((0 : Int) != 0) = true from h)) (fun _ => ?_)
  refine callN (outside _ _ _) ?_
  refine And.intro (fun h => ?_) (fun _ => ?_)
  · have h : (!within m 0 100000) = true := h
    rw [h2] at h; cases h
  refine ⟨(1001, 3) :: [(601, 701), (602, 702), (610, 710), (611, 711), (612, 712), (613, 713)], _, _, _, _, chgBox4 nm ax ov bu r0 r1 r2 r3 m hc hv.n2 hv.n20 n0 m0 n1 m1 n2 m2 n3 m3 he, rfl, ⟨rfl, trivial⟩, rfl, ?_⟩
  exact ⟨LeQ.rfl, rfl, rfl, rfl, rfl, rfl, rfl, trivial⟩
theorem chgDeep4 (nm : ByteArray) (ax : List Ap) (ov bu : Int) (r0 r1 r2 r3 : Reg) (m : Int) (hc : (⟨nm, ax, ov, bu, [r0, r1, r2, r3]⟩ : Chan).ok) (a2 : 2 ≤ ax.length) (a20 : ax.length ≤ 20) (n0 : 0 < r0.corners.length) (m0 : r0.corners.length ≤ 1000000) (n1 : 0 < r1.corners.length) (m1 : r1.corners.length ≤ 1000000) (n2 : 0 < r2.corners.length) (m2 : r2.corners.length ≤ 1000000) (n3 : 0 < r3.corners.length) (m3 : r3.corners.length ≤ 1000000) (he : errC (deepC ⟨nm, ax, ov, bu, [r0, r1, r2, r3]⟩ m) = 0) :
    CallR Try.prog 50 [chan ⟨nm, ax, ov, bu, [r0, r1, r2, r3]⟩, .s (.clo 52 [.ptr 1001 0])] [(1001, .cells [.d (dI m)])] (.t [.g [.d (dS nm), .own 601, .d (dI ov), .d (dI bu), .osl 602 3 0 4], .s (.d (dI 0))]) [(1001, .cells [.d (dI m)]), (601, .row 58 ax.length 5 (deepF ⟨nm, ax, ov, bu, [r0, r1, r2, r3]⟩ m ax.length)), (602, .cells [.d (dS r0.name), .d (dI r0.kind), .own 610, .d (dS r1.name), .d (dI r1.kind), .own 611, .d (dS r2.name), .d (dI r2.kind), .own 612, .d (dS r3.name), .d (dI r3.kind), .own 613]), (610, .row 63 r0.corners.length 2 (ptEl r0.corners)), (611, .row 63 r1.corners.length 2 (ptEl r1.corners)), (612, .row 63 r2.corners.length 2 (ptEl r2.corners)), (613, .row 63 r3.corners.length 2 (ptEl r3.corners))] := by
  refine callO_of_ex (rc := [52, 70]) (N := 31) Try.func50 rfl rfl Try.call50 tab_ok mix rfl rfl rfl rfl (fun cx href => ?_)
  refine ⟨[(501, 601), (502, 602), (510, 610), (511, 611), (512, 612), (513, 613)], _, _, _, _, copied4 nm ax ov bu r0 r1 r2 r3 (by omega) (by omega) n0 m0 n1 m1 n2 m2 n3 m3, rfl, trivial, rfl, ?_⟩
  refine AW.loopI (fun i : Nat => ⟨[(1, .s (.clo 52 [.ptr 1001 0])), (2, .s (.ptr 2 0)), (4, .s (.ptr 4 0)), (5, vI 0), (6, .s (.ptr 6 0)), (13, vI ax.length), (14, vI i)],
      [(2, some (chanB ⟨nm, ax, ov, bu, [r0, r1, r2, r3]⟩)), (4, some (.cells (zvs ty25.zero))), (6, some (.cells [.d (dS nm), .own 601, .d (dI ov), .d (dI bu), .osl 602 3 0 4])), (601, some (.row 58 ax.length 5 (deepF ⟨nm, ax, ov, bu, [r0, r1, r2, r3]⟩ m i))), (602, some (.cells [.d (dS r0.name), .d (dI r0.kind), .own 610, .d (dS r1.name), .d (dI r1.kind), .own 611, .d (dS r2.name), .d (dI r2.kind), .own 612, .d (dS r3.name), .d (dI r3.kind), .own 613])), (610, some (.row 63 r0.corners.length 2 (ptEl r0.corners))), (611, some (.row 63 r1.corners.length 2 (ptEl r1.corners))), (612, some (.row 63 r2.corners.length 2 (ptEl r2.corners))), (613, some (.row 63 r3.corners.length 2 (ptEl r3.corners))), (1001, some (.cells [.d (dI m)]))]⟩)
    (fun i => i ≤ ax.length) (fun i => ax.length - i) 0 (Nat.zero_le _) ?_ ?_
  · exact SubI.of [] (by rw [href]; rfl) rfl ⟨⟨rfl, LeBx.rfl⟩, ⟨rfl, LeBx.rfl⟩, ⟨rfl, LeBx.rfl⟩, ⟨rfl, LeBx.row rfl fun k j _ _ => LeD.refl _⟩, ⟨rfl, LeBx.rfl⟩, ⟨rfl, LeBx.rfl⟩, ⟨rfl, LeBx.rfl⟩, ⟨rfl, LeBx.rfl⟩, ⟨rfl, LeBx.rfl⟩, ⟨rfl, LeBx.rfl⟩, trivial⟩ ⟨⟨rfl, LeQ.rfl⟩, ⟨rfl, LeQ.rfl⟩, ⟨rfl, LeQ.rfl⟩, ⟨rfl, LeQ.rfl⟩, ⟨rfl, LeQ.rfl⟩, ⟨rfl, LeQ.rfl⟩, ⟨rfl, LeQ.rfl⟩, trivial⟩
  · intro i hi
    refine ex.sound (rc := [52, 70]) tab_ok mix href _ ?_
    refine And.intro (fun h1 => ?_) (fun h1 => ?_)
    · have h1 : (i : Int) < ax.length := decT h1
      have hi' : i < ax.length := by omega
      refine oi ⟨by omega, by omega⟩ ?_
      refine ⟨[(1002, 601)], _, _, _, _, deep1 ⟨nm, ax, ov, bu, [r0, r1, r2, r3]⟩ m i hi', rfl, ⟨rfl, rfl, trivial⟩, rfl, ?_⟩
      refine ⟨i + 1, by omega, by omega, ?_⟩
      exact SubI.of [] (by rw [href]; rfl) rfl ⟨⟨rfl, LeBx.rfl⟩, ⟨rfl, LeBx.rfl⟩, ⟨rfl, LeBx.rfl⟩, ⟨rfl, LeBx.row rfl fun k j hk hj => LeD.of_eq (deep_step (c := ⟨nm, ax, ov, bu, [r0, r1, r2, r3]⟩) hi' hk hj)⟩, ⟨rfl, LeBx.rfl⟩, ⟨rfl, LeBx.rfl⟩, ⟨rfl, LeBx.rfl⟩, ⟨rfl, LeBx.rfl⟩, ⟨rfl, LeBx.rfl⟩, ⟨rfl, LeBx.rfl⟩, trivial⟩ ⟨⟨rfl, LeQ.rfl⟩, ⟨rfl, LeQ.rfl⟩, ⟨rfl, LeQ.rfl⟩, ⟨rfl, LeQ.rfl⟩, ⟨rfl, LeQ.rfl⟩, ⟨rfl, LeQ.rfl⟩, ⟨rfl, LeQ.int (w64_of (by omega) (by omega))⟩, trivial⟩
    · have h1 : ¬ (i : Int) < ax.length := decF h1
      obtain rfl : i = ax.length := by omega
      have hle : LeD (.slc ax.length 5 (deepF ⟨nm, ax, ov, bu, [r0, r1, r2, r3]⟩ m ax.length)) (dAps (deepC ⟨nm, ax, ov, bu, [r0, r1, r2, r3]⟩ m).axis) := LeD.slc' (by simp [deepC]) fun k j hk hj => LeD.of_eq (deepF_all (c := ⟨nm, ax, ov, bu, [r0, r1, r2, r3]⟩) hk)
      refine callN ((gCheck (deepC ⟨nm, ax, ov, bu, [r0, r1, r2, r3]⟩ m) (deepC_ok hc m)).conv (args' := _) ⟨⟨LeD.refl _, hle, LeD.refl _, LeD.refl _, ?_, trivial⟩, trivial⟩) ?_
      · refine LeD.slc' rfl fun i j hi hj => ?_
        match i, hi, j, hj with
        | 0, _, 0, _ => exact LeD.of_eq rfl
        | 0, _, 1, _ => exact LeD.of_eq rfl
        | 0, _, 2, _ => exact LeD.of_eq rfl
        | 1, _, 0, _ => exact LeD.of_eq rfl
        | 1, _, 1, _ => exact LeD.of_eq rfl
        | 1, _, 2, _ => exact LeD.of_eq rfl
        | 2, _, 0, _ => exact LeD.of_eq rfl
        | 2, _, 1, _ => exact LeD.of_eq rfl
        | 2, _, 2, _ => exact LeD.of_eq rfl
        | 3, _, 0, _ => exact LeD.of_eq rfl
        | 3, _, 1, _ => exact LeD.of_eq rfl
        | 3, _, 2, _ => exact LeD.of_eq rfl
      rw [he]
      refine And.intro (fun h2 => by cases (show ((0 : Int) != 0) = true from h2)) (fun _ => ?_)
      exact ⟨LeQ.rfl, rfl, rfl, rfl, rfl, rfl, rfl, rfl, trivial⟩
attribute [local irreducible] errC in
theorem DeepO4 (nm : ByteArray) (ax : List Ap) (ov bu : Int) (r0 r1 r2 r3 : Reg) (m : Int) (hc : (⟨nm, ax, ov, bu, [r0, r1, r2, r3]⟩ : Chan).ok) (n0 : 0 < r0.corners.length) (m0 : r0.corners.length ≤ 1000000) (n1 : 0 < r1.corners.length) (m1 : r1.corners.length ≤ 1000000) (n2 : 0 < r2.corners.length) (m2 : r2.corners.length ≤ 1000000) (n3 : 0 < r3.corners.length) (m3 : r3.corners.length ≤ 1000000) (h1 : errC (⟨nm, ax, ov, bu, [r0, r1, r2, r3]⟩ : Chan) = 0) (h2 : within m (-20000) 20000 = true) (he : errC (deepC ⟨nm, ax, ov, bu, [r0, r1, r2, r3]⟩ m) = 0) :
    CallR Try.prog 20 [chan ⟨nm, ax, ov, bu, [r0, r1, r2, r3]⟩, vI m] [] (.t [.g [.d (dS nm), .own 701, .d (dI ov), .d (dI bu), .osl 702 3 0 4], .s (.d (dI 0))]) [(701, .row 58 ax.length 5 (deepF ⟨nm, ax, ov, bu, [r0, r1, r2, r3]⟩ m ax.length)), (702, .cells [.d (dS r0.name), .d (dI r0.kind), .own 710, .d (dS r1.name), .d (dI r1.kind), .own 711, .d (dS r2.name), .d (dI r2.kind), .own 712, .d (dS r3.name), .d (dI r3.kind), .own 713]), (710, .row 63 r0.corners.length 2 (ptEl r0.corners)), (711, .row 63 r1.corners.length 2 (ptEl r1.corners)), (712, .row 63 r2.corners.length 2 (ptEl r2.corners)), (713, .row 63 r3.corners.length 2 (ptEl r3.corners))] := by
  have hv := val_of _ h1
  refine callO_of_ex (rc := [50]) (N := 21) Try.func20 rfl rfl Try.call20 tab_ok mix rfl rfl rfl rfl (fun cx href => ?_)
  refine callN (gCheck _ hc) ?_
  rw [h1]
  refine And.intro (fun h => by cases (show ((0 : Int) != 0) = true from h)) (fun _ => ?_)
  refine callN (outside _ _ _) ?_
  refine And.intro (fun h => ?_) (fun _ => ?_)
  · have h : (!within m (-20000) 20000) = true := h
    rw [h2] at h; cases h
  refine ⟨(1001, 3) :: [(601, 701), (602, 702), (610, 710), (611, 711), (612, 712), (613, 713)], _, _, _, _, chgDeep4 nm ax ov bu r0 r1 r2 r3 m hc hv.n2 hv.n20 n0 m0 n1 m1 n2 m2 n3 m3 he, rfl, ⟨rfl, trivial⟩, rfl, ?_⟩
  exact ⟨LeQ.rfl, rfl, rfl, rfl, rfl, rfl, rfl, trivial⟩
end Go.Ch

/- The grids of the design and of the tolerance, in memory of their own. -/
namespace Go.Ch
open Go Go.Ax Go.Proofs Go.Proofs.Try
set_option maxRecDepth 100000
set_option pp.maxSteps 400
set_option maxHeartbeats 1000000

attribute [local irreducible] errG errC in
theorem gGridO (c : Chan) (g : Grid) (less : Int) (hc : c.ok) (hg : g.ok) (h0 : withErr c [g] = 0) : CallR Try.prog 56 [chan c, grid g, vI less] [] (.t [.g [.d (dI g.x), .d (dI g.y), .d (dI g.side), .d (dI g.cols), .d (dI g.rows), .own 601], .s (.d (dI 0))]) [(601, .row 3 g.levels.length 1 (dgP c g less g.levels.length))] := by
  refine callO_of_ex (rc := [73]) (N := 46) Try.func56 rfl rfl Try.call56 tab_ok mix rfl rfl rfl rfl (fun cx href => ?_)
  refine callN (cboth c g hc hg) ?_
  rw [h0]
  refine And.intro (fun h => by cases (show ((0 : Int) != 0) = true from h)) (fun _ => ?_)
  obtain ⟨e1, e2⟩ := withErr1_zero h0
  have hv := val_of c e1
  have gv := GVal.of e2
  have hn := gv.n
  refine ⟨[(601, 601)], _, _, _, _, FrameO g gv, rfl, trivial, rfl, ?_⟩
  refine AW.loopI (fun i : Nat => ⟨[(2, vI less), (3, .s (.ptr 3 0)), (4, .s (.ptr 4 0)), (6, .s (.ptr 6 0)), (9, .s (.ptr 9 0)), (24, vI g.levels.length), (25, vI i)],
      [(3, some (chanB c)), (4, some (gridB g)), (6, some (.cells [.d (dI 0), .d (dI 0), .d (dI 0), .d (dI 0), .d (dI 0), .d (.val (.slice none 0 0))])), (9, some (.cells [.d (dI g.x), .d (dI g.y), .d (dI g.side), .d (dI g.cols), .d (dI g.rows), .own 601])), (601, some (.row 3 g.levels.length 1 (dgP c g less i)))]⟩)
    (fun i => i ≤ g.levels.length) (fun i => g.levels.length - i) 0 (Nat.zero_le _) ?_ ?_
  · refine SubI.of0 href [] rfl ⟨⟨rfl, LeBx.rfl⟩, ⟨rfl, LeBx.rfl⟩, ⟨rfl, LeBx.rfl⟩, ⟨rfl, LeBx.rfl⟩, ⟨rfl, LeBx.row rfl fun k j hk _ => LeD.of_eq ?_⟩, trivial⟩ ⟨⟨rfl, LeQ.rfl⟩, ⟨rfl, LeQ.rfl⟩, ⟨rfl, LeQ.rfl⟩, ⟨rfl, LeQ.rfl⟩, ⟨rfl, LeQ.rfl⟩, ⟨rfl, LeQ.rfl⟩, ⟨rfl, LeQ.rfl⟩, trivial⟩
    unfold fillF dgP
    rw [if_pos hk, if_neg (Nat.not_lt_zero k)]
  · intro i hi
    refine ex.sound (rc := [73]) tab_ok mix href _ ?_
    refine And.intro (fun h => ?_) (fun h => ?_)
    · have h : (i : Int) < g.levels.length := decT h
      have hi' : i < g.levels.length := by omega
      have hgd := (centre_good gv hi').1
      refine callN (ccentre g i e2 (by omega) h (by omega)) ?_
      refine callN (design c (centreG g i) hv hgd) ?_
      refine And.intro (by kernel_rfl) ?_
      refine And.intro (fun h2 => ?_) (fun h2 => ?_)
      · have h2 : (desF c (centreG g i)).2 = true := h2
        have e : cellT c g less i = w64 ((desF c (centreG g i)).1 - less) := by unfold cellT; rw [h2]; rfl
        refine oi ⟨by omega, by omega⟩ ?_
        refine ob hi' ?_
        refine ⟨i + 1, by omega, by omega, ?_⟩
        refine SubI.of0 href [] rfl ⟨⟨rfl, LeBx.rfl⟩, ⟨rfl, LeBx.rfl⟩, ⟨rfl, LeBx.rfl⟩, ⟨rfl, LeBx.rfl⟩, ⟨rfl, LeBx.row rfl fun k j hk hj => LeD.of_eq ?_⟩, trivial⟩ ⟨⟨rfl, LeQ.rfl⟩, ⟨rfl, LeQ.rfl⟩, ⟨rfl, LeQ.rfl⟩, ⟨rfl, LeQ.rfl⟩, ⟨rfl, LeQ.rfl⟩, ⟨rfl, LeQ.rfl⟩, ⟨rfl, LeQ.int (w64_of (by omega) (by omega))⟩, trivial⟩
        have hj : j = 0 := by have : j < 1 := hj; omega
        subst hj
        by_cases hki : k = i
        · subst hki
          refine rowSet_self.trans ?_
          unfold dgP
          rw [if_pos (Nat.lt_succ_self _), e]
        · refine (rowSet_ne hki).trans ?_
          unfold dgP
          by_cases hlt : k < i
          · rw [if_pos hlt, if_pos (by omega)]
          · rw [if_neg hlt, if_neg (by omega)]
      · have h2 : (desF c (centreG g i)).2 = false := h2
        have e : cellT c g less i = 30000 := by unfold cellT; rw [h2]; rfl
        refine ⟨i + 1, by omega, by omega, ?_⟩
        refine SubI.of0 href [] rfl ⟨⟨rfl, LeBx.rfl⟩, ⟨rfl, LeBx.rfl⟩, ⟨rfl, LeBx.rfl⟩, ⟨rfl, LeBx.rfl⟩, ⟨rfl, LeBx.row rfl fun k j hk hj => LeD.of_eq ?_⟩, trivial⟩ ⟨⟨rfl, LeQ.rfl⟩, ⟨rfl, LeQ.rfl⟩, ⟨rfl, LeQ.rfl⟩, ⟨rfl, LeQ.rfl⟩, ⟨rfl, LeQ.rfl⟩, ⟨rfl, LeQ.rfl⟩, ⟨rfl, LeQ.int (w64_of (by omega) (by omega))⟩, trivial⟩
        unfold dgP
        by_cases hki : k = i
        · subst hki
          rw [if_neg (Nat.lt_irrefl _), if_pos (Nat.lt_succ_self _), e]
        · by_cases hlt : k < i
          · rw [if_pos hlt, if_pos (by omega)]
          · rw [if_neg hlt, if_neg (by omega)]
    · have h : ¬ (i : Int) < g.levels.length := decF h
      have hi' : i = g.levels.length := by omega
      subst hi'
      exact ⟨LeQ.rfl, rfl, trivial⟩
theorem DesignGridO (c : Chan) (g : Grid) (hc : c.ok) (hg : g.ok) (h0 : withErr c [g] = 0) : CallR Try.prog 27 [chan c, grid g] [] (.t [.g [.d (dI g.x), .d (dI g.y), .d (dI g.side), .d (dI g.cols), .d (dI g.rows), .own 701], .s (.d (dI 0))]) [(701, .row 3 g.levels.length 1 (dgP c g 0 g.levels.length))] := by
  refine callO_of_ex (rc := [56]) (N := 11) Try.func27 rfl rfl Try.call27 tab_ok mix rfl rfl rfl rfl (fun cx href => ?_)
  refine ⟨[(601, 701)], _, _, _, _, gGridO c g 0 hc hg h0, rfl, trivial, rfl, ?_⟩
  exact ⟨LeQ.rfl, rfl, trivial⟩
theorem ToleranceGridO (c : Chan) (g : Grid) (hc : c.ok) (hg : g.ok) (h0 : withErr c [g] = 0) : CallR Try.prog 28 [chan c, grid g] [] (.t [.g [.d (dI g.x), .d (dI g.y), .d (dI g.side), .d (dI g.cols), .d (dI g.rows), .own 701], .s (.d (dI 0))]) [(701, .row 3 g.levels.length 1 (dgP c g c.over g.levels.length))] := by
  refine callO_of_ex (rc := [56]) (N := 13) Try.func28 rfl rfl Try.call28 tab_ok mix rfl rfl rfl rfl (fun cx href => ?_)
  refine ⟨[(601, 701)], _, _, _, _, gGridO c g c.over hc hg h0, rfl, trivial, rfl, ?_⟩
  exact ⟨LeQ.rfl, rfl, trivial⟩
end Go.Ch

/- ChannelMemory: facts, and the calls that return an error. -/
namespace Go.Ch
open Go Go.Ax Go.Proofs Go.Proofs.Try
set_option maxRecDepth 100000
set_option pp.maxSteps 400
set_option maxHeartbeats 1000000

def junkF : Nat → Nat → DV := fun _ _ => .junk
theorem regErrF_all {l : List Reg} : ∀ (n i : Nat), regErrF l n i = 0 → ∀ j, j < n → regErr (l.getD (i + j) default) (l.take (i + j)) = 0
  | 0, _, _, _, h => absurd h (Nat.not_lt_zero _)
  | n + 1, i, h, j, hj => by
    unfold regErrF at h
    cases h0 : regErr (l.getD i default) (l.take i) != 0 with
    | true =>
      rw [h0, cond_true] at h
      rw [h] at h0; cases h0
    | false =>
      rw [h0, cond_false] at h
      cases j with
      | zero => simpa using h0
      | succ j =>
        have := regErrF_all n (i + 1) h j (by omega)
        rwa [show i + (j + 1) = i + 1 + j by omega]
theorem errC_regs {c : Chan} (h : errC c = 0) : c.regions.length ≤ 20 ∧ ∀ i, i < c.regions.length → 3 ≤ (c.regions.getD i default).corners.length ∧ (c.regions.getD i default).corners.length ≤ 40 := by
  unfold errC at h
  cases h1 : isName c.name with
  | false => rw [h1] at h; cases h
  | true =>
    rw [h1] at h
    cases h2 : (!within c.over 0 1000 || !within c.buffer 0 100000) with
    | true => rw [h2] at h; cases h
    | false =>
      rw [h2] at h
      cases h3 : axErr c != 0 with
      | true =>
        have h : axErr c = 0 := by rw [h3] at h; exact h
        rw [h] at h3; cases h3
      | false =>
        rw [h3] at h
        cases h4 : decide ((c.regions.length : Int) > 20) with
        | true => rw [h4] at h; cases h
        | false =>
          rw [h4] at h
          have h : regErrF c.regions c.regions.length 0 = 0 := h
          refine ⟨by have := decF h4; omega, fun i hi => ?_⟩
          have := regErrF_all _ _ h i hi
          rw [Nat.zero_add] at this
          generalize c.regions.getD i default = r at *
          unfold regErr at this
          cases e1 : isName r.name with
          | false => rw [e1] at this; cases this
          | true =>
            rw [e1] at this
            cases e2 : (c.regions.take i).any (fun q => sameS q.name r.name) with
            | true => rw [e2] at this; cases this
            | false =>
              rw [e2] at this
              cases e3 : within r.kind 0 3 with
              | false => rw [e3] at this; cases this
              | true =>
                rw [e3] at this
                have this : errPoly r.corners = 0 := this
                unfold errPoly at this
                cases e4 : decide ((r.corners.length : Int) < 3) with
                | true => rw [e4] at this; cases this
                | false =>
                  rw [e4] at this
                  cases e5 : decide ((r.corners.length : Int) > 40) with
                  | true => rw [e5] at this; cases this
                  | false =>
                    have := decF e4
                    have := decF e5
                    omega
theorem small_regs {c : Chan} (hs : small c = true) (h : errC c = 0) : c.regions.length ≤ 4 := by
  have h1 := (errC_regs h).1
  unfold small smallH at hs
  simp only [Bool.and_eq_true, Bool.not_eq_true', Bool.or_eq_false_iff, Bool.and_eq_false_iff, decide_eq_false_iff_not] at hs
  omega
theorem sameGrid (g : Grid) (hl : g.levels.length ≤ 1000000) : CallP Try.prog 29 [grid g, grid g] (vB true) := by
  refine callP_of_ex (rc := []) (N := 45) Try.func29 rfl rfl Try.call29 tab_ok mix rfl rfl (fun cx href => ?_)
  repeat first | refine sk ?_ | refine st ?_ | refine sg ?_ | refine sh ?_ | refine su ?_ | refine sn1 ?_ | refine sn0 ?_ | refine And.intro (show imp none (gimp _ none) from trivial) ?_
  refine callG (rIntsEq g.levels hl) ?_
  repeat first | refine sk ?_ | refine st ?_ | refine sg ?_ | refine sh ?_ | refine su ?_ | refine sn1 ?_ | refine sn0 ?_ | refine And.intro (show imp none (gimp _ none) from trivial) ?_
  refine SubR.of_eq ?_
  show vB ((((((g.x == g.x) && (g.y == g.y)) && (g.side == g.side)) && (g.cols == g.cols)) && (g.rows == g.rows)) && true) = vB true
  simp
theorem changedBoxE (c : Chan) (m : Int) (hc : c.ok) (hv : Val c) (hr : c.regions.length ≤ 1000) (hcr : ∀ i, i < c.regions.length → (c.regions.getD i default).corners.length ≤ 1000000)  (he : errC (boxC c m) ≠ 0) :
    CallR Try.prog 50 [chan c, .s (.clo 51 [.ptr 1001 0])] [(1001, .cells [.d (dI m)])] (.t [.g (zvs ty25.zero), .s (.d (dI (errC (boxC c m))))]) [(1001, .cells [.d (dI m)])] := by
  have n2 := hv.n2
  have n20 := hv.n20
  refine callR_of_ex (rc := [51, 70]) (N := 31) Try.func50 rfl rfl Try.call50 tab_ok mix rfl rfl rfl rfl (fun cx href => ?_)
  refine ⟨[(501, 601)], _, _, _, _, copiedO c (by omega) (by omega) hr hcr, rfl, trivial, rfl, ?_⟩
  refine AW.loopI (fun i : Nat => ⟨[(1, .s (.clo 51 [.ptr 1001 0])), (2, .s (.ptr 2 0)), (4, .s (.ptr 4 0)), (5, vI 0), (6, .s (.ptr 6 0)), (13, vI c.axis.length), (14, vI i)],
      [(2, some (chanB c)), (4, some (.cells (zvs ty25.zero))), (6, some (.cells [.d (dS c.name), .own 601, .d (dI c.over), .d (dI c.buffer), .d (dRegs c.regions)])), (601, some (.row 58 c.axis.length 5 (boxF c m i))), (1001, some (.cells [.d (dI m)]))]⟩)
    (fun i => i ≤ c.axis.length) (fun i => c.axis.length - i) 0 (Nat.zero_le _) ?_ ?_
  · exact SubI.of [] (by rw [href]; rfl) rfl ⟨⟨rfl, LeBx.rfl⟩, ⟨rfl, LeBx.rfl⟩, ⟨rfl, LeBx.rfl⟩, ⟨rfl, LeBx.row rfl fun k j _ _ => LeD.refl _⟩, ⟨rfl, LeBx.rfl⟩, trivial⟩ ⟨⟨rfl, LeQ.rfl⟩, ⟨rfl, LeQ.rfl⟩, ⟨rfl, LeQ.rfl⟩, ⟨rfl, LeQ.rfl⟩, ⟨rfl, LeQ.rfl⟩, ⟨rfl, LeQ.rfl⟩, ⟨rfl, LeQ.rfl⟩, trivial⟩
  · intro i hi
    refine ex.sound (rc := [51, 70]) tab_ok mix href _ ?_
    refine And.intro (fun h1 => ?_) (fun h1 => ?_)
    · have h1 : (i : Int) < c.axis.length := decT h1
      have hi' : i < c.axis.length := by omega
      refine oi ⟨by omega, by omega⟩ ?_
      refine ⟨[(1002, 601)], _, _, _, _, box1 c m i hi', rfl, ⟨rfl, rfl, trivial⟩, rfl, ?_⟩
      refine ⟨i + 1, by omega, by omega, ?_⟩
      exact SubI.of [] (by rw [href]; rfl) rfl ⟨⟨rfl, LeBx.rfl⟩, ⟨rfl, LeBx.rfl⟩, ⟨rfl, LeBx.rfl⟩, ⟨rfl, LeBx.row rfl fun k j hk hj => LeD.of_eq (box_step hi' hk hj)⟩, ⟨rfl, LeBx.rfl⟩, trivial⟩ ⟨⟨rfl, LeQ.rfl⟩, ⟨rfl, LeQ.rfl⟩, ⟨rfl, LeQ.rfl⟩, ⟨rfl, LeQ.rfl⟩, ⟨rfl, LeQ.rfl⟩, ⟨rfl, LeQ.rfl⟩, ⟨rfl, LeQ.int (w64_of (by omega) (by omega))⟩, trivial⟩
    · have h1 : ¬ (i : Int) < c.axis.length := decF h1
      obtain rfl : i = c.axis.length := by omega
      have hle : LeD (.slc c.axis.length 5 (boxF c m c.axis.length)) (dAps (boxC c m).axis) := LeD.slc' (by simp [boxC]) fun k j hk hj => LeD.of_eq (boxF_all hk)
      refine callN ((gCheck (boxC c m) (boxC_ok hc m)).conv (args' := _) ⟨⟨LeD.refl _, hle, LeD.refl _, LeD.refl _, LeD.refl _, trivial⟩, trivial⟩) ?_
      refine And.intro (fun h2 => ?_) (fun h2 => ?_)
      · have h2 : (errC (boxC c m) != 0) = true := h2
        refine ⟨?_, rfl, trivial⟩
        exact SubR.refl _
      · have h2 : (errC (boxC c m) != 0) = false := h2
        exact absurd (by simpa using h2) he

theorem changedDeepE (c : Chan) (m : Int) (hc : c.ok) (hv : Val c) (hr : c.regions.length ≤ 1000) (hcr : ∀ i, i < c.regions.length → (c.regions.getD i default).corners.length ≤ 1000000)  (he : errC (deepC c m) ≠ 0) :
    CallR Try.prog 50 [chan c, .s (.clo 52 [.ptr 1001 0])] [(1001, .cells [.d (dI m)])] (.t [.g (zvs ty25.zero), .s (.d (dI (errC (deepC c m))))]) [(1001, .cells [.d (dI m)])] := by
  have n2 := hv.n2
  have n20 := hv.n20
  refine callR_of_ex (rc := [52, 70]) (N := 31) Try.func50 rfl rfl Try.call50 tab_ok mix rfl rfl rfl rfl (fun cx href => ?_)
  refine ⟨[(501, 601)], _, _, _, _, copiedO c (by omega) (by omega) hr hcr, rfl, trivial, rfl, ?_⟩
  refine AW.loopI (fun i : Nat => ⟨[(1, .s (.clo 52 [.ptr 1001 0])), (2, .s (.ptr 2 0)), (4, .s (.ptr 4 0)), (5, vI 0), (6, .s (.ptr 6 0)), (13, vI c.axis.length), (14, vI i)],
      [(2, some (chanB c)), (4, some (.cells (zvs ty25.zero))), (6, some (.cells [.d (dS c.name), .own 601, .d (dI c.over), .d (dI c.buffer), .d (dRegs c.regions)])), (601, some (.row 58 c.axis.length 5 (deepF c m i))), (1001, some (.cells [.d (dI m)]))]⟩)
    (fun i => i ≤ c.axis.length) (fun i => c.axis.length - i) 0 (Nat.zero_le _) ?_ ?_
  · exact SubI.of [] (by rw [href]; rfl) rfl ⟨⟨rfl, LeBx.rfl⟩, ⟨rfl, LeBx.rfl⟩, ⟨rfl, LeBx.rfl⟩, ⟨rfl, LeBx.row rfl fun k j _ _ => LeD.refl _⟩, ⟨rfl, LeBx.rfl⟩, trivial⟩ ⟨⟨rfl, LeQ.rfl⟩, ⟨rfl, LeQ.rfl⟩, ⟨rfl, LeQ.rfl⟩, ⟨rfl, LeQ.rfl⟩, ⟨rfl, LeQ.rfl⟩, ⟨rfl, LeQ.rfl⟩, ⟨rfl, LeQ.rfl⟩, trivial⟩
  · intro i hi
    refine ex.sound (rc := [52, 70]) tab_ok mix href _ ?_
    refine And.intro (fun h1 => ?_) (fun h1 => ?_)
    · have h1 : (i : Int) < c.axis.length := decT h1
      have hi' : i < c.axis.length := by omega
      refine oi ⟨by omega, by omega⟩ ?_
      refine ⟨[(1002, 601)], _, _, _, _, deep1 c m i hi', rfl, ⟨rfl, rfl, trivial⟩, rfl, ?_⟩
      refine ⟨i + 1, by omega, by omega, ?_⟩
      exact SubI.of [] (by rw [href]; rfl) rfl ⟨⟨rfl, LeBx.rfl⟩, ⟨rfl, LeBx.rfl⟩, ⟨rfl, LeBx.rfl⟩, ⟨rfl, LeBx.row rfl fun k j hk hj => LeD.of_eq (deep_step hi' hk hj)⟩, ⟨rfl, LeBx.rfl⟩, trivial⟩ ⟨⟨rfl, LeQ.rfl⟩, ⟨rfl, LeQ.rfl⟩, ⟨rfl, LeQ.rfl⟩, ⟨rfl, LeQ.rfl⟩, ⟨rfl, LeQ.rfl⟩, ⟨rfl, LeQ.rfl⟩, ⟨rfl, LeQ.int (w64_of (by omega) (by omega))⟩, trivial⟩
    · have h1 : ¬ (i : Int) < c.axis.length := decF h1
      obtain rfl : i = c.axis.length := by omega
      have hle : LeD (.slc c.axis.length 5 (deepF c m c.axis.length)) (dAps (deepC c m).axis) := LeD.slc' (by simp [deepC]) fun k j hk hj => LeD.of_eq (deepF_all hk)
      refine callN ((gCheck (deepC c m) (deepC_ok hc m)).conv (args' := _) ⟨⟨LeD.refl _, hle, LeD.refl _, LeD.refl _, LeD.refl _, trivial⟩, trivial⟩) ?_
      refine And.intro (fun h2 => ?_) (fun h2 => ?_)
      · have h2 : (errC (deepC c m) != 0) = true := h2
        refine ⟨?_, rfl, trivial⟩
        exact SubR.refl _
      · have h2 : (errC (deepC c m) != 0) = false := h2
        exact absurd (by simpa using h2) he

attribute [local irreducible] errC in
theorem BoxE (c : Chan) (m : Int) (hc : c.ok) (hr : c.regions.length ≤ 1000) (hcr : ∀ i, i < c.regions.length → (c.regions.getD i default).corners.length ≤ 1000000) (h2 : within m 0 100000 = true) (he : errC c ≠ 0 ∨ errC (boxC c m) ≠ 0) :
    ∃ e, CallP Try.prog 19 [chan c, vI m] (.t [.g (zvs ty25.zero), .s (.d (dI e))]) := by
  by_cases h1 : errC c = 0
  · have he : errC (boxC c m) ≠ 0 := he.resolve_left fun h => h h1
    refine ⟨errC (boxC c m), ?_⟩
    refine callP_of_ex (rc := [50]) (N := 21) Try.func19 rfl rfl Try.call19 tab_ok mix rfl rfl (fun cx href => ?_)
    refine callN (gCheck c hc) ?_
    rw [h1]
    refine And.intro (fun h => by cases (show ((0 : Int) != 0) = true from h)) (fun _ => ?_)
    refine callN (outside _ _ _) ?_
    refine And.intro (fun h => ?_) (fun _ => ?_)
    · have h : (!within m 0 100000) = true := h
      rw [h2] at h; cases h
    refine ⟨[(1001, 3)], _, _, _, _, changedBoxE c m hc (val_of c h1) hr hcr he, rfl, ⟨rfl, trivial⟩, rfl, ?_⟩
    exact SubR.refl _
  · refine ⟨errC c, ?_⟩
    refine callP_of_ex (rc := []) (N := 21) Try.func19 rfl rfl Try.call19 tab_ok mix rfl rfl (fun cx href => ?_)
    refine callN (gCheck c hc) ?_
    refine And.intro (fun _ => ?_) (fun h => ?_)
    · exact SubR.refl _
    · have h : (errC c != 0) = false := h
      exact absurd (by simpa using h) h1
attribute [local irreducible] errC in
theorem DeepE (c : Chan) (m : Int) (hc : c.ok) (hr : c.regions.length ≤ 1000) (hcr : ∀ i, i < c.regions.length → (c.regions.getD i default).corners.length ≤ 1000000) (h2 : within m (-20000) 20000 = true) (he : errC c ≠ 0 ∨ errC (deepC c m) ≠ 0) :
    ∃ e, CallP Try.prog 20 [chan c, vI m] (.t [.g (zvs ty25.zero), .s (.d (dI e))]) := by
  by_cases h1 : errC c = 0
  · have he : errC (deepC c m) ≠ 0 := he.resolve_left fun h => h h1
    refine ⟨errC (deepC c m), ?_⟩
    refine callP_of_ex (rc := [50]) (N := 21) Try.func20 rfl rfl Try.call20 tab_ok mix rfl rfl (fun cx href => ?_)
    refine callN (gCheck c hc) ?_
    rw [h1]
    refine And.intro (fun h => by cases (show ((0 : Int) != 0) = true from h)) (fun _ => ?_)
    refine callN (outside _ _ _) ?_
    refine And.intro (fun h => ?_) (fun _ => ?_)
    · have h : (!within m (-20000) 20000) = true := h
      rw [h2] at h; cases h
    refine ⟨[(1001, 3)], _, _, _, _, changedDeepE c m hc (val_of c h1) hr hcr he, rfl, ⟨rfl, trivial⟩, rfl, ?_⟩
    exact SubR.refl _
  · refine ⟨errC c, ?_⟩
    refine callP_of_ex (rc := []) (N := 21) Try.func20 rfl rfl Try.call20 tab_ok mix rfl rfl (fun cx href => ?_)
    refine callN (gCheck c hc) ?_
    refine And.intro (fun _ => ?_) (fun h => ?_)
    · exact SubR.refl _
    · have h : (errC c != 0) = false := h
      exact absurd (by simpa using h) h1
attribute [local irreducible] errG errC in
theorem gGridE (c : Chan) (g : Grid) (less : Int) (hc : c.ok) (hg : g.ok) (h0 : withErr c [g] ≠ 0) : CallP Try.prog 56 [chan c, grid g, vI less] (.t [.g (zvs ty51.zero), .s (.d (dI (withErr c [g])))]) := by
  refine callP_of_ex (rc := []) (N := 46) Try.func56 rfl rfl Try.call56 tab_ok mix rfl rfl (fun cx href => ?_)
  refine callN (cboth c g hc hg) ?_
  refine And.intro (fun _ => ?_) (fun h => ?_)
  · exact SubR.refl _
  · have h : (withErr c [g] != 0) = false := h
    exact absurd (by simpa using h) h0
theorem DesignGridE (c : Chan) (g : Grid) (hc : c.ok) (hg : g.ok) (h0 : withErr c [g] ≠ 0) : CallP Try.prog 27 [chan c, grid g] (.t [.g (zvs ty51.zero), .s (.d (dI (withErr c [g])))]) := by
  refine callP_of_ex (rc := []) (N := 11) Try.func27 rfl rfl Try.call27 tab_ok mix rfl rfl (fun cx href => ?_)
  refine callN (gGridE c g 0 hc hg h0) ?_
  exact SubR.refl _
theorem ToleranceGridE (c : Chan) (g : Grid) (hc : c.ok) (hg : g.ok) (h0 : withErr c [g] ≠ 0) : CallP Try.prog 28 [chan c, grid g] (.t [.g (zvs ty51.zero), .s (.d (dI (withErr c [g])))]) := by
  refine callP_of_ex (rc := []) (N := 13) Try.func28 rfl rfl Try.call28 tab_ok mix rfl rfl (fun cx href => ?_)
  refine callN (gGridE c g c.over hc hg h0) ?_
  exact SubR.refl _
end Go.Ch

/- ChannelMemory: the function of the law, by the number of regions. By a program (gen/genM5.py). -/
namespace Go.Ch
open Go Go.Ax Go.Proofs Go.Proofs.Try
set_option maxRecDepth 100000
set_option pp.maxSteps 400
set_option maxHeartbeats 2000000
attribute [local irreducible] errC errG few small

abbrev bE : List (Nat × AV) := [(2, .s (.ptr 2 0)), (3, .s (.ptr 3 0)), (5, .s (.ptr 5 0)), (6, .s (.ptr 6 0)), (11, .s (.ptr 11 0)), (13, .s (.ptr 13 0))]
abbrev bB (c : Chan) (g : Grid) (zd zt : Bool) (nd nt : Nat) (Gd Gt : Grid) : Boxes := [(2, some (chanB c)), (3, some (gridB g)), (5, some (chanB c)), (6, some (gridB g)), (11, some (.cells [.d (dI Gd.x), .d (dI Gd.y), .d (dI Gd.side), .d (dI Gd.cols), .d (dI Gd.rows), .mo zd 1001])), (13, some (.cells [.d (dI Gt.x), .d (dI Gt.y), .d (dI Gt.side), .d (dI Gt.cols), .d (dI Gt.rows), .mo zt 1002])), (1001, some (.mrow 3 nd 1 junkF)), (1002, some (.mrow 3 nt 1 junkF))]
theorem er {x : AV} : (true = true) ∧ LeQ x x := ⟨rfl, LeQ.rfl⟩
theorem br {x : Box} : (true = true) ∧ LeBx x x := ⟨rfl, LeBx.rfl⟩
theorem bif_le {z : Bool} {n : Nat} : (bif z then 0 else n) ≤ n := by cases z <;> simp
theorem LeBx.junk {e n s : Nat} {f : Nat → Nat → DV} : LeBx (.mrow e n s f) (.mrow e n s junkF) := LeBx.mrow' rfl fun _ _ _ _ _ _ _ => trivial
theorem LeBx.rjunk {e n s : Nat} {f : Nat → Nat → DV} : LeBx (.row e n s f) (.mrow e n s junkF) := LeBx.mrow rfl fun _ _ _ _ _ _ _ => trivial
theorem LeBx.jrow {e n s : Nat} {f : Nat → Nat → DV} : LeBx (.row e n s f) (.row e n s junkF) := LeBx.row rfl fun _ _ _ _ _ _ _ => trivial
theorem LeQ.junk {x : AV} : LeQ x (.s (.d .junk)) := fun _ _ _ _ => trivial
theorem LeQ.g {l m : List SV} (h : LeQs l m) : LeQ (.g l) (.g m) := fun _ _ _ ⟨vs, e, r⟩ => ⟨vs, e, h.rep r⟩
theorem few_len {g : Grid} (h : few g = true) : g.levels.length ≤ 1100 := by
  unfold few at h
  simp only [Bool.or_eq_true, Bool.and_eq_true, decide_eq_true_eq] at h
  omega

theorem mem00 (c : Chan) (g : Grid) (hc : c.ok) (hg : g.ok) (hs : small c = true) (hf : few g = true)  (hB : (∃ e, CallP Try.prog 19 [chan c, vI 1] (.t [.g (zvs ty25.zero), .s (.d (dI e))])) ∨ (c.regions = [] ∧ errC c = 0 ∧ errC (boxC c 1) = 0)) (hD : (∃ e, CallP Try.prog 20 [chan c, vI 1] (.t [.g (zvs ty25.zero), .s (.d (dI e))])) ∨ (c.regions = [] ∧ errC c = 0 ∧ errC (deepC c 1) = 0)) : CallP Try.prog 6 [chan c, grid g] (vB true) := by
  have hsm : Sm c := Sm.of hs
  have hr : c.regions.length ≤ 1000 := by have := hsm.regions; omega
  have hax : c.axis.length ≤ 1000 := by have := hsm.axis; omega
  have hcr : ∀ i, i < c.regions.length → (c.regions.getD i default).corners.length ≤ 1000000 := fun i hi => by have := hsm.corners i hi; omega
  have hgl := few_len hf
  refine callP_of_aw Try.func6 rfl rfl Try.call6 tab_ok rfl rfl (fun cx href => ?_)
  refine AW.seq (ex.sound (rc := []) tab_ok mix href _ ?_)
  refine AW.seq (ex.sound (rc := []) tab_ok mix href _ ?_)
  refine callN awake ?_
  refine And.intro (fun h => by cases (show (!true) = true from h)) (fun _ => ?_)
  refine AW.seq (ex.sound (rc := []) tab_ok mix href _ ?_)
  refine callN (Small c hc) ?_
  repeat first | refine sk ?_ | refine st ?_ | refine sg ?_ | refine sh ?_ | refine su ?_ | refine sn1 ?_ | refine sn0 ?_ | refine And.intro (show imp none (gimp _ none) from trivial) ?_
  refine callG (Few g hg.levels) ?_
  repeat first | refine sk ?_ | refine st ?_ | refine sg ?_ | refine sh ?_ | refine su ?_ | refine sn1 ?_ | refine sn0 ?_ | refine And.intro (show imp none (gimp _ none) from trivial) ?_
  refine And.intro (fun h => ?_) (fun _ => ?_)
  · have h : (!small c || !few g) = true := h
    rw [hs, hf] at h; cases h
  refine AW.seq (ex.sound (rc := []) tab_ok mix href _ ?_)
  refine callN (Copied c hsm) ?_
  refine callN (CopyGrid g (by omega)) ?_
  refine And.intro (by kernel_rfl) ?_
  refine AW.cutE (fun q : Bool × Nat × ByteArray × Int × Int => ⟨[(2, .s (.ptr 2 0)), (3, .s (.ptr 3 0)), (5, .s (.ptr 5 0)), (6, .s (.ptr 6 0)), (7, .s (.ptr 7 0))], [(2, some (chanB c)), (3, some (gridB g)), (5, some (chanB c)), (6, some (gridB g)), (7, some (.cells [.d (dS q.2.2.1), .mo q.1 801, .d (dI q.2.2.2.1), .d (dI q.2.2.2.2), .d (.slc 0 3 junkF)])), (801, some (.mrow 58 q.2.1 5 junkF))]⟩) (fun q => q.2.1 ≤ 1000) ?_ ?_
  · rcases hB with ⟨e, hx⟩ | ⟨h0, h1, h2⟩
    · skip
      refine ex.sound (rc := []) tab_ok mix href _ ?_
      refine callN hx ?_
      exact ⟨rfl, (true, 0, ⟨#[]⟩, 0, 0), Nat.zero_le _, SubI.of0 href [(801, 1000)] rfl ⟨br, br, br, br, ⟨rfl, LeBx.cells ⟨LeQ.rfl, LeQ.nil rfl, LeQ.rfl, LeQ.rfl, LeQ.d LeD.nil, trivial⟩⟩, ⟨rfl, rfl⟩, trivial⟩ ⟨er, er, er, er, er, trivial⟩⟩
    · obtain ⟨nm, ax, ov, bu, rg⟩ := c
      obtain rfl : rg = [] := h0
      refine ex.sound (rc := [19]) tab_ok mix href _ ?_
      refine ⟨[(701, 801)], _, _, _, _, BoxO0 nm ax ov bu 1 hc h1 (by decide) h2, rfl, trivial, rfl, ?_⟩
      exact ⟨rfl, (false, ax.length, nm, ov, bu), hax, SubI.of0 href [] rfl ⟨br, br, br, br, ⟨rfl, LeBx.cells ⟨LeQ.rfl, LeQ.mo rfl, LeQ.rfl, LeQ.rfl, LeQ.d (LeD.slc' rfl fun i j hi _ => absurd hi (Nat.not_lt_zero i)), trivial⟩⟩, ⟨rfl, LeBx.rjunk⟩, trivial⟩ ⟨er, er, er, er, er, trivial⟩⟩
  rintro ⟨z8, n8, s8, o8, u8⟩ hq8
  simp only at hq8 ⊢
  refine AW.cutE (fun q : Bool × Nat × ByteArray × Int × Int => ⟨[(2, .s (.ptr 2 0)), (3, .s (.ptr 3 0)), (5, .s (.ptr 5 0)), (6, .s (.ptr 6 0)), (7, .s (.ptr 7 0)), (9, .s (.ptr 9 0))], [(2, some (chanB c)), (3, some (gridB g)), (5, some (chanB c)), (6, some (gridB g)), (7, some (.cells [.d (dS s8), .mo z8 801, .d (dI o8), .d (dI u8), .d (.slc 0 3 junkF)])), (801, some (.mrow 58 n8 5 junkF)), (9, some (.cells [.d (dS q.2.2.1), .mo q.1 901, .d (dI q.2.2.2.1), .d (dI q.2.2.2.2), .d (.slc 0 3 junkF)])), (901, some (.mrow 58 q.2.1 5 junkF))]⟩) (fun q => q.2.1 ≤ 1000) ?_ ?_
  · rcases hD with ⟨e, hx⟩ | ⟨h0, h1, h2⟩
    · skip
      refine ex.sound (rc := []) tab_ok mix href _ ?_
      refine callN hx ?_
      exact ⟨rfl, (true, 0, ⟨#[]⟩, 0, 0), Nat.zero_le _, SubI.of0 href [(901, 1000)] rfl ⟨br, br, br, br, br, br, ⟨rfl, LeBx.cells ⟨LeQ.rfl, LeQ.nil rfl, LeQ.rfl, LeQ.rfl, LeQ.d LeD.nil, trivial⟩⟩, ⟨rfl, rfl⟩, trivial⟩ ⟨er, er, er, er, er, er, trivial⟩⟩
    · obtain ⟨nm, ax, ov, bu, rg⟩ := c
      obtain rfl : rg = [] := h0
      refine ex.sound (rc := [20]) tab_ok mix href _ ?_
      refine ⟨[(701, 901)], _, _, _, _, DeepO0 nm ax ov bu 1 hc h1 (by decide) h2, rfl, trivial, rfl, ?_⟩
      exact ⟨rfl, (false, ax.length, nm, ov, bu), hax, SubI.of0 href [] rfl ⟨br, br, br, br, br, br, ⟨rfl, LeBx.cells ⟨LeQ.rfl, LeQ.mo rfl, LeQ.rfl, LeQ.rfl, LeQ.d (LeD.slc' rfl fun i j hi _ => absurd hi (Nat.not_lt_zero i)), trivial⟩⟩, ⟨rfl, LeBx.rjunk⟩, trivial⟩ ⟨er, er, er, er, er, er, trivial⟩⟩
  rintro ⟨z9, n9, s9, o9, u9⟩ hq9
  simp only at hq9 ⊢
  refine AW.cutE (fun q : Bool × Nat × Grid => ⟨[(2, .s (.ptr 2 0)), (3, .s (.ptr 3 0)), (5, .s (.ptr 5 0)), (6, .s (.ptr 6 0)), (7, .s (.ptr 7 0)), (9, .s (.ptr 9 0)), (11, .s (.ptr 11 0))], [(2, some (chanB c)), (3, some (gridB g)), (5, some (chanB c)), (6, some (gridB g)), (7, some (.cells [.d (dS s8), .mo z8 801, .d (dI o8), .d (dI u8), .d (.slc 0 3 junkF)])), (801, some (.mrow 58 n8 5 junkF)), (9, some (.cells [.d (dS s9), .mo z9 901, .d (dI o9), .d (dI u9), .d (.slc 0 3 junkF)])), (901, some (.mrow 58 n9 5 junkF)), (11, some (.cells [.d (dI q.2.2.x), .d (dI q.2.2.y), .d (dI q.2.2.side), .d (dI q.2.2.cols), .d (dI q.2.2.rows), .mo q.1 1001])), (1001, some (.mrow 3 q.2.1 1 junkF))]⟩) (fun q => q.2.1 ≤ 2000) ?_ ?_
  · by_cases he : withErr c [g] = 0
    · refine ex.sound (rc := [27]) tab_ok mix href _ ?_
      refine ⟨[(701, 1001)], _, _, _, _, DesignGridO c g hc hg he, rfl, trivial, rfl, ?_⟩
      exact ⟨rfl, (false, g.levels.length, g), by simp only; omega, SubI.of0 href [] rfl ⟨br, br, br, br, br, br, br, br, ⟨rfl, LeBx.cells ⟨LeQ.rfl, LeQ.rfl, LeQ.rfl, LeQ.rfl, LeQ.rfl, LeQ.mo rfl, trivial⟩⟩, ⟨rfl, LeBx.rjunk⟩, trivial⟩ ⟨er, er, er, er, er, er, er, trivial⟩⟩
    · refine ex.sound (rc := []) tab_ok mix href _ ?_
      refine callN (DesignGridE c g hc hg he) ?_
      exact ⟨rfl, (true, 0, zeroG), Nat.zero_le _, SubI.of0 href [(1001, 1000)] rfl ⟨br, br, br, br, br, br, br, br, ⟨rfl, LeBx.cells ⟨LeQ.rfl, LeQ.rfl, LeQ.rfl, LeQ.rfl, LeQ.rfl, LeQ.nil rfl, trivial⟩⟩, ⟨rfl, rfl⟩, trivial⟩ ⟨er, er, er, er, er, er, er, trivial⟩⟩
  rintro ⟨zd, nd, Gd⟩ hqnd
  simp only at hqnd ⊢
  refine AW.cutE (fun q : Bool × Nat × Grid => ⟨[(2, .s (.ptr 2 0)), (3, .s (.ptr 3 0)), (5, .s (.ptr 5 0)), (6, .s (.ptr 6 0)), (7, .s (.ptr 7 0)), (9, .s (.ptr 9 0)), (11, .s (.ptr 11 0)), (13, .s (.ptr 13 0))], [(2, some (chanB c)), (3, some (gridB g)), (5, some (chanB c)), (6, some (gridB g)), (7, some (.cells [.d (dS s8), .mo z8 801, .d (dI o8), .d (dI u8), .d (.slc 0 3 junkF)])), (801, some (.mrow 58 n8 5 junkF)), (9, some (.cells [.d (dS s9), .mo z9 901, .d (dI o9), .d (dI u9), .d (.slc 0 3 junkF)])), (901, some (.mrow 58 n9 5 junkF)), (11, some (.cells [.d (dI Gd.x), .d (dI Gd.y), .d (dI Gd.side), .d (dI Gd.cols), .d (dI Gd.rows), .mo zd 1001])), (1001, some (.mrow 3 nd 1 junkF)), (13, some (.cells [.d (dI q.2.2.x), .d (dI q.2.2.y), .d (dI q.2.2.side), .d (dI q.2.2.cols), .d (dI q.2.2.rows), .mo q.1 1002])), (1002, some (.mrow 3 q.2.1 1 junkF))]⟩) (fun q => q.2.1 ≤ 2000) ?_ ?_
  · by_cases he : withErr c [g] = 0
    · refine ex.sound (rc := [28]) tab_ok mix href _ ?_
      refine ⟨[(701, 1002)], _, _, _, _, ToleranceGridO c g hc hg he, rfl, trivial, rfl, ?_⟩
      exact ⟨rfl, (false, g.levels.length, g), by simp only; omega, SubI.of0 href [] rfl ⟨br, br, br, br, br, br, br, br, br, br, ⟨rfl, LeBx.cells ⟨LeQ.rfl, LeQ.rfl, LeQ.rfl, LeQ.rfl, LeQ.rfl, LeQ.mo rfl, trivial⟩⟩, ⟨rfl, LeBx.rjunk⟩, trivial⟩ ⟨er, er, er, er, er, er, er, er, trivial⟩⟩
    · refine ex.sound (rc := []) tab_ok mix href _ ?_
      refine callN (ToleranceGridE c g hc hg he) ?_
      exact ⟨rfl, (true, 0, zeroG), Nat.zero_le _, SubI.of0 href [(1002, 1000)] rfl ⟨br, br, br, br, br, br, br, br, br, br, ⟨rfl, LeBx.cells ⟨LeQ.rfl, LeQ.rfl, LeQ.rfl, LeQ.rfl, LeQ.rfl, LeQ.nil rfl, trivial⟩⟩, ⟨rfl, rfl⟩, trivial⟩ ⟨er, er, er, er, er, er, er, er, trivial⟩⟩
  rintro ⟨zt, nt, Gt⟩ hqnt
  simp only at hqnt ⊢
  refine AW.cut (σ' := ⟨bE ++ [], bB c g zd zt nd nt Gd Gt ++ []⟩) (ex.sound (rc := []) tab_ok mix href _ ?_) ?_
  · refine AW.loopI (fun i : Nat => match i with | 0 => (⟨bE ++ [(61, .g [.d (dS s8), .mo z8 801, .d (dI o8), .d (dI u8), .d (.slc 0 3 junkF), .d (dS s9), .mo z9 901, .d (dI o9), .d (dI u9), .d (.slc 0 3 junkF)]), (62, vI 0)], bB c g zd zt nd nt Gd Gt ++ [(801, some (.mrow 58 n8 5 junkF)), (901, some (.mrow 58 n9 5 junkF))]⟩ : St) | 1 => ⟨bE ++ [(61, .g [.d .junk, .d .junk, .d .junk, .d .junk, .d .junk, .d (dS s9), .mo z9 901, .d (dI o9), .d (dI u9), .d (.slc 0 3 junkF)]), (62, vI 1)], bB c g zd zt nd nt Gd Gt ++ [(901, some (.mrow 58 n9 5 junkF))]⟩ | _ => ⟨bE ++ [(62, vI 2)], bB c g zd zt nd nt Gd Gt ++ []⟩) (fun i => i ≤ 2) (fun i => 2 - i) 0 (Nat.zero_le _) ?_ ?_
    · exact SubI.of0 href [] rfl ⟨br, br, br, br, br, br, br, br, br, br, trivial⟩ ⟨er, er, er, er, er, er, er, er, trivial⟩
    · intro i hi
      match i, hi with
      | 0, _ =>
        refine AW.seq (ex.sound (rc := []) tab_ok mix href _ ?_)
        refine AW.seq (ex.sound (rc := []) tab_ok mix href _ ?_)
        refine And.intro (fun _ => ?_) (fun h => by cases (show (decide ((0 : Int) < 2)) = false from h))
        refine AW.seq (AW.block (AW.seq (ex.sound (rc := []) tab_ok mix href _ ?_)))
        refine oi ⟨by decide, by decide⟩ ?_
        have hzn := bif_le (z := z8) (n := n8)
        refine AW.cut (σ' := ⟨bE ++ [(61, .g [.d .junk, .d .junk, .d .junk, .d .junk, .d .junk, .d (dS s9), .mo z9 901, .d (dI o9), .d (dI u9), .d (.slc 0 3 junkF)]), (62, vI 0), (16, .s (.ptr 16 0))], bB c g zd zt nd nt Gd Gt ++ [(16, some (.cells [.d (dS s8), .mo z8 801, .d (dI o8), .d (dI u8), .d (.slc 0 3 junkF)])), (801, some (.mrow 58 n8 5 junkF)), (901, some (.mrow 58 n9 5 junkF))]⟩) (ex.sound (rc := []) tab_ok mix href _ ?_) ?_
        · refine AW.loopI (fun m : Nat => (⟨bE ++ [(61, .g [.d .junk, .d .junk, .d .junk, .d .junk, .d .junk, .d (dS s9), .mo z9 901, .d (dI o9), .d (dI u9), .d (.slc 0 3 junkF)]), (62, vI 0), (16, .s (.ptr 16 0)), (17, vI m)], bB c g zd zt nd nt Gd Gt ++ [(16, some (.cells [.d (dS s8), .mo z8 801, .d (dI o8), .d (dI u8), .d (.slc 0 3 junkF)])), (801, some (.mrow 58 n8 5 junkF)), (901, some (.mrow 58 n9 5 junkF))]⟩ : St)) (fun m => m ≤ (bif z8 then 0 else n8)) (fun m => (bif z8 then 0 else n8) - m) 0 (Nat.zero_le _) ?_ ?_
          · exact SubI.of0 href [] rfl ⟨br, br, br, br, br, br, br, br, br, br, br, trivial⟩ ⟨er, er, er, er, er, er, ⟨rfl, LeQ.g ⟨LeQ.junk, LeQ.junk, LeQ.junk, LeQ.junk, LeQ.junk, LeQ.rfl, LeQ.rfl, LeQ.rfl, LeQ.rfl, LeQ.rfl, trivial⟩⟩, er, er, er, trivial⟩
          · intro m hm
            refine ex.sound (rc := []) tab_ok mix href _ ?_
            refine And.intro (fun h => ?_) (fun h => ?_)
            · have h : (m : Int) < ((bif z8 then 0 else n8 : Nat) : Int) := decT h
              refine oi ⟨by omega, by show (m : Int) < ((bif z8 then 0 else n8 : Nat) : Int); omega⟩ ?_
              refine ob (show (m : Int).toNat < n8 by omega) ?_
              refine ⟨m + 1, by omega, by omega, ?_⟩
              exact SubI.of0 href [] rfl ⟨br, br, br, br, br, br, br, br, br, ⟨rfl, LeBx.junk⟩, br, trivial⟩ ⟨er, er, er, er, er, er, er, er, er, ⟨rfl, LeQ.int (w64_of (by omega) (by omega))⟩, trivial⟩
            · exact ⟨rfl, SubI.of0 href [] rfl ⟨br, br, br, br, br, br, br, br, br, br, br, trivial⟩ ⟨er, er, er, er, er, er, er, er, er, trivial⟩⟩
        refine AW.seq (ex.sound (rc := []) tab_ok mix href _ ?_)
        refine ex.sound (rc := []) tab_ok mix href _ ?_
        refine AW.loopI (fun j : Nat => (⟨bE ++ [(61, .g [.d .junk, .d .junk, .d .junk, .d .junk, .d .junk, .d (dS s9), .mo z9 901, .d (dI o9), .d (dI u9), .d (.slc 0 3 junkF)]), (62, vI 0), (16, .s (.ptr 16 0)), (18, vI j)], bB c g zd zt nd nt Gd Gt ++ [(16, some (.cells [.d (dS s8), .mo z8 801, .d (dI o8), .d (dI u8), .d (.slc 0 3 junkF)])), (801, some (.mrow 58 n8 5 junkF)), (901, some (.mrow 58 n9 5 junkF))]⟩ : St)) (fun j => j ≤ 0) (fun j => 0 - j) 0 (Nat.zero_le _) ?_ ?_
        · exact SubI.of0 href [] rfl ⟨br, br, br, br, br, br, br, br, br, br, br, trivial⟩ ⟨er, er, er, er, er, er, er, er, er, er, trivial⟩
        · intro j hj
          match j, hj with
          | 0, _ =>
            refine ex.sound (rc := []) tab_ok mix href _ ?_
            refine And.intro (fun h => by cases (show (decide ((0 : Int) < 0)) = true from h)) (fun _ => ?_)
            refine ex.sound (rc := []) tab_ok mix href _ ?_
            refine ⟨1, by decide, by decide, ?_⟩
            exact SubI.of0 href [] rfl ⟨br, br, br, br, br, br, br, br, br, trivial⟩ ⟨er, er, er, er, er, er, er, er, trivial⟩
      | 1, _ =>
        refine AW.seq (ex.sound (rc := []) tab_ok mix href _ ?_)
        refine AW.seq (ex.sound (rc := []) tab_ok mix href _ ?_)
        refine And.intro (fun _ => ?_) (fun h => by cases (show (decide ((1 : Int) < 2)) = false from h))
        refine AW.seq (AW.block (AW.seq (ex.sound (rc := []) tab_ok mix href _ ?_)))
        refine oi ⟨by decide, by decide⟩ ?_
        have hzn := bif_le (z := z9) (n := n9)
        refine AW.cut (σ' := ⟨bE ++ [(62, vI 1), (16, .s (.ptr 16 0))], bB c g zd zt nd nt Gd Gt ++ [(16, some (.cells [.d (dS s9), .mo z9 901, .d (dI o9), .d (dI u9), .d (.slc 0 3 junkF)])), (901, some (.mrow 58 n9 5 junkF))]⟩) (ex.sound (rc := []) tab_ok mix href _ ?_) ?_
        · refine AW.loopI (fun m : Nat => (⟨bE ++ [(62, vI 1), (16, .s (.ptr 16 0)), (17, vI m)], bB c g zd zt nd nt Gd Gt ++ [(16, some (.cells [.d (dS s9), .mo z9 901, .d (dI o9), .d (dI u9), .d (.slc 0 3 junkF)])), (901, some (.mrow 58 n9 5 junkF))]⟩ : St)) (fun m => m ≤ (bif z9 then 0 else n9)) (fun m => (bif z9 then 0 else n9) - m) 0 (Nat.zero_le _) ?_ ?_
          · exact SubI.of0 href [] rfl ⟨br, br, br, br, br, br, br, br, br, br, trivial⟩ ⟨er, er, er, er, er, er, er, er, er, trivial⟩
          · intro m hm
            refine ex.sound (rc := []) tab_ok mix href _ ?_
            refine And.intro (fun h => ?_) (fun h => ?_)
            · have h : (m : Int) < ((bif z9 then 0 else n9 : Nat) : Int) := decT h
              refine oi ⟨by omega, by show (m : Int) < ((bif z9 then 0 else n9 : Nat) : Int); omega⟩ ?_
              refine ob (show (m : Int).toNat < n9 by omega) ?_
              refine ⟨m + 1, by omega, by omega, ?_⟩
              exact SubI.of0 href [] rfl ⟨br, br, br, br, br, br, br, br, br, ⟨rfl, LeBx.junk⟩, trivial⟩ ⟨er, er, er, er, er, er, er, er, ⟨rfl, LeQ.int (w64_of (by omega) (by omega))⟩, trivial⟩
            · exact ⟨rfl, SubI.of0 href [] rfl ⟨br, br, br, br, br, br, br, br, br, br, trivial⟩ ⟨er, er, er, er, er, er, er, er, trivial⟩⟩
        refine AW.seq (ex.sound (rc := []) tab_ok mix href _ ?_)
        refine ex.sound (rc := []) tab_ok mix href _ ?_
        refine AW.loopI (fun j : Nat => (⟨bE ++ [(62, vI 1), (16, .s (.ptr 16 0)), (18, vI j)], bB c g zd zt nd nt Gd Gt ++ [(16, some (.cells [.d (dS s9), .mo z9 901, .d (dI o9), .d (dI u9), .d (.slc 0 3 junkF)])), (901, some (.mrow 58 n9 5 junkF))]⟩ : St)) (fun j => j ≤ 0) (fun j => 0 - j) 0 (Nat.zero_le _) ?_ ?_
        · exact SubI.of0 href [] rfl ⟨br, br, br, br, br, br, br, br, br, br, trivial⟩ ⟨er, er, er, er, er, er, er, er, er, trivial⟩
        · intro j hj
          match j, hj with
          | 0, _ =>
            refine ex.sound (rc := []) tab_ok mix href _ ?_
            refine And.intro (fun h => by cases (show (decide ((0 : Int) < 0)) = true from h)) (fun _ => ?_)
            refine ex.sound (rc := []) tab_ok mix href _ ?_
            refine ⟨2, by decide, by decide, ?_⟩
            exact SubI.of0 href [] rfl ⟨br, br, br, br, br, br, br, br, trivial⟩ ⟨er, er, er, er, er, er, er, trivial⟩
      | 2, _ =>
        refine ex.sound (rc := []) tab_ok mix href _ ?_
        refine And.intro (fun h => by cases (show (decide ((2 : Int) < 2)) = true from h)) (fun _ => ?_)
        exact ⟨rfl, SubI.of0 href [] rfl ⟨br, br, br, br, br, br, br, br, trivial⟩ ⟨er, er, er, er, er, er, trivial⟩⟩
  refine AW.cut (σ' := ⟨[(2, .s (.ptr 2 0)), (3, .s (.ptr 3 0)), (5, .s (.ptr 5 0)), (6, .s (.ptr 6 0))], [(2, some (chanB c)), (3, some (gridB g)), (5, some (chanB c)), (6, some (gridB g))]⟩) (ex.sound (rc := []) tab_ok mix href _ ?_) ?_
  · refine AW.loopI (fun i : Nat => match i with | 0 => (⟨[(2, .s (.ptr 2 0)), (3, .s (.ptr 3 0)), (5, .s (.ptr 5 0)), (6, .s (.ptr 6 0)), (112, .g [.d (dI Gd.x), .d (dI Gd.y), .d (dI Gd.side), .d (dI Gd.cols), .d (dI Gd.rows), .mo zd 1001, .d (dI Gt.x), .d (dI Gt.y), .d (dI Gt.side), .d (dI Gt.cols), .d (dI Gt.rows), .mo zt 1002]), (113, vI 0)], [(2, some (chanB c)), (3, some (gridB g)), (5, some (chanB c)), (6, some (gridB g)), (1001, some (.mrow 3 nd 1 junkF)), (1002, some (.mrow 3 nt 1 junkF))]⟩ : St) | 1 => ⟨[(2, .s (.ptr 2 0)), (3, .s (.ptr 3 0)), (5, .s (.ptr 5 0)), (6, .s (.ptr 6 0)), (112, .g [.d (dI Gd.x), .d (dI Gd.y), .d (dI Gd.side), .d (dI Gd.cols), .d (dI Gd.rows), .mo zd 1001, .d (dI Gt.x), .d (dI Gt.y), .d (dI Gt.side), .d (dI Gt.cols), .d (dI Gt.rows), .mo zt 1002]), (113, vI 1)], [(2, some (chanB c)), (3, some (gridB g)), (5, some (chanB c)), (6, some (gridB g)), (1001, some (.mrow 3 nd 1 junkF)), (1002, some (.mrow 3 nt 1 junkF))]⟩ | _ => ⟨[(2, .s (.ptr 2 0)), (3, .s (.ptr 3 0)), (5, .s (.ptr 5 0)), (6, .s (.ptr 6 0)), (113, vI 2)], [(2, some (chanB c)), (3, some (gridB g)), (5, some (chanB c)), (6, some (gridB g)), (1001, some (.mrow 3 nd 1 junkF)), (1002, some (.mrow 3 nt 1 junkF))]⟩) (fun i => i ≤ 2) (fun i => 2 - i) 0 (Nat.zero_le _) ?_ ?_
    · exact SubI.of0 href [] rfl ⟨br, br, br, br, br, br, trivial⟩ ⟨er, er, er, er, er, er, trivial⟩
    · intro i hi
      match i, hi with
      | 0, _ =>
        refine ex.sound (rc := []) tab_ok mix href _ ?_
        refine And.intro (fun _ => ?_) (fun h => by cases (show (decide ((0 : Int) < 2)) = false from h))
        refine oi ⟨by decide, by decide⟩ ?_
        have hzn := bif_le (z := zd) (n := nd)
        refine AW.loopI (fun m : Nat => (⟨[(2, .s (.ptr 2 0)), (3, .s (.ptr 3 0)), (5, .s (.ptr 5 0)), (6, .s (.ptr 6 0)), (112, .g [.d (dI Gd.x), .d (dI Gd.y), .d (dI Gd.side), .d (dI Gd.cols), .d (dI Gd.rows), .mo zd 1001, .d (dI Gt.x), .d (dI Gt.y), .d (dI Gt.side), .d (dI Gt.cols), .d (dI Gt.rows), .mo zt 1002]), (113, vI 0), (21, .s (.ptr 21 0)), (22, vI m)], [(2, some (chanB c)), (3, some (gridB g)), (5, some (chanB c)), (6, some (gridB g)), (1001, some (.mrow 3 nd 1 junkF)), (1002, some (.mrow 3 nt 1 junkF)), (21, some (.cells [.d (dI Gd.x), .d (dI Gd.y), .d (dI Gd.side), .d (dI Gd.cols), .d (dI Gd.rows), .mo zd 1001]))]⟩ : St)) (fun m => m ≤ (bif zd then 0 else nd)) (fun m => (bif zd then 0 else nd) - m) 0 (Nat.zero_le _) ?_ ?_
        · exact SubI.of0 href [] rfl ⟨br, br, br, br, br, br, br, trivial⟩ ⟨er, er, er, er, er, er, er, er, trivial⟩
        · intro m hm
          refine ex.sound (rc := []) tab_ok mix href _ ?_
          refine And.intro (fun h => ?_) (fun h => ?_)
          · have h : (m : Int) < ((bif zd then 0 else nd : Nat) : Int) := decT h
            refine oi ⟨by omega, by show (m : Int) < ((bif zd then 0 else nd : Nat) : Int); omega⟩ ?_
            refine ob (show (m : Int).toNat < nd by omega) ?_
            refine ⟨m + 1, by omega, by omega, ?_⟩
            exact SubI.of0 href [] rfl ⟨br, br, br, br, ⟨rfl, LeBx.junk⟩, br, br, trivial⟩ ⟨er, er, er, er, er, er, er, ⟨rfl, LeQ.int (w64_of (by omega) (by omega))⟩, trivial⟩
          · refine ⟨1, by decide, by decide, ?_⟩
            exact SubI.of0 href [] rfl ⟨br, br, br, br, br, br, trivial⟩ ⟨er, er, er, er, er, er, trivial⟩
      | 1, _ =>
        refine ex.sound (rc := []) tab_ok mix href _ ?_
        refine And.intro (fun _ => ?_) (fun h => by cases (show (decide ((1 : Int) < 2)) = false from h))
        refine oi ⟨by decide, by decide⟩ ?_
        have hzn := bif_le (z := zt) (n := nt)
        refine AW.loopI (fun m : Nat => (⟨[(2, .s (.ptr 2 0)), (3, .s (.ptr 3 0)), (5, .s (.ptr 5 0)), (6, .s (.ptr 6 0)), (112, .g [.d (dI Gd.x), .d (dI Gd.y), .d (dI Gd.side), .d (dI Gd.cols), .d (dI Gd.rows), .mo zd 1001, .d (dI Gt.x), .d (dI Gt.y), .d (dI Gt.side), .d (dI Gt.cols), .d (dI Gt.rows), .mo zt 1002]), (113, vI 1), (21, .s (.ptr 21 0)), (22, vI m)], [(2, some (chanB c)), (3, some (gridB g)), (5, some (chanB c)), (6, some (gridB g)), (1001, some (.mrow 3 nd 1 junkF)), (1002, some (.mrow 3 nt 1 junkF)), (21, some (.cells [.d (dI Gt.x), .d (dI Gt.y), .d (dI Gt.side), .d (dI Gt.cols), .d (dI Gt.rows), .mo zt 1002]))]⟩ : St)) (fun m => m ≤ (bif zt then 0 else nt)) (fun m => (bif zt then 0 else nt) - m) 0 (Nat.zero_le _) ?_ ?_
        · exact SubI.of0 href [] rfl ⟨br, br, br, br, br, br, br, trivial⟩ ⟨er, er, er, er, er, er, er, er, trivial⟩
        · intro m hm
          refine ex.sound (rc := []) tab_ok mix href _ ?_
          refine And.intro (fun h => ?_) (fun h => ?_)
          · have h : (m : Int) < ((bif zt then 0 else nt : Nat) : Int) := decT h
            refine oi ⟨by omega, by show (m : Int) < ((bif zt then 0 else nt : Nat) : Int); omega⟩ ?_
            refine ob (show (m : Int).toNat < nt by omega) ?_
            refine ⟨m + 1, by omega, by omega, ?_⟩
            exact SubI.of0 href [] rfl ⟨br, br, br, br, br, ⟨rfl, LeBx.junk⟩, br, trivial⟩ ⟨er, er, er, er, er, er, er, ⟨rfl, LeQ.int (w64_of (by omega) (by omega))⟩, trivial⟩
          · refine ⟨2, by decide, by decide, ?_⟩
            exact SubI.of0 href [] rfl ⟨br, br, br, br, br, br, trivial⟩ ⟨er, er, er, er, er, trivial⟩
      | 2, _ =>
        refine ex.sound (rc := []) tab_ok mix href _ ?_
        refine And.intro (fun h => by cases (show (decide ((2 : Int) < 2)) = true from h)) (fun _ => ?_)
        exact ⟨rfl, SubI.of0 href [] rfl ⟨br, br, br, br, trivial⟩ ⟨er, er, er, er, trivial⟩⟩
  · refine ex.sound (rc := []) tab_ok mix href _ ?_
    refine callN (rSameEq c (by omega) (by omega) hcr) ?_
    repeat first | refine sk ?_ | refine st ?_ | refine sg ?_ | refine sh ?_ | refine su ?_ | refine sn1 ?_ | refine sn0 ?_ | refine And.intro (show imp none (gimp _ none) from trivial) ?_
    refine callG (sameGrid g (by omega)) ?_
    repeat first | refine sk ?_ | refine st ?_ | refine sg ?_ | refine sh ?_ | refine su ?_ | refine sn1 ?_ | refine sn0 ?_ | refine And.intro (show imp none (gimp _ none) from trivial) ?_
    exact SubR.lit rfl
end Go.Ch

/- ChannelMemory: the function of the law, by the number of regions. By a program (gen/genM5.py). -/
namespace Go.Ch
open Go Go.Ax Go.Proofs Go.Proofs.Try
set_option maxRecDepth 100000
set_option pp.maxSteps 400
set_option maxHeartbeats 2000000
attribute [local irreducible] errC errG few small

theorem mem10 (nm : ByteArray) (ax : List Ap) (ov bu : Int) (r0 : Reg) (c : Chan) (hceq : c = ⟨nm, ax, ov, bu, [r0]⟩) (g : Grid) (hc : c.ok) (hg : g.ok) (hs : small c = true) (hf : few g = true) (y0 : 0 < r0.corners.length) (m0 : r0.corners.length ≤ 45) (hB : errC c = 0 ∧ errC (boxC c 1) = 0) (hD : (∃ e, CallP Try.prog 20 [chan c, vI 1] (.t [.g (zvs ty25.zero), .s (.d (dI e))]))) : CallP Try.prog 6 [chan c, grid g] (vB true) := by
  have hsm : Sm c := Sm.of hs
  have hr : c.regions.length ≤ 1000 := by have := hsm.regions; omega
  have hax : c.axis.length ≤ 1000 := by have := hsm.axis; omega
  have hcr : ∀ i, i < c.regions.length → (c.regions.getD i default).corners.length ≤ 1000000 := fun i hi => by have := hsm.corners i hi; omega
  have hgl := few_len hf
  refine callP_of_aw Try.func6 rfl rfl Try.call6 tab_ok rfl rfl (fun cx href => ?_)
  refine AW.seq (ex.sound (rc := []) tab_ok mix href _ ?_)
  refine AW.seq (ex.sound (rc := []) tab_ok mix href _ ?_)
  refine callN awake ?_
  refine And.intro (fun h => by cases (show (!true) = true from h)) (fun _ => ?_)
  refine AW.seq (ex.sound (rc := []) tab_ok mix href _ ?_)
  refine callN (Small c hc) ?_
  repeat first | refine sk ?_ | refine st ?_ | refine sg ?_ | refine sh ?_ | refine su ?_ | refine sn1 ?_ | refine sn0 ?_ | refine And.intro (show imp none (gimp _ none) from trivial) ?_
  refine callG (Few g hg.levels) ?_
  repeat first | refine sk ?_ | refine st ?_ | refine sg ?_ | refine sh ?_ | refine su ?_ | refine sn1 ?_ | refine sn0 ?_ | refine And.intro (show imp none (gimp _ none) from trivial) ?_
  refine And.intro (fun h => ?_) (fun _ => ?_)
  · have h : (!small c || !few g) = true := h
    rw [hs, hf] at h; cases h
  refine AW.seq (ex.sound (rc := []) tab_ok mix href _ ?_)
  refine callN (Copied c hsm) ?_
  refine callN (CopyGrid g (by omega)) ?_
  refine And.intro (by kernel_rfl) ?_
  refine AW.cutE (fun q : Bool × Nat × ByteArray × Int × Int => ⟨[(2, .s (.ptr 2 0)), (3, .s (.ptr 3 0)), (5, .s (.ptr 5 0)), (6, .s (.ptr 6 0)), (7, .s (.ptr 7 0))], [(2, some (chanB c)), (3, some (gridB g)), (5, some (chanB c)), (6, some (gridB g)), (7, some (.cells [.d (dS q.2.2.1), .mo q.1 801, .d (dI q.2.2.2.1), .d (dI q.2.2.2.2), .osl 802 3 0 1])), (801, some (.mrow 58 q.2.1 5 junkF)), (802, some (.cells [.d .junk, .d .junk, .own 810])), (810, some (.row 63 r0.corners.length 2 junkF))]⟩) (fun q => q.2.1 ≤ 1000) ?_ ?_
  · subst hceq
    refine ex.sound (rc := [19]) tab_ok mix href _ ?_
    refine ⟨[(701, 801), (702, 802), (710, 810)], _, _, _, _, BoxO1 nm ax ov bu r0 1 hc y0 (Nat.le_trans m0 (by decide)) hB.1 (by decide) hB.2, rfl, trivial, rfl, ?_⟩
    exact ⟨rfl, (false, ax.length, nm, ov, bu), hax, SubI.of0 href [] rfl ⟨br, br, br, br, ⟨rfl, LeBx.cells ⟨LeQ.rfl, LeQ.mo rfl, LeQ.rfl, LeQ.rfl, LeQ.rfl, trivial⟩⟩, ⟨rfl, LeBx.rjunk⟩, ⟨rfl, LeBx.cells ⟨LeQ.junk, LeQ.junk, LeQ.rfl, trivial⟩⟩, ⟨rfl, LeBx.jrow⟩, trivial⟩ ⟨er, er, er, er, er, trivial⟩⟩
  rintro ⟨z8, n8, s8, o8, u8⟩ hq8
  simp only at hq8 ⊢
  refine AW.cutE (fun q : Bool × Nat × ByteArray × Int × Int => ⟨[(2, .s (.ptr 2 0)), (3, .s (.ptr 3 0)), (5, .s (.ptr 5 0)), (6, .s (.ptr 6 0)), (7, .s (.ptr 7 0)), (9, .s (.ptr 9 0))], [(2, some (chanB c)), (3, some (gridB g)), (5, some (chanB c)), (6, some (gridB g)), (7, some (.cells [.d (dS s8), .mo z8 801, .d (dI o8), .d (dI u8), .osl 802 3 0 1])), (801, some (.mrow 58 n8 5 junkF)), (802, some (.cells [.d .junk, .d .junk, .own 810])), (810, some (.row 63 r0.corners.length 2 junkF)), (9, some (.cells [.d (dS q.2.2.1), .mo q.1 901, .d (dI q.2.2.2.1), .d (dI q.2.2.2.2), .d (.slc 0 3 junkF)])), (901, some (.mrow 58 q.2.1 5 junkF))]⟩) (fun q => q.2.1 ≤ 1000) ?_ ?_
  · obtain ⟨e, hx⟩ := hD
    refine ex.sound (rc := []) tab_ok mix href _ ?_
    refine callN hx ?_
    exact ⟨rfl, (true, 0, ⟨#[]⟩, 0, 0), Nat.zero_le _, SubI.of0 href [(901, 1000)] rfl ⟨br, br, br, br, br, br, br, br, ⟨rfl, LeBx.cells ⟨LeQ.rfl, LeQ.nil rfl, LeQ.rfl, LeQ.rfl, LeQ.d LeD.nil, trivial⟩⟩, ⟨rfl, rfl⟩, trivial⟩ ⟨er, er, er, er, er, er, trivial⟩⟩
  rintro ⟨z9, n9, s9, o9, u9⟩ hq9
  simp only at hq9 ⊢
  refine AW.cutE (fun q : Bool × Nat × Grid => ⟨[(2, .s (.ptr 2 0)), (3, .s (.ptr 3 0)), (5, .s (.ptr 5 0)), (6, .s (.ptr 6 0)), (7, .s (.ptr 7 0)), (9, .s (.ptr 9 0)), (11, .s (.ptr 11 0))], [(2, some (chanB c)), (3, some (gridB g)), (5, some (chanB c)), (6, some (gridB g)), (7, some (.cells [.d (dS s8), .mo z8 801, .d (dI o8), .d (dI u8), .osl 802 3 0 1])), (801, some (.mrow 58 n8 5 junkF)), (802, some (.cells [.d .junk, .d .junk, .own 810])), (810, some (.row 63 r0.corners.length 2 junkF)), (9, some (.cells [.d (dS s9), .mo z9 901, .d (dI o9), .d (dI u9), .d (.slc 0 3 junkF)])), (901, some (.mrow 58 n9 5 junkF)), (11, some (.cells [.d (dI q.2.2.x), .d (dI q.2.2.y), .d (dI q.2.2.side), .d (dI q.2.2.cols), .d (dI q.2.2.rows), .mo q.1 1001])), (1001, some (.mrow 3 q.2.1 1 junkF))]⟩) (fun q => q.2.1 ≤ 2000) ?_ ?_
  · by_cases he : withErr c [g] = 0
    · refine ex.sound (rc := [27]) tab_ok mix href _ ?_
      refine ⟨[(701, 1001)], _, _, _, _, DesignGridO c g hc hg he, rfl, trivial, rfl, ?_⟩
      exact ⟨rfl, (false, g.levels.length, g), by simp only; omega, SubI.of0 href [] rfl ⟨br, br, br, br, br, br, br, br, br, br, ⟨rfl, LeBx.cells ⟨LeQ.rfl, LeQ.rfl, LeQ.rfl, LeQ.rfl, LeQ.rfl, LeQ.mo rfl, trivial⟩⟩, ⟨rfl, LeBx.rjunk⟩, trivial⟩ ⟨er, er, er, er, er, er, er, trivial⟩⟩
    · refine ex.sound (rc := []) tab_ok mix href _ ?_
      refine callN (DesignGridE c g hc hg he) ?_
      exact ⟨rfl, (true, 0, zeroG), Nat.zero_le _, SubI.of0 href [(1001, 1000)] rfl ⟨br, br, br, br, br, br, br, br, br, br, ⟨rfl, LeBx.cells ⟨LeQ.rfl, LeQ.rfl, LeQ.rfl, LeQ.rfl, LeQ.rfl, LeQ.nil rfl, trivial⟩⟩, ⟨rfl, rfl⟩, trivial⟩ ⟨er, er, er, er, er, er, er, trivial⟩⟩
  rintro ⟨zd, nd, Gd⟩ hqnd
  simp only at hqnd ⊢
  refine AW.cutE (fun q : Bool × Nat × Grid => ⟨[(2, .s (.ptr 2 0)), (3, .s (.ptr 3 0)), (5, .s (.ptr 5 0)), (6, .s (.ptr 6 0)), (7, .s (.ptr 7 0)), (9, .s (.ptr 9 0)), (11, .s (.ptr 11 0)), (13, .s (.ptr 13 0))], [(2, some (chanB c)), (3, some (gridB g)), (5, some (chanB c)), (6, some (gridB g)), (7, some (.cells [.d (dS s8), .mo z8 801, .d (dI o8), .d (dI u8), .osl 802 3 0 1])), (801, some (.mrow 58 n8 5 junkF)), (802, some (.cells [.d .junk, .d .junk, .own 810])), (810, some (.row 63 r0.corners.length 2 junkF)), (9, some (.cells [.d (dS s9), .mo z9 901, .d (dI o9), .d (dI u9), .d (.slc 0 3 junkF)])), (901, some (.mrow 58 n9 5 junkF)), (11, some (.cells [.d (dI Gd.x), .d (dI Gd.y), .d (dI Gd.side), .d (dI Gd.cols), .d (dI Gd.rows), .mo zd 1001])), (1001, some (.mrow 3 nd 1 junkF)), (13, some (.cells [.d (dI q.2.2.x), .d (dI q.2.2.y), .d (dI q.2.2.side), .d (dI q.2.2.cols), .d (dI q.2.2.rows), .mo q.1 1002])), (1002, some (.mrow 3 q.2.1 1 junkF))]⟩) (fun q => q.2.1 ≤ 2000) ?_ ?_
  · by_cases he : withErr c [g] = 0
    · refine ex.sound (rc := [28]) tab_ok mix href _ ?_
      refine ⟨[(701, 1002)], _, _, _, _, ToleranceGridO c g hc hg he, rfl, trivial, rfl, ?_⟩
      exact ⟨rfl, (false, g.levels.length, g), by simp only; omega, SubI.of0 href [] rfl ⟨br, br, br, br, br, br, br, br, br, br, br, br, ⟨rfl, LeBx.cells ⟨LeQ.rfl, LeQ.rfl, LeQ.rfl, LeQ.rfl, LeQ.rfl, LeQ.mo rfl, trivial⟩⟩, ⟨rfl, LeBx.rjunk⟩, trivial⟩ ⟨er, er, er, er, er, er, er, er, trivial⟩⟩
    · refine ex.sound (rc := []) tab_ok mix href _ ?_
      refine callN (ToleranceGridE c g hc hg he) ?_
      exact ⟨rfl, (true, 0, zeroG), Nat.zero_le _, SubI.of0 href [(1002, 1000)] rfl ⟨br, br, br, br, br, br, br, br, br, br, br, br, ⟨rfl, LeBx.cells ⟨LeQ.rfl, LeQ.rfl, LeQ.rfl, LeQ.rfl, LeQ.rfl, LeQ.nil rfl, trivial⟩⟩, ⟨rfl, rfl⟩, trivial⟩ ⟨er, er, er, er, er, er, er, er, trivial⟩⟩
  rintro ⟨zt, nt, Gt⟩ hqnt
  simp only at hqnt ⊢
  refine AW.cut (σ' := ⟨bE ++ [], bB c g zd zt nd nt Gd Gt ++ []⟩) (ex.sound (rc := []) tab_ok mix href _ ?_) ?_
  · refine AW.loopI (fun i : Nat => match i with | 0 => (⟨bE ++ [(61, .g [.d (dS s8), .mo z8 801, .d (dI o8), .d (dI u8), .osl 802 3 0 1, .d (dS s9), .mo z9 901, .d (dI o9), .d (dI u9), .d (.slc 0 3 junkF)]), (62, vI 0)], bB c g zd zt nd nt Gd Gt ++ [(801, some (.mrow 58 n8 5 junkF)), (802, some (.cells [.d .junk, .d .junk, .own 810])), (810, some (.row 63 r0.corners.length 2 junkF)), (901, some (.mrow 58 n9 5 junkF))]⟩ : St) | 1 => ⟨bE ++ [(61, .g [.d .junk, .d .junk, .d .junk, .d .junk, .d .junk, .d (dS s9), .mo z9 901, .d (dI o9), .d (dI u9), .d (.slc 0 3 junkF)]), (62, vI 1)], bB c g zd zt nd nt Gd Gt ++ [(901, some (.mrow 58 n9 5 junkF))]⟩ | _ => ⟨bE ++ [(62, vI 2)], bB c g zd zt nd nt Gd Gt ++ []⟩) (fun i => i ≤ 2) (fun i => 2 - i) 0 (Nat.zero_le _) ?_ ?_
    · exact SubI.of0 href [] rfl ⟨br, br, br, br, br, br, br, br, br, br, br, br, trivial⟩ ⟨er, er, er, er, er, er, er, er, trivial⟩
    · intro i hi
      match i, hi with
      | 0, _ =>
        refine AW.seq (ex.sound (rc := []) tab_ok mix href _ ?_)
        refine AW.seq (ex.sound (rc := []) tab_ok mix href _ ?_)
        refine And.intro (fun _ => ?_) (fun h => by cases (show (decide ((0 : Int) < 2)) = false from h))
        refine AW.seq (AW.block (AW.seq (ex.sound (rc := []) tab_ok mix href _ ?_)))
        refine oi ⟨by decide, by decide⟩ ?_
        have hzn := bif_le (z := z8) (n := n8)
        refine AW.cut (σ' := ⟨bE ++ [(61, .g [.d .junk, .d .junk, .d .junk, .d .junk, .d .junk, .d (dS s9), .mo z9 901, .d (dI o9), .d (dI u9), .d (.slc 0 3 junkF)]), (62, vI 0), (16, .s (.ptr 16 0))], bB c g zd zt nd nt Gd Gt ++ [(16, some (.cells [.d (dS s8), .mo z8 801, .d (dI o8), .d (dI u8), .osl 802 3 0 1])), (801, some (.mrow 58 n8 5 junkF)), (802, some (.cells [.d .junk, .d .junk, .own 810])), (810, some (.row 63 r0.corners.length 2 junkF)), (901, some (.mrow 58 n9 5 junkF))]⟩) (ex.sound (rc := []) tab_ok mix href _ ?_) ?_
        · refine AW.loopI (fun m : Nat => (⟨bE ++ [(61, .g [.d .junk, .d .junk, .d .junk, .d .junk, .d .junk, .d (dS s9), .mo z9 901, .d (dI o9), .d (dI u9), .d (.slc 0 3 junkF)]), (62, vI 0), (16, .s (.ptr 16 0)), (17, vI m)], bB c g zd zt nd nt Gd Gt ++ [(16, some (.cells [.d (dS s8), .mo z8 801, .d (dI o8), .d (dI u8), .osl 802 3 0 1])), (801, some (.mrow 58 n8 5 junkF)), (802, some (.cells [.d .junk, .d .junk, .own 810])), (810, some (.row 63 r0.corners.length 2 junkF)), (901, some (.mrow 58 n9 5 junkF))]⟩ : St)) (fun m => m ≤ (bif z8 then 0 else n8)) (fun m => (bif z8 then 0 else n8) - m) 0 (Nat.zero_le _) ?_ ?_
          · exact SubI.of0 href [] rfl ⟨br, br, br, br, br, br, br, br, br, br, br, br, br, trivial⟩ ⟨er, er, er, er, er, er, ⟨rfl, LeQ.g ⟨LeQ.junk, LeQ.junk, LeQ.junk, LeQ.junk, LeQ.junk, LeQ.rfl, LeQ.rfl, LeQ.rfl, LeQ.rfl, LeQ.rfl, trivial⟩⟩, er, er, er, trivial⟩
          · intro m hm
            refine ex.sound (rc := []) tab_ok mix href _ ?_
            refine And.intro (fun h => ?_) (fun h => ?_)
            · have h : (m : Int) < ((bif z8 then 0 else n8 : Nat) : Int) := decT h
              refine oi ⟨by omega, by show (m : Int) < ((bif z8 then 0 else n8 : Nat) : Int); omega⟩ ?_
              refine ob (show (m : Int).toNat < n8 by omega) ?_
              refine ⟨m + 1, by omega, by omega, ?_⟩
              exact SubI.of0 href [] rfl ⟨br, br, br, br, br, br, br, br, br, ⟨rfl, LeBx.junk⟩, br, br, br, trivial⟩ ⟨er, er, er, er, er, er, er, er, er, ⟨rfl, LeQ.int (w64_of (by omega) (by omega))⟩, trivial⟩
            · exact ⟨rfl, SubI.of0 href [] rfl ⟨br, br, br, br, br, br, br, br, br, br, br, br, br, trivial⟩ ⟨er, er, er, er, er, er, er, er, er, trivial⟩⟩
        refine AW.seq (ex.sound (rc := []) tab_ok mix href _ ?_)
        refine ex.sound (rc := []) tab_ok mix href _ ?_
        refine AW.loopI (fun j : Nat => (⟨bE ++ [(61, .g [.d .junk, .d .junk, .d .junk, .d .junk, .d .junk, .d (dS s9), .mo z9 901, .d (dI o9), .d (dI u9), .d (.slc 0 3 junkF)]), (62, vI 0), (16, .s (.ptr 16 0)), (18, vI j)], bB c g zd zt nd nt Gd Gt ++ [(16, some (.cells [.d (dS s8), .mo z8 801, .d (dI o8), .d (dI u8), .osl 802 3 0 1])), (801, some (.mrow 58 n8 5 junkF)), (802, some (.cells [.d .junk, .d .junk, .own 810])), (810, some (.row 63 r0.corners.length 2 junkF)), (901, some (.mrow 58 n9 5 junkF))]⟩ : St)) (fun j => j ≤ 1) (fun j => 1 - j) 0 (Nat.zero_le _) ?_ ?_
        · exact SubI.of0 href [] rfl ⟨br, br, br, br, br, br, br, br, br, br, br, br, br, trivial⟩ ⟨er, er, er, er, er, er, er, er, er, er, trivial⟩
        · intro j hj
          match j, hj with
          | 0, _ =>
            refine AW.seq (ex.sound (rc := []) tab_ok mix href _ ?_)
            refine And.intro (fun _ => ?_) (fun h => by cases (show (decide ((0 : Int) < 1)) = false from h))
            refine AW.seq (AW.block ?_)
            refine AW.cut (σ' := ⟨bE ++ [(61, .g [.d .junk, .d .junk, .d .junk, .d .junk, .d .junk, .d (dS s9), .mo z9 901, .d (dI o9), .d (dI u9), .d (.slc 0 3 junkF)]), (62, vI 0), (16, .s (.ptr 16 0)), (18, vI 0)], bB c g zd zt nd nt Gd Gt ++ [(16, some (.cells [.d (dS s8), .mo z8 801, .d (dI o8), .d (dI u8), .osl 802 3 0 1])), (801, some (.mrow 58 n8 5 junkF)), (802, some (.cells [.d .junk, .d .junk, .own 810])), (810, some (.row 63 r0.corners.length 2 junkF)), (901, some (.mrow 58 n9 5 junkF))]⟩) (ex.sound (rc := []) tab_ok mix href _ ?_) ?_
            · refine AW.loopI (fun m : Nat => (⟨bE ++ [(61, .g [.d .junk, .d .junk, .d .junk, .d .junk, .d .junk, .d (dS s9), .mo z9 901, .d (dI o9), .d (dI u9), .d (.slc 0 3 junkF)]), (62, vI 0), (16, .s (.ptr 16 0)), (18, vI 0), (19, vI m)], bB c g zd zt nd nt Gd Gt ++ [(16, some (.cells [.d (dS s8), .mo z8 801, .d (dI o8), .d (dI u8), .osl 802 3 0 1])), (801, some (.mrow 58 n8 5 junkF)), (802, some (.cells [.d .junk, .d .junk, .own 810])), (810, some (.row 63 r0.corners.length 2 junkF)), (901, some (.mrow 58 n9 5 junkF))]⟩ : St)) (fun m => m ≤ r0.corners.length) (fun m => r0.corners.length - m) 0 (Nat.zero_le _) ?_ ?_
              · exact SubI.of0 href [] rfl ⟨br, br, br, br, br, br, br, br, br, br, br, br, br, trivial⟩ ⟨er, er, er, er, er, er, er, er, er, er, er, trivial⟩
              · intro m hm
                refine ex.sound (rc := []) tab_ok mix href _ ?_
                refine oi ⟨by decide, by decide⟩ ?_
                refine And.intro (fun h => ?_) (fun h => ?_)
                · have h : (m : Int) < (r0.corners.length : Int) := decT h
                  refine oi ⟨by decide, by decide⟩ ?_
                  refine oi ⟨by omega, by omega⟩ ?_
                  refine ob (show (m : Int).toNat < r0.corners.length by omega) ?_
                  refine ⟨m + 1, by omega, by omega, ?_⟩
                  exact SubI.of0 href [] rfl ⟨br, br, br, br, br, br, br, br, br, br, br, ⟨rfl, LeBx.jrow⟩, br, trivial⟩ ⟨er, er, er, er, er, er, er, er, er, er, ⟨rfl, LeQ.int (w64_of (by omega) (by omega))⟩, trivial⟩
                · exact ⟨rfl, SubI.of0 href [] rfl ⟨br, br, br, br, br, br, br, br, br, br, br, br, br, trivial⟩ ⟨er, er, er, er, er, er, er, er, er, er, trivial⟩⟩
            · refine ex.sound (rc := []) tab_ok mix href _ ?_
              refine oi ⟨by decide, by decide⟩ ?_
              refine ex.sound (rc := []) tab_ok mix href _ ?_
              refine ⟨1, by decide, by decide, ?_⟩
              exact SubI.of0 href [] rfl ⟨br, br, br, br, br, br, br, br, br, br, ⟨rfl, LeBx.cells ⟨LeQ.junk, LeQ.junk, LeQ.rfl, trivial⟩⟩, br, br, trivial⟩ ⟨er, er, er, er, er, er, er, er, er, er, trivial⟩
          | 1, _ =>
            refine ex.sound (rc := []) tab_ok mix href _ ?_
            refine And.intro (fun h => by cases (show (decide ((1 : Int) < 1)) = true from h)) (fun _ => ?_)
            refine ex.sound (rc := []) tab_ok mix href _ ?_
            refine ⟨1, by decide, by decide, ?_⟩
            exact SubI.of0 href [] rfl ⟨br, br, br, br, br, br, br, br, br, trivial⟩ ⟨er, er, er, er, er, er, er, er, trivial⟩
      | 1, _ =>
        refine AW.seq (ex.sound (rc := []) tab_ok mix href _ ?_)
        refine AW.seq (ex.sound (rc := []) tab_ok mix href _ ?_)
        refine And.intro (fun _ => ?_) (fun h => by cases (show (decide ((1 : Int) < 2)) = false from h))
        refine AW.seq (AW.block (AW.seq (ex.sound (rc := []) tab_ok mix href _ ?_)))
        refine oi ⟨by decide, by decide⟩ ?_
        have hzn := bif_le (z := z9) (n := n9)
        refine AW.cut (σ' := ⟨bE ++ [(62, vI 1), (16, .s (.ptr 16 0))], bB c g zd zt nd nt Gd Gt ++ [(16, some (.cells [.d (dS s9), .mo z9 901, .d (dI o9), .d (dI u9), .d (.slc 0 3 junkF)])), (901, some (.mrow 58 n9 5 junkF))]⟩) (ex.sound (rc := []) tab_ok mix href _ ?_) ?_
        · refine AW.loopI (fun m : Nat => (⟨bE ++ [(62, vI 1), (16, .s (.ptr 16 0)), (17, vI m)], bB c g zd zt nd nt Gd Gt ++ [(16, some (.cells [.d (dS s9), .mo z9 901, .d (dI o9), .d (dI u9), .d (.slc 0 3 junkF)])), (901, some (.mrow 58 n9 5 junkF))]⟩ : St)) (fun m => m ≤ (bif z9 then 0 else n9)) (fun m => (bif z9 then 0 else n9) - m) 0 (Nat.zero_le _) ?_ ?_
          · exact SubI.of0 href [] rfl ⟨br, br, br, br, br, br, br, br, br, br, trivial⟩ ⟨er, er, er, er, er, er, er, er, er, trivial⟩
          · intro m hm
            refine ex.sound (rc := []) tab_ok mix href _ ?_
            refine And.intro (fun h => ?_) (fun h => ?_)
            · have h : (m : Int) < ((bif z9 then 0 else n9 : Nat) : Int) := decT h
              refine oi ⟨by omega, by show (m : Int) < ((bif z9 then 0 else n9 : Nat) : Int); omega⟩ ?_
              refine ob (show (m : Int).toNat < n9 by omega) ?_
              refine ⟨m + 1, by omega, by omega, ?_⟩
              exact SubI.of0 href [] rfl ⟨br, br, br, br, br, br, br, br, br, ⟨rfl, LeBx.junk⟩, trivial⟩ ⟨er, er, er, er, er, er, er, er, ⟨rfl, LeQ.int (w64_of (by omega) (by omega))⟩, trivial⟩
            · exact ⟨rfl, SubI.of0 href [] rfl ⟨br, br, br, br, br, br, br, br, br, br, trivial⟩ ⟨er, er, er, er, er, er, er, er, trivial⟩⟩
        refine AW.seq (ex.sound (rc := []) tab_ok mix href _ ?_)
        refine ex.sound (rc := []) tab_ok mix href _ ?_
        refine AW.loopI (fun j : Nat => (⟨bE ++ [(62, vI 1), (16, .s (.ptr 16 0)), (18, vI j)], bB c g zd zt nd nt Gd Gt ++ [(16, some (.cells [.d (dS s9), .mo z9 901, .d (dI o9), .d (dI u9), .d (.slc 0 3 junkF)])), (901, some (.mrow 58 n9 5 junkF))]⟩ : St)) (fun j => j ≤ 0) (fun j => 0 - j) 0 (Nat.zero_le _) ?_ ?_
        · exact SubI.of0 href [] rfl ⟨br, br, br, br, br, br, br, br, br, br, trivial⟩ ⟨er, er, er, er, er, er, er, er, er, trivial⟩
        · intro j hj
          match j, hj with
          | 0, _ =>
            refine ex.sound (rc := []) tab_ok mix href _ ?_
            refine And.intro (fun h => by cases (show (decide ((0 : Int) < 0)) = true from h)) (fun _ => ?_)
            refine ex.sound (rc := []) tab_ok mix href _ ?_
            refine ⟨2, by decide, by decide, ?_⟩
            exact SubI.of0 href [] rfl ⟨br, br, br, br, br, br, br, br, trivial⟩ ⟨er, er, er, er, er, er, er, trivial⟩
      | 2, _ =>
        refine ex.sound (rc := []) tab_ok mix href _ ?_
        refine And.intro (fun h => by cases (show (decide ((2 : Int) < 2)) = true from h)) (fun _ => ?_)
        exact ⟨rfl, SubI.of0 href [] rfl ⟨br, br, br, br, br, br, br, br, trivial⟩ ⟨er, er, er, er, er, er, trivial⟩⟩
  refine AW.cut (σ' := ⟨[(2, .s (.ptr 2 0)), (3, .s (.ptr 3 0)), (5, .s (.ptr 5 0)), (6, .s (.ptr 6 0))], [(2, some (chanB c)), (3, some (gridB g)), (5, some (chanB c)), (6, some (gridB g))]⟩) (ex.sound (rc := []) tab_ok mix href _ ?_) ?_
  · refine AW.loopI (fun i : Nat => match i with | 0 => (⟨[(2, .s (.ptr 2 0)), (3, .s (.ptr 3 0)), (5, .s (.ptr 5 0)), (6, .s (.ptr 6 0)), (112, .g [.d (dI Gd.x), .d (dI Gd.y), .d (dI Gd.side), .d (dI Gd.cols), .d (dI Gd.rows), .mo zd 1001, .d (dI Gt.x), .d (dI Gt.y), .d (dI Gt.side), .d (dI Gt.cols), .d (dI Gt.rows), .mo zt 1002]), (113, vI 0)], [(2, some (chanB c)), (3, some (gridB g)), (5, some (chanB c)), (6, some (gridB g)), (1001, some (.mrow 3 nd 1 junkF)), (1002, some (.mrow 3 nt 1 junkF))]⟩ : St) | 1 => ⟨[(2, .s (.ptr 2 0)), (3, .s (.ptr 3 0)), (5, .s (.ptr 5 0)), (6, .s (.ptr 6 0)), (112, .g [.d (dI Gd.x), .d (dI Gd.y), .d (dI Gd.side), .d (dI Gd.cols), .d (dI Gd.rows), .mo zd 1001, .d (dI Gt.x), .d (dI Gt.y), .d (dI Gt.side), .d (dI Gt.cols), .d (dI Gt.rows), .mo zt 1002]), (113, vI 1)], [(2, some (chanB c)), (3, some (gridB g)), (5, some (chanB c)), (6, some (gridB g)), (1001, some (.mrow 3 nd 1 junkF)), (1002, some (.mrow 3 nt 1 junkF))]⟩ | _ => ⟨[(2, .s (.ptr 2 0)), (3, .s (.ptr 3 0)), (5, .s (.ptr 5 0)), (6, .s (.ptr 6 0)), (113, vI 2)], [(2, some (chanB c)), (3, some (gridB g)), (5, some (chanB c)), (6, some (gridB g)), (1001, some (.mrow 3 nd 1 junkF)), (1002, some (.mrow 3 nt 1 junkF))]⟩) (fun i => i ≤ 2) (fun i => 2 - i) 0 (Nat.zero_le _) ?_ ?_
    · exact SubI.of0 href [] rfl ⟨br, br, br, br, br, br, trivial⟩ ⟨er, er, er, er, er, er, trivial⟩
    · intro i hi
      match i, hi with
      | 0, _ =>
        refine ex.sound (rc := []) tab_ok mix href _ ?_
        refine And.intro (fun _ => ?_) (fun h => by cases (show (decide ((0 : Int) < 2)) = false from h))
        refine oi ⟨by decide, by decide⟩ ?_
        have hzn := bif_le (z := zd) (n := nd)
        refine AW.loopI (fun m : Nat => (⟨[(2, .s (.ptr 2 0)), (3, .s (.ptr 3 0)), (5, .s (.ptr 5 0)), (6, .s (.ptr 6 0)), (112, .g [.d (dI Gd.x), .d (dI Gd.y), .d (dI Gd.side), .d (dI Gd.cols), .d (dI Gd.rows), .mo zd 1001, .d (dI Gt.x), .d (dI Gt.y), .d (dI Gt.side), .d (dI Gt.cols), .d (dI Gt.rows), .mo zt 1002]), (113, vI 0), (21, .s (.ptr 21 0)), (22, vI m)], [(2, some (chanB c)), (3, some (gridB g)), (5, some (chanB c)), (6, some (gridB g)), (1001, some (.mrow 3 nd 1 junkF)), (1002, some (.mrow 3 nt 1 junkF)), (21, some (.cells [.d (dI Gd.x), .d (dI Gd.y), .d (dI Gd.side), .d (dI Gd.cols), .d (dI Gd.rows), .mo zd 1001]))]⟩ : St)) (fun m => m ≤ (bif zd then 0 else nd)) (fun m => (bif zd then 0 else nd) - m) 0 (Nat.zero_le _) ?_ ?_
        · exact SubI.of0 href [] rfl ⟨br, br, br, br, br, br, br, trivial⟩ ⟨er, er, er, er, er, er, er, er, trivial⟩
        · intro m hm
          refine ex.sound (rc := []) tab_ok mix href _ ?_
          refine And.intro (fun h => ?_) (fun h => ?_)
          · have h : (m : Int) < ((bif zd then 0 else nd : Nat) : Int) := decT h
            refine oi ⟨by omega, by show (m : Int) < ((bif zd then 0 else nd : Nat) : Int); omega⟩ ?_
            refine ob (show (m : Int).toNat < nd by omega) ?_
            refine ⟨m + 1, by omega, by omega, ?_⟩
            exact SubI.of0 href [] rfl ⟨br, br, br, br, ⟨rfl, LeBx.junk⟩, br, br, trivial⟩ ⟨er, er, er, er, er, er, er, ⟨rfl, LeQ.int (w64_of (by omega) (by omega))⟩, trivial⟩
          · refine ⟨1, by decide, by decide, ?_⟩
            exact SubI.of0 href [] rfl ⟨br, br, br, br, br, br, trivial⟩ ⟨er, er, er, er, er, er, trivial⟩
      | 1, _ =>
        refine ex.sound (rc := []) tab_ok mix href _ ?_
        refine And.intro (fun _ => ?_) (fun h => by cases (show (decide ((1 : Int) < 2)) = false from h))
        refine oi ⟨by decide, by decide⟩ ?_
        have hzn := bif_le (z := zt) (n := nt)
        refine AW.loopI (fun m : Nat => (⟨[(2, .s (.ptr 2 0)), (3, .s (.ptr 3 0)), (5, .s (.ptr 5 0)), (6, .s (.ptr 6 0)), (112, .g [.d (dI Gd.x), .d (dI Gd.y), .d (dI Gd.side), .d (dI Gd.cols), .d (dI Gd.rows), .mo zd 1001, .d (dI Gt.x), .d (dI Gt.y), .d (dI Gt.side), .d (dI Gt.cols), .d (dI Gt.rows), .mo zt 1002]), (113, vI 1), (21, .s (.ptr 21 0)), (22, vI m)], [(2, some (chanB c)), (3, some (gridB g)), (5, some (chanB c)), (6, some (gridB g)), (1001, some (.mrow 3 nd 1 junkF)), (1002, some (.mrow 3 nt 1 junkF)), (21, some (.cells [.d (dI Gt.x), .d (dI Gt.y), .d (dI Gt.side), .d (dI Gt.cols), .d (dI Gt.rows), .mo zt 1002]))]⟩ : St)) (fun m => m ≤ (bif zt then 0 else nt)) (fun m => (bif zt then 0 else nt) - m) 0 (Nat.zero_le _) ?_ ?_
        · exact SubI.of0 href [] rfl ⟨br, br, br, br, br, br, br, trivial⟩ ⟨er, er, er, er, er, er, er, er, trivial⟩
        · intro m hm
          refine ex.sound (rc := []) tab_ok mix href _ ?_
          refine And.intro (fun h => ?_) (fun h => ?_)
          · have h : (m : Int) < ((bif zt then 0 else nt : Nat) : Int) := decT h
            refine oi ⟨by omega, by show (m : Int) < ((bif zt then 0 else nt : Nat) : Int); omega⟩ ?_
            refine ob (show (m : Int).toNat < nt by omega) ?_
            refine ⟨m + 1, by omega, by omega, ?_⟩
            exact SubI.of0 href [] rfl ⟨br, br, br, br, br, ⟨rfl, LeBx.junk⟩, br, trivial⟩ ⟨er, er, er, er, er, er, er, ⟨rfl, LeQ.int (w64_of (by omega) (by omega))⟩, trivial⟩
          · refine ⟨2, by decide, by decide, ?_⟩
            exact SubI.of0 href [] rfl ⟨br, br, br, br, br, br, trivial⟩ ⟨er, er, er, er, er, trivial⟩
      | 2, _ =>
        refine ex.sound (rc := []) tab_ok mix href _ ?_
        refine And.intro (fun h => by cases (show (decide ((2 : Int) < 2)) = true from h)) (fun _ => ?_)
        exact ⟨rfl, SubI.of0 href [] rfl ⟨br, br, br, br, trivial⟩ ⟨er, er, er, er, trivial⟩⟩
  · refine ex.sound (rc := []) tab_ok mix href _ ?_
    refine callN (rSameEq c (by omega) (by omega) hcr) ?_
    repeat first | refine sk ?_ | refine st ?_ | refine sg ?_ | refine sh ?_ | refine su ?_ | refine sn1 ?_ | refine sn0 ?_ | refine And.intro (show imp none (gimp _ none) from trivial) ?_
    refine callG (sameGrid g (by omega)) ?_
    repeat first | refine sk ?_ | refine st ?_ | refine sg ?_ | refine sh ?_ | refine su ?_ | refine sn1 ?_ | refine sn0 ?_ | refine And.intro (show imp none (gimp _ none) from trivial) ?_
    exact SubR.lit rfl
theorem mem01 (nm : ByteArray) (ax : List Ap) (ov bu : Int) (r0 : Reg) (c : Chan) (hceq : c = ⟨nm, ax, ov, bu, [r0]⟩) (g : Grid) (hc : c.ok) (hg : g.ok) (hs : small c = true) (hf : few g = true) (y0 : 0 < r0.corners.length) (m0 : r0.corners.length ≤ 45) (hB : (∃ e, CallP Try.prog 19 [chan c, vI 1] (.t [.g (zvs ty25.zero), .s (.d (dI e))]))) (hD : errC c = 0 ∧ errC (deepC c 1) = 0) : CallP Try.prog 6 [chan c, grid g] (vB true) := by
  have hsm : Sm c := Sm.of hs
  have hr : c.regions.length ≤ 1000 := by have := hsm.regions; omega
  have hax : c.axis.length ≤ 1000 := by have := hsm.axis; omega
  have hcr : ∀ i, i < c.regions.length → (c.regions.getD i default).corners.length ≤ 1000000 := fun i hi => by have := hsm.corners i hi; omega
  have hgl := few_len hf
  refine callP_of_aw Try.func6 rfl rfl Try.call6 tab_ok rfl rfl (fun cx href => ?_)
  refine AW.seq (ex.sound (rc := []) tab_ok mix href _ ?_)
  refine AW.seq (ex.sound (rc := []) tab_ok mix href _ ?_)
  refine callN awake ?_
  refine And.intro (fun h => by cases (show (!true) = true from h)) (fun _ => ?_)
  refine AW.seq (ex.sound (rc := []) tab_ok mix href _ ?_)
  refine callN (Small c hc) ?_
  repeat first | refine sk ?_ | refine st ?_ | refine sg ?_ | refine sh ?_ | refine su ?_ | refine sn1 ?_ | refine sn0 ?_ | refine And.intro (show imp none (gimp _ none) from trivial) ?_
  refine callG (Few g hg.levels) ?_
  repeat first | refine sk ?_ | refine st ?_ | refine sg ?_ | refine sh ?_ | refine su ?_ | refine sn1 ?_ | refine sn0 ?_ | refine And.intro (show imp none (gimp _ none) from trivial) ?_
  refine And.intro (fun h => ?_) (fun _ => ?_)
  · have h : (!small c || !few g) = true := h
    rw [hs, hf] at h; cases h
  refine AW.seq (ex.sound (rc := []) tab_ok mix href _ ?_)
  refine callN (Copied c hsm) ?_
  refine callN (CopyGrid g (by omega)) ?_
  refine And.intro (by kernel_rfl) ?_
  refine AW.cutE (fun q : Bool × Nat × ByteArray × Int × Int => ⟨[(2, .s (.ptr 2 0)), (3, .s (.ptr 3 0)), (5, .s (.ptr 5 0)), (6, .s (.ptr 6 0)), (7, .s (.ptr 7 0))], [(2, some (chanB c)), (3, some (gridB g)), (5, some (chanB c)), (6, some (gridB g)), (7, some (.cells [.d (dS q.2.2.1), .mo q.1 801, .d (dI q.2.2.2.1), .d (dI q.2.2.2.2), .d (.slc 0 3 junkF)])), (801, some (.mrow 58 q.2.1 5 junkF))]⟩) (fun q => q.2.1 ≤ 1000) ?_ ?_
  · obtain ⟨e, hx⟩ := hB
    refine ex.sound (rc := []) tab_ok mix href _ ?_
    refine callN hx ?_
    exact ⟨rfl, (true, 0, ⟨#[]⟩, 0, 0), Nat.zero_le _, SubI.of0 href [(801, 1000)] rfl ⟨br, br, br, br, ⟨rfl, LeBx.cells ⟨LeQ.rfl, LeQ.nil rfl, LeQ.rfl, LeQ.rfl, LeQ.d LeD.nil, trivial⟩⟩, ⟨rfl, rfl⟩, trivial⟩ ⟨er, er, er, er, er, trivial⟩⟩
  rintro ⟨z8, n8, s8, o8, u8⟩ hq8
  simp only at hq8 ⊢
  refine AW.cutE (fun q : Bool × Nat × ByteArray × Int × Int => ⟨[(2, .s (.ptr 2 0)), (3, .s (.ptr 3 0)), (5, .s (.ptr 5 0)), (6, .s (.ptr 6 0)), (7, .s (.ptr 7 0)), (9, .s (.ptr 9 0))], [(2, some (chanB c)), (3, some (gridB g)), (5, some (chanB c)), (6, some (gridB g)), (7, some (.cells [.d (dS s8), .mo z8 801, .d (dI o8), .d (dI u8), .d (.slc 0 3 junkF)])), (801, some (.mrow 58 n8 5 junkF)), (9, some (.cells [.d (dS q.2.2.1), .mo q.1 901, .d (dI q.2.2.2.1), .d (dI q.2.2.2.2), .osl 902 3 0 1])), (901, some (.mrow 58 q.2.1 5 junkF)), (902, some (.cells [.d .junk, .d .junk, .own 910])), (910, some (.row 63 r0.corners.length 2 junkF))]⟩) (fun q => q.2.1 ≤ 1000) ?_ ?_
  · subst hceq
    refine ex.sound (rc := [20]) tab_ok mix href _ ?_
    refine ⟨[(701, 901), (702, 902), (710, 910)], _, _, _, _, DeepO1 nm ax ov bu r0 1 hc y0 (Nat.le_trans m0 (by decide)) hD.1 (by decide) hD.2, rfl, trivial, rfl, ?_⟩
    exact ⟨rfl, (false, ax.length, nm, ov, bu), hax, SubI.of0 href [] rfl ⟨br, br, br, br, br, br, ⟨rfl, LeBx.cells ⟨LeQ.rfl, LeQ.mo rfl, LeQ.rfl, LeQ.rfl, LeQ.rfl, trivial⟩⟩, ⟨rfl, LeBx.rjunk⟩, ⟨rfl, LeBx.cells ⟨LeQ.junk, LeQ.junk, LeQ.rfl, trivial⟩⟩, ⟨rfl, LeBx.jrow⟩, trivial⟩ ⟨er, er, er, er, er, er, trivial⟩⟩
  rintro ⟨z9, n9, s9, o9, u9⟩ hq9
  simp only at hq9 ⊢
  refine AW.cutE (fun q : Bool × Nat × Grid => ⟨[(2, .s (.ptr 2 0)), (3, .s (.ptr 3 0)), (5, .s (.ptr 5 0)), (6, .s (.ptr 6 0)), (7, .s (.ptr 7 0)), (9, .s (.ptr 9 0)), (11, .s (.ptr 11 0))], [(2, some (chanB c)), (3, some (gridB g)), (5, some (chanB c)), (6, some (gridB g)), (7, some (.cells [.d (dS s8), .mo z8 801, .d (dI o8), .d (dI u8), .d (.slc 0 3 junkF)])), (801, some (.mrow 58 n8 5 junkF)), (9, some (.cells [.d (dS s9), .mo z9 901, .d (dI o9), .d (dI u9), .osl 902 3 0 1])), (901, some (.mrow 58 n9 5 junkF)), (902, some (.cells [.d .junk, .d .junk, .own 910])), (910, some (.row 63 r0.corners.length 2 junkF)), (11, some (.cells [.d (dI q.2.2.x), .d (dI q.2.2.y), .d (dI q.2.2.side), .d (dI q.2.2.cols), .d (dI q.2.2.rows), .mo q.1 1001])), (1001, some (.mrow 3 q.2.1 1 junkF))]⟩) (fun q => q.2.1 ≤ 2000) ?_ ?_
  · by_cases he : withErr c [g] = 0
    · refine ex.sound (rc := [27]) tab_ok mix href _ ?_
      refine ⟨[(701, 1001)], _, _, _, _, DesignGridO c g hc hg he, rfl, trivial, rfl, ?_⟩
      exact ⟨rfl, (false, g.levels.length, g), by simp only; omega, SubI.of0 href [] rfl ⟨br, br, br, br, br, br, br, br, br, br, ⟨rfl, LeBx.cells ⟨LeQ.rfl, LeQ.rfl, LeQ.rfl, LeQ.rfl, LeQ.rfl, LeQ.mo rfl, trivial⟩⟩, ⟨rfl, LeBx.rjunk⟩, trivial⟩ ⟨er, er, er, er, er, er, er, trivial⟩⟩
    · refine ex.sound (rc := []) tab_ok mix href _ ?_
      refine callN (DesignGridE c g hc hg he) ?_
      exact ⟨rfl, (true, 0, zeroG), Nat.zero_le _, SubI.of0 href [(1001, 1000)] rfl ⟨br, br, br, br, br, br, br, br, br, br, ⟨rfl, LeBx.cells ⟨LeQ.rfl, LeQ.rfl, LeQ.rfl, LeQ.rfl, LeQ.rfl, LeQ.nil rfl, trivial⟩⟩, ⟨rfl, rfl⟩, trivial⟩ ⟨er, er, er, er, er, er, er, trivial⟩⟩
  rintro ⟨zd, nd, Gd⟩ hqnd
  simp only at hqnd ⊢
  refine AW.cutE (fun q : Bool × Nat × Grid => ⟨[(2, .s (.ptr 2 0)), (3, .s (.ptr 3 0)), (5, .s (.ptr 5 0)), (6, .s (.ptr 6 0)), (7, .s (.ptr 7 0)), (9, .s (.ptr 9 0)), (11, .s (.ptr 11 0)), (13, .s (.ptr 13 0))], [(2, some (chanB c)), (3, some (gridB g)), (5, some (chanB c)), (6, some (gridB g)), (7, some (.cells [.d (dS s8), .mo z8 801, .d (dI o8), .d (dI u8), .d (.slc 0 3 junkF)])), (801, some (.mrow 58 n8 5 junkF)), (9, some (.cells [.d (dS s9), .mo z9 901, .d (dI o9), .d (dI u9), .osl 902 3 0 1])), (901, some (.mrow 58 n9 5 junkF)), (902, some (.cells [.d .junk, .d .junk, .own 910])), (910, some (.row 63 r0.corners.length 2 junkF)), (11, some (.cells [.d (dI Gd.x), .d (dI Gd.y), .d (dI Gd.side), .d (dI Gd.cols), .d (dI Gd.rows), .mo zd 1001])), (1001, some (.mrow 3 nd 1 junkF)), (13, some (.cells [.d (dI q.2.2.x), .d (dI q.2.2.y), .d (dI q.2.2.side), .d (dI q.2.2.cols), .d (dI q.2.2.rows), .mo q.1 1002])), (1002, some (.mrow 3 q.2.1 1 junkF))]⟩) (fun q => q.2.1 ≤ 2000) ?_ ?_
  · by_cases he : withErr c [g] = 0
    · refine ex.sound (rc := [28]) tab_ok mix href _ ?_
      refine ⟨[(701, 1002)], _, _, _, _, ToleranceGridO c g hc hg he, rfl, trivial, rfl, ?_⟩
      exact ⟨rfl, (false, g.levels.length, g), by simp only; omega, SubI.of0 href [] rfl ⟨br, br, br, br, br, br, br, br, br, br, br, br, ⟨rfl, LeBx.cells ⟨LeQ.rfl, LeQ.rfl, LeQ.rfl, LeQ.rfl, LeQ.rfl, LeQ.mo rfl, trivial⟩⟩, ⟨rfl, LeBx.rjunk⟩, trivial⟩ ⟨er, er, er, er, er, er, er, er, trivial⟩⟩
    · refine ex.sound (rc := []) tab_ok mix href _ ?_
      refine callN (ToleranceGridE c g hc hg he) ?_
      exact ⟨rfl, (true, 0, zeroG), Nat.zero_le _, SubI.of0 href [(1002, 1000)] rfl ⟨br, br, br, br, br, br, br, br, br, br, br, br, ⟨rfl, LeBx.cells ⟨LeQ.rfl, LeQ.rfl, LeQ.rfl, LeQ.rfl, LeQ.rfl, LeQ.nil rfl, trivial⟩⟩, ⟨rfl, rfl⟩, trivial⟩ ⟨er, er, er, er, er, er, er, er, trivial⟩⟩
  rintro ⟨zt, nt, Gt⟩ hqnt
  simp only at hqnt ⊢
  refine AW.cut (σ' := ⟨bE ++ [], bB c g zd zt nd nt Gd Gt ++ []⟩) (ex.sound (rc := []) tab_ok mix href _ ?_) ?_
  · refine AW.loopI (fun i : Nat => match i with | 0 => (⟨bE ++ [(61, .g [.d (dS s8), .mo z8 801, .d (dI o8), .d (dI u8), .d (.slc 0 3 junkF), .d (dS s9), .mo z9 901, .d (dI o9), .d (dI u9), .osl 902 3 0 1]), (62, vI 0)], bB c g zd zt nd nt Gd Gt ++ [(801, some (.mrow 58 n8 5 junkF)), (901, some (.mrow 58 n9 5 junkF)), (902, some (.cells [.d .junk, .d .junk, .own 910])), (910, some (.row 63 r0.corners.length 2 junkF))]⟩ : St) | 1 => ⟨bE ++ [(61, .g [.d .junk, .d .junk, .d .junk, .d .junk, .d .junk, .d (dS s9), .mo z9 901, .d (dI o9), .d (dI u9), .osl 902 3 0 1]), (62, vI 1)], bB c g zd zt nd nt Gd Gt ++ [(901, some (.mrow 58 n9 5 junkF)), (902, some (.cells [.d .junk, .d .junk, .own 910])), (910, some (.row 63 r0.corners.length 2 junkF))]⟩ | _ => ⟨bE ++ [(62, vI 2)], bB c g zd zt nd nt Gd Gt ++ []⟩) (fun i => i ≤ 2) (fun i => 2 - i) 0 (Nat.zero_le _) ?_ ?_
    · exact SubI.of0 href [] rfl ⟨br, br, br, br, br, br, br, br, br, br, br, br, trivial⟩ ⟨er, er, er, er, er, er, er, er, trivial⟩
    · intro i hi
      match i, hi with
      | 0, _ =>
        refine AW.seq (ex.sound (rc := []) tab_ok mix href _ ?_)
        refine AW.seq (ex.sound (rc := []) tab_ok mix href _ ?_)
        refine And.intro (fun _ => ?_) (fun h => by cases (show (decide ((0 : Int) < 2)) = false from h))
        refine AW.seq (AW.block (AW.seq (ex.sound (rc := []) tab_ok mix href _ ?_)))
        refine oi ⟨by decide, by decide⟩ ?_
        have hzn := bif_le (z := z8) (n := n8)
        refine AW.cut (σ' := ⟨bE ++ [(61, .g [.d .junk, .d .junk, .d .junk, .d .junk, .d .junk, .d (dS s9), .mo z9 901, .d (dI o9), .d (dI u9), .osl 902 3 0 1]), (62, vI 0), (16, .s (.ptr 16 0))], bB c g zd zt nd nt Gd Gt ++ [(16, some (.cells [.d (dS s8), .mo z8 801, .d (dI o8), .d (dI u8), .d (.slc 0 3 junkF)])), (801, some (.mrow 58 n8 5 junkF)), (901, some (.mrow 58 n9 5 junkF)), (902, some (.cells [.d .junk, .d .junk, .own 910])), (910, some (.row 63 r0.corners.length 2 junkF))]⟩) (ex.sound (rc := []) tab_ok mix href _ ?_) ?_
        · refine AW.loopI (fun m : Nat => (⟨bE ++ [(61, .g [.d .junk, .d .junk, .d .junk, .d .junk, .d .junk, .d (dS s9), .mo z9 901, .d (dI o9), .d (dI u9), .osl 902 3 0 1]), (62, vI 0), (16, .s (.ptr 16 0)), (17, vI m)], bB c g zd zt nd nt Gd Gt ++ [(16, some (.cells [.d (dS s8), .mo z8 801, .d (dI o8), .d (dI u8), .d (.slc 0 3 junkF)])), (801, some (.mrow 58 n8 5 junkF)), (901, some (.mrow 58 n9 5 junkF)), (902, some (.cells [.d .junk, .d .junk, .own 910])), (910, some (.row 63 r0.corners.length 2 junkF))]⟩ : St)) (fun m => m ≤ (bif z8 then 0 else n8)) (fun m => (bif z8 then 0 else n8) - m) 0 (Nat.zero_le _) ?_ ?_
          · exact SubI.of0 href [] rfl ⟨br, br, br, br, br, br, br, br, br, br, br, br, br, trivial⟩ ⟨er, er, er, er, er, er, ⟨rfl, LeQ.g ⟨LeQ.junk, LeQ.junk, LeQ.junk, LeQ.junk, LeQ.junk, LeQ.rfl, LeQ.rfl, LeQ.rfl, LeQ.rfl, LeQ.rfl, trivial⟩⟩, er, er, er, trivial⟩
          · intro m hm
            refine ex.sound (rc := []) tab_ok mix href _ ?_
            refine And.intro (fun h => ?_) (fun h => ?_)
            · have h : (m : Int) < ((bif z8 then 0 else n8 : Nat) : Int) := decT h
              refine oi ⟨by omega, by show (m : Int) < ((bif z8 then 0 else n8 : Nat) : Int); omega⟩ ?_
              refine ob (show (m : Int).toNat < n8 by omega) ?_
              refine ⟨m + 1, by omega, by omega, ?_⟩
              exact SubI.of0 href [] rfl ⟨br, br, br, br, br, br, br, br, br, ⟨rfl, LeBx.junk⟩, br, br, br, trivial⟩ ⟨er, er, er, er, er, er, er, er, er, ⟨rfl, LeQ.int (w64_of (by omega) (by omega))⟩, trivial⟩
            · exact ⟨rfl, SubI.of0 href [] rfl ⟨br, br, br, br, br, br, br, br, br, br, br, br, br, trivial⟩ ⟨er, er, er, er, er, er, er, er, er, trivial⟩⟩
        refine AW.seq (ex.sound (rc := []) tab_ok mix href _ ?_)
        refine ex.sound (rc := []) tab_ok mix href _ ?_
        refine AW.loopI (fun j : Nat => (⟨bE ++ [(61, .g [.d .junk, .d .junk, .d .junk, .d .junk, .d .junk, .d (dS s9), .mo z9 901, .d (dI o9), .d (dI u9), .osl 902 3 0 1]), (62, vI 0), (16, .s (.ptr 16 0)), (18, vI j)], bB c g zd zt nd nt Gd Gt ++ [(16, some (.cells [.d (dS s8), .mo z8 801, .d (dI o8), .d (dI u8), .d (.slc 0 3 junkF)])), (801, some (.mrow 58 n8 5 junkF)), (901, some (.mrow 58 n9 5 junkF)), (902, some (.cells [.d .junk, .d .junk, .own 910])), (910, some (.row 63 r0.corners.length 2 junkF))]⟩ : St)) (fun j => j ≤ 0) (fun j => 0 - j) 0 (Nat.zero_le _) ?_ ?_
        · exact SubI.of0 href [] rfl ⟨br, br, br, br, br, br, br, br, br, br, br, br, br, trivial⟩ ⟨er, er, er, er, er, er, er, er, er, er, trivial⟩
        · intro j hj
          match j, hj with
          | 0, _ =>
            refine ex.sound (rc := []) tab_ok mix href _ ?_
            refine And.intro (fun h => by cases (show (decide ((0 : Int) < 0)) = true from h)) (fun _ => ?_)
            refine ex.sound (rc := []) tab_ok mix href _ ?_
            refine ⟨1, by decide, by decide, ?_⟩
            exact SubI.of0 href [] rfl ⟨br, br, br, br, br, br, br, br, br, br, br, trivial⟩ ⟨er, er, er, er, er, er, er, er, trivial⟩
      | 1, _ =>
        refine AW.seq (ex.sound (rc := []) tab_ok mix href _ ?_)
        refine AW.seq (ex.sound (rc := []) tab_ok mix href _ ?_)
        refine And.intro (fun _ => ?_) (fun h => by cases (show (decide ((1 : Int) < 2)) = false from h))
        refine AW.seq (AW.block (AW.seq (ex.sound (rc := []) tab_ok mix href _ ?_)))
        refine oi ⟨by decide, by decide⟩ ?_
        have hzn := bif_le (z := z9) (n := n9)
        refine AW.cut (σ' := ⟨bE ++ [(62, vI 1), (16, .s (.ptr 16 0))], bB c g zd zt nd nt Gd Gt ++ [(16, some (.cells [.d (dS s9), .mo z9 901, .d (dI o9), .d (dI u9), .osl 902 3 0 1])), (901, some (.mrow 58 n9 5 junkF)), (902, some (.cells [.d .junk, .d .junk, .own 910])), (910, some (.row 63 r0.corners.length 2 junkF))]⟩) (ex.sound (rc := []) tab_ok mix href _ ?_) ?_
        · refine AW.loopI (fun m : Nat => (⟨bE ++ [(62, vI 1), (16, .s (.ptr 16 0)), (17, vI m)], bB c g zd zt nd nt Gd Gt ++ [(16, some (.cells [.d (dS s9), .mo z9 901, .d (dI o9), .d (dI u9), .osl 902 3 0 1])), (901, some (.mrow 58 n9 5 junkF)), (902, some (.cells [.d .junk, .d .junk, .own 910])), (910, some (.row 63 r0.corners.length 2 junkF))]⟩ : St)) (fun m => m ≤ (bif z9 then 0 else n9)) (fun m => (bif z9 then 0 else n9) - m) 0 (Nat.zero_le _) ?_ ?_
          · exact SubI.of0 href [] rfl ⟨br, br, br, br, br, br, br, br, br, br, br, br, trivial⟩ ⟨er, er, er, er, er, er, er, er, er, trivial⟩
          · intro m hm
            refine ex.sound (rc := []) tab_ok mix href _ ?_
            refine And.intro (fun h => ?_) (fun h => ?_)
            · have h : (m : Int) < ((bif z9 then 0 else n9 : Nat) : Int) := decT h
              refine oi ⟨by omega, by show (m : Int) < ((bif z9 then 0 else n9 : Nat) : Int); omega⟩ ?_
              refine ob (show (m : Int).toNat < n9 by omega) ?_
              refine ⟨m + 1, by omega, by omega, ?_⟩
              exact SubI.of0 href [] rfl ⟨br, br, br, br, br, br, br, br, br, ⟨rfl, LeBx.junk⟩, br, br, trivial⟩ ⟨er, er, er, er, er, er, er, er, ⟨rfl, LeQ.int (w64_of (by omega) (by omega))⟩, trivial⟩
            · exact ⟨rfl, SubI.of0 href [] rfl ⟨br, br, br, br, br, br, br, br, br, br, br, br, trivial⟩ ⟨er, er, er, er, er, er, er, er, trivial⟩⟩
        refine AW.seq (ex.sound (rc := []) tab_ok mix href _ ?_)
        refine ex.sound (rc := []) tab_ok mix href _ ?_
        refine AW.loopI (fun j : Nat => (⟨bE ++ [(62, vI 1), (16, .s (.ptr 16 0)), (18, vI j)], bB c g zd zt nd nt Gd Gt ++ [(16, some (.cells [.d (dS s9), .mo z9 901, .d (dI o9), .d (dI u9), .osl 902 3 0 1])), (901, some (.mrow 58 n9 5 junkF)), (902, some (.cells [.d .junk, .d .junk, .own 910])), (910, some (.row 63 r0.corners.length 2 junkF))]⟩ : St)) (fun j => j ≤ 1) (fun j => 1 - j) 0 (Nat.zero_le _) ?_ ?_
        · exact SubI.of0 href [] rfl ⟨br, br, br, br, br, br, br, br, br, br, br, br, trivial⟩ ⟨er, er, er, er, er, er, er, er, er, trivial⟩
        · intro j hj
          match j, hj with
          | 0, _ =>
            refine AW.seq (ex.sound (rc := []) tab_ok mix href _ ?_)
            refine And.intro (fun _ => ?_) (fun h => by cases (show (decide ((0 : Int) < 1)) = false from h))
            refine AW.seq (AW.block ?_)
            refine AW.cut (σ' := ⟨bE ++ [(62, vI 1), (16, .s (.ptr 16 0)), (18, vI 0)], bB c g zd zt nd nt Gd Gt ++ [(16, some (.cells [.d (dS s9), .mo z9 901, .d (dI o9), .d (dI u9), .osl 902 3 0 1])), (901, some (.mrow 58 n9 5 junkF)), (902, some (.cells [.d .junk, .d .junk, .own 910])), (910, some (.row 63 r0.corners.length 2 junkF))]⟩) (ex.sound (rc := []) tab_ok mix href _ ?_) ?_
            · refine AW.loopI (fun m : Nat => (⟨bE ++ [(62, vI 1), (16, .s (.ptr 16 0)), (18, vI 0), (19, vI m)], bB c g zd zt nd nt Gd Gt ++ [(16, some (.cells [.d (dS s9), .mo z9 901, .d (dI o9), .d (dI u9), .osl 902 3 0 1])), (901, some (.mrow 58 n9 5 junkF)), (902, some (.cells [.d .junk, .d .junk, .own 910])), (910, some (.row 63 r0.corners.length 2 junkF))]⟩ : St)) (fun m => m ≤ r0.corners.length) (fun m => r0.corners.length - m) 0 (Nat.zero_le _) ?_ ?_
              · exact SubI.of0 href [] rfl ⟨br, br, br, br, br, br, br, br, br, br, br, br, trivial⟩ ⟨er, er, er, er, er, er, er, er, er, er, trivial⟩
              · intro m hm
                refine ex.sound (rc := []) tab_ok mix href _ ?_
                refine oi ⟨by decide, by decide⟩ ?_
                refine And.intro (fun h => ?_) (fun h => ?_)
                · have h : (m : Int) < (r0.corners.length : Int) := decT h
                  refine oi ⟨by decide, by decide⟩ ?_
                  refine oi ⟨by omega, by omega⟩ ?_
                  refine ob (show (m : Int).toNat < r0.corners.length by omega) ?_
                  refine ⟨m + 1, by omega, by omega, ?_⟩
                  exact SubI.of0 href [] rfl ⟨br, br, br, br, br, br, br, br, br, br, br, ⟨rfl, LeBx.jrow⟩, trivial⟩ ⟨er, er, er, er, er, er, er, er, er, ⟨rfl, LeQ.int (w64_of (by omega) (by omega))⟩, trivial⟩
                · exact ⟨rfl, SubI.of0 href [] rfl ⟨br, br, br, br, br, br, br, br, br, br, br, br, trivial⟩ ⟨er, er, er, er, er, er, er, er, er, trivial⟩⟩
            · refine ex.sound (rc := []) tab_ok mix href _ ?_
              refine oi ⟨by decide, by decide⟩ ?_
              refine ex.sound (rc := []) tab_ok mix href _ ?_
              refine ⟨1, by decide, by decide, ?_⟩
              exact SubI.of0 href [] rfl ⟨br, br, br, br, br, br, br, br, br, br, ⟨rfl, LeBx.cells ⟨LeQ.junk, LeQ.junk, LeQ.rfl, trivial⟩⟩, br, trivial⟩ ⟨er, er, er, er, er, er, er, er, er, trivial⟩
          | 1, _ =>
            refine ex.sound (rc := []) tab_ok mix href _ ?_
            refine And.intro (fun h => by cases (show (decide ((1 : Int) < 1)) = true from h)) (fun _ => ?_)
            refine ex.sound (rc := []) tab_ok mix href _ ?_
            refine ⟨2, by decide, by decide, ?_⟩
            exact SubI.of0 href [] rfl ⟨br, br, br, br, br, br, br, br, trivial⟩ ⟨er, er, er, er, er, er, er, trivial⟩
      | 2, _ =>
        refine ex.sound (rc := []) tab_ok mix href _ ?_
        refine And.intro (fun h => by cases (show (decide ((2 : Int) < 2)) = true from h)) (fun _ => ?_)
        exact ⟨rfl, SubI.of0 href [] rfl ⟨br, br, br, br, br, br, br, br, trivial⟩ ⟨er, er, er, er, er, er, trivial⟩⟩
  refine AW.cut (σ' := ⟨[(2, .s (.ptr 2 0)), (3, .s (.ptr 3 0)), (5, .s (.ptr 5 0)), (6, .s (.ptr 6 0))], [(2, some (chanB c)), (3, some (gridB g)), (5, some (chanB c)), (6, some (gridB g))]⟩) (ex.sound (rc := []) tab_ok mix href _ ?_) ?_
  · refine AW.loopI (fun i : Nat => match i with | 0 => (⟨[(2, .s (.ptr 2 0)), (3, .s (.ptr 3 0)), (5, .s (.ptr 5 0)), (6, .s (.ptr 6 0)), (112, .g [.d (dI Gd.x), .d (dI Gd.y), .d (dI Gd.side), .d (dI Gd.cols), .d (dI Gd.rows), .mo zd 1001, .d (dI Gt.x), .d (dI Gt.y), .d (dI Gt.side), .d (dI Gt.cols), .d (dI Gt.rows), .mo zt 1002]), (113, vI 0)], [(2, some (chanB c)), (3, some (gridB g)), (5, some (chanB c)), (6, some (gridB g)), (1001, some (.mrow 3 nd 1 junkF)), (1002, some (.mrow 3 nt 1 junkF))]⟩ : St) | 1 => ⟨[(2, .s (.ptr 2 0)), (3, .s (.ptr 3 0)), (5, .s (.ptr 5 0)), (6, .s (.ptr 6 0)), (112, .g [.d (dI Gd.x), .d (dI Gd.y), .d (dI Gd.side), .d (dI Gd.cols), .d (dI Gd.rows), .mo zd 1001, .d (dI Gt.x), .d (dI Gt.y), .d (dI Gt.side), .d (dI Gt.cols), .d (dI Gt.rows), .mo zt 1002]), (113, vI 1)], [(2, some (chanB c)), (3, some (gridB g)), (5, some (chanB c)), (6, some (gridB g)), (1001, some (.mrow 3 nd 1 junkF)), (1002, some (.mrow 3 nt 1 junkF))]⟩ | _ => ⟨[(2, .s (.ptr 2 0)), (3, .s (.ptr 3 0)), (5, .s (.ptr 5 0)), (6, .s (.ptr 6 0)), (113, vI 2)], [(2, some (chanB c)), (3, some (gridB g)), (5, some (chanB c)), (6, some (gridB g)), (1001, some (.mrow 3 nd 1 junkF)), (1002, some (.mrow 3 nt 1 junkF))]⟩) (fun i => i ≤ 2) (fun i => 2 - i) 0 (Nat.zero_le _) ?_ ?_
    · exact SubI.of0 href [] rfl ⟨br, br, br, br, br, br, trivial⟩ ⟨er, er, er, er, er, er, trivial⟩
    · intro i hi
      match i, hi with
      | 0, _ =>
        refine ex.sound (rc := []) tab_ok mix href _ ?_
        refine And.intro (fun _ => ?_) (fun h => by cases (show (decide ((0 : Int) < 2)) = false from h))
        refine oi ⟨by decide, by decide⟩ ?_
        have hzn := bif_le (z := zd) (n := nd)
        refine AW.loopI (fun m : Nat => (⟨[(2, .s (.ptr 2 0)), (3, .s (.ptr 3 0)), (5, .s (.ptr 5 0)), (6, .s (.ptr 6 0)), (112, .g [.d (dI Gd.x), .d (dI Gd.y), .d (dI Gd.side), .d (dI Gd.cols), .d (dI Gd.rows), .mo zd 1001, .d (dI Gt.x), .d (dI Gt.y), .d (dI Gt.side), .d (dI Gt.cols), .d (dI Gt.rows), .mo zt 1002]), (113, vI 0), (21, .s (.ptr 21 0)), (22, vI m)], [(2, some (chanB c)), (3, some (gridB g)), (5, some (chanB c)), (6, some (gridB g)), (1001, some (.mrow 3 nd 1 junkF)), (1002, some (.mrow 3 nt 1 junkF)), (21, some (.cells [.d (dI Gd.x), .d (dI Gd.y), .d (dI Gd.side), .d (dI Gd.cols), .d (dI Gd.rows), .mo zd 1001]))]⟩ : St)) (fun m => m ≤ (bif zd then 0 else nd)) (fun m => (bif zd then 0 else nd) - m) 0 (Nat.zero_le _) ?_ ?_
        · exact SubI.of0 href [] rfl ⟨br, br, br, br, br, br, br, trivial⟩ ⟨er, er, er, er, er, er, er, er, trivial⟩
        · intro m hm
          refine ex.sound (rc := []) tab_ok mix href _ ?_
          refine And.intro (fun h => ?_) (fun h => ?_)
          · have h : (m : Int) < ((bif zd then 0 else nd : Nat) : Int) := decT h
            refine oi ⟨by omega, by show (m : Int) < ((bif zd then 0 else nd : Nat) : Int); omega⟩ ?_
            refine ob (show (m : Int).toNat < nd by omega) ?_
            refine ⟨m + 1, by omega, by omega, ?_⟩
            exact SubI.of0 href [] rfl ⟨br, br, br, br, ⟨rfl, LeBx.junk⟩, br, br, trivial⟩ ⟨er, er, er, er, er, er, er, ⟨rfl, LeQ.int (w64_of (by omega) (by omega))⟩, trivial⟩
          · refine ⟨1, by decide, by decide, ?_⟩
            exact SubI.of0 href [] rfl ⟨br, br, br, br, br, br, trivial⟩ ⟨er, er, er, er, er, er, trivial⟩
      | 1, _ =>
        refine ex.sound (rc := []) tab_ok mix href _ ?_
        refine And.intro (fun _ => ?_) (fun h => by cases (show (decide ((1 : Int) < 2)) = false from h))
        refine oi ⟨by decide, by decide⟩ ?_
        have hzn := bif_le (z := zt) (n := nt)
        refine AW.loopI (fun m : Nat => (⟨[(2, .s (.ptr 2 0)), (3, .s (.ptr 3 0)), (5, .s (.ptr 5 0)), (6, .s (.ptr 6 0)), (112, .g [.d (dI Gd.x), .d (dI Gd.y), .d (dI Gd.side), .d (dI Gd.cols), .d (dI Gd.rows), .mo zd 1001, .d (dI Gt.x), .d (dI Gt.y), .d (dI Gt.side), .d (dI Gt.cols), .d (dI Gt.rows), .mo zt 1002]), (113, vI 1), (21, .s (.ptr 21 0)), (22, vI m)], [(2, some (chanB c)), (3, some (gridB g)), (5, some (chanB c)), (6, some (gridB g)), (1001, some (.mrow 3 nd 1 junkF)), (1002, some (.mrow 3 nt 1 junkF)), (21, some (.cells [.d (dI Gt.x), .d (dI Gt.y), .d (dI Gt.side), .d (dI Gt.cols), .d (dI Gt.rows), .mo zt 1002]))]⟩ : St)) (fun m => m ≤ (bif zt then 0 else nt)) (fun m => (bif zt then 0 else nt) - m) 0 (Nat.zero_le _) ?_ ?_
        · exact SubI.of0 href [] rfl ⟨br, br, br, br, br, br, br, trivial⟩ ⟨er, er, er, er, er, er, er, er, trivial⟩
        · intro m hm
          refine ex.sound (rc := []) tab_ok mix href _ ?_
          refine And.intro (fun h => ?_) (fun h => ?_)
          · have h : (m : Int) < ((bif zt then 0 else nt : Nat) : Int) := decT h
            refine oi ⟨by omega, by show (m : Int) < ((bif zt then 0 else nt : Nat) : Int); omega⟩ ?_
            refine ob (show (m : Int).toNat < nt by omega) ?_
            refine ⟨m + 1, by omega, by omega, ?_⟩
            exact SubI.of0 href [] rfl ⟨br, br, br, br, br, ⟨rfl, LeBx.junk⟩, br, trivial⟩ ⟨er, er, er, er, er, er, er, ⟨rfl, LeQ.int (w64_of (by omega) (by omega))⟩, trivial⟩
          · refine ⟨2, by decide, by decide, ?_⟩
            exact SubI.of0 href [] rfl ⟨br, br, br, br, br, br, trivial⟩ ⟨er, er, er, er, er, trivial⟩
      | 2, _ =>
        refine ex.sound (rc := []) tab_ok mix href _ ?_
        refine And.intro (fun h => by cases (show (decide ((2 : Int) < 2)) = true from h)) (fun _ => ?_)
        exact ⟨rfl, SubI.of0 href [] rfl ⟨br, br, br, br, trivial⟩ ⟨er, er, er, er, trivial⟩⟩
  · refine ex.sound (rc := []) tab_ok mix href _ ?_
    refine callN (rSameEq c (by omega) (by omega) hcr) ?_
    repeat first | refine sk ?_ | refine st ?_ | refine sg ?_ | refine sh ?_ | refine su ?_ | refine sn1 ?_ | refine sn0 ?_ | refine And.intro (show imp none (gimp _ none) from trivial) ?_
    refine callG (sameGrid g (by omega)) ?_
    repeat first | refine sk ?_ | refine st ?_ | refine sg ?_ | refine sh ?_ | refine su ?_ | refine sn1 ?_ | refine sn0 ?_ | refine And.intro (show imp none (gimp _ none) from trivial) ?_
    exact SubR.lit rfl
theorem mem11 (nm : ByteArray) (ax : List Ap) (ov bu : Int) (r0 : Reg) (c : Chan) (hceq : c = ⟨nm, ax, ov, bu, [r0]⟩) (g : Grid) (hc : c.ok) (hg : g.ok) (hs : small c = true) (hf : few g = true) (y0 : 0 < r0.corners.length) (m0 : r0.corners.length ≤ 45) (hB : errC c = 0 ∧ errC (boxC c 1) = 0) (hD : errC c = 0 ∧ errC (deepC c 1) = 0) : CallP Try.prog 6 [chan c, grid g] (vB true) := by
  have hsm : Sm c := Sm.of hs
  have hr : c.regions.length ≤ 1000 := by have := hsm.regions; omega
  have hax : c.axis.length ≤ 1000 := by have := hsm.axis; omega
  have hcr : ∀ i, i < c.regions.length → (c.regions.getD i default).corners.length ≤ 1000000 := fun i hi => by have := hsm.corners i hi; omega
  have hgl := few_len hf
  refine callP_of_aw Try.func6 rfl rfl Try.call6 tab_ok rfl rfl (fun cx href => ?_)
  refine AW.seq (ex.sound (rc := []) tab_ok mix href _ ?_)
  refine AW.seq (ex.sound (rc := []) tab_ok mix href _ ?_)
  refine callN awake ?_
  refine And.intro (fun h => by cases (show (!true) = true from h)) (fun _ => ?_)
  refine AW.seq (ex.sound (rc := []) tab_ok mix href _ ?_)
  refine callN (Small c hc) ?_
  repeat first | refine sk ?_ | refine st ?_ | refine sg ?_ | refine sh ?_ | refine su ?_ | refine sn1 ?_ | refine sn0 ?_ | refine And.intro (show imp none (gimp _ none) from trivial) ?_
  refine callG (Few g hg.levels) ?_
  repeat first | refine sk ?_ | refine st ?_ | refine sg ?_ | refine sh ?_ | refine su ?_ | refine sn1 ?_ | refine sn0 ?_ | refine And.intro (show imp none (gimp _ none) from trivial) ?_
  refine And.intro (fun h => ?_) (fun _ => ?_)
  · have h : (!small c || !few g) = true := h
    rw [hs, hf] at h; cases h
  refine AW.seq (ex.sound (rc := []) tab_ok mix href _ ?_)
  refine callN (Copied c hsm) ?_
  refine callN (CopyGrid g (by omega)) ?_
  refine And.intro (by kernel_rfl) ?_
  refine AW.cutE (fun q : Bool × Nat × ByteArray × Int × Int => ⟨[(2, .s (.ptr 2 0)), (3, .s (.ptr 3 0)), (5, .s (.ptr 5 0)), (6, .s (.ptr 6 0)), (7, .s (.ptr 7 0))], [(2, some (chanB c)), (3, some (gridB g)), (5, some (chanB c)), (6, some (gridB g)), (7, some (.cells [.d (dS q.2.2.1), .mo q.1 801, .d (dI q.2.2.2.1), .d (dI q.2.2.2.2), .osl 802 3 0 1])), (801, some (.mrow 58 q.2.1 5 junkF)), (802, some (.cells [.d .junk, .d .junk, .own 810])), (810, some (.row 63 r0.corners.length 2 junkF))]⟩) (fun q => q.2.1 ≤ 1000) ?_ ?_
  · subst hceq
    refine ex.sound (rc := [19]) tab_ok mix href _ ?_
    refine ⟨[(701, 801), (702, 802), (710, 810)], _, _, _, _, BoxO1 nm ax ov bu r0 1 hc y0 (Nat.le_trans m0 (by decide)) hB.1 (by decide) hB.2, rfl, trivial, rfl, ?_⟩
    exact ⟨rfl, (false, ax.length, nm, ov, bu), hax, SubI.of0 href [] rfl ⟨br, br, br, br, ⟨rfl, LeBx.cells ⟨LeQ.rfl, LeQ.mo rfl, LeQ.rfl, LeQ.rfl, LeQ.rfl, trivial⟩⟩, ⟨rfl, LeBx.rjunk⟩, ⟨rfl, LeBx.cells ⟨LeQ.junk, LeQ.junk, LeQ.rfl, trivial⟩⟩, ⟨rfl, LeBx.jrow⟩, trivial⟩ ⟨er, er, er, er, er, trivial⟩⟩
  rintro ⟨z8, n8, s8, o8, u8⟩ hq8
  simp only at hq8 ⊢
  refine AW.cutE (fun q : Bool × Nat × ByteArray × Int × Int => ⟨[(2, .s (.ptr 2 0)), (3, .s (.ptr 3 0)), (5, .s (.ptr 5 0)), (6, .s (.ptr 6 0)), (7, .s (.ptr 7 0)), (9, .s (.ptr 9 0))], [(2, some (chanB c)), (3, some (gridB g)), (5, some (chanB c)), (6, some (gridB g)), (7, some (.cells [.d (dS s8), .mo z8 801, .d (dI o8), .d (dI u8), .osl 802 3 0 1])), (801, some (.mrow 58 n8 5 junkF)), (802, some (.cells [.d .junk, .d .junk, .own 810])), (810, some (.row 63 r0.corners.length 2 junkF)), (9, some (.cells [.d (dS q.2.2.1), .mo q.1 901, .d (dI q.2.2.2.1), .d (dI q.2.2.2.2), .osl 902 3 0 1])), (901, some (.mrow 58 q.2.1 5 junkF)), (902, some (.cells [.d .junk, .d .junk, .own 910])), (910, some (.row 63 r0.corners.length 2 junkF))]⟩) (fun q => q.2.1 ≤ 1000) ?_ ?_
  · subst hceq
    refine ex.sound (rc := [20]) tab_ok mix href _ ?_
    refine ⟨[(701, 901), (702, 902), (710, 910)], _, _, _, _, DeepO1 nm ax ov bu r0 1 hc y0 (Nat.le_trans m0 (by decide)) hD.1 (by decide) hD.2, rfl, trivial, rfl, ?_⟩
    exact ⟨rfl, (false, ax.length, nm, ov, bu), hax, SubI.of0 href [] rfl ⟨br, br, br, br, br, br, br, br, ⟨rfl, LeBx.cells ⟨LeQ.rfl, LeQ.mo rfl, LeQ.rfl, LeQ.rfl, LeQ.rfl, trivial⟩⟩, ⟨rfl, LeBx.rjunk⟩, ⟨rfl, LeBx.cells ⟨LeQ.junk, LeQ.junk, LeQ.rfl, trivial⟩⟩, ⟨rfl, LeBx.jrow⟩, trivial⟩ ⟨er, er, er, er, er, er, trivial⟩⟩
  rintro ⟨z9, n9, s9, o9, u9⟩ hq9
  simp only at hq9 ⊢
  refine AW.cutE (fun q : Bool × Nat × Grid => ⟨[(2, .s (.ptr 2 0)), (3, .s (.ptr 3 0)), (5, .s (.ptr 5 0)), (6, .s (.ptr 6 0)), (7, .s (.ptr 7 0)), (9, .s (.ptr 9 0)), (11, .s (.ptr 11 0))], [(2, some (chanB c)), (3, some (gridB g)), (5, some (chanB c)), (6, some (gridB g)), (7, some (.cells [.d (dS s8), .mo z8 801, .d (dI o8), .d (dI u8), .osl 802 3 0 1])), (801, some (.mrow 58 n8 5 junkF)), (802, some (.cells [.d .junk, .d .junk, .own 810])), (810, some (.row 63 r0.corners.length 2 junkF)), (9, some (.cells [.d (dS s9), .mo z9 901, .d (dI o9), .d (dI u9), .osl 902 3 0 1])), (901, some (.mrow 58 n9 5 junkF)), (902, some (.cells [.d .junk, .d .junk, .own 910])), (910, some (.row 63 r0.corners.length 2 junkF)), (11, some (.cells [.d (dI q.2.2.x), .d (dI q.2.2.y), .d (dI q.2.2.side), .d (dI q.2.2.cols), .d (dI q.2.2.rows), .mo q.1 1001])), (1001, some (.mrow 3 q.2.1 1 junkF))]⟩) (fun q => q.2.1 ≤ 2000) ?_ ?_
  · by_cases he : withErr c [g] = 0
    · refine ex.sound (rc := [27]) tab_ok mix href _ ?_
      refine ⟨[(701, 1001)], _, _, _, _, DesignGridO c g hc hg he, rfl, trivial, rfl, ?_⟩
      exact ⟨rfl, (false, g.levels.length, g), by simp only; omega, SubI.of0 href [] rfl ⟨br, br, br, br, br, br, br, br, br, br, br, br, ⟨rfl, LeBx.cells ⟨LeQ.rfl, LeQ.rfl, LeQ.rfl, LeQ.rfl, LeQ.rfl, LeQ.mo rfl, trivial⟩⟩, ⟨rfl, LeBx.rjunk⟩, trivial⟩ ⟨er, er, er, er, er, er, er, trivial⟩⟩
    · refine ex.sound (rc := []) tab_ok mix href _ ?_
      refine callN (DesignGridE c g hc hg he) ?_
      exact ⟨rfl, (true, 0, zeroG), Nat.zero_le _, SubI.of0 href [(1001, 1000)] rfl ⟨br, br, br, br, br, br, br, br, br, br, br, br, ⟨rfl, LeBx.cells ⟨LeQ.rfl, LeQ.rfl, LeQ.rfl, LeQ.rfl, LeQ.rfl, LeQ.nil rfl, trivial⟩⟩, ⟨rfl, rfl⟩, trivial⟩ ⟨er, er, er, er, er, er, er, trivial⟩⟩
  rintro ⟨zd, nd, Gd⟩ hqnd
  simp only at hqnd ⊢
  refine AW.cutE (fun q : Bool × Nat × Grid => ⟨[(2, .s (.ptr 2 0)), (3, .s (.ptr 3 0)), (5, .s (.ptr 5 0)), (6, .s (.ptr 6 0)), (7, .s (.ptr 7 0)), (9, .s (.ptr 9 0)), (11, .s (.ptr 11 0)), (13, .s (.ptr 13 0))], [(2, some (chanB c)), (3, some (gridB g)), (5, some (chanB c)), (6, some (gridB g)), (7, some (.cells [.d (dS s8), .mo z8 801, .d (dI o8), .d (dI u8), .osl 802 3 0 1])), (801, some (.mrow 58 n8 5 junkF)), (802, some (.cells [.d .junk, .d .junk, .own 810])), (810, some (.row 63 r0.corners.length 2 junkF)), (9, some (.cells [.d (dS s9), .mo z9 901, .d (dI o9), .d (dI u9), .osl 902 3 0 1])), (901, some (.mrow 58 n9 5 junkF)), (902, some (.cells [.d .junk, .d .junk, .own 910])), (910, some (.row 63 r0.corners.length 2 junkF)), (11, some (.cells [.d (dI Gd.x), .d (dI Gd.y), .d (dI Gd.side), .d (dI Gd.cols), .d (dI Gd.rows), .mo zd 1001])), (1001, some (.mrow 3 nd 1 junkF)), (13, some (.cells [.d (dI q.2.2.x), .d (dI q.2.2.y), .d (dI q.2.2.side), .d (dI q.2.2.cols), .d (dI q.2.2.rows), .mo q.1 1002])), (1002, some (.mrow 3 q.2.1 1 junkF))]⟩) (fun q => q.2.1 ≤ 2000) ?_ ?_
  · by_cases he : withErr c [g] = 0
    · refine ex.sound (rc := [28]) tab_ok mix href _ ?_
      refine ⟨[(701, 1002)], _, _, _, _, ToleranceGridO c g hc hg he, rfl, trivial, rfl, ?_⟩
      exact ⟨rfl, (false, g.levels.length, g), by simp only; omega, SubI.of0 href [] rfl ⟨br, br, br, br, br, br, br, br, br, br, br, br, br, br, ⟨rfl, LeBx.cells ⟨LeQ.rfl, LeQ.rfl, LeQ.rfl, LeQ.rfl, LeQ.rfl, LeQ.mo rfl, trivial⟩⟩, ⟨rfl, LeBx.rjunk⟩, trivial⟩ ⟨er, er, er, er, er, er, er, er, trivial⟩⟩
    · refine ex.sound (rc := []) tab_ok mix href _ ?_
      refine callN (ToleranceGridE c g hc hg he) ?_
      exact ⟨rfl, (true, 0, zeroG), Nat.zero_le _, SubI.of0 href [(1002, 1000)] rfl ⟨br, br, br, br, br, br, br, br, br, br, br, br, br, br, ⟨rfl, LeBx.cells ⟨LeQ.rfl, LeQ.rfl, LeQ.rfl, LeQ.rfl, LeQ.rfl, LeQ.nil rfl, trivial⟩⟩, ⟨rfl, rfl⟩, trivial⟩ ⟨er, er, er, er, er, er, er, er, trivial⟩⟩
  rintro ⟨zt, nt, Gt⟩ hqnt
  simp only at hqnt ⊢
  refine AW.cut (σ' := ⟨bE ++ [], bB c g zd zt nd nt Gd Gt ++ []⟩) (ex.sound (rc := []) tab_ok mix href _ ?_) ?_
  · refine AW.loopI (fun i : Nat => match i with | 0 => (⟨bE ++ [(61, .g [.d (dS s8), .mo z8 801, .d (dI o8), .d (dI u8), .osl 802 3 0 1, .d (dS s9), .mo z9 901, .d (dI o9), .d (dI u9), .osl 902 3 0 1]), (62, vI 0)], bB c g zd zt nd nt Gd Gt ++ [(801, some (.mrow 58 n8 5 junkF)), (802, some (.cells [.d .junk, .d .junk, .own 810])), (810, some (.row 63 r0.corners.length 2 junkF)), (901, some (.mrow 58 n9 5 junkF)), (902, some (.cells [.d .junk, .d .junk, .own 910])), (910, some (.row 63 r0.corners.length 2 junkF))]⟩ : St) | 1 => ⟨bE ++ [(61, .g [.d .junk, .d .junk, .d .junk, .d .junk, .d .junk, .d (dS s9), .mo z9 901, .d (dI o9), .d (dI u9), .osl 902 3 0 1]), (62, vI 1)], bB c g zd zt nd nt Gd Gt ++ [(901, some (.mrow 58 n9 5 junkF)), (902, some (.cells [.d .junk, .d .junk, .own 910])), (910, some (.row 63 r0.corners.length 2 junkF))]⟩ | _ => ⟨bE ++ [(62, vI 2)], bB c g zd zt nd nt Gd Gt ++ []⟩) (fun i => i ≤ 2) (fun i => 2 - i) 0 (Nat.zero_le _) ?_ ?_
    · exact SubI.of0 href [] rfl ⟨br, br, br, br, br, br, br, br, br, br, br, br, br, br, trivial⟩ ⟨er, er, er, er, er, er, er, er, trivial⟩
    · intro i hi
      match i, hi with
      | 0, _ =>
        refine AW.seq (ex.sound (rc := []) tab_ok mix href _ ?_)
        refine AW.seq (ex.sound (rc := []) tab_ok mix href _ ?_)
        refine And.intro (fun _ => ?_) (fun h => by cases (show (decide ((0 : Int) < 2)) = false from h))
        refine AW.seq (AW.block (AW.seq (ex.sound (rc := []) tab_ok mix href _ ?_)))
        refine oi ⟨by decide, by decide⟩ ?_
        have hzn := bif_le (z := z8) (n := n8)
        refine AW.cut (σ' := ⟨bE ++ [(61, .g [.d .junk, .d .junk, .d .junk, .d .junk, .d .junk, .d (dS s9), .mo z9 901, .d (dI o9), .d (dI u9), .osl 902 3 0 1]), (62, vI 0), (16, .s (.ptr 16 0))], bB c g zd zt nd nt Gd Gt ++ [(16, some (.cells [.d (dS s8), .mo z8 801, .d (dI o8), .d (dI u8), .osl 802 3 0 1])), (801, some (.mrow 58 n8 5 junkF)), (802, some (.cells [.d .junk, .d .junk, .own 810])), (810, some (.row 63 r0.corners.length 2 junkF)), (901, some (.mrow 58 n9 5 junkF)), (902, some (.cells [.d .junk, .d .junk, .own 910])), (910, some (.row 63 r0.corners.length 2 junkF))]⟩) (ex.sound (rc := []) tab_ok mix href _ ?_) ?_
        · refine AW.loopI (fun m : Nat => (⟨bE ++ [(61, .g [.d .junk, .d .junk, .d .junk, .d .junk, .d .junk, .d (dS s9), .mo z9 901, .d (dI o9), .d (dI u9), .osl 902 3 0 1]), (62, vI 0), (16, .s (.ptr 16 0)), (17, vI m)], bB c g zd zt nd nt Gd Gt ++ [(16, some (.cells [.d (dS s8), .mo z8 801, .d (dI o8), .d (dI u8), .osl 802 3 0 1])), (801, some (.mrow 58 n8 5 junkF)), (802, some (.cells [.d .junk, .d .junk, .own 810])), (810, some (.row 63 r0.corners.length 2 junkF)), (901, some (.mrow 58 n9 5 junkF)), (902, some (.cells [.d .junk, .d .junk, .own 910])), (910, some (.row 63 r0.corners.length 2 junkF))]⟩ : St)) (fun m => m ≤ (bif z8 then 0 else n8)) (fun m => (bif z8 then 0 else n8) - m) 0 (Nat.zero_le _) ?_ ?_
          · exact SubI.of0 href [] rfl ⟨br, br, br, br, br, br, br, br, br, br, br, br, br, br, br, trivial⟩ ⟨er, er, er, er, er, er, ⟨rfl, LeQ.g ⟨LeQ.junk, LeQ.junk, LeQ.junk, LeQ.junk, LeQ.junk, LeQ.rfl, LeQ.rfl, LeQ.rfl, LeQ.rfl, LeQ.rfl, trivial⟩⟩, er, er, er, trivial⟩
          · intro m hm
            refine ex.sound (rc := []) tab_ok mix href _ ?_
            refine And.intro (fun h => ?_) (fun h => ?_)
            · have h : (m : Int) < ((bif z8 then 0 else n8 : Nat) : Int) := decT h
              refine oi ⟨by omega, by show (m : Int) < ((bif z8 then 0 else n8 : Nat) : Int); omega⟩ ?_
              refine ob (show (m : Int).toNat < n8 by omega) ?_
              refine ⟨m + 1, by omega, by omega, ?_⟩
              exact SubI.of0 href [] rfl ⟨br, br, br, br, br, br, br, br, br, ⟨rfl, LeBx.junk⟩, br, br, br, br, br, trivial⟩ ⟨er, er, er, er, er, er, er, er, er, ⟨rfl, LeQ.int (w64_of (by omega) (by omega))⟩, trivial⟩
            · exact ⟨rfl, SubI.of0 href [] rfl ⟨br, br, br, br, br, br, br, br, br, br, br, br, br, br, br, trivial⟩ ⟨er, er, er, er, er, er, er, er, er, trivial⟩⟩
        refine AW.seq (ex.sound (rc := []) tab_ok mix href _ ?_)
        refine ex.sound (rc := []) tab_ok mix href _ ?_
        refine AW.loopI (fun j : Nat => (⟨bE ++ [(61, .g [.d .junk, .d .junk, .d .junk, .d .junk, .d .junk, .d (dS s9), .mo z9 901, .d (dI o9), .d (dI u9), .osl 902 3 0 1]), (62, vI 0), (16, .s (.ptr 16 0)), (18, vI j)], bB c g zd zt nd nt Gd Gt ++ [(16, some (.cells [.d (dS s8), .mo z8 801, .d (dI o8), .d (dI u8), .osl 802 3 0 1])), (801, some (.mrow 58 n8 5 junkF)), (802, some (.cells [.d .junk, .d .junk, .own 810])), (810, some (.row 63 r0.corners.length 2 junkF)), (901, some (.mrow 58 n9 5 junkF)), (902, some (.cells [.d .junk, .d .junk, .own 910])), (910, some (.row 63 r0.corners.length 2 junkF))]⟩ : St)) (fun j => j ≤ 1) (fun j => 1 - j) 0 (Nat.zero_le _) ?_ ?_
        · exact SubI.of0 href [] rfl ⟨br, br, br, br, br, br, br, br, br, br, br, br, br, br, br, trivial⟩ ⟨er, er, er, er, er, er, er, er, er, er, trivial⟩
        · intro j hj
          match j, hj with
          | 0, _ =>
            refine AW.seq (ex.sound (rc := []) tab_ok mix href _ ?_)
            refine And.intro (fun _ => ?_) (fun h => by cases (show (decide ((0 : Int) < 1)) = false from h))
            refine AW.seq (AW.block ?_)
            refine AW.cut (σ' := ⟨bE ++ [(61, .g [.d .junk, .d .junk, .d .junk, .d .junk, .d .junk, .d (dS s9), .mo z9 901, .d (dI o9), .d (dI u9), .osl 902 3 0 1]), (62, vI 0), (16, .s (.ptr 16 0)), (18, vI 0)], bB c g zd zt nd nt Gd Gt ++ [(16, some (.cells [.d (dS s8), .mo z8 801, .d (dI o8), .d (dI u8), .osl 802 3 0 1])), (801, some (.mrow 58 n8 5 junkF)), (802, some (.cells [.d .junk, .d .junk, .own 810])), (810, some (.row 63 r0.corners.length 2 junkF)), (901, some (.mrow 58 n9 5 junkF)), (902, some (.cells [.d .junk, .d .junk, .own 910])), (910, some (.row 63 r0.corners.length 2 junkF))]⟩) (ex.sound (rc := []) tab_ok mix href _ ?_) ?_
            · refine AW.loopI (fun m : Nat => (⟨bE ++ [(61, .g [.d .junk, .d .junk, .d .junk, .d .junk, .d .junk, .d (dS s9), .mo z9 901, .d (dI o9), .d (dI u9), .osl 902 3 0 1]), (62, vI 0), (16, .s (.ptr 16 0)), (18, vI 0), (19, vI m)], bB c g zd zt nd nt Gd Gt ++ [(16, some (.cells [.d (dS s8), .mo z8 801, .d (dI o8), .d (dI u8), .osl 802 3 0 1])), (801, some (.mrow 58 n8 5 junkF)), (802, some (.cells [.d .junk, .d .junk, .own 810])), (810, some (.row 63 r0.corners.length 2 junkF)), (901, some (.mrow 58 n9 5 junkF)), (902, some (.cells [.d .junk, .d .junk, .own 910])), (910, some (.row 63 r0.corners.length 2 junkF))]⟩ : St)) (fun m => m ≤ r0.corners.length) (fun m => r0.corners.length - m) 0 (Nat.zero_le _) ?_ ?_
              · exact SubI.of0 href [] rfl ⟨br, br, br, br, br, br, br, br, br, br, br, br, br, br, br, trivial⟩ ⟨er, er, er, er, er, er, er, er, er, er, er, trivial⟩
              · intro m hm
                refine ex.sound (rc := []) tab_ok mix href _ ?_
                refine oi ⟨by decide, by decide⟩ ?_
                refine And.intro (fun h => ?_) (fun h => ?_)
                · have h : (m : Int) < (r0.corners.length : Int) := decT h
                  refine oi ⟨by decide, by decide⟩ ?_
                  refine oi ⟨by omega, by omega⟩ ?_
                  refine ob (show (m : Int).toNat < r0.corners.length by omega) ?_
                  refine ⟨m + 1, by omega, by omega, ?_⟩
                  exact SubI.of0 href [] rfl ⟨br, br, br, br, br, br, br, br, br, br, br, ⟨rfl, LeBx.jrow⟩, br, br, br, trivial⟩ ⟨er, er, er, er, er, er, er, er, er, er, ⟨rfl, LeQ.int (w64_of (by omega) (by omega))⟩, trivial⟩
                · exact ⟨rfl, SubI.of0 href [] rfl ⟨br, br, br, br, br, br, br, br, br, br, br, br, br, br, br, trivial⟩ ⟨er, er, er, er, er, er, er, er, er, er, trivial⟩⟩
            · refine ex.sound (rc := []) tab_ok mix href _ ?_
              refine oi ⟨by decide, by decide⟩ ?_
              refine ex.sound (rc := []) tab_ok mix href _ ?_
              refine ⟨1, by decide, by decide, ?_⟩
              exact SubI.of0 href [] rfl ⟨br, br, br, br, br, br, br, br, br, br, ⟨rfl, LeBx.cells ⟨LeQ.junk, LeQ.junk, LeQ.rfl, trivial⟩⟩, br, br, br, br, trivial⟩ ⟨er, er, er, er, er, er, er, er, er, er, trivial⟩
          | 1, _ =>
            refine ex.sound (rc := []) tab_ok mix href _ ?_
            refine And.intro (fun h => by cases (show (decide ((1 : Int) < 1)) = true from h)) (fun _ => ?_)
            refine ex.sound (rc := []) tab_ok mix href _ ?_
            refine ⟨1, by decide, by decide, ?_⟩
            exact SubI.of0 href [] rfl ⟨br, br, br, br, br, br, br, br, br, br, br, trivial⟩ ⟨er, er, er, er, er, er, er, er, trivial⟩
      | 1, _ =>
        refine AW.seq (ex.sound (rc := []) tab_ok mix href _ ?_)
        refine AW.seq (ex.sound (rc := []) tab_ok mix href _ ?_)
        refine And.intro (fun _ => ?_) (fun h => by cases (show (decide ((1 : Int) < 2)) = false from h))
        refine AW.seq (AW.block (AW.seq (ex.sound (rc := []) tab_ok mix href _ ?_)))
        refine oi ⟨by decide, by decide⟩ ?_
        have hzn := bif_le (z := z9) (n := n9)
        refine AW.cut (σ' := ⟨bE ++ [(62, vI 1), (16, .s (.ptr 16 0))], bB c g zd zt nd nt Gd Gt ++ [(16, some (.cells [.d (dS s9), .mo z9 901, .d (dI o9), .d (dI u9), .osl 902 3 0 1])), (901, some (.mrow 58 n9 5 junkF)), (902, some (.cells [.d .junk, .d .junk, .own 910])), (910, some (.row 63 r0.corners.length 2 junkF))]⟩) (ex.sound (rc := []) tab_ok mix href _ ?_) ?_
        · refine AW.loopI (fun m : Nat => (⟨bE ++ [(62, vI 1), (16, .s (.ptr 16 0)), (17, vI m)], bB c g zd zt nd nt Gd Gt ++ [(16, some (.cells [.d (dS s9), .mo z9 901, .d (dI o9), .d (dI u9), .osl 902 3 0 1])), (901, some (.mrow 58 n9 5 junkF)), (902, some (.cells [.d .junk, .d .junk, .own 910])), (910, some (.row 63 r0.corners.length 2 junkF))]⟩ : St)) (fun m => m ≤ (bif z9 then 0 else n9)) (fun m => (bif z9 then 0 else n9) - m) 0 (Nat.zero_le _) ?_ ?_
          · exact SubI.of0 href [] rfl ⟨br, br, br, br, br, br, br, br, br, br, br, br, trivial⟩ ⟨er, er, er, er, er, er, er, er, er, trivial⟩
          · intro m hm
            refine ex.sound (rc := []) tab_ok mix href _ ?_
            refine And.intro (fun h => ?_) (fun h => ?_)
            · have h : (m : Int) < ((bif z9 then 0 else n9 : Nat) : Int) := decT h
              refine oi ⟨by omega, by show (m : Int) < ((bif z9 then 0 else n9 : Nat) : Int); omega⟩ ?_
              refine ob (show (m : Int).toNat < n9 by omega) ?_
              refine ⟨m + 1, by omega, by omega, ?_⟩
              exact SubI.of0 href [] rfl ⟨br, br, br, br, br, br, br, br, br, ⟨rfl, LeBx.junk⟩, br, br, trivial⟩ ⟨er, er, er, er, er, er, er, er, ⟨rfl, LeQ.int (w64_of (by omega) (by omega))⟩, trivial⟩
            · exact ⟨rfl, SubI.of0 href [] rfl ⟨br, br, br, br, br, br, br, br, br, br, br, br, trivial⟩ ⟨er, er, er, er, er, er, er, er, trivial⟩⟩
        refine AW.seq (ex.sound (rc := []) tab_ok mix href _ ?_)
        refine ex.sound (rc := []) tab_ok mix href _ ?_
        refine AW.loopI (fun j : Nat => (⟨bE ++ [(62, vI 1), (16, .s (.ptr 16 0)), (18, vI j)], bB c g zd zt nd nt Gd Gt ++ [(16, some (.cells [.d (dS s9), .mo z9 901, .d (dI o9), .d (dI u9), .osl 902 3 0 1])), (901, some (.mrow 58 n9 5 junkF)), (902, some (.cells [.d .junk, .d .junk, .own 910])), (910, some (.row 63 r0.corners.length 2 junkF))]⟩ : St)) (fun j => j ≤ 1) (fun j => 1 - j) 0 (Nat.zero_le _) ?_ ?_
        · exact SubI.of0 href [] rfl ⟨br, br, br, br, br, br, br, br, br, br, br, br, trivial⟩ ⟨er, er, er, er, er, er, er, er, er, trivial⟩
        · intro j hj
          match j, hj with
          | 0, _ =>
            refine AW.seq (ex.sound (rc := []) tab_ok mix href _ ?_)
            refine And.intro (fun _ => ?_) (fun h => by cases (show (decide ((0 : Int) < 1)) = false from h))
            refine AW.seq (AW.block ?_)
            refine AW.cut (σ' := ⟨bE ++ [(62, vI 1), (16, .s (.ptr 16 0)), (18, vI 0)], bB c g zd zt nd nt Gd Gt ++ [(16, some (.cells [.d (dS s9), .mo z9 901, .d (dI o9), .d (dI u9), .osl 902 3 0 1])), (901, some (.mrow 58 n9 5 junkF)), (902, some (.cells [.d .junk, .d .junk, .own 910])), (910, some (.row 63 r0.corners.length 2 junkF))]⟩) (ex.sound (rc := []) tab_ok mix href _ ?_) ?_
            · refine AW.loopI (fun m : Nat => (⟨bE ++ [(62, vI 1), (16, .s (.ptr 16 0)), (18, vI 0), (19, vI m)], bB c g zd zt nd nt Gd Gt ++ [(16, some (.cells [.d (dS s9), .mo z9 901, .d (dI o9), .d (dI u9), .osl 902 3 0 1])), (901, some (.mrow 58 n9 5 junkF)), (902, some (.cells [.d .junk, .d .junk, .own 910])), (910, some (.row 63 r0.corners.length 2 junkF))]⟩ : St)) (fun m => m ≤ r0.corners.length) (fun m => r0.corners.length - m) 0 (Nat.zero_le _) ?_ ?_
              · exact SubI.of0 href [] rfl ⟨br, br, br, br, br, br, br, br, br, br, br, br, trivial⟩ ⟨er, er, er, er, er, er, er, er, er, er, trivial⟩
              · intro m hm
                refine ex.sound (rc := []) tab_ok mix href _ ?_
                refine oi ⟨by decide, by decide⟩ ?_
                refine And.intro (fun h => ?_) (fun h => ?_)
                · have h : (m : Int) < (r0.corners.length : Int) := decT h
                  refine oi ⟨by decide, by decide⟩ ?_
                  refine oi ⟨by omega, by omega⟩ ?_
                  refine ob (show (m : Int).toNat < r0.corners.length by omega) ?_
                  refine ⟨m + 1, by omega, by omega, ?_⟩
                  exact SubI.of0 href [] rfl ⟨br, br, br, br, br, br, br, br, br, br, br, ⟨rfl, LeBx.jrow⟩, trivial⟩ ⟨er, er, er, er, er, er, er, er, er, ⟨rfl, LeQ.int (w64_of (by omega) (by omega))⟩, trivial⟩
                · exact ⟨rfl, SubI.of0 href [] rfl ⟨br, br, br, br, br, br, br, br, br, br, br, br, trivial⟩ ⟨er, er, er, er, er, er, er, er, er, trivial⟩⟩
            · refine ex.sound (rc := []) tab_ok mix href _ ?_
              refine oi ⟨by decide, by decide⟩ ?_
              refine ex.sound (rc := []) tab_ok mix href _ ?_
              refine ⟨1, by decide, by decide, ?_⟩
              exact SubI.of0 href [] rfl ⟨br, br, br, br, br, br, br, br, br, br, ⟨rfl, LeBx.cells ⟨LeQ.junk, LeQ.junk, LeQ.rfl, trivial⟩⟩, br, trivial⟩ ⟨er, er, er, er, er, er, er, er, er, trivial⟩
          | 1, _ =>
            refine ex.sound (rc := []) tab_ok mix href _ ?_
            refine And.intro (fun h => by cases (show (decide ((1 : Int) < 1)) = true from h)) (fun _ => ?_)
            refine ex.sound (rc := []) tab_ok mix href _ ?_
            refine ⟨2, by decide, by decide, ?_⟩
            exact SubI.of0 href [] rfl ⟨br, br, br, br, br, br, br, br, trivial⟩ ⟨er, er, er, er, er, er, er, trivial⟩
      | 2, _ =>
        refine ex.sound (rc := []) tab_ok mix href _ ?_
        refine And.intro (fun h => by cases (show (decide ((2 : Int) < 2)) = true from h)) (fun _ => ?_)
        exact ⟨rfl, SubI.of0 href [] rfl ⟨br, br, br, br, br, br, br, br, trivial⟩ ⟨er, er, er, er, er, er, trivial⟩⟩
  refine AW.cut (σ' := ⟨[(2, .s (.ptr 2 0)), (3, .s (.ptr 3 0)), (5, .s (.ptr 5 0)), (6, .s (.ptr 6 0))], [(2, some (chanB c)), (3, some (gridB g)), (5, some (chanB c)), (6, some (gridB g))]⟩) (ex.sound (rc := []) tab_ok mix href _ ?_) ?_
  · refine AW.loopI (fun i : Nat => match i with | 0 => (⟨[(2, .s (.ptr 2 0)), (3, .s (.ptr 3 0)), (5, .s (.ptr 5 0)), (6, .s (.ptr 6 0)), (112, .g [.d (dI Gd.x), .d (dI Gd.y), .d (dI Gd.side), .d (dI Gd.cols), .d (dI Gd.rows), .mo zd 1001, .d (dI Gt.x), .d (dI Gt.y), .d (dI Gt.side), .d (dI Gt.cols), .d (dI Gt.rows), .mo zt 1002]), (113, vI 0)], [(2, some (chanB c)), (3, some (gridB g)), (5, some (chanB c)), (6, some (gridB g)), (1001, some (.mrow 3 nd 1 junkF)), (1002, some (.mrow 3 nt 1 junkF))]⟩ : St) | 1 => ⟨[(2, .s (.ptr 2 0)), (3, .s (.ptr 3 0)), (5, .s (.ptr 5 0)), (6, .s (.ptr 6 0)), (112, .g [.d (dI Gd.x), .d (dI Gd.y), .d (dI Gd.side), .d (dI Gd.cols), .d (dI Gd.rows), .mo zd 1001, .d (dI Gt.x), .d (dI Gt.y), .d (dI Gt.side), .d (dI Gt.cols), .d (dI Gt.rows), .mo zt 1002]), (113, vI 1)], [(2, some (chanB c)), (3, some (gridB g)), (5, some (chanB c)), (6, some (gridB g)), (1001, some (.mrow 3 nd 1 junkF)), (1002, some (.mrow 3 nt 1 junkF))]⟩ | _ => ⟨[(2, .s (.ptr 2 0)), (3, .s (.ptr 3 0)), (5, .s (.ptr 5 0)), (6, .s (.ptr 6 0)), (113, vI 2)], [(2, some (chanB c)), (3, some (gridB g)), (5, some (chanB c)), (6, some (gridB g)), (1001, some (.mrow 3 nd 1 junkF)), (1002, some (.mrow 3 nt 1 junkF))]⟩) (fun i => i ≤ 2) (fun i => 2 - i) 0 (Nat.zero_le _) ?_ ?_
    · exact SubI.of0 href [] rfl ⟨br, br, br, br, br, br, trivial⟩ ⟨er, er, er, er, er, er, trivial⟩
    · intro i hi
      match i, hi with
      | 0, _ =>
        refine ex.sound (rc := []) tab_ok mix href _ ?_
        refine And.intro (fun _ => ?_) (fun h => by cases (show (decide ((0 : Int) < 2)) = false from h))
        refine oi ⟨by decide, by decide⟩ ?_
        have hzn := bif_le (z := zd) (n := nd)
        refine AW.loopI (fun m : Nat => (⟨[(2, .s (.ptr 2 0)), (3, .s (.ptr 3 0)), (5, .s (.ptr 5 0)), (6, .s (.ptr 6 0)), (112, .g [.d (dI Gd.x), .d (dI Gd.y), .d (dI Gd.side), .d (dI Gd.cols), .d (dI Gd.rows), .mo zd 1001, .d (dI Gt.x), .d (dI Gt.y), .d (dI Gt.side), .d (dI Gt.cols), .d (dI Gt.rows), .mo zt 1002]), (113, vI 0), (21, .s (.ptr 21 0)), (22, vI m)], [(2, some (chanB c)), (3, some (gridB g)), (5, some (chanB c)), (6, some (gridB g)), (1001, some (.mrow 3 nd 1 junkF)), (1002, some (.mrow 3 nt 1 junkF)), (21, some (.cells [.d (dI Gd.x), .d (dI Gd.y), .d (dI Gd.side), .d (dI Gd.cols), .d (dI Gd.rows), .mo zd 1001]))]⟩ : St)) (fun m => m ≤ (bif zd then 0 else nd)) (fun m => (bif zd then 0 else nd) - m) 0 (Nat.zero_le _) ?_ ?_
        · exact SubI.of0 href [] rfl ⟨br, br, br, br, br, br, br, trivial⟩ ⟨er, er, er, er, er, er, er, er, trivial⟩
        · intro m hm
          refine ex.sound (rc := []) tab_ok mix href _ ?_
          refine And.intro (fun h => ?_) (fun h => ?_)
          · have h : (m : Int) < ((bif zd then 0 else nd : Nat) : Int) := decT h
            refine oi ⟨by omega, by show (m : Int) < ((bif zd then 0 else nd : Nat) : Int); omega⟩ ?_
            refine ob (show (m : Int).toNat < nd by omega) ?_
            refine ⟨m + 1, by omega, by omega, ?_⟩
            exact SubI.of0 href [] rfl ⟨br, br, br, br, ⟨rfl, LeBx.junk⟩, br, br, trivial⟩ ⟨er, er, er, er, er, er, er, ⟨rfl, LeQ.int (w64_of (by omega) (by omega))⟩, trivial⟩
          · refine ⟨1, by decide, by decide, ?_⟩
            exact SubI.of0 href [] rfl ⟨br, br, br, br, br, br, trivial⟩ ⟨er, er, er, er, er, er, trivial⟩
      | 1, _ =>
        refine ex.sound (rc := []) tab_ok mix href _ ?_
        refine And.intro (fun _ => ?_) (fun h => by cases (show (decide ((1 : Int) < 2)) = false from h))
        refine oi ⟨by decide, by decide⟩ ?_
        have hzn := bif_le (z := zt) (n := nt)
        refine AW.loopI (fun m : Nat => (⟨[(2, .s (.ptr 2 0)), (3, .s (.ptr 3 0)), (5, .s (.ptr 5 0)), (6, .s (.ptr 6 0)), (112, .g [.d (dI Gd.x), .d (dI Gd.y), .d (dI Gd.side), .d (dI Gd.cols), .d (dI Gd.rows), .mo zd 1001, .d (dI Gt.x), .d (dI Gt.y), .d (dI Gt.side), .d (dI Gt.cols), .d (dI Gt.rows), .mo zt 1002]), (113, vI 1), (21, .s (.ptr 21 0)), (22, vI m)], [(2, some (chanB c)), (3, some (gridB g)), (5, some (chanB c)), (6, some (gridB g)), (1001, some (.mrow 3 nd 1 junkF)), (1002, some (.mrow 3 nt 1 junkF)), (21, some (.cells [.d (dI Gt.x), .d (dI Gt.y), .d (dI Gt.side), .d (dI Gt.cols), .d (dI Gt.rows), .mo zt 1002]))]⟩ : St)) (fun m => m ≤ (bif zt then 0 else nt)) (fun m => (bif zt then 0 else nt) - m) 0 (Nat.zero_le _) ?_ ?_
        · exact SubI.of0 href [] rfl ⟨br, br, br, br, br, br, br, trivial⟩ ⟨er, er, er, er, er, er, er, er, trivial⟩
        · intro m hm
          refine ex.sound (rc := []) tab_ok mix href _ ?_
          refine And.intro (fun h => ?_) (fun h => ?_)
          · have h : (m : Int) < ((bif zt then 0 else nt : Nat) : Int) := decT h
            refine oi ⟨by omega, by show (m : Int) < ((bif zt then 0 else nt : Nat) : Int); omega⟩ ?_
            refine ob (show (m : Int).toNat < nt by omega) ?_
            refine ⟨m + 1, by omega, by omega, ?_⟩
            exact SubI.of0 href [] rfl ⟨br, br, br, br, br, ⟨rfl, LeBx.junk⟩, br, trivial⟩ ⟨er, er, er, er, er, er, er, ⟨rfl, LeQ.int (w64_of (by omega) (by omega))⟩, trivial⟩
          · refine ⟨2, by decide, by decide, ?_⟩
            exact SubI.of0 href [] rfl ⟨br, br, br, br, br, br, trivial⟩ ⟨er, er, er, er, er, trivial⟩
      | 2, _ =>
        refine ex.sound (rc := []) tab_ok mix href _ ?_
        refine And.intro (fun h => by cases (show (decide ((2 : Int) < 2)) = true from h)) (fun _ => ?_)
        exact ⟨rfl, SubI.of0 href [] rfl ⟨br, br, br, br, trivial⟩ ⟨er, er, er, er, trivial⟩⟩
  · refine ex.sound (rc := []) tab_ok mix href _ ?_
    refine callN (rSameEq c (by omega) (by omega) hcr) ?_
    repeat first | refine sk ?_ | refine st ?_ | refine sg ?_ | refine sh ?_ | refine su ?_ | refine sn1 ?_ | refine sn0 ?_ | refine And.intro (show imp none (gimp _ none) from trivial) ?_
    refine callG (sameGrid g (by omega)) ?_
    repeat first | refine sk ?_ | refine st ?_ | refine sg ?_ | refine sh ?_ | refine su ?_ | refine sn1 ?_ | refine sn0 ?_ | refine And.intro (show imp none (gimp _ none) from trivial) ?_
    exact SubR.lit rfl
end Go.Ch
