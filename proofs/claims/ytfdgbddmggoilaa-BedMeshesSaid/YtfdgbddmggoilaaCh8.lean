/- Part Ch8: lemmas that the proofs of this seat share; by itself it claims nothing. -/
import Derived.Test.YtfdgbddmggoilaaCh4
namespace Go.Ch
open Go Go.Ax Go.Proofs Go.Proofs.Try
set_option maxRecDepth 100000
set_option pp.maxSteps 400
set_option maxHeartbeats 1000000

abbrev uI (x : Int) : AV := .s (.d (.val (.int .u64 x)))
abbrev duI (x : Int) : DV := .val (.int .u64 x)
theorem u64_of {n : Int} (h : 0 ≤ n) (k : n ≤ 18446744073709551615) : IntKind.u64.wrap n = n := by
  rw [IntKind.wrap_u64]; omega
theorem andM {y : Int} (h : 0 ≤ y) (k : y < 4294967296) : andI .u64 y 4294967295 = y := by
  obtain ⟨n, rfl⟩ := Int.eq_ofNat_of_zero_le h
  have hn : n < 4294967296 := by omega
  unfold andI
  have e : (BitVec.ofInt IntKind.u64.bits (n : Int) &&& BitVec.ofInt IntKind.u64.bits 4294967295).toNat = n := by
    show (BitVec.ofInt 64 (n : Int) &&& BitVec.ofInt 64 4294967295).toNat = n
    rw [BitVec.toNat_and, show (BitVec.ofInt 64 4294967295).toNat = 2 ^ 32 - 1 from rfl, Nat.and_two_pow_sub_one_eq_mod, BitVec.toNat_ofInt]
    omega
  rw [e]
  exact u64_of (by omega) (by omega)
theorem shr0 {y : Int} (h : 0 ≤ y) (k : y < 4294967296) : shrI .u64 y 32 = 0 := by
  show y.fdiv 4294967296 = 0
  rw [Int.fdiv_eq_ediv_of_nonneg _ (by omega)]
  omega
/-- The row while it is filled. -/
def fillF (v : Int) (k : Nat) : Nat → Nat → DV := fun i _ => if i < k then dI v else dI 0
theorem cpF_fill {v : Int} {k q : Nat} {i j : Nat} (hq : q ≤ k) : cpF k q (fillF v k) (fun i => fillF v k (0 + i)) i j = fillF v (k + q) i j := by
  unfold cpF
  show (if k ≤ i ∧ i < k + q then (if 0 + (i - k) < k then dI v else dI 0) else (if i < k then dI v else dI 0)) = (if i < k + q then dI v else dI 0)
  by_cases h1 : k ≤ i ∧ i < k + q
  · rw [if_pos h1, if_pos (by omega), if_pos (by omega)]
  · rw [if_neg h1]
    by_cases h2 : i < k
    · rw [if_pos h2, if_pos (by omega)]
    · rw [if_neg h2, if_neg (by omega)]
end Go.Ch

namespace Go.Ch
open Go Go.Ax Go.Proofs Go.Proofs.Try
set_option maxRecDepth 100000
set_option pp.maxSteps 400
set_option maxHeartbeats 1000000

abbrev rGE (g : Grid) (e : Int) : AV := .t [.g [.d (dI g.x), .d (dI g.y), .d (dI g.side), .d (dI g.cols), .d (dI g.rows), .d (dInts g.levels)], .s (.d (dI e))]
def zeroG : Grid := ⟨0, 0, 0, 0, 0, []⟩
theorem zero_rGE {e e' : Int} (h : e = e') : SubR (.t [.g (zvs ty24.zero), .s (.d (dI e))]) (rGE zeroG e') := by
  subst h
  exact SubR.t ⟨⟨LeD.refl _, LeD.refl _, LeD.refl _, LeD.refl _, LeD.refl _, LeD.nil, trivial⟩, LeD.refl _, trivial⟩
end Go.Ch

namespace Go.Ch
open Go Go.Ax Go.Proofs Go.Proofs.Try
set_option maxRecDepth 100000
set_option pp.maxSteps 400
set_option maxHeartbeats 1000000

theorem rSame (g : Grid) (hl : g.levels.length ≤ 1000000) : CallP Try.prog 49 [grid g, grid g] (vB true) := by
  refine callP_of_ex (rc := []) (N := 45) Try.func49 rfl rfl Try.call49 tab_ok mix rfl rfl (fun cx href => ?_)
  repeat first | refine sk ?_ | refine st ?_ | refine sg ?_ | refine sh ?_ | refine su ?_ | refine sn1 ?_ | refine sn0 ?_
  refine callG (rIntsEq g.levels hl) ?_
  repeat first | refine sk ?_ | refine st ?_ | refine sg ?_ | refine sh ?_ | refine su ?_ | refine sn1 ?_ | refine sn0 ?_
  refine SubR.of_eq ?_
  show vB (((((g.x == g.x && g.y == g.y) && g.side == g.side) && g.cols == g.cols) && g.rows == g.rows) && true) = vB true
  simp
theorem errG_levels {g : Grid} {l : List Int} (h : errG g = 0) (hn : l.length = g.levels.length) (hb : l.any badL = false) : errG { g with levels := l } = 0 := by
  unfold errG at h ⊢
  rw [show e1 { g with levels := l } = e1 g from rfl]
  cases h1 : e1 g with
  | true => rw [h1] at h; cases h
  | false =>
    rw [h1] at h
    simp only [cond_false, hn, hb] at h ⊢
    cases h2 : decide (w64 (g.cols * g.rows) > 1024) with
    | true => rw [h2] at h; cases h
    | false =>
      rw [h2] at h
      simp only [cond_false] at h ⊢
      cases h3 : (decide (w64 (g.x + w64 (g.cols * g.side)) > 1000000) || decide (w64 (g.y + w64 (g.rows * g.side)) > 1000000)) with
      | true => rw [h3] at h; cases h
      | false =>
        rw [h3] at h
        simp only [cond_false] at h ⊢
        cases h4 : ((g.levels.length : Int) != w64 (g.cols * g.rows)) with
        | true => rw [h4] at h; cases h
        | false => rfl
theorem few_len {g : Grid} (h : few g = true) : g.levels.length ≤ 1100 := by
  unfold few at h
  simp only [Bool.or_eq_true, Bool.and_eq_true, decide_eq_true_eq] at h
  omega
end Go.Ch

namespace Go.Ch
open Go Go.Ax Go.Proofs Go.Proofs.Try
set_option maxRecDepth 100000
set_option pp.maxSteps 400
set_option maxHeartbeats 1000000

theorem bknown (g : Grid) (i : Nat) (hi : i < g.levels.length) (hl : g.levels.length ≤ 1000000) : CallP Try.prog 79 [grid g, vI i] (vB (g.levels.getD i 0 != 30000)) := by
  refine callP_of_ex (rc := []) (N := 20) Try.func79 rfl rfl Try.call79 tab_ok mix rfl rfl (fun cx _ => ?_)
  refine callN ((bbetween 0 (w64 ((g.levels.length : Int) - 1)) [(i : Int)] (by simp)).conv (args' := _) ⟨LeD.refl _, LeD.refl _, LeD.slc fun i j hi hj => ?_, trivial⟩) ?_
  · obtain rfl : i = 0 := by have : i < 1 := hi; omega
    obtain rfl : j = 0 := by have : j < 1 := hj; omega
    exact LeD.of_eq rfl
  repeat first | refine sk ?_ | refine st ?_ | refine sg ?_ | refine sh ?_ | refine su ?_ | refine sn1 ?_ | refine sn0 ?_
  refine og (fun _ => ⟨by omega, by omega⟩) ?_
  repeat first | refine sk ?_ | refine st ?_ | refine sg ?_ | refine sh ?_ | refine su ?_ | refine sn1 ?_ | refine sn0 ?_
  refine SubR.of_eq ?_
  show vB ((!outL 0 (w64 ((g.levels.length : Int) - 1)) [(i : Int)]) && (g.levels.getD i 0 != 30000)) = _
  have e : outL 0 (w64 ((g.levels.length : Int) - 1)) [(i : Int)] = false := by
    rw [w64_of (by omega) (by omega)]
    simp [outL, within]
    omega
  rw [e]; rfl
def partV (lo hi a b : Int) : Int := mm true 0 (w64 (mm false b hi - mm true a lo))
theorem bpart (lo hi a b : Int) : CallP Try.prog 137 [.g [.d (dI lo), .d (dI hi)], vI a, vI b] (vI (partV lo hi a b)) := by
  refine callP_of_ex (rc := []) (N := 17) Try.func137 rfl rfl Try.call137 tab_ok mix rfl rfl (fun cx _ => ?_)
  exact SubR.refl _
theorem bcells (g : Grid) : CallP Try.prog 136 [grid g] (.g [.d (dI g.x), .d (dI g.y), .d (dI g.side), .d (dI g.cols), .d (dI g.rows)]) := by
  refine callP_of_ex (rc := []) (N := 14) Try.func136 rfl rfl Try.call136 tab_ok mix rfl rfl (fun cx _ => ?_)
  exact SubR.refl _
theorem ball : CallP Try.prog 90 [] (.g [.d (dI (-20000)), .d (dI 20000)]) := by
  refine callP_of_ex (rc := []) (N := 2) Try.func90 rfl rfl Try.call90 tab_ok mix rfl rfl (fun cx _ => ?_)
  exact SubR.refl _
theorem bany (i : Int) : CallP Try.prog 91 [vI i] (vB true) := by
  refine callP_of_ex (rc := []) (N := 3) Try.func91 rfl rfl Try.call91 tab_ok mix rfl rfl (fun cx _ => ?_)
  exact SubR.lit rfl
def sameC (a b : Grid) : Bool := a.x == b.x && (a.y == b.y && (a.side == b.side && (a.cols == b.cols && (a.rows == b.rows && true))))
def err2 (a b : Grid) : Int := bif errG a != 0 then errG a else bif errG b != 0 then errG b else bif !sameC a b then 10 else 0
attribute [local irreducible] errG in
theorem bboth (a b : Grid) (ha : a.ok) (hb : b.ok) : CallP Try.prog 88 [grid a, grid b] (vI (err2 a b)) := by
  refine callP_of_ex (rc := []) (N := 27) Try.func88 rfl rfl Try.call88 tab_ok mix rfl rfl (fun cx href => ?_)
  refine AW.loopI (fun i : Nat => ⟨[(2, .s (.ptr 2 0)), (3, .s (.ptr 3 0)), (10, .s (.own 10)), (11, vI 2), (12, vI i)],
      [(2, some (gridB a)), (3, some (gridB b)), (10, some (.row 24 2 6 (rowF 6 [.d (dI a.x), .d (dI a.y), .d (dI a.side), .d (dI a.cols), .d (dI a.rows), .d (dInts a.levels), .d (dI b.x), .d (dI b.y), .d (dI b.side), .d (dI b.cols), .d (dI b.rows), .d (dInts b.levels)])))]⟩)
    (fun i => i ≤ 2 ∧ (0 < i → errG a = 0) ∧ (1 < i → errG b = 0)) (fun i => 2 - i) 0 ⟨by omega, by omega, by omega⟩ ?_ ?_
  · exact SubI.of0 href [] rfl ⟨⟨rfl, LeBx.rfl⟩, ⟨rfl, LeBx.rfl⟩, ⟨rfl, LeBx.rfl⟩, trivial⟩ ⟨⟨rfl, LeQ.rfl⟩, ⟨rfl, LeQ.rfl⟩, ⟨rfl, LeQ.rfl⟩, ⟨rfl, LeQ.rfl⟩, ⟨rfl, LeQ.rfl⟩, trivial⟩
  · rintro i ⟨hi, ea, eb⟩
    refine ex.sound (rc := []) tab_ok mix href _ ?_
    refine And.intro (fun h => ?_) (fun h => ?_)
    · have h : (i : Int) < 2 := decT h
      match i, h, ea with
      | 0, _, _ =>
        refine oi ⟨by omega, by omega⟩ ?_
        refine oi (by decide) ?_
        refine callN (bcheck a ha.levels) ?_
        refine And.intro (fun h2 => ?_) (fun h2 => ?_)
        · have h2 : (errG a != 0) = true := h2
          exact SubR.of_eq (by unfold err2; rw [h2]; rfl)
        · have h2 : (errG a != 0) = false := h2
          refine ⟨1, ⟨by omega, fun _ => by simpa using h2, by omega⟩, by omega, ?_⟩
          exact SubI.of0 href [] rfl ⟨⟨rfl, LeBx.rfl⟩, ⟨rfl, LeBx.rfl⟩, ⟨rfl, LeBx.rfl⟩, trivial⟩ ⟨⟨rfl, LeQ.rfl⟩, ⟨rfl, LeQ.rfl⟩, ⟨rfl, LeQ.rfl⟩, ⟨rfl, LeQ.rfl⟩, ⟨rfl, LeQ.int rfl⟩, trivial⟩
      | 1, _, ea =>
        have ea := ea (by omega)
        refine oi ⟨by omega, by omega⟩ ?_
        refine oi (by decide) ?_
        refine callN (bcheck b hb.levels) ?_
        refine And.intro (fun h2 => ?_) (fun h2 => ?_)
        · have h2 : (errG b != 0) = true := h2
          exact SubR.of_eq (by unfold err2; rw [ea, h2]; rfl)
        · have h2 : (errG b != 0) = false := h2
          refine ⟨2, ⟨by omega, fun _ => ea, fun _ => by simpa using h2⟩, by omega, ?_⟩
          exact SubI.of0 href [] rfl ⟨⟨rfl, LeBx.rfl⟩, ⟨rfl, LeBx.rfl⟩, ⟨rfl, LeBx.rfl⟩, trivial⟩ ⟨⟨rfl, LeQ.rfl⟩, ⟨rfl, LeQ.rfl⟩, ⟨rfl, LeQ.rfl⟩, ⟨rfl, LeQ.rfl⟩, ⟨rfl, LeQ.int rfl⟩, trivial⟩
    · have h : ¬ (i : Int) < 2 := decF h
      have ea := ea (by omega)
      have eb := eb (by omega)
      refine callN (bcells a) ?_
      refine callN (bcells b) ?_
      refine And.intro (by kernel_rfl) ?_
      have e : err2 a b = bif !sameC a b then 10 else 0 := by unfold err2; rw [ea, eb]; rfl
      refine And.intro (fun h2 => ?_) (fun h2 => ?_)
      · have h2 : (!sameC a b) = true := h2
        exact SubR.of_eq (by rw [e, h2]; rfl)
      · have h2 : (!sameC a b) = false := h2
        exact SubR.of_eq (by rw [e, h2]; rfl)
end Go.Ch

namespace Go.Ch
open Go Go.Ax Go.Proofs Go.Proofs.Try
set_option maxRecDepth 100000
set_option pp.maxSteps 400
set_option maxHeartbeats 1000000

/-- Cut, fill and unknown cells. -/
structure Chg where
  cut : Int
  fill : Int
  unk : Int
def chS (a b : Grid) (lo hi : Int) (s : Chg) (i : Nat) : Chg :=
  bif !(a.levels.getD i 0 != 30000) || !(b.levels.getD i 0 != 30000) then ⟨s.cut, s.fill, w64 (s.unk + 1)⟩
  else ⟨w64 (s.cut + w64 (w64 (a.side * a.side) * partV lo hi (b.levels.getD i 0) (a.levels.getD i 0))), w64 (s.fill + w64 (w64 (a.side * a.side) * partV lo hi (a.levels.getD i 0) (b.levels.getD i 0))), s.unk⟩
def chF (a b : Grid) (lo hi : Int) : Nat → Chg
  | 0 => ⟨0, 0, 0⟩
  | i + 1 => chS a b lo hi (chF a b lo hi i) i
abbrev chg (s : Chg) : AV := .g [.d (dI s.cut), .d (dI s.fill), .d (dI s.unk)]
abbrev chgB (s : Chg) : Box := .cells [.d (dI s.cut), .d (dI s.fill), .d (dI s.unk)]
theorem bchange (a b : Grid) (lo hi : Int) (ha : a.levels.length ≤ 1000000) (hb : b.levels.length = a.levels.length) :
    CallP Try.prog 89 [grid a, grid b, .g [.d (dI lo), .d (dI hi)], .s (.d (.clo 91 0 fun _ => .junk))] (chg (chF a b lo hi a.levels.length)) := by
  refine callP_of_ex (rc := []) (N := 77) Try.func89 rfl rfl Try.call89 tab_ok mix rfl rfl (fun cx href => ?_)
  refine AW.loopI (fun i : Nat => ⟨[(3, .s (.d (.clo 91 0 fun _ => .junk))), (4, .s (.ptr 4 0)), (5, .s (.ptr 5 0)), (6, .s (.ptr 6 0)), (8, .s (.ptr 8 0)), (9, .s (.ptr 9 0)), (10, vI (w64 (a.side * a.side))), (21, vI a.levels.length), (22, vI i)],
      [(4, some (gridB a)), (5, some (gridB b)), (6, some (.cells [.d (dI lo), .d (dI hi)])), (8, some (chgB ⟨0, 0, 0⟩)), (9, some (chgB (chF a b lo hi i)))]⟩)
    (fun i => i ≤ a.levels.length) (fun i => a.levels.length - i) 0 (Nat.zero_le _) ?_ ?_
  · exact SubI.of0 href [] rfl ⟨⟨rfl, LeBx.rfl⟩, ⟨rfl, LeBx.rfl⟩, ⟨rfl, LeBx.rfl⟩, ⟨rfl, LeBx.rfl⟩, ⟨rfl, LeBx.rfl⟩, trivial⟩ ⟨⟨rfl, LeQ.rfl⟩, ⟨rfl, LeQ.rfl⟩, ⟨rfl, LeQ.rfl⟩, ⟨rfl, LeQ.rfl⟩, ⟨rfl, LeQ.rfl⟩, ⟨rfl, LeQ.rfl⟩, ⟨rfl, LeQ.rfl⟩, ⟨rfl, LeQ.rfl⟩, ⟨rfl, LeQ.rfl⟩, trivial⟩
  · intro i hi'
    refine ex.sound (rc := []) tab_ok mix href _ ?_
    refine And.intro (fun h => ?_) (fun h => ?_)
    · have h : (i : Int) < a.levels.length := decT h
      refine oi ⟨by omega, by omega⟩ ?_
      refine oi ⟨by omega, by omega⟩ ?_
      refine And.intro (by kernel_rfl) ?_
      refine callN (bany i) ?_
      refine And.intro (fun h2 => by cases h2) (fun _ => ?_)
      refine callN (bknown a i (by omega) ha) ?_
      repeat first | refine sk ?_ | refine st ?_ | refine sg ?_ | refine sh ?_ | refine su ?_ | refine sn1 ?_ | refine sn0 ?_
      refine callG (bknown b i (by omega) (by omega)) ?_
      repeat first | refine sk ?_ | refine st ?_ | refine sg ?_ | refine sh ?_ | refine su ?_ | refine sn1 ?_ | refine sn0 ?_
      refine And.intro (fun h2 => ?_) (fun h2 => ?_)
      · have h2 : (!(a.levels.getD i 0 != 30000) || !(b.levels.getD i 0 != 30000)) = true := h2
        have e : chF a b lo hi (i + 1) = ⟨(chF a b lo hi i).cut, (chF a b lo hi i).fill, w64 ((chF a b lo hi i).unk + 1)⟩ := by rw [chF, chS, h2]; rfl
        refine ⟨i + 1, by omega, by omega, ?_⟩
        exact SubI.of0 href [] rfl ⟨⟨rfl, LeBx.rfl⟩, ⟨rfl, LeBx.rfl⟩, ⟨rfl, LeBx.rfl⟩, ⟨rfl, LeBx.rfl⟩, ⟨rfl, LeBx.of_eq (by rw [e]; rfl)⟩, trivial⟩ ⟨⟨rfl, LeQ.rfl⟩, ⟨rfl, LeQ.rfl⟩, ⟨rfl, LeQ.rfl⟩, ⟨rfl, LeQ.rfl⟩, ⟨rfl, LeQ.rfl⟩, ⟨rfl, LeQ.rfl⟩, ⟨rfl, LeQ.rfl⟩, ⟨rfl, LeQ.rfl⟩, ⟨rfl, LeQ.int (w64_of (by omega) (by omega))⟩, trivial⟩
      · have h2 : (!(a.levels.getD i 0 != 30000) || !(b.levels.getD i 0 != 30000)) = false := h2
        have e : chF a b lo hi (i + 1) = ⟨w64 ((chF a b lo hi i).cut + w64 (w64 (a.side * a.side) * partV lo hi (b.levels.getD i 0) (a.levels.getD i 0))), w64 ((chF a b lo hi i).fill + w64 (w64 (a.side * a.side) * partV lo hi (a.levels.getD i 0) (b.levels.getD i 0))), (chF a b lo hi i).unk⟩ := by rw [chF, chS, h2]; rfl
        refine callN (bpart lo hi _ _) ?_
        refine And.intro (by kernel_rfl) ?_
        refine callN (bpart lo hi _ _) ?_
        refine And.intro (by kernel_rfl) ?_
        refine ⟨i + 1, by omega, by omega, ?_⟩
        exact SubI.of0 href [] rfl ⟨⟨rfl, LeBx.rfl⟩, ⟨rfl, LeBx.rfl⟩, ⟨rfl, LeBx.rfl⟩, ⟨rfl, LeBx.rfl⟩, ⟨rfl, LeBx.of_eq (by rw [e]; rfl)⟩, trivial⟩ ⟨⟨rfl, LeQ.rfl⟩, ⟨rfl, LeQ.rfl⟩, ⟨rfl, LeQ.rfl⟩, ⟨rfl, LeQ.rfl⟩, ⟨rfl, LeQ.rfl⟩, ⟨rfl, LeQ.rfl⟩, ⟨rfl, LeQ.rfl⟩, ⟨rfl, LeQ.rfl⟩, ⟨rfl, LeQ.int (w64_of (by omega) (by omega))⟩, trivial⟩
    · have h : ¬ (i : Int) < a.levels.length := decF h
      obtain rfl : i = a.levels.length := by omega
      exact SubR.refl _
theorem sameC_len {a b : Grid} (ga : GVal a) (gb : GVal b) (h : sameC a b = true) : b.levels.length = a.levels.length := by
  unfold sameC at h
  simp only [Bool.and_eq_true, beq_iff_eq] at h
  have h1 := ga.len
  have h2 := gb.len
  rw [h.2.2.2.1, h.2.2.2.2.1] at h1
  omega
theorem err2_zero {a b : Grid} (h : err2 a b = 0) : errG a = 0 ∧ errG b = 0 ∧ sameC a b = true := by
  unfold err2 at h
  cases h1 : errG a != 0 with
  | true => rw [h1] at h; simp at h1; exact absurd h h1
  | false =>
    cases h2 : errG b != 0 with
    | true => rw [h1, h2] at h; simp at h2; exact absurd h h2
    | false =>
      cases h3 : sameC a b with
      | false => rw [h1, h2, h3] at h; cases h
      | true => simp at h1 h2; exact ⟨h1, h2, rfl⟩
def cmpR (a b : Grid) : Chg × Int := bif err2 a b != 0 then (⟨0, 0, 0⟩, err2 a b) else (chF a b (-20000) 20000 a.levels.length, 0)
attribute [local irreducible] err2 in
theorem gCompare (a b : Grid) (ha : a.ok) (hb : b.ok) : CallP Try.prog 34 [grid a, grid b] (.t [.g [.d (dI (cmpR a b).1.cut), .d (dI (cmpR a b).1.fill), .d (dI (cmpR a b).1.unk)], .s (.d (dI (cmpR a b).2))]) := by
  refine callP_of_ex (rc := []) (N := 18) Try.func34 rfl rfl Try.call34 tab_ok mix rfl rfl (fun cx href => ?_)
  refine callN (bboth a b ha hb) ?_
  refine And.intro (fun h => ?_) (fun h => ?_)
  · have h : (err2 a b != 0) = true := h
    rw [show cmpR a b = (⟨0, 0, 0⟩, err2 a b) by unfold cmpR; rw [h]; rfl]
    exact SubR.refl _
  · have h : (err2 a b != 0) = false := h
    obtain ⟨e1, e2, e3⟩ := err2_zero (show err2 a b = 0 by simpa using h)
    have ga := GVal.of e1
    have gb := GVal.of e2
    have hn := ga.n
    rw [show cmpR a b = (chF a b (-20000) 20000 a.levels.length, 0) by unfold cmpR; rw [h]; rfl]
    refine callN ball ?_
    refine callN ((bchange a b (-20000) 20000 (by omega) (sameC_len ga gb e3)).conv (args' := _) ⟨⟨LeD.refl _, LeD.refl _, LeD.refl _, LeD.refl _, LeD.refl _, LeD.refl _, trivial⟩, ⟨LeD.refl _, LeD.refl _, LeD.refl _, LeD.refl _, LeD.refl _, LeD.refl _, trivial⟩, ⟨LeD.refl _, LeD.refl _, trivial⟩, LeD.clo fun j hj => absurd hj (Nat.not_lt_zero j), trivial⟩) ?_
    refine And.intro (by kernel_rfl) ?_
    exact SubR.refl _
end Go.Ch
