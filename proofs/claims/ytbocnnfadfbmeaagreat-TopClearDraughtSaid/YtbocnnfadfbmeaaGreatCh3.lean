/- Part Ch3: lemmas that the proofs of this seat share; by itself it claims nothing. -/
import Derived.Test.YtbocnnfadfbmeaaGreatCh2
namespace Go.Ch
open Go Go.Ax Go.Proofs Go.Proofs.Tryz
set_option maxRecDepth 100000
set_option pp.maxSteps 400
set_option maxHeartbeats 1000000

structure GVal (g : Grid) : Prop where
  x : -1000000 ≤ g.x ∧ g.x ≤ 1000000
  y : -1000000 ≤ g.y ∧ g.y ≤ 1000000
  side : 100 ≤ g.side ∧ g.side ≤ 10000
  cols : 1 ≤ g.cols ∧ g.cols ≤ 1024
  rows : 1 ≤ g.rows ∧ g.rows ≤ 1024
  most : g.cols * g.rows ≤ 1024
  right : g.x + g.cols * g.side ≤ 1000000
  top : g.y + g.rows * g.side ≤ 1000000
  len : (g.levels.length : Int) = g.cols * g.rows
  lev : ∀ n ∈ g.levels, n = 30000 ∨ (-20000 ≤ n ∧ n ≤ 20000)
theorem GVal.of {g : Grid} (h : errG g = 0) : GVal g := by
  unfold errG at h
  cases h1 : e1 g with
  | true => rw [h1] at h; cases h
  | false =>
    rw [h1] at h
    unfold e1 at h1
    simp only [Bool.or_eq_false_iff, Bool.not_eq_false'] at h1
    obtain ⟨⟨⟨⟨q1, q2⟩, q3⟩, q4⟩, q5⟩ := h1
    simp only [within, Bool.and_eq_true, decide_eq_true_eq, ge_iff_le] at q1 q2 q3 q4 q5
    have m1 := mul_le_of (a := g.cols) (b := g.rows) (A := 1024) (B := 1024) (by omega) (by omega) (by omega) (by omega)
    have m2 := mul_le_of (a := g.cols) (b := g.side) (A := 1024) (B := 10000) (by omega) (by omega) (by omega) (by omega)
    have m3 := mul_le_of (a := g.rows) (b := g.side) (A := 1024) (B := 10000) (by omega) (by omega) (by omega) (by omega)
    rw [w64_of (n := g.cols * g.rows) (by omega) (by omega), w64_of (n := g.cols * g.side) (by omega) (by omega), w64_of (n := g.rows * g.side) (by omega) (by omega),
      w64_of (n := g.x + g.cols * g.side) (by omega) (by omega), w64_of (n := g.y + g.rows * g.side) (by omega) (by omega)] at h
    cases h2 : decide (g.cols * g.rows > 1024) with
    | true => rw [h2] at h; cases h
    | false =>
      rw [h2] at h
      cases h3 : (decide (g.x + g.cols * g.side > 1000000) || decide (g.y + g.rows * g.side > 1000000)) with
      | true => rw [h3] at h; cases h
      | false =>
        rw [h3] at h
        cases h4 : ((g.levels.length : Int) != g.cols * g.rows) with
        | true => rw [h4] at h; cases h
        | false =>
          rw [h4] at h
          cases h5 : g.levels.any badL with
          | true => rw [h5] at h; cases h
          | false =>
            simp only [Bool.or_eq_false_iff, decide_eq_false_iff_not] at h2 h3
            have h4 : (g.levels.length : Int) = g.cols * g.rows := by simpa using h4
            refine ⟨q1, q2, q3, q4, q5, by omega, by omega, by omega, h4, fun n hn => ?_⟩
            rw [List.any_eq_false] at h5
            have := h5 n hn
            by_cases hu : n = 30000
            · exact .inl hu
            · right
              simp [badL, within, hu] at this
              omega
theorem GVal.n {g : Grid} (h : GVal g) : g.levels.length ≤ 1024 := by have := h.len; have := h.most; omega
theorem centre_good {g : Grid} (h : GVal g) {i : Nat} (hi : i < g.levels.length) : good (centreG g i) = true ∧
    centreG g i = ⟨g.x + (i : Int) % g.cols * g.side + g.side / 2, g.y + (i : Int) / g.cols * g.side + g.side / 2⟩ := by
  obtain ⟨hx, hy, hs, hc, hr, hm, hR, hT, hl, _⟩ := h
  have i0 : (0 : Int) ≤ (i : Int) := by omega
  have e1 : (i : Int).tmod g.cols = (i : Int) % g.cols := Int.tmod_eq_emod_of_nonneg i0
  have e2 : (i : Int).tdiv g.cols = (i : Int) / g.cols := Int.tdiv_eq_ediv_of_nonneg i0
  have m0 := Int.emod_nonneg (i : Int) (show g.cols ≠ 0 by omega)
  have m1 := Int.emod_lt_of_pos (i : Int) (show 0 < g.cols by omega)
  have d0 := Int.ediv_nonneg i0 (show 0 ≤ g.cols by omega)
  have d1 : (i : Int) / g.cols < g.rows := by
    apply Int.ediv_lt_of_lt_mul (by omega)
    rw [Int.mul_comm g.rows, ← hl]; omega
  have p1 : (i : Int) % g.cols * g.side ≤ (g.cols - 1) * g.side := Int.mul_le_mul_of_nonneg_right (by omega) (by omega)
  have p0 : 0 ≤ (i : Int) % g.cols * g.side := Int.mul_nonneg m0 (by omega)
  have p2 : (i : Int) / g.cols * g.side ≤ (g.rows - 1) * g.side := Int.mul_le_mul_of_nonneg_right (by omega) (by omega)
  have p3 : 0 ≤ (i : Int) / g.cols * g.side := Int.mul_nonneg d0 (by omega)
  rw [Int.sub_mul] at p1 p2
  have hh : g.side.tdiv 2 = g.side / 2 := Int.tdiv_eq_ediv_of_nonneg (by omega)
  have key : centreG g i = ⟨g.x + (i : Int) % g.cols * g.side + g.side / 2, g.y + (i : Int) / g.cols * g.side + g.side / 2⟩ := by
    unfold centreG cornerG
    simp only [e1, e2, hh]
    have lt : (i : Int) / g.cols ≤ 1024 := by omega
    rw [w64_of (n := (i : Int) % g.cols * g.side) (by omega) (by omega), w64_of (n := (i : Int) / g.cols) (by omega) (by omega), w64_of (n := (i : Int) / g.cols * g.side) (by omega) (by omega), w64_of (n := g.side / 2) (by omega) (by omega),
      w64_of (n := g.x + (i : Int) % g.cols * g.side) (by omega) (by omega), w64_of (n := g.y + (i : Int) / g.cols * g.side) (by omega) (by omega), w64_of (by omega) (by omega), w64_of (by omega) (by omega)]
  refine ⟨?_, key⟩
  rw [good_iff, key]
  simp only
  omega

abbrev gridB (g : Grid) : Box := .cells [.d (dI g.x), .d (dI g.y), .d (dI g.side), .d (dI g.cols), .d (dI g.rows), .d (dInts g.levels)]
/-- What one cell adds. -/
def payS (h : Int → Int → Int → Int) (b a : Grid) (over sum : Int) (i : Nat) (level : Int) : Int :=
  bif b.levels.getD i 0 != 30000 && a.levels.getD i 0 != 30000 then w64 (sum + w64 (w64 (b.side * b.side) * mm true 0 (h (b.levels.getD i 0) (a.levels.getD i 0) (w64 (level - over))))) else sum
abbrev payB (fh : Nat) (c : Chan) (b a : Grid) (sum : Int) : BoxL := [(1001, gridB b), (1002, gridB a), (1003, .cells [.d (dI sum)]), (1004, .cells [.d (.clo fh 0 fun _ => .junk)]), (1005, chanB c)]
theorem removed1 (fh : Nat) (h : Int → Int → Int → Int) (hh : ∀ x y z, CallP Tryz.prog fh [vI x, vI y, vI z] (vI (h x y z))) (c : Chan) (b a : Grid) (sum : Int) (i : Nat) (level : Int) (hb : i < b.levels.length) (ha : i < a.levels.length) :
    CallR Tryz.prog 82 [vI i, vI level, .s (.ptr 1001 0), .s (.ptr 1002 0), .s (.ptr 1003 0), .s (.ptr 1004 0), .s (.ptr 1005 0)] (payB fh c b a sum) (.t []) (payB fh c b a (payS h b a c.over sum i level)) := by
  refine callR_of_ex (rc := []) (N := 48) Tryz.func82 rfl rfl Tryz.call82 tab_ok mix rfl rfl rfl rfl (fun cx href => ?_)
  refine oi ⟨by omega, by omega⟩ ?_
  repeat first | refine sk ?_ | refine st ?_ | refine sg ?_ | refine sh ?_ | refine su ?_ | refine sn1 ?_ | refine sn0 ?_
  refine og (fun _ => ⟨by omega, by omega⟩) ?_
  repeat first | refine sk ?_ | refine st ?_ | refine sg ?_ | refine sh ?_ | refine su ?_ | refine sn1 ?_ | refine sn0 ?_
  refine And.intro (fun h1 => ?_) (fun h1 => ?_)
  · have h1 : (b.levels.getD i 0 != 30000 && a.levels.getD i 0 != 30000) = true := h1
    refine oi ⟨by omega, by omega⟩ ?_
    refine oi ⟨by omega, by omega⟩ ?_
    refine callN (hh _ _ _) ?_
    refine And.intro (by kernel_rfl) ?_
    have e : payS h b a c.over sum i level = w64 (sum + w64 (w64 (b.side * b.side) * mm true 0 (h (b.levels.getD i 0) (a.levels.getD i 0) (w64 (level - c.over))))) := by unfold payS; rw [h1]; rfl
    rw [e]
    exact ⟨SubR.refl _, rfl, rfl, rfl, rfl, rfl, trivial⟩
  · have h1 : (b.levels.getD i 0 != 30000 && a.levels.getD i 0 != 30000) = false := h1
    have e : payS h b a c.over sum i level = sum := by unfold payS; rw [h1]; rfl
    rw [e]
    exact ⟨SubR.refl _, rfl, rfl, rfl, rfl, rfl, trivial⟩
end Go.Ch

namespace Go.Ch
open Go Go.Ax Go.Proofs Go.Proofs.Tryz
set_option maxRecDepth 100000
set_option pp.maxSteps 400
set_option maxHeartbeats 1000000

def payL (h : Int → Int → Int → Int) (c : Chan) (b a : Grid) : Nat → Int
  | 0 => 0
  | i + 1 => bif (desF c (centreG b i)).2 then payS h b a c.over (payL h c b a i) i (desF c (centreG b i)).1 else payL h c b a i
theorem errG_val {g : Grid} (h : GVal g) : g.levels.length ≤ 9223372036854775807 := by have := h.n; omega
theorem designedPay (fh : Nat) (h : Int → Int → Int → Int) (hh : ∀ x y z, CallP Tryz.prog fh [vI x, vI y, vI z] (vI (h x y z))) (c : Chan) (b a : Grid) (hv : Val c) (eb : errG b = 0) (hl : a.levels.length = b.levels.length) :
    CallR Tryz.prog 81 [chan c, grid b, .s (.clo 82 [.ptr 1001 0, .ptr 1002 0, .ptr 1003 0, .ptr 1004 0, .ptr 1005 0])] (payB fh c b a 0) (.t []) (payB fh c b a (payL h c b a b.levels.length)) := by
  have gb := GVal.of eb
  have hn := gb.n
  refine callR_of_ex (rc := [82]) (N := 29) Tryz.func81 rfl rfl Tryz.call81 tab_ok mix rfl rfl rfl rfl (fun cx href => ?_)
  refine AW.loopI (fun i : Nat => ⟨[(2, .s (.clo 82 [.ptr 1001 0, .ptr 1002 0, .ptr 1003 0, .ptr 1004 0, .ptr 1005 0])), (3, .s (.ptr 3 0)), (4, .s (.ptr 4 0)), (11, vI b.levels.length), (12, vI i)],
      [(3, some (chanB c)), (4, some (gridB b)), (1001, some (gridB b)), (1002, some (gridB a)), (1003, some (.cells [.d (dI (payL h c b a i))])), (1004, some (.cells [.d (.clo fh 0 fun _ => .junk)])), (1005, some (chanB c))]⟩)
    (fun i => i ≤ b.levels.length) (fun i => b.levels.length - i) 0 (Nat.zero_le _) ?_ ?_
  · exact SubI.of [] (by rw [href]; rfl) rfl ⟨⟨rfl, LeBx.rfl⟩, ⟨rfl, LeBx.rfl⟩, ⟨rfl, LeBx.rfl⟩, ⟨rfl, LeBx.rfl⟩, ⟨rfl, LeBx.rfl⟩, ⟨rfl, LeBx.rfl⟩, ⟨rfl, LeBx.rfl⟩, trivial⟩ ⟨⟨rfl, LeQ.rfl⟩, ⟨rfl, LeQ.rfl⟩, ⟨rfl, LeQ.rfl⟩, ⟨rfl, LeQ.rfl⟩, ⟨rfl, LeQ.rfl⟩, trivial⟩
  · intro i hi
    refine ex.sound (rc := [82]) tab_ok mix href _ ?_
    refine And.intro (fun h1 => ?_) (fun h1 => ?_)
    · have h1 : (i : Int) < b.levels.length := decT h1
      have hi' : i < b.levels.length := by omega
      have hg := (centre_good gb hi').1
      refine callN (ccentre b i eb (by omega) (by omega) (by omega)) ?_
      refine callN (design c (centreG b i) hv hg) ?_
      refine And.intro (by kernel_rfl) ?_
      refine And.intro (fun h2 => ?_) (fun h2 => ?_)
      · have h2 : (desF c (centreG b i)).2 = true := h2
        have e : payL h c b a (i + 1) = payS h b a c.over (payL h c b a i) i (desF c (centreG b i)).1 := by rw [payL, h2]; rfl
        refine ⟨[], _, _, _, _, removed1 fh h hh c b a (payL h c b a i) i (desF c (centreG b i)).1 hi' (by omega), rfl, ⟨rfl, rfl, rfl, rfl, rfl, trivial⟩, rfl, ?_⟩
        refine ⟨i + 1, by omega, by omega, ?_⟩
        exact SubI.of [] (by rw [href]; rfl) rfl ⟨⟨rfl, LeBx.rfl⟩, ⟨rfl, LeBx.rfl⟩, ⟨rfl, LeBx.rfl⟩, ⟨rfl, LeBx.rfl⟩, ⟨rfl, LeBx.of_eq (by rw [e])⟩, ⟨rfl, LeBx.rfl⟩, ⟨rfl, LeBx.rfl⟩, trivial⟩ ⟨⟨rfl, LeQ.rfl⟩, ⟨rfl, LeQ.rfl⟩, ⟨rfl, LeQ.rfl⟩, ⟨rfl, LeQ.rfl⟩, ⟨rfl, LeQ.int (w64_of (by omega) (by omega))⟩, trivial⟩
      · have h2 : (desF c (centreG b i)).2 = false := h2
        have e : payL h c b a (i + 1) = payL h c b a i := by rw [payL, h2]; rfl
        refine ⟨i + 1, by omega, by omega, ?_⟩
        exact SubI.of [] (by rw [href]; rfl) rfl ⟨⟨rfl, LeBx.rfl⟩, ⟨rfl, LeBx.rfl⟩, ⟨rfl, LeBx.rfl⟩, ⟨rfl, LeBx.rfl⟩, ⟨rfl, LeBx.of_eq (by rw [e]; rfl)⟩, ⟨rfl, LeBx.rfl⟩, ⟨rfl, LeBx.rfl⟩, trivial⟩ ⟨⟨rfl, LeQ.rfl⟩, ⟨rfl, LeQ.rfl⟩, ⟨rfl, LeQ.rfl⟩, ⟨rfl, LeQ.rfl⟩, ⟨rfl, LeQ.int (w64_of (by omega) (by omega))⟩, trivial⟩
    · have h1 : ¬ (i : Int) < b.levels.length := decF h1
      have hi' : i = b.levels.length := by omega
      subst hi'
      exact ⟨SubR.refl _, rfl, rfl, rfl, rfl, rfl, trivial⟩
abbrev rIE (n e : Int) : AV := .t [.s (.d (dI n)), .s (.d (dI e))]
theorem alike_len {a b : Grid} (ha : GVal a) (hb : GVal b) (h : alike a b = true) : b.levels.length = a.levels.length := by
  unfold alike at h
  simp only [Bool.and_eq_true, beq_iff_eq] at h
  have h1 := ha.len
  have h2 := hb.len
  rw [h.1.2, h.2] at h1
  omega
theorem withErr2_zero {c : Chan} {a b : Grid} (h : withErr c [a, b] = 0) : errC c = 0 ∧ errG a = 0 ∧ errG b = 0 ∧ alike a b = true := by
  rw [withErr2] at h
  cases h1 : errC c != 0 with
  | true => rw [h1] at h; simp at h1; exact absurd h h1
  | false =>
    cases h2 : errG a != 0 with
    | true => rw [h1, h2] at h; simp at h2; exact absurd h h2
    | false =>
      cases h3 : errG b != 0 with
      | true => rw [h1, h2, h3] at h; simp at h3; exact absurd h h3
      | false =>
        cases h4 : alike a b with
        | false => rw [h1, h2, h3, h4] at h; cases h
        | true => simp at h1 h2 h3; exact ⟨h1, h2, h3, rfl⟩
def remF (h : Int → Int → Int → Int) (c : Chan) (b a : Grid) : Int := bif withErr c [b, a] != 0 then 0 else payL h c b a b.levels.length
attribute [local irreducible] withErr in
theorem removed (fh : Nat) (h : Int → Int → Int → Int) (hh : ∀ x y z, CallP Tryz.prog fh [vI x, vI y, vI z] (vI (h x y z))) (c : Chan) (b a : Grid) (hc : c.ok) (hb : b.ok) (ha : a.ok) :
    CallP Tryz.prog 49 [chan c, grid b, grid a, .s (.d (.clo fh 0 fun _ => .junk))] (rIE (remF h c b a) (withErr c [b, a])) := by
  refine callP_of_ex (rc := [81]) (N := 24) Tryz.func49 rfl rfl Tryz.call49 tab_ok mix rfl rfl (fun cx href => ?_)
  refine callN (cthree c b a hc hb ha) ?_
  refine And.intro (fun h1 => ?_) (fun h1 => ?_)
  · exact SubR.of_eq (by unfold remF; rw [show (withErr c [b, a] != 0) = true from h1]; rfl)
  have h1 : (withErr c [b, a] != 0) = false := h1
  have h0 : withErr c [b, a] = 0 := by simpa using h1
  obtain ⟨e1, e2, e3, e4⟩ := withErr2_zero h0
  refine ⟨[(1001, 5), (1002, 6), (1003, 11), (1004, 7), (1005, 4)], _, _, _, _, designedPay fh h hh c b a (val_of c e1) e2 (alike_len (GVal.of e2) (GVal.of e3) e4), rfl, ⟨rfl, rfl, rfl, rfl, rfl, trivial⟩, rfl, ?_⟩
  exact SubR.of_eq (by unfold remF; rw [h1, h0]; rfl)
def paidH (x y z : Int) : Int := w64 (x - mm true y z)
def overH (x y z : Int) : Int := w64 (mm false x z - y)
theorem gPaid (c : Chan) (b a : Grid) (hc : c.ok) (hb : b.ok) (ha : a.ok) : CallP Tryz.prog 21 [chan c, grid b, grid a] (rIE (remF paidH c b a) (withErr c [b, a])) := by
  refine callP_of_ex (rc := []) (N := 14) Tryz.func21 rfl rfl Tryz.call21 tab_ok mix rfl rfl (fun cx href => ?_)
  refine callN ((removed 50 paidH paid1 c b a hc hb ha).conv (args' := _) ⟨⟨LeD.refl _, LeD.refl _, LeD.refl _, LeD.refl _, LeD.refl _, trivial⟩, ⟨LeD.refl _, LeD.refl _, LeD.refl _, LeD.refl _, LeD.refl _, LeD.refl _, trivial⟩, ⟨LeD.refl _, LeD.refl _, LeD.refl _, LeD.refl _, LeD.refl _, LeD.refl _, trivial⟩, LeD.clo fun j hj => absurd hj (Nat.not_lt_zero j), trivial⟩) ?_
  exact SubR.refl _
theorem gOvercut (c : Chan) (b a : Grid) (hc : c.ok) (hb : b.ok) (ha : a.ok) : CallP Tryz.prog 23 [chan c, grid b, grid a] (rIE (remF overH c b a) (withErr c [b, a])) := by
  refine callP_of_ex (rc := []) (N := 14) Tryz.func23 rfl rfl Tryz.call23 tab_ok mix rfl rfl (fun cx href => ?_)
  refine callN ((removed 51 overH over1 c b a hc hb ha).conv (args' := _) ⟨⟨LeD.refl _, LeD.refl _, LeD.refl _, LeD.refl _, LeD.refl _, trivial⟩, ⟨LeD.refl _, LeD.refl _, LeD.refl _, LeD.refl _, LeD.refl _, LeD.refl _, trivial⟩, ⟨LeD.refl _, LeD.refl _, LeD.refl _, LeD.refl _, LeD.refl _, LeD.refl _, trivial⟩, LeD.clo fun j hj => absurd hj (Nat.not_lt_zero j), trivial⟩) ?_
  exact SubR.refl _
end Go.Ch

namespace Go.Ch
open Go Go.Ax Go.Proofs Go.Proofs.Tryz
set_option maxRecDepth 100000
set_option pp.maxSteps 400
set_option maxHeartbeats 1000000

theorem catF0 {f g : Nat → Nat → DV} : catF 0 f g = g := by
  funext i j
  unfold catF
  rw [if_neg (Nat.not_lt_zero i), Nat.sub_zero]
theorem CopyIntsO (l : List Int) (hl : l.length ≤ 1000000) : CallR Tryz.prog 70 [vInts l] [] (.s (.own 5)) [(5, .row 3 l.length 1 (intEl l))] := by
  refine callO_of_ex (rc := []) (N := 6) Tryz.func70 rfl rfl Tryz.call70 tab_ok mix rfl rfl rfl rfl (fun cx _ => ?_)
  refine ob (show (0 + l.length) * 8 ≤ _ by omega) ?_
  refine ob ?_ ?_
  · exact fun k j hk hj => rfl
  refine ⟨LeQ.rfl, ?_, trivial⟩
  show some (some (Box.row 3 (0 + l.length) 1 (catF 0 _ (intEl l)))) = _
  rw [Nat.zero_add, catF0]
theorem CopyGridO (g : Grid) (hl : g.levels.length ≤ 1000000) : CallR Tryz.prog 34 [grid g] [] (.g [.d (dI g.x), .d (dI g.y), .d (dI g.side), .d (dI g.cols), .d (dI g.rows), .own 501]) [(501, .row 3 g.levels.length 1 (intEl g.levels))] := by
  refine callO_of_ex (rc := [70]) (N := 8) Tryz.func34 rfl rfl Tryz.call34 tab_ok mix rfl rfl rfl rfl (fun cx _ => ?_)
  refine ⟨[(5, 501)], _, _, _, _, CopyIntsO g.levels hl, rfl, trivial, rfl, ?_⟩
  exact ⟨LeQ.rfl, rfl, trivial⟩

/-- A cell's level of the design, less something. -/
def cellT (c : Chan) (g : Grid) (less : Int) (i : Nat) : Int := bif (desF c (centreG g i)).2 then w64 ((desF c (centreG g i)).1 - less) else 30000
def designG (c : Chan) (g : Grid) (less : Int) : Grid := { g with levels := (List.range g.levels.length).map (cellT c g less) }
def dgF (c : Chan) (g : Grid) (less : Int) (i : Nat) : Nat → Nat → DV := fun k _ => dI (if k < i then cellT c g less k else g.levels.getD k 0)
theorem rowSet_self {f : Nat → Nat → DV} {i : Nat} {x : DV} : rowSet f i 0 [.d x] i 0 = x := by
  unfold rowSet; rw [if_pos rfl]; rfl
theorem rowSet_ne {f : Nat → Nat → DV} {i k j : Nat} {cs : List SV} (h : k ≠ i) : rowSet f i 0 cs k j = f k j := by
  unfold rowSet; rw [if_neg h]
end Go.Ch

namespace Go.Ch
open Go Go.Ax Go.Proofs Go.Proofs.Tryz
set_option maxRecDepth 100000
set_option pp.maxSteps 400
set_option maxHeartbeats 1000000

/-- Bounds of what is computed of a design level. -/
theorem mixE_in {u v s d L U : Int} (hs : 0 < s) (hd : 0 ≤ d) (hd2 : d ≤ s) (h1 : L ≤ u) (h2 : L ≤ v) (h3 : u ≤ U) (h4 : v ≤ U) : L ≤ mixE u v s d ∧ mixE u v s d ≤ U := by
  have a1 : L * (s - d) ≤ u * (s - d) := Int.mul_le_mul_of_nonneg_right h1 (by omega)
  have a2 : L * d ≤ v * d := Int.mul_le_mul_of_nonneg_right h2 hd
  have a3 : u * (s - d) ≤ U * (s - d) := Int.mul_le_mul_of_nonneg_right h3 (by omega)
  have a4 : v * d ≤ U * d := Int.mul_le_mul_of_nonneg_right h4 hd
  have e1 : L * (s - d) + L * d = L * s := by rw [Int.mul_sub]; omega
  have e2 : U * (s - d) + U * d = U * s := by rw [Int.mul_sub]; omega
  unfold mixE
  constructor
  · exact Int.le_ediv_of_mul_le hs (by omega)
  · exact Int.ediv_le_of_le_mul hs (by omega)
structure PrtOk (c : Chan) (x : Prt) : Prop where
  off : 0 ≤ x.offset ∧ x.offset ≤ 8000000000000
  half : 1 ≤ x.half ∧ x.half ≤ 100000
  bottom : c.over - 20000 ≤ x.bottom ∧ x.bottom ≤ 20000
  run : 0 ≤ x.run ∧ x.run ≤ 1000
theorem legP_some {a b : Ap} {p : Pt} {x : Prt} (h : legP a b p = some x) : 0 ≤ dotE a.pt b.pt p ∧ dotE a.pt b.pt p ≤ dotE a.pt b.pt b.pt ∧ x = partE a b p := by
  unfold legP at h
  cases hb : (decide (dotE a.pt b.pt p < 0) || decide (dotE a.pt b.pt p > dotE a.pt b.pt b.pt)) with
  | true => rw [hb] at h; cases h
  | false =>
    rw [hb] at h
    simp only [Bool.or_eq_false_iff, decide_eq_false_iff_not] at hb
    simp only [cond_false, Option.some.injEq] at h
    exact ⟨by omega, by omega, h.symm⟩
theorem bendP_some {a q b : Ap} {p : Pt} {x : Prt} (h : bendP a q b p = some x) : x = ⟨span q.pt p, q.half, q.level, q.run⟩ := by
  unfold bendP at h
  cases hb : (decide (dotE a.pt q.pt p ≤ dotE a.pt q.pt q.pt) || decide (dotE q.pt b.pt p ≥ 0)) with
  | true => rw [hb] at h; cases h
  | false => rw [hb] at h; simp only [cond_false, Option.some.injEq] at h; exact h.symm
theorem parts_ok {c : Chan} {p : Pt} (hv : Val c) (hp : good p = true) {x : Prt} (hx : x ∈ partsL c p) : PrtOk c x := by
  have h2 := hv.n2
  unfold partsL legsL bendsL at hx
  simp only [List.mem_append, List.mem_filterMap, List.mem_range] at hx
  rcases hx with ⟨k, hk, h⟩ | ⟨j, hj, h⟩
  · obtain ⟨d0, d1, rfl⟩ := legP_some h
    have ha := hv.pts k (by omega)
    have hb := hv.pts (k + 1) (by omega)
    have hab := hv.apart k (by omega)
    have hs := sq_pos hab
    have l1 := hv.level k (by omega)
    have l2 := hv.level (k + 1) (by omega)
    have f1 := hv.half k (by omega)
    have f2 := hv.half (k + 1) (by omega)
    exact ⟨offs_le ha hb hp hab, mixE_in hs d0 d1 f1.1 f2.1 f1.2 f2.2, mixE_in hs d0 d1 l1.1 l2.1 l1.2 l2.2, hv.run k (by omega)⟩
  · have := bendP_some h
    subst this
    have hq := hv.pts (j + 1) (by omega)
    have hsp := span_bound hq hp
    exact ⟨⟨hsp.1, Int.le_trans hsp.2 (by omega)⟩, hv.half (j + 1) (by omega), hv.level (j + 1) (by omega), hv.run (j + 1) (by omega)⟩
theorem lvl_ok {c : Chan} {x : Prt} (hx : PrtOk c x) (hv : Val c) (h : (lvlP x).2 = true) : c.over - 20000 ≤ (lvlP x).1 ∧ (lvlP x).1 ≤ 20000 := by
  obtain ⟨h1, h2, h3, h4⟩ := hx
  have ho := hv.over
  unfold lvlP lvl at h ⊢
  cases c1 : decide (x.offset ≤ x.half) with
  | true => rw [c1] at h; exact h3
  | false =>
    rw [c1] at h
    have c1 := decF c1
    cases c2 : (x.run == 0) with
    | true => rw [c2] at h; cases h
    | false =>
      rw [c2] at h
      have c2 : x.run ≠ 0 := by simpa using c2
      have hq : 0 ≤ (x.offset - x.half).tdiv x.run ∧ (x.offset - x.half).tdiv x.run ≤ 8000000000000 := by
        rw [Int.tdiv_eq_ediv_of_nonneg (by omega)]
        exact ⟨Int.ediv_nonneg (by omega) (by omega), Int.le_trans (Int.ediv_le_self _ (by omega)) (by omega)⟩
      have e : w64 (x.bottom + w64 ((w64 (x.offset - x.half)).tdiv x.run)) = x.bottom + (x.offset - x.half).tdiv x.run := by
        rw [w64_of (n := x.offset - x.half) (by omega) (by omega), w64_of (n := (x.offset - x.half).tdiv x.run) (by omega) (by omega), w64_of (by omega) (by omega)]
      simp only [cond_false] at h ⊢
      have h := decT h
      rw [e] at h ⊢
      omega
theorem desF_ok {c : Chan} {p : Pt} (hv : Val c) (hp : good p = true) (h : (desF c p).2 = true) : c.over - 20000 ≤ (desF c p).1 ∧ (desF c p).1 ≤ 20000 := by
  rcases desV_is (partsL c p) with ⟨h1, _⟩ | ⟨_, ⟨x, hx, e⟩, _⟩
  · unfold desF at h; rw [h1] at h; cases h
  · unfold desF at h ⊢
    rw [← e] at h ⊢
    exact lvl_ok (parts_ok hv hp hx) hv h

def setS (c : Chan) (b a : Grid) (r : Int × Int) (i : Nat) : Int × Int :=
  bif b.levels.getD i 0 == 30000 || a.levels.getD i 0 == 30000 || cellT c b c.over i == 30000 then r
  else (w64 (r.1 + w64 (w64 (b.side * b.side) * mm true 0 (w64 (b.levels.getD i 0 - mm true (a.levels.getD i 0) (cellT c b c.over i))))),
        w64 (r.2 + w64 (w64 (b.side * b.side) * mm true 0 (w64 (mm false (b.levels.getD i 0) (cellT c b c.over i) - a.levels.getD i 0)))))
def setF (c : Chan) (b a : Grid) : Nat → Int × Int
  | 0 => (0, 0)
  | i + 1 => setS c b a (setF c b a i) i
theorem designG_len (c : Chan) (g : Grid) (less : Int) : (designG c g less).levels.length = g.levels.length := by simp [designG]
theorem designG_at (c : Chan) (g : Grid) (less : Int) {i : Nat} (h : i < g.levels.length) : (designG c g less).levels.getD i 0 = cellT c g less i := by simp [designG, h]
theorem set_pay (c : Chan) (b a : Grid) (hv : Val c) (gb : GVal b) : ∀ i, i ≤ b.levels.length → setF c b a i = (payL paidH c b a i, payL overH c b a i)
  | 0, _ => rfl
  | i + 1, hi => by
    have hi' : i < b.levels.length := by omega
    have hg := (centre_good gb hi').1
    have ho := hv.over
    rw [setF, set_pay c b a hv gb i (by omega), payL, payL, setS]
    unfold cellT payS
    cases h1 : (desF c (centreG b i)).2 with
    | false => simp
    | true =>
      have hd := desF_ok hv hg h1
      have e : w64 ((desF c (centreG b i)).1 - c.over) = (desF c (centreG b i)).1 - c.over := w64_of (by omega) (by omega)
      simp only [cond_true, e]
      have hne : ((desF c (centreG b i)).1 - c.over == 30000) = false := by
        rw [beq_eq_false_iff_ne]; omega
      rw [hne, Bool.or_false]
      cases h2 : b.levels.getD i 0 == 30000 with
      | true => simp only [bne, h2]; rfl
      | false =>
        cases h3 : a.levels.getD i 0 == 30000 with
        | true => simp only [bne, h2, h3]; rfl
        | false => simp only [bne, h2, h3]; rfl
end Go.Ch

namespace Go.Ch
open Go Go.Ax Go.Proofs Go.Proofs.Tryz
set_option maxRecDepth 100000
set_option pp.maxSteps 400
set_option maxHeartbeats 1000000

def smallH (c : Chan) : Bool :=
  (((decide ((c.name.size : Int) > 40) || (decide ((c.axis.length : Int) > 6) && decide ((c.axis.length : Int) ≤ 20))) || decide ((c.axis.length : Int) > 25)) || (decide ((c.regions.length : Int) > 4) && decide ((c.regions.length : Int) ≤ 20))) || decide ((c.regions.length : Int) > 25)
def smallR (r : Reg) : Bool := ((decide ((r.corners.length : Int) > 8) && decide ((r.corners.length : Int) ≤ 40)) || decide ((r.corners.length : Int) > 45)) || decide ((r.name.size : Int) > 40)
def small (c : Chan) : Bool := !smallH c && !c.regions.any smallR
theorem Small (c : Chan) (hc : c.ok) : CallP Tryz.prog 6 [chan c] (vB (small c)) := by
  have hr := hc.regions
  refine callP_of_ex (rc := []) (N := 89) Tryz.func6 rfl rfl Tryz.call6 tab_ok mix rfl rfl (fun cx href => ?_)
  repeat first | refine sk ?_ | refine st ?_ | refine sg ?_ | refine sh ?_ | refine su ?_ | refine sn1 ?_ | refine sn0 ?_
  refine And.intro (fun h1 => ?_) (fun h1 => ?_)
  · have h1 : smallH c = true := h1
    exact SubR.lit (by unfold small; rw [h1]; rfl)
  have h1 : smallH c = false := h1
  refine AW.loopI (fun i : Nat => ⟨[(1, .s (.ptr 1 0)), (3, vI i)], [(1, some (chanB c))]⟩) (fun i => i ≤ c.regions.length ∧ ∀ j, j < i → smallR (c.regions.getD j default) = false) (fun i => c.regions.length - i) 0 ⟨Nat.zero_le _, fun j hj => absurd hj (Nat.not_lt_zero j)⟩ ?_ ?_
  · exact SubI.of0 href [] rfl ⟨⟨rfl, LeBx.rfl⟩, trivial⟩ ⟨⟨rfl, LeQ.rfl⟩, ⟨rfl, LeQ.rfl⟩, trivial⟩
  · rintro i ⟨hi, hj⟩
    refine ex.sound (rc := []) tab_ok mix href _ ?_
    refine And.intro (fun h => ?_) (fun h => ?_)
    · have h : (i : Int) < c.regions.length := decT h
      refine oi ⟨by omega, by omega⟩ ?_
      repeat first | refine sk ?_ | refine st ?_ | refine sg ?_ | refine sh ?_ | refine su ?_ | refine sn1 ?_ | refine sn0 ?_
      refine og (fun _ => ⟨by omega, by omega⟩) ?_
      repeat first | refine sk ?_ | refine st ?_ | refine sg ?_ | refine sh ?_ | refine su ?_ | refine sn1 ?_ | refine sn0 ?_
      refine og (fun _ => ⟨by omega, by omega⟩) ?_
      repeat first | refine sk ?_ | refine st ?_ | refine sg ?_ | refine sh ?_ | refine su ?_ | refine sn1 ?_ | refine sn0 ?_
      refine og (fun _ => ⟨by omega, by omega⟩) ?_
      repeat first | refine sk ?_ | refine st ?_ | refine sg ?_ | refine sh ?_ | refine su ?_ | refine sn1 ?_ | refine sn0 ?_
      refine And.intro (fun h2 => ?_) (fun h2 => ?_)
      · have h2 : smallR (c.regions.getD i default) = true := h2
        exact SubR.lit (by unfold small; rw [any_getD smallR c.regions i (by omega) h2]; simp)
      · have h2 : smallR (c.regions.getD i default) = false := h2
        refine ⟨i + 1, ⟨by omega, fun j hj' => ?_⟩, by omega, ?_⟩
        · by_cases hji : j = i
          · rw [hji]; exact h2
          · exact hj j (by omega)
        · exact SubI.of0 href [] rfl ⟨⟨rfl, LeBx.rfl⟩, trivial⟩ ⟨⟨rfl, LeQ.rfl⟩, ⟨rfl, LeQ.int (w64_of (by omega) (by omega))⟩, trivial⟩
    · have h : ¬ (i : Int) < c.regions.length := decF h
      exact SubR.lit (by unfold small; rw [h1, any_drop smallR c.regions fun j hj' => hj j (by omega)]; rfl)
structure Sm (c : Chan) : Prop where
  axis : c.axis.length ≤ 25
  regions : c.regions.length ≤ 25
  corners : ∀ i, i < c.regions.length → (c.regions.getD i default).corners.length ≤ 45
theorem Sm.of {c : Chan} (h : small c = true) : Sm c := by
  unfold small at h
  simp only [Bool.and_eq_true, Bool.not_eq_true'] at h
  obtain ⟨h1, h2⟩ := h
  unfold smallH at h1
  simp only [Bool.or_eq_false_iff, decide_eq_false_iff_not] at h1
  refine ⟨by omega, by omega, fun i hi => ?_⟩
  rw [List.any_eq_false] at h2
  have := h2 _ (List.getElem_mem hi)
  rw [getD_of hi]
  unfold smallR at this
  simp at this
  omega
theorem el_sub {α : Type} [Inhabited α] {l : List α} {s : Nat} {el : α → Nat → DV} : RowIs s (0 + l.length) (catF 0 (rowF s []) fun i => el (l.getD i default)) el l := by
  rw [Nat.zero_add, catF0]; exact RowIs.refl
theorem Copied (c : Chan) (hs : Sm c) : CallP Tryz.prog 9 [chan c] (chan c) := by
  have h1 := hs.axis
  have h2 := hs.regions
  refine callP_of_ex (rc := []) (N := 36) Tryz.func9 rfl rfl Tryz.call9 tab_ok mix rfl rfl (fun cx href => ?_)
  refine ob (show (0 + c.axis.length) * 40 ≤ _ by omega) ?_
  refine ob ?_ ?_
  · intro k j hk hj
    match j, hj with
    | 0, _ => rfl
    | 1, _ => rfl
    | 2, _ => rfl
    | 3, _ => rfl
    | 4, _ => rfl
  refine AW.loopM (fun i : Nat => ⟨[(1, .s (.ptr 1 0)), (2, .s (.ptr 2 0)), (3, vRegs c.regions), (4, vI i)],
      [(1, some (.cells [.d (dS c.name), .own 9, .d (dI c.over), .d (dI c.buffer), .mo (c.regions.take i).isEmpty 100])), (2, some (.cells (zvs ty25.zero))), (9, some (.row 68 c.axis.length 5 (apEl c.axis))), (100, some (.mrow 62 (c.regions.take i).length 3 (regEl (c.regions.take i))))]⟩)
    (fun i => i ≤ c.regions.length) (fun i => c.regions.length - i) 0 (Nat.zero_le _) ?_ ?_
  · refine SubM.of_subI (SubI.of0 href [(100, 1000)] rfl ⟨⟨rfl, LeBx.cells ⟨LeQ.rfl, LeQ.rfl, LeQ.rfl, LeQ.rfl, LeQ.nil rfl, trivial⟩⟩, ⟨rfl, LeBx.rfl⟩, ⟨rfl, RowIs.row el_sub⟩, ⟨rfl, rfl⟩, trivial⟩ ⟨⟨rfl, LeQ.rfl⟩, ⟨rfl, LeQ.rfl⟩, ⟨rfl, LeQ.rfl⟩, ⟨rfl, LeQ.rfl⟩, trivial⟩)
  · intro i hi
    refine AW.seq (ex.sound (rc := []) tab_ok mix href _ ?_)
    refine And.intro (fun h => ?_) (fun h => ?_)
    · have h : (i : Int) < c.regions.length := decT h
      have hi' : i < c.regions.length := by omega
      have hcor := hs.corners i hi'
      refine AW.seq (AW.block (AW.seq (ex.sound (rc := []) tab_ok mix href _ ?_)))
      refine oi ⟨by omega, by omega⟩ ?_
      refine AW.seq (ex.sound (rc := []) tab_ok mix href _ ?_)
      refine ob (show (0 + (c.regions.getD i default).corners.length) * 16 ≤ _ by omega) ?_
      refine ob ?_ ?_
      · intro k j hk hj
        match j, hj with
        | 0, _ => rfl
        | 1, _ => rfl
      refine AW.subM (σ' := ⟨[(1, .s (.ptr 1 0)), (2, .s (.ptr 2 0)), (3, vRegs c.regions), (4, vI i), (5, .s (.ptr 5 0))],
      [(1, some (.cells [.d (dS c.name), .own 9, .d (dI c.over), .d (dI c.buffer), .mo (c.regions.take i).isEmpty 100])), (2, some (.cells (zvs ty25.zero))), (5, some (.cells [.d (dS (c.regions.getD i default).name), .d (dI (c.regions.getD i default).kind), .d (dPts (c.regions.getD i default).corners)])), (9, some (.row 68 c.axis.length 5 (apEl c.axis))), (100, some (.mrow 62 (c.regions.take i).length 3 (regEl (c.regions.take i))))]⟩)
        (SubM.of href [] [27] rfl rfl rfl ⟨⟨rfl, LeBxf.rfl⟩, ⟨rfl, LeBxf.rfl⟩, ⟨rfl, LeBxf.cells ⟨LeQf.rfl, LeQf.rfl, (LeQf.own (by simp) rfl).then (LeQ.d (RowIs.slc el_sub)), trivial⟩⟩, ⟨rfl, LeBxf.rfl⟩, ⟨rfl, LeBxf.rfl⟩, trivial⟩ ⟨⟨rfl, LeQf.rfl⟩, ⟨rfl, LeQf.rfl⟩, ⟨rfl, LeQf.rfl⟩, ⟨rfl, LeQf.rfl⟩, ⟨rfl, LeQf.rfl⟩, trivial⟩) ?_
      refine ex.sound (rc := []) tab_ok mix href _ ?_
      refine ob (by decide) ?_
      refine ob (by rw [bif_len]; show _ * 48 ≤ _; simp; omega) ?_
      refine ob (fit1 (lt3 rfl rfl rfl)) ?_
      refine ex.sound (rc := []) tab_ok mix href _ ?_
      have e : c.regions.take (i + 1) = c.regions.take i ++ [c.regions.getD i default] := by rw [List.take_succ_eq_append_getElem hi', getD_of hi']
      refine ⟨i + 1, by omega, by omega, SubM.of_subI ?_⟩
      refine SubI.of0 href [(100, 33)] rfl ⟨⟨rfl, LeBx.cells ⟨LeQ.rfl, LeQ.rfl, LeQ.rfl, LeQ.rfl, LeQ.mo (by rw [e]; exact isEmpty_snoc _ _), trivial⟩⟩, ⟨rfl, LeBx.rfl⟩, ⟨rfl, LeBx.rfl⟩, ⟨rfl, ?_⟩, trivial⟩ ⟨⟨rfl, LeQ.rfl⟩, ⟨rfl, LeQ.rfl⟩, ⟨rfl, LeQ.rfl⟩, ⟨rfl, LeQ.int (w64_of (by omega) (by omega))⟩, trivial⟩
      show LeBx _ (.mrow 62 (c.regions.take (i + 1)).length 3 (regEl (c.regions.take (i + 1))))
      rw [e]
      exact RowIs.mrow (el := regD) (RowIs.snoc RowIs.bif (lt3 rfl rfl rfl))
    · have h : ¬ (i : Int) < c.regions.length := decF h
      have hi' : i = c.regions.length := by omega
      subst hi'
      refine SubR.le ⟨LeD.refl _, LeD.refl _, LeD.refl _, LeD.refl _, ?_, trivial⟩
      rw [List.take_length]
      exact LeD.slc' (bif_len _) fun _ _ _ _ => LeD.refl _
def designR (c : Chan) (p : Pt) : Int × Int := bif errC c != 0 then (0, errC c) else bif !good p then (0, 2) else bif !(desF c p).2 then (0, 11) else ((desF c p).1, 0)
attribute [local irreducible] errC in
theorem gDesign (c : Chan) (p : Pt) (hc : c.ok) : CallP Tryz.prog 19 [chan c, pt p] (rIE (designR c p).1 (designR c p).2) := by
  refine callP_of_ex (rc := []) (N := 26) Tryz.func19 rfl rfl Tryz.call19 tab_ok mix rfl rfl (fun cx href => ?_)
  refine callN (gCheck c hc) ?_
  refine And.intro (fun h1 => ?_) (fun h1 => ?_)
  · exact SubR.of_eq (by unfold designR; rw [h1]; rfl)
  have h0 : errC c = 0 := by simpa using h1
  refine callN (inRange p) ?_
  refine And.intro (fun h2 => ?_) (fun h2 => ?_)
  · exact SubR.of_eq (by unfold designR; rw [h1, h2]; rfl)
  have hp : good p = true := by simpa using h2
  refine callN (design c p (val_of c h0) hp) ?_
  refine And.intro (fun h3 => ?_) (fun h3 => ?_)
  · exact SubR.of_eq (by unfold designR; rw [h1, h2, h3]; rfl)
  · exact SubR.of_eq (by unfold designR; rw [h1, h2, h3]; rfl)
end Go.Ch

namespace Go.Ch
open Go Go.Ax Go.Proofs Go.Proofs.Tryz
set_option maxRecDepth 100000
set_option pp.maxSteps 400
set_option maxHeartbeats 1000000

def mainS : ByteArray := ⟨#[77, 97, 105, 110]⟩
def straightC : Chan := ⟨mainS, [⟨0, 0, 1000, -1000, 4⟩, ⟨10000, 0, 1000, -1000, 4⟩], 30, 0, []⟩
def stripG (n : Int) : Grid := ⟨0, -250, 500, 20, 1, List.replicate 20 n⟩
theorem straight : CallP Tryz.prog 20 [] (chan straightC) := by
  refine callP_of_ex (rc := []) (N := 5) Tryz.func20 rfl rfl Tryz.call20 tab_ok mix rfl rfl (fun cx href => ?_)
  refine SubR.le ⟨LeD.refl _, LeD.slc' rfl fun i j hi hj => LeD.of_eq ?_, LeD.refl _, LeD.refl _, LeD.nil, trivial⟩
  match i, j, hi, hj with
  | 0, 0, _, _ => rfl
  | 0, 1, _, _ => rfl
  | 0, 2, _, _ => rfl
  | 0, 3, _, _ => rfl
  | 0, 4, _, _ => rfl
  | 1, 0, _, _ => rfl
  | 1, 1, _, _ => rfl
  | 1, 2, _, _ => rfl
  | 1, 3, _, _ => rfl
  | 1, 4, _, _ => rfl
theorem intRow {l : List Int} : RowIs 1 (bif l.isEmpty then 0 else l.length) (intEl l) (fun x _ => dI x) l := ⟨bif_len l, fun _ _ _ _ => rfl⟩
theorem strip (n : Int) : CallP Tryz.prog 22 [vI n] (grid (stripG n)) := by
  refine callP_of_ex (rc := []) (N := 17) Tryz.func22 rfl rfl Tryz.call22 tab_ok mix rfl rfl (fun cx href => ?_)
  refine AW.loopI (fun i : Nat => ⟨[(0, vI n), (2, .s (.ptr 2 0)), (3, .s (.ptr 3 0)), (4, vI i)],
      [(2, some (.cells (zvs ty28.zero))), (3, some (.cells [.d (dI 0), .d (dI (-250)), .d (dI 500), .d (dI 20), .d (dI 1), .mo (List.replicate i n).isEmpty 100])), (100, some (.mrow 3 (List.replicate i n).length 1 (intEl (List.replicate i n))))]⟩)
    (fun i => i ≤ 20) (fun i => 20 - i) 0 (Nat.zero_le _) ?_ ?_
  · exact SubI.of0 href [(100, 1000)] rfl ⟨⟨rfl, LeBx.rfl⟩, ⟨rfl, LeBx.cells ⟨LeQ.rfl, LeQ.rfl, LeQ.rfl, LeQ.rfl, LeQ.rfl, LeQ.nil rfl, trivial⟩⟩, ⟨rfl, rfl⟩, trivial⟩ ⟨⟨rfl, LeQ.rfl⟩, ⟨rfl, LeQ.rfl⟩, ⟨rfl, LeQ.rfl⟩, ⟨rfl, LeQ.rfl⟩, trivial⟩
  · intro i hi
    refine ex.sound (rc := []) tab_ok mix href _ ?_
    refine And.intro (fun h => ?_) (fun h => ?_)
    · have h : (i : Int) < 20 := decT h
      have e : List.replicate (i + 1) n = List.replicate i n ++ [n] := List.replicate_succ'
      refine ob (by decide) ?_
      refine ob (by rw [bif_len]; show _ * 8 ≤ _; simp; omega) ?_
      refine ob (fit1 (lt1 rfl)) ?_
      refine ⟨i + 1, by omega, by omega, ?_⟩
      refine SubI.of0 href [(100, 14)] rfl ⟨⟨rfl, LeBx.rfl⟩, ⟨rfl, LeBx.cells ⟨LeQ.rfl, LeQ.rfl, LeQ.rfl, LeQ.rfl, LeQ.rfl, LeQ.mo (by rw [e]; exact isEmpty_snoc _ _), trivial⟩⟩, ⟨rfl, ?_⟩, trivial⟩ ⟨⟨rfl, LeQ.rfl⟩, ⟨rfl, LeQ.rfl⟩, ⟨rfl, LeQ.rfl⟩, ⟨rfl, LeQ.int (w64_of (by omega) (by omega))⟩, trivial⟩
      show LeBx _ (.mrow 3 (List.replicate (i + 1) n).length 1 (intEl (List.replicate (i + 1) n)))
      rw [e]
      exact RowIs.mrow (el := fun x _ => dI x) (RowIs.snoc intRow (lt1 rfl))
    · have h : ¬ (i : Int) < 20 := decF h
      have hi' : i = 20 := by omega
      subst hi'
      exact SubR.le ⟨LeD.refl _, LeD.refl _, LeD.refl _, LeD.refl _, LeD.refl _, LeD.slc' (bif_len _) fun _ _ _ _ => LeD.refl _, trivial⟩
theorem straight_ok : straightC.ok := by
  refine ⟨by decide, by decide, ?_, by decide, by decide, by decide, by intro a ha; cases ha⟩
  intro a ha
  simp only [straightC, List.mem_cons, List.not_mem_nil, or_false] at ha
  rcases ha with rfl | rfl
  · exact ⟨by decide, by decide, by decide, by decide, by decide⟩
  · exact ⟨by decide, by decide, by decide, by decide, by decide⟩
theorem strip_ok {n : Int} (h : i64ok n) : (stripG n).ok := by
  refine ⟨show i64ok 0 by decide, show i64ok (-250) by decide, show i64ok 500 by decide, show i64ok 20 by decide, show i64ok 1 by decide, by simp [stripG], ?_⟩
  intro a ha
  have := List.eq_of_mem_replicate ha
  subst this; exact h
theorem awake : CallP Tryz.prog 5 [] (vB true) := by
  have d1 : CallP Tryz.prog 19 [chan straightC, pt ⟨2500, 1400⟩] (rIE (-900) 0) := by
    have := gDesign straightC ⟨2500, 1400⟩ straight_ok
    rw [show designR straightC ⟨2500, 1400⟩ = (-900, 0) by kernel_rfl] at this
    exact this
  have d2 : CallP Tryz.prog 21 [chan straightC, grid (stripG (-900)), grid (stripG (-1050))] (rIE 650000000 0) := by
    have := gPaid straightC (stripG (-900)) (stripG (-1050)) straight_ok (strip_ok (by decide)) (strip_ok (by decide))
    rw [show remF paidH straightC (stripG (-900)) (stripG (-1050)) = 650000000 by kernel_rfl, show withErr straightC [stripG (-900), stripG (-1050)] = 0 by kernel_rfl] at this
    exact this
  have d3 : CallP Tryz.prog 23 [chan straightC, grid (stripG (-900)), grid (stripG (-1050))] (rIE 100000000 0) := by
    have := gOvercut straightC (stripG (-900)) (stripG (-1050)) straight_ok (strip_ok (by decide)) (strip_ok (by decide))
    rw [show remF overH straightC (stripG (-900)) (stripG (-1050)) = 100000000 by kernel_rfl, show withErr straightC [stripG (-900), stripG (-1050)] = 0 by kernel_rfl] at this
    exact this
  refine callP_of_ex (rc := []) (N := 49) Tryz.func5 rfl rfl Tryz.call5 tab_ok mix rfl rfl (fun cx href => ?_)
  refine callN straight ?_
  refine callN d1 ?_
  refine callN straight ?_
  refine callN (strip (-900)) ?_
  refine callN (strip (-1050)) ?_
  refine callN d2 ?_
  refine callN straight ?_
  refine callN (strip (-900)) ?_
  refine callN (strip (-1050)) ?_
  refine callN d3 ?_
  repeat first | refine sk ?_ | refine st ?_ | refine sg ?_ | refine sh ?_ | refine su ?_ | refine sn1 ?_ | refine sn0 ?_
  exact SubR.refl _
end Go.Ch

namespace Go.Ch
open Go Go.Ax Go.Proofs Go.Proofs.Tryz
set_option maxRecDepth 100000
set_option pp.maxSteps 400
set_option maxHeartbeats 1000000

/-- Where a place lies along a line, rounded down. -/
def alongV (a b p : Pt) : Int := dotE a b p / span a b
theorem alongV_le {a b p : Pt} (ha : good a = true) (hb : good b = true) (hp : good p = true) (hd : 0 ≤ dotE a b p) : 0 ≤ alongV a b p ∧ alongV a b p ≤ 8000000000000 := by
  obtain ⟨_, _, h3⟩ := dot_eq ha hb hp
  have hs := (span_bound ha hb).1
  unfold alongV
  exact ⟨Int.ediv_nonneg hd hs, Int.le_trans (Int.ediv_le_self _ hd) h3⟩
def spanC (c : Chan) (k : Nat) : Int := span (axis c k).pt (axis c (k + 1)).pt
def lenF (c : Chan) : Nat → Int
  | 0 => 0
  | k + 1 => lenF c k + spanC c k
theorem lenF_le {c : Chan} (hv : Val c) : ∀ k, k < c.axis.length → 0 ≤ lenF c k ∧ lenF c k ≤ 3000000 * k
  | 0, _ => by simp [lenF]
  | k + 1, h => by
    have h1 := lenF_le hv k (by omega)
    have h2 : 0 ≤ span (axis c k).pt (axis c (k + 1)).pt ∧ span (axis c k).pt (axis c (k + 1)).pt ≤ 3000000 := span_bound (hv.pts k (by omega)) (hv.pts (k + 1) h)
    rw [lenF]; unfold spanC; omega
/-- The first of some tries that gives something. -/
def first {α : Type} (f : Nat → Option α) : Nat → Option α
  | 0 => none
  | n + 1 => (first f n).or (f n)
theorem first_some {α : Type} {f : Nat → Option α} {x : α} {i : Nat} (h : first f i = some x) : ∀ k, first f (i + k) = some x
  | 0 => h
  | k + 1 => by rw [← Nat.add_assoc, first, first_some h k]; rfl
theorem first_hit {α : Type} {f : Nat → Option α} {x : α} {i n : Nat} (h : first f i = none) (hx : f i = some x) (hn : i < n) : first f n = some x := by
  have h1 : first f (i + 1) = some x := by rw [first, h, hx]; rfl
  have := first_some h1 (n - (i + 1))
  rwa [show i + 1 + (n - (i + 1)) = n by omega] at this
theorem first_miss {α : Type} {f : Nat → Option α} {i : Nat} (h : first f i = none) (hx : f i = none) : first f (i + 1) = none := by rw [first, h, hx]; rfl
theorem first_shift {α : Type} {f g : Nat → Option α} (h0 : f 0 = none) (h : ∀ j, f (j + 1) = g j) : ∀ n, first f (n + 1) = first g n
  | 0 => by rw [first, first, h0]; rfl
  | n + 1 => by rw [first, first_shift h0 h n, h]; rfl

def onL (c : Chan) (p : Pt) (k : Nat) : Option (Int × Int) := (legF c k p).map fun x => (lenF c k + alongV (axis c k).pt (axis c (k + 1)).pt p, x.offset)
def onB (c : Chan) (p : Pt) (j : Nat) : Option (Int × Int) := (bendN c j p).map fun x => (lenF c (j + 1), x.offset)
def onR (c : Chan) (p : Pt) (k : Nat) : Option (Int × Int) := (bendR c k p).map fun x => (lenF c k, x.offset)
def alongF (c : Chan) (p : Pt) : Option (Int × Int) := (first (onL c p) (c.axis.length - 1)).or (first (onB c p) (c.axis.length - 2))
theorem onR_first (c : Chan) (p : Pt) (h : 2 ≤ c.axis.length) : first (onR c p) (c.axis.length - 1) = first (onB c p) (c.axis.length - 2) := by
  have := first_shift (f := onR c p) (g := onB c p) rfl (fun _ => rfl) (c.axis.length - 2)
  rwa [show c.axis.length - 2 + 1 = c.axis.length - 1 by omega] at this
def oII (o : Option (Int × Int)) : Int × Int := o.getD (0, 0)
theorem legF_dot {c : Chan} {k : Nat} {p : Pt} (h : (legF c k p).isSome = true) : 0 ≤ dotE (axis c k).pt (axis c (k + 1)).pt p := by
  unfold legF legP at h
  cases h' : (decide (dotE (c.axis.getD k default).pt (c.axis.getD (k + 1) default).pt p < 0) || decide (dotE (c.axis.getD k default).pt (c.axis.getD (k + 1) default).pt p > dotE (c.axis.getD k default).pt (c.axis.getD (k + 1) default).pt (c.axis.getD (k + 1) default).pt))
  · simp only [Bool.or_eq_false_iff, decide_eq_false_iff_not] at h'
    show 0 ≤ dotE (c.axis.getD k default).pt (c.axis.getD (k + 1) default).pt p
    omega
  · rw [h'] at h; cases h
theorem onL_some {c : Chan} {p : Pt} {k : Nat} (h : (legF c k p).isSome = true) : onL c p k = some (lenF c k + alongV (axis c k).pt (axis c (k + 1)).pt p, (oPrt (legF c k p)).offset) := by
  obtain ⟨x, hx⟩ := Option.isSome_iff_exists.1 h
  unfold onL; rw [hx]; rfl
theorem onB_some {c : Chan} {p : Pt} {k : Nat} (h : (bendN c k p).isSome = true) : onB c p k = some (lenF c (k + 1), (oPrt (bendN c k p)).offset) := by
  obtain ⟨x, hx⟩ := Option.isSome_iff_exists.1 h
  unfold onB; rw [hx]; rfl
theorem onR_some {c : Chan} {p : Pt} {k : Nat} (h : (bendR c k p).isSome = true) : onR c p k = some (lenF c k, (oPrt (bendR c k p)).offset) := by
  obtain ⟨x, hx⟩ := Option.isSome_iff_exists.1 h
  unfold onR; rw [hx]; rfl
theorem map_none {α β : Type} {o : Option α} {f : α → β} (h : o.isSome = false) : o.map f = none := by
  cases o with
  | none => rfl
  | some x => cases h
abbrev rIII (a b e : Int) : AV := .t [.s (.d (dI a)), .s (.d (dI b)), .s (.d (dI e))]
def alongR (c : Chan) (p : Pt) : Int × Int × Int := bif errC c != 0 then (0, 0, errC c) else bif !good p then (0, 0, 2) else ((oII (alongF c p)).1, (oII (alongF c p)).2, bif (alongF c p).isSome then 0 else 11)
abbrev rIIB (a b : Int) (e : Bool) : AV := .t [.s (.d (dI a)), .s (.d (dI b)), .s (.d (.val (.bool e)))]
end Go.Ch

namespace Go.Ch
open Go Go.Ax Go.Proofs Go.Proofs.Tryz
set_option maxRecDepth 100000
set_option pp.maxSteps 400
set_option maxHeartbeats 1000000

theorem first_none {α : Type} {f : Nat → Option α} : ∀ {n : Nat}, first f n = none → ∀ k, k < n → f k = none
  | 0, _, k, hk => absurd hk (Nat.not_lt_zero k)
  | n + 1, h, k, hk => by
    rw [first, Option.or_eq_none_iff] at h
    rcases Nat.lt_or_ge k n with h' | h'
    · exact first_none h.1 k h'
    · obtain rfl : k = n := by omega
      exact h.2
theorem along_none {c : Chan} {p : Pt} (h : (alongF c p).isSome = false) : desF c p = (0, false) := by
  have h : alongF c p = none := by simpa using h
  unfold alongF at h
  rw [Option.or_eq_none_iff] at h
  have h1 := first_none h.1
  have h2 := first_none h.2
  have e1 : legsL c p (c.axis.length - 1) = [] := by
    unfold legsL
    rw [List.filterMap_eq_nil_iff]
    intro k hk
    have := h1 k (List.mem_range.1 hk)
    unfold onL at this
    simpa using this
  have e2 : bendsL c p (c.axis.length - 2) = [] := by
    unfold bendsL
    rw [List.filterMap_eq_nil_iff]
    intro k hk
    have := h2 k (List.mem_range.1 hk)
    unfold onB at this
    simpa using this
  unfold desF partsL
  rw [e1, e2]; rfl
end Go.Ch
