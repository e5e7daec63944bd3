/- Part Ch3: lemmas that the proofs of this seat share; by itself it claims nothing. -/
import Derived.Test.YtfdgbddmggoilaaCh2
namespace Go.Ch
open Go Go.Ax Go.Proofs Go.Proofs.Try
set_option maxRecDepth 100000
set_option pp.maxSteps 400
set_option maxHeartbeats 1000000

structure GVal (g : Grid) : Prop where
  x : -1000000 ≤ g.x ∧ g.x ≤ 1000000
  y : -1000000 ≤ g.y ∧ g.y ≤ 1000000
  side : 100 ≤ g.side ∧ g.side ≤ 10000
  cols : 1 ≤ g.cols ∧ g.cols ≤ 1024
  rows : 1 ≤ g.rows ∧ g.rows ≤ 1024
  most : g.cols * g.rows ≤ 1024
  right : g.x + g.cols * g.side ≤ 1000000
  top : g.y + g.rows * g.side ≤ 1000000
  len : (g.levels.length : Int) = g.cols * g.rows
  lev : ∀ n ∈ g.levels, n = 30000 ∨ (-20000 ≤ n ∧ n ≤ 20000)
theorem GVal.of {g : Grid} (h : errG g = 0) : GVal g := by
  unfold errG at h
  cases h1 : e1 g with
  | true => rw [h1] at h; cases h
  | false =>
    rw [h1] at h
    unfold e1 at h1
    simp only [Bool.or_eq_false_iff, Bool.not_eq_false'] at h1
    obtain ⟨⟨⟨⟨q1, q2⟩, q3⟩, q4⟩, q5⟩ := h1
    simp only [within, Bool.and_eq_true, decide_eq_true_eq, ge_iff_le] at q1 q2 q3 q4 q5
    have m1 := mul_le_of (a := g.cols) (b := g.rows) (A := 1024) (B := 1024) (by omega) (by omega) (by omega) (by omega)
    have m2 := mul_le_of (a := g.cols) (b := g.side) (A := 1024) (B := 10000) (by omega) (by omega) (by omega) (by omega)
    have m3 := mul_le_of (a := g.rows) (b := g.side) (A := 1024) (B := 10000) (by omega) (by omega) (by omega) (by omega)
    rw [w64_of (n := g.cols * g.rows) (by omega) (by omega), w64_of (n := g.cols * g.side) (by omega) (by omega), w64_of (n := g.rows * g.side) (by omega) (by omega),
      w64_of (n := g.x + g.cols * g.side) (by omega) (by omega), w64_of (n := g.y + g.rows * g.side) (by omega) (by omega)] at h
    cases h2 : decide (g.cols * g.rows > 1024) with
    | true => rw [h2] at h; cases h
    | false =>
      rw [h2] at h
      cases h3 : (decide (g.x + g.cols * g.side > 1000000) || decide (g.y + g.rows * g.side > 1000000)) with
      | true => rw [h3] at h; cases h
      | false =>
        rw [h3] at h
        cases h4 : ((g.levels.length : Int) != g.cols * g.rows) with
        | true => rw [h4] at h; cases h
        | false =>
          rw [h4] at h
          cases h5 : g.levels.any badL with
          | true => rw [h5] at h; cases h
          | false =>
            simp only [Bool.or_eq_false_iff, decide_eq_false_iff_not] at h2 h3
            have h4 : (g.levels.length : Int) = g.cols * g.rows := by simpa using h4
            refine ⟨q1, q2, q3, q4, q5, by omega, by omega, by omega, h4, fun n hn => ?_⟩
            rw [List.any_eq_false] at h5
            have := h5 n hn
            by_cases hu : n = 30000
            · exact .inl hu
            · right
              simp [badL, within, hu] at this
              omega
theorem GVal.n {g : Grid} (h : GVal g) : g.levels.length ≤ 1024 := by have := h.len; have := h.most; omega
theorem centre_good {g : Grid} (h : GVal g) {i : Nat} (hi : i < g.levels.length) : good (centreG g i) = true ∧
    centreG g i = ⟨g.x + (i : Int) % g.cols * g.side + g.side / 2, g.y + (i : Int) / g.cols * g.side + g.side / 2⟩ := by
  obtain ⟨hx, hy, hs, hc, hr, hm, hR, hT, hl, _⟩ := h
  have i0 : (0 : Int) ≤ (i : Int) := by omega
  have e1 : (i : Int).tmod g.cols = (i : Int) % g.cols := Int.tmod_eq_emod_of_nonneg i0
  have e2 : (i : Int).tdiv g.cols = (i : Int) / g.cols := Int.tdiv_eq_ediv_of_nonneg i0
  have m0 := Int.emod_nonneg (i : Int) (show g.cols ≠ 0 by omega)
  have m1 := Int.emod_lt_of_pos (i : Int) (show 0 < g.cols by omega)
  have d0 := Int.ediv_nonneg i0 (show 0 ≤ g.cols by omega)
  have d1 : (i : Int) / g.cols < g.rows := by
    apply Int.ediv_lt_of_lt_mul (by omega)
    rw [Int.mul_comm g.rows, ← hl]; omega
  have p1 : (i : Int) % g.cols * g.side ≤ (g.cols - 1) * g.side := Int.mul_le_mul_of_nonneg_right (by omega) (by omega)
  have p0 : 0 ≤ (i : Int) % g.cols * g.side := Int.mul_nonneg m0 (by omega)
  have p2 : (i : Int) / g.cols * g.side ≤ (g.rows - 1) * g.side := Int.mul_le_mul_of_nonneg_right (by omega) (by omega)
  have p3 : 0 ≤ (i : Int) / g.cols * g.side := Int.mul_nonneg d0 (by omega)
  rw [Int.sub_mul] at p1 p2
  have hh : g.side.tdiv 2 = g.side / 2 := Int.tdiv_eq_ediv_of_nonneg (by omega)
  have key : centreG g i = ⟨g.x + (i : Int) % g.cols * g.side + g.side / 2, g.y + (i : Int) / g.cols * g.side + g.side / 2⟩ := by
    unfold centreG cornerG
    simp only [e1, e2, hh]
    have lt : (i : Int) / g.cols ≤ 1024 := by omega
    rw [w64_of (n := (i : Int) % g.cols * g.side) (by omega) (by omega), w64_of (n := (i : Int) / g.cols) (by omega) (by omega), w64_of (n := (i : Int) / g.cols * g.side) (by omega) (by omega), w64_of (n := g.side / 2) (by omega) (by omega),
      w64_of (n := g.x + (i : Int) % g.cols * g.side) (by omega) (by omega), w64_of (n := g.y + (i : Int) / g.cols * g.side) (by omega) (by omega), w64_of (by omega) (by omega), w64_of (by omega) (by omega)]
  refine ⟨?_, key⟩
  rw [good_iff, key]
  simp only
  omega

abbrev gridB (g : Grid) : Box := .cells [.d (dI g.x), .d (dI g.y), .d (dI g.side), .d (dI g.cols), .d (dI g.rows), .d (dInts g.levels)]
/-- What one cell adds. -/
def payS (h : Int → Int → Int → Int) (b a : Grid) (over sum : Int) (i : Nat) (level : Int) : Int :=
  bif b.levels.getD i 0 != 30000 && a.levels.getD i 0 != 30000 then w64 (sum + w64 (w64 (b.side * b.side) * mm true 0 (h (b.levels.getD i 0) (a.levels.getD i 0) (w64 (level - over))))) else sum
abbrev payB (fh : Nat) (c : Chan) (b a : Grid) (sum : Int) : BoxL := [(1001, gridB b), (1002, gridB a), (1003, .cells [.d (dI sum)]), (1004, .cells [.d (.clo fh 0 fun _ => .junk)]), (1005, chanB c)]
end Go.Ch

namespace Go.Ch
open Go Go.Ax Go.Proofs Go.Proofs.Try
set_option maxRecDepth 100000
set_option pp.maxSteps 400
set_option maxHeartbeats 1000000

theorem errG_val {g : Grid} (h : GVal g) : g.levels.length ≤ 9223372036854775807 := by have := h.n; omega
abbrev rIE (n e : Int) : AV := .t [.s (.d (dI n)), .s (.d (dI e))]
theorem alike_len {a b : Grid} (ha : GVal a) (hb : GVal b) (h : alike a b = true) : b.levels.length = a.levels.length := by
  unfold alike at h
  simp only [Bool.and_eq_true, beq_iff_eq] at h
  have h1 := ha.len
  have h2 := hb.len
  rw [h.1.2, h.2] at h1
  omega
theorem withErr2_zero {c : Chan} {a b : Grid} (h : withErr c [a, b] = 0) : errC c = 0 ∧ errG a = 0 ∧ errG b = 0 ∧ alike a b = true := by
  rw [withErr2] at h
  cases h1 : errC c != 0 with
  | true => rw [h1] at h; simp at h1; exact absurd h h1
  | false =>
    cases h2 : errG a != 0 with
    | true => rw [h1, h2] at h; simp at h2; exact absurd h h2
    | false =>
      cases h3 : errG b != 0 with
      | true => rw [h1, h2, h3] at h; simp at h3; exact absurd h h3
      | false =>
        cases h4 : alike a b with
        | false => rw [h1, h2, h3, h4] at h; cases h
        | true => simp at h1 h2 h3; exact ⟨h1, h2, h3, rfl⟩
def paidH (x y z : Int) : Int := w64 (x - mm true y z)
def overH (x y z : Int) : Int := w64 (mm false x z - y)
end Go.Ch

namespace Go.Ch
open Go Go.Ax Go.Proofs Go.Proofs.Try
set_option maxRecDepth 100000
set_option pp.maxSteps 400
set_option maxHeartbeats 1000000

theorem catF0 {f g : Nat → Nat → DV} : catF 0 f g = g := by
  funext i j
  unfold catF
  rw [if_neg (Nat.not_lt_zero i), Nat.sub_zero]
theorem CopyIntsO (l : List Int) (hl : l.length ≤ 1000000) : CallR Try.prog 40 [vInts l] [] (.s (.own 5)) [(5, .row 3 l.length 1 (intEl l))] := by
  refine callO_of_ex (rc := []) (N := 6) Try.func40 rfl rfl Try.call40 tab_ok mix rfl rfl rfl rfl (fun cx _ => ?_)
  refine ob (show (0 + l.length) * 8 ≤ _ by omega) ?_
  refine ob ?_ ?_
  · exact fun k j hk hj => rfl
  refine ⟨LeQ.rfl, ?_, trivial⟩
  show some (some (Box.row 3 (0 + l.length) 1 (catF 0 _ (intEl l)))) = _
  rw [Nat.zero_add, catF0]
theorem CopyGridO (g : Grid) (hl : g.levels.length ≤ 1000000) : CallR Try.prog 30 [grid g] [] (.g [.d (dI g.x), .d (dI g.y), .d (dI g.side), .d (dI g.cols), .d (dI g.rows), .own 501]) [(501, .row 3 g.levels.length 1 (intEl g.levels))] := by
  refine callO_of_ex (rc := [40]) (N := 8) Try.func30 rfl rfl Try.call30 tab_ok mix rfl rfl rfl rfl (fun cx _ => ?_)
  refine ⟨[(5, 501)], _, _, _, _, CopyIntsO g.levels hl, rfl, trivial, rfl, ?_⟩
  exact ⟨LeQ.rfl, rfl, trivial⟩

theorem rowSet_self {f : Nat → Nat → DV} {i : Nat} {x : DV} : rowSet f i 0 [.d x] i 0 = x := by
  unfold rowSet; rw [if_pos rfl]; rfl
theorem rowSet_ne {f : Nat → Nat → DV} {i k j : Nat} {cs : List SV} (h : k ≠ i) : rowSet f i 0 cs k j = f k j := by
  unfold rowSet; rw [if_neg h]
end Go.Ch

namespace Go.Ch
open Go Go.Ax Go.Proofs Go.Proofs.Try
set_option maxRecDepth 100000
set_option pp.maxSteps 400
set_option maxHeartbeats 1000000

structure PrtOk (c : Chan) (x : Prt) : Prop where
  off : 0 ≤ x.offset ∧ x.offset ≤ 8000000000000
  half : 1 ≤ x.half ∧ x.half ≤ 100000
  bottom : c.over - 20000 ≤ x.bottom ∧ x.bottom ≤ 20000
  run : 0 ≤ x.run ∧ x.run ≤ 1000
theorem legP_some {a b : Ap} {p : Pt} {x : Prt} (h : legP a b p = some x) : 0 ≤ dotE a.pt b.pt p ∧ dotE a.pt b.pt p ≤ dotE a.pt b.pt b.pt ∧ x = partE a b p := by
  unfold legP at h
  cases hb : (decide (dotE a.pt b.pt p < 0) || decide (dotE a.pt b.pt p > dotE a.pt b.pt b.pt)) with
  | true => rw [hb] at h; cases h
  | false =>
    rw [hb] at h
    simp only [Bool.or_eq_false_iff, decide_eq_false_iff_not] at hb
    simp only [cond_false, Option.some.injEq] at h
    exact ⟨by omega, by omega, h.symm⟩
theorem bendP_some {a q b : Ap} {p : Pt} {x : Prt} (h : bendP a q b p = some x) : x = ⟨span q.pt p, q.half, q.level, q.run⟩ := by
  unfold bendP at h
  cases hb : (decide (dotE a.pt q.pt p ≤ dotE a.pt q.pt q.pt) || decide (dotE q.pt b.pt p ≥ 0)) with
  | true => rw [hb] at h; cases h
  | false => rw [hb] at h; simp only [cond_false, Option.some.injEq] at h; exact h.symm
end Go.Ch

namespace Go.Ch
open Go Go.Ax Go.Proofs Go.Proofs.Try
set_option maxRecDepth 100000
set_option pp.maxSteps 400
set_option maxHeartbeats 1000000

def smallH (c : Chan) : Bool :=
  (((decide ((c.name.size : Int) > 40) || (decide ((c.axis.length : Int) > 6) && decide ((c.axis.length : Int) ≤ 20))) || decide ((c.axis.length : Int) > 25)) || (decide ((c.regions.length : Int) > 4) && decide ((c.regions.length : Int) ≤ 20))) || decide ((c.regions.length : Int) > 25)
def smallR (r : Reg) : Bool := ((decide ((r.corners.length : Int) > 8) && decide ((r.corners.length : Int) ≤ 40)) || decide ((r.corners.length : Int) > 45)) || decide ((r.name.size : Int) > 40)
def small (c : Chan) : Bool := !smallH c && !c.regions.any smallR
structure Sm (c : Chan) : Prop where
  axis : c.axis.length ≤ 25
  regions : c.regions.length ≤ 25
  corners : ∀ i, i < c.regions.length → (c.regions.getD i default).corners.length ≤ 45
theorem Sm.of {c : Chan} (h : small c = true) : Sm c := by
  unfold small at h
  simp only [Bool.and_eq_true, Bool.not_eq_true'] at h
  obtain ⟨h1, h2⟩ := h
  unfold smallH at h1
  simp only [Bool.or_eq_false_iff, decide_eq_false_iff_not] at h1
  refine ⟨by omega, by omega, fun i hi => ?_⟩
  rw [List.any_eq_false] at h2
  have := h2 _ (List.getElem_mem hi)
  rw [getD_of hi]
  unfold smallR at this
  simp at this
  omega
theorem el_sub {α : Type} [Inhabited α] {l : List α} {s : Nat} {el : α → Nat → DV} : RowIs s (0 + l.length) (catF 0 (rowF s []) fun i => el (l.getD i default)) el l := by
  rw [Nat.zero_add, catF0]; exact RowIs.refl
end Go.Ch

namespace Go.Ch
open Go Go.Ax Go.Proofs Go.Proofs.Try
set_option maxRecDepth 100000
set_option pp.maxSteps 400
set_option maxHeartbeats 1000000

def mainS : ByteArray := ⟨#[77, 97, 105, 110]⟩
def straightC : Chan := ⟨mainS, [⟨0, 0, 1000, -1000, 4⟩, ⟨10000, 0, 1000, -1000, 4⟩], 30, 0, []⟩
def stripG (n : Int) : Grid := ⟨0, -250, 500, 20, 1, List.replicate 20 n⟩
theorem intRow {l : List Int} : RowIs 1 (bif l.isEmpty then 0 else l.length) (intEl l) (fun x _ => dI x) l := ⟨bif_len l, fun _ _ _ _ => rfl⟩
theorem straight_ok : straightC.ok := by
  refine ⟨by decide, by decide, ?_, by decide, by decide, by decide, by intro a ha; cases ha⟩
  intro a ha
  simp only [straightC, List.mem_cons, List.not_mem_nil, or_false] at ha
  rcases ha with rfl | rfl
  · exact ⟨by decide, by decide, by decide, by decide, by decide⟩
  · exact ⟨by decide, by decide, by decide, by decide, by decide⟩
theorem strip_ok {n : Int} (h : i64ok n) : (stripG n).ok := by
  refine ⟨show i64ok 0 by decide, show i64ok (-250) by decide, show i64ok 500 by decide, show i64ok 20 by decide, show i64ok 1 by decide, by simp [stripG], ?_⟩
  intro a ha
  have := List.eq_of_mem_replicate ha
  subst this; exact h
end Go.Ch

namespace Go.Ch
open Go Go.Ax Go.Proofs Go.Proofs.Try
set_option maxRecDepth 100000
set_option pp.maxSteps 400
set_option maxHeartbeats 1000000

/-- Where a place lies along a line, rounded down. -/
def alongV (a b p : Pt) : Int := dotE a b p / span a b
theorem alongV_le {a b p : Pt} (ha : good a = true) (hb : good b = true) (hp : good p = true) (hd : 0 ≤ dotE a b p) : 0 ≤ alongV a b p ∧ alongV a b p ≤ 8000000000000 := by
  obtain ⟨_, _, h3⟩ := dot_eq ha hb hp
  have hs := (span_bound ha hb).1
  unfold alongV
  exact ⟨Int.ediv_nonneg hd hs, Int.le_trans (Int.ediv_le_self _ hd) h3⟩
def spanC (c : Chan) (k : Nat) : Int := span (axis c k).pt (axis c (k + 1)).pt
def lenF (c : Chan) : Nat → Int
  | 0 => 0
  | k + 1 => lenF c k + spanC c k
theorem lenF_le {c : Chan} (hv : Val c) : ∀ k, k < c.axis.length → 0 ≤ lenF c k ∧ lenF c k ≤ 3000000 * k
  | 0, _ => by simp [lenF]
  | k + 1, h => by
    have h1 := lenF_le hv k (by omega)
    have h2 : 0 ≤ span (axis c k).pt (axis c (k + 1)).pt ∧ span (axis c k).pt (axis c (k + 1)).pt ≤ 3000000 := span_bound (hv.pts k (by omega)) (hv.pts (k + 1) h)
    rw [lenF]; unfold spanC; omega
/-- The first of some tries that gives something. -/
def first {α : Type} (f : Nat → Option α) : Nat → Option α
  | 0 => none
  | n + 1 => (first f n).or (f n)
theorem first_some {α : Type} {f : Nat → Option α} {x : α} {i : Nat} (h : first f i = some x) : ∀ k, first f (i + k) = some x
  | 0 => h
  | k + 1 => by rw [← Nat.add_assoc, first, first_some h k]; rfl
theorem first_hit {α : Type} {f : Nat → Option α} {x : α} {i n : Nat} (h : first f i = none) (hx : f i = some x) (hn : i < n) : first f n = some x := by
  have h1 : first f (i + 1) = some x := by rw [first, h, hx]; rfl
  have := first_some h1 (n - (i + 1))
  rwa [show i + 1 + (n - (i + 1)) = n by omega] at this
theorem first_miss {α : Type} {f : Nat → Option α} {i : Nat} (h : first f i = none) (hx : f i = none) : first f (i + 1) = none := by rw [first, h, hx]; rfl
theorem first_shift {α : Type} {f g : Nat → Option α} (h0 : f 0 = none) (h : ∀ j, f (j + 1) = g j) : ∀ n, first f (n + 1) = first g n
  | 0 => by rw [first, first, h0]; rfl
  | n + 1 => by rw [first, first_shift h0 h n, h]; rfl

def onL (c : Chan) (p : Pt) (k : Nat) : Option (Int × Int) := (legF c k p).map fun x => (lenF c k + alongV (axis c k).pt (axis c (k + 1)).pt p, x.offset)
def onB (c : Chan) (p : Pt) (j : Nat) : Option (Int × Int) := (bendN c j p).map fun x => (lenF c (j + 1), x.offset)
def onR (c : Chan) (p : Pt) (k : Nat) : Option (Int × Int) := (bendR c k p).map fun x => (lenF c k, x.offset)
def alongF (c : Chan) (p : Pt) : Option (Int × Int) := (first (onL c p) (c.axis.length - 1)).or (first (onB c p) (c.axis.length - 2))
theorem onR_first (c : Chan) (p : Pt) (h : 2 ≤ c.axis.length) : first (onR c p) (c.axis.length - 1) = first (onB c p) (c.axis.length - 2) := by
  have := first_shift (f := onR c p) (g := onB c p) rfl (fun _ => rfl) (c.axis.length - 2)
  rwa [show c.axis.length - 2 + 1 = c.axis.length - 1 by omega] at this
def oII (o : Option (Int × Int)) : Int × Int := o.getD (0, 0)
theorem legF_dot {c : Chan} {k : Nat} {p : Pt} (h : (legF c k p).isSome = true) : 0 ≤ dotE (axis c k).pt (axis c (k + 1)).pt p := by
  unfold legF legP at h
  cases h' : (decide (dotE (c.axis.getD k default).pt (c.axis.getD (k + 1) default).pt p < 0) || decide (dotE (c.axis.getD k default).pt (c.axis.getD (k + 1) default).pt p > dotE (c.axis.getD k default).pt (c.axis.getD (k + 1) default).pt (c.axis.getD (k + 1) default).pt))
  · simp only [Bool.or_eq_false_iff, decide_eq_false_iff_not] at h'
    show 0 ≤ dotE (c.axis.getD k default).pt (c.axis.getD (k + 1) default).pt p
    omega
  · rw [h'] at h; cases h
theorem onL_some {c : Chan} {p : Pt} {k : Nat} (h : (legF c k p).isSome = true) : onL c p k = some (lenF c k + alongV (axis c k).pt (axis c (k + 1)).pt p, (oPrt (legF c k p)).offset) := by
  obtain ⟨x, hx⟩ := Option.isSome_iff_exists.1 h
  unfold onL; rw [hx]; rfl
theorem onB_some {c : Chan} {p : Pt} {k : Nat} (h : (bendN c k p).isSome = true) : onB c p k = some (lenF c (k + 1), (oPrt (bendN c k p)).offset) := by
  obtain ⟨x, hx⟩ := Option.isSome_iff_exists.1 h
  unfold onB; rw [hx]; rfl
theorem onR_some {c : Chan} {p : Pt} {k : Nat} (h : (bendR c k p).isSome = true) : onR c p k = some (lenF c k, (oPrt (bendR c k p)).offset) := by
  obtain ⟨x, hx⟩ := Option.isSome_iff_exists.1 h
  unfold onR; rw [hx]; rfl
theorem map_none {α β : Type} {o : Option α} {f : α → β} (h : o.isSome = false) : o.map f = none := by
  cases o with
  | none => rfl
  | some x => cases h
abbrev rIII (a b e : Int) : AV := .t [.s (.d (dI a)), .s (.d (dI b)), .s (.d (dI e))]
def alongR (c : Chan) (p : Pt) : Int × Int × Int := bif errC c != 0 then (0, 0, errC c) else bif !good p then (0, 0, 2) else ((oII (alongF c p)).1, (oII (alongF c p)).2, bif (alongF c p).isSome then 0 else 11)
abbrev rIIB (a b : Int) (e : Bool) : AV := .t [.s (.d (dI a)), .s (.d (dI b)), .s (.d (.val (.bool e)))]
end Go.Ch

namespace Go.Ch
open Go Go.Ax Go.Proofs Go.Proofs.Try
set_option maxRecDepth 100000
set_option pp.maxSteps 400
set_option maxHeartbeats 1000000

theorem first_none {α : Type} {f : Nat → Option α} : ∀ {n : Nat}, first f n = none → ∀ k, k < n → f k = none
  | 0, _, k, hk => absurd hk (Nat.not_lt_zero k)
  | n + 1, h, k, hk => by
    rw [first, Option.or_eq_none_iff] at h
    rcases Nat.lt_or_ge k n with h' | h'
    · exact first_none h.1 k h'
    · obtain rfl : k = n := by omega
      exact h.2
end Go.Ch
