/- Part 5: lemmas that the proofs of this seat share; by itself it claims nothing. -/
import Derived.Test.YtphelnpanihmiaaGreatDoorPt4
namespace Go.Ch
open Go Go.Ax Go.Proofs Go.Proofs.Tryz
set_option maxRecDepth 100000
set_option pp.maxSteps 400
set_option maxHeartbeats 1000000

def knownF (g : Grid) (k : Int) : Bool := (decide (k ≥ 0) && decide (k < g.levels.length)) && lv g k != 30000
def hiStep (g : Grid) (b k : Int) : Int := bif knownF g k && ((decide (b < 0) || decide (lv g k > lv g b)) || (lv g k == lv g b && decide (k < b))) then k else b
def hiF (g : Grid) (l : List Int) : Int := l.foldl (hiStep g) (-1)
theorem hiF_take {g : Grid} {l : List Int} {i : Nat} (h : i < l.length) : hiF g (l.take (i + 1)) = hiStep g (hiF g (l.take i)) (l.getD i 0) := by
  unfold hiF
  rw [List.take_add_one, List.getElem?_eq_getElem h, List.foldl_append]
  have e : l.getD i 0 = l[i] := by simp [List.getD_eq_getElem?_getD, h]
  rw [e]; rfl
def botsL (c : Chan) (g : Grid) (i : Nat) : List Int := (List.range i).filterMap fun k => bif botI c g k then some (k : Int) else none
theorem botsL_succ (c : Chan) (g : Grid) (i : Nat) : botsL c g (i + 1) = bif botI c g i then botsL c g i ++ [(i : Int)] else botsL c g i := by
  unfold botsL
  rw [filterMap_range_succ]
  cases botI c g i <;> simp
theorem botsL_len (c : Chan) (g : Grid) (i : Nat) : (botsL c g i).length ≤ i := by
  have := List.length_filterMap_le (fun k => bif botI c g k then some (k : Int) else none) (List.range i)
  rw [List.length_range] at this
  exact this
theorem botsL_mem {c : Chan} {g : Grid} {i : Nat} {k : Int} (h : k ∈ botsL c g i) : 0 ≤ k ∧ k < i := by
  unfold botsL at h
  simp only [List.mem_filterMap, List.mem_range] at h
  obtain ⟨j, hj, h⟩ := h
  cases h2 : botI c g j with
  | false => rw [h2] at h; cases h
  | true => rw [h2] at h; simp at h; omega
def flF (c : Chan) (g : Grid) (i : Nat) : Nat → Nat → DV := fun k _ => dI (if k < i ∧ botI c g k = false then 30000 else g.levels.getD k 0)
def floorG (c : Chan) (g : Grid) : Grid := { g with levels := (List.range g.levels.length).map fun k => if botI c g k = false then 30000 else g.levels.getD k 0 }
end Go.Ch

namespace Go.Ch
open Go Go.Ax Go.Proofs Go.Proofs.Tryz
set_option maxRecDepth 100000
set_option pp.maxSteps 400
set_option maxHeartbeats 1000000

def unkB (g : Grid) (k : Int) : Bool := lv g k == 30000
def rCtlR (c : Chan) (g : Grid) : Int × Int := bif (botsL c g g.levels.length).isEmpty then (0, 11) else bif (botsL c g g.levels.length).any (unkB g) then (0, 12) else (hiF g (botsL c g g.levels.length), 0)
theorem cont_bots (c : Chan) (g : Grid) : ∀ i, i ≤ g.levels.length → decide ((contF c g i).1 < 0) = (botsL c g i).isEmpty ∧ (contF c g i).2 = (botsL c g i).any (unkB g) ∧ ((contF c g i).2 = false → hiF g (botsL c g i) = (contF c g i).1)
  | 0, _ => ⟨rfl, rfl, fun _ => rfl⟩
  | i + 1, hi => by
    obtain ⟨h1, h2, h3⟩ := cont_bots c g i (by omega)
    have hin := contF_in c g i
    rw [contF, botsL_succ]
    cases hb : botI c g i with
    | false => exact ⟨h1, h2, h3⟩
    | true =>
      simp only [Bool.not_true, cond_false, cond_true]
      refine ⟨?_, ?_, fun h => ?_⟩
      · rw [isEmpty_snoc]
        unfold stepC
        cases hs : decide ((contF c g i).1 < 0) || decide (lv g i > lv g (contF c g i).1) with
        | true => simp only [cond_true, decide_eq_false_iff_not]; omega
        | false =>
          simp only [Bool.or_eq_false_iff, decide_eq_false_iff_not] at hs
          simp only [cond_false, decide_eq_false_iff_not]; exact hs.1
      · unfold stepC
        rw [List.any_append, h2]
        simp [unkB]
      · unfold stepC at h ⊢
        simp only [Bool.or_eq_false_iff] at h
        have h3 := h3 h.1
        unfold hiF at h3 ⊢
        rw [List.foldl_append, h3]
        show hiStep g (contF c g i).1 i = _
        have hk : knownF g (i : Int) = true := by
          unfold knownF
          have : (lv g (i : Int) != 30000) = true := by simpa using h.2
          rw [this, decide_eq_true (show (i : Int) ≥ 0 by omega), decide_eq_true (show (i : Int) < g.levels.length by omega)]; rfl
        have hlt : decide ((i : Int) < (contF c g i).1) = false := decide_eq_false (by omega)
        unfold hiStep
        rw [hk, hlt, Bool.and_false, Bool.or_false, Bool.true_and]
theorem ctl_eq (c : Chan) (g : Grid) (h : withErr c [g] = 0) : ctlR c g = rCtlR c g := by
  obtain ⟨h1, h2, h3⟩ := cont_bots c g _ (Nat.le_refl _)
  unfold ctlR rCtlR
  rw [h, ← h1, ← h2]
  cases hb : (contF c g g.levels.length).2 with
  | true => rfl
  | false => rw [h3 hb]; rfl
end Go.Ch

namespace Go.Ch
open Go Go.Ax Go.Proofs Go.Proofs.Tryz
set_option maxRecDepth 100000
set_option pp.maxSteps 400
set_option maxHeartbeats 1000000

/-- What one cell has to lose. -/
def needS (g : Grid) (sum : Int) (i : Nat) (level : Int) : Int :=
  bif g.levels.getD i 0 != 30000 then w64 (sum + w64 (w64 (g.side * g.side) * mm true 0 (w64 (g.levels.getD i 0 - level)))) else sum
abbrev needB (g : Grid) (sum : Int) : BoxL := [(1001, gridB g), (1002, .cells [.d (dI sum)])]
def openB (g : Grid) : List Int → BoxL
  | [] => [(1001, gridB g), (1002, .cells [.d (.val (.slice none 0 0))])]
  | x :: r => [(1001, gridB g), (1002, .cells [.own 1003]), (1003, .row 3 (x :: r).length 1 (intEl (x :: r)))]
def openHit (g : Grid) (i : Nat) (level : Int) : Bool := g.levels.getD i 0 != 30000 && decide (g.levels.getD i 0 > level)
end Go.Ch

namespace Go.Ch
open Go Go.Ax Go.Proofs Go.Proofs.Tryz
set_option maxRecDepth 100000
set_option pp.maxSteps 400
set_option maxHeartbeats 1000000

abbrev rGE (g : Grid) (e : Int) : AV := .t [.g [.d (dI g.x), .d (dI g.y), .d (dI g.side), .d (dI g.cols), .d (dI g.rows), .d (dInts g.levels)], .s (.d (dI e))]
def zeroG : Grid := ⟨0, 0, 0, 0, 0, []⟩
theorem zero_rGE {e e' : Int} (h : e = e') : SubR (.t [.g (zvs ty24.zero), .s (.d (dI e))]) (rGE zeroG e') := by
  subst h
  exact SubR.t ⟨⟨LeD.refl _, LeD.refl _, LeD.refl _, LeD.refl _, LeD.refl _, LeD.nil, trivial⟩, LeD.refl _, trivial⟩
end Go.Ch

namespace Go.Ch
open Go Go.Ax Go.Proofs Go.Proofs.Tryz
set_option maxRecDepth 100000
set_option pp.maxSteps 400
set_option maxHeartbeats 1000000

theorem snoc_cons {α : Type} : ∀ (l : List α) (x : α), ∃ y r, l ++ [x] = y :: r
  | [], x => ⟨x, [], rfl⟩
  | y :: r, x => ⟨y, r ++ [x], rfl⟩
abbrev rIntsE (l : List Int) (e : Int) : AV := .t [.s (.d (dInts l)), .s (.d (dI e))]
end Go.Ch

namespace Go.Ch
open Go Go.Ax Go.Proofs Go.Proofs.Tryz
set_option maxRecDepth 100000
set_option pp.maxSteps 400
set_option maxHeartbeats 1000000

theorem rIntsEq (a : List Int) (ha : a.length ≤ 1000000) : CallP Tryz.prog 35 [vInts a, vInts a] (vB true) := by
  refine callP_of_ex (rc := []) (N := 26) Tryz.func35 rfl rfl Tryz.call35 tab_ok mix rfl rfl (fun cx href => ?_)
  refine And.intro (fun h => ?_) (fun _ => ?_)
  · exfalso
    have h : ((a.length : Int) != (a.length : Int)) = true := h
    simp at h
  refine AW.loopI (fun i : Nat => ⟨[(0, vInts a), (1, vInts a), (5, vI i)], []⟩) (fun i => i ≤ a.length) (fun i => a.length - i) 0 (Nat.zero_le _) ?_ ?_
  · exact SubI.of0 href [] rfl trivial ⟨⟨rfl, LeQ.rfl⟩, ⟨rfl, LeQ.rfl⟩, ⟨rfl, LeQ.rfl⟩, trivial⟩
  · intro i hi
    refine ex.sound (rc := []) tab_ok mix href _ ?_
    refine And.intro (fun h => ?_) (fun h => ?_)
    · have h : decide ((i : Int) < a.length) = true := h
      have h := of_decide_eq_true h
      refine oi ⟨by omega, by omega⟩ ?_
      refine oi ⟨by omega, by omega⟩ ?_
      refine And.intro (by kernel_rfl) ?_
      refine And.intro (fun h2 => ?_) (fun _ => ?_)
      · exfalso
        have h2 : (a.getD i 0 != a.getD i 0) = true := h2
        simp at h2
      · refine ⟨i + 1, by omega, by omega, ?_⟩
        exact SubI.of0 href [] rfl trivial ⟨⟨rfl, LeQ.rfl⟩, ⟨rfl, LeQ.rfl⟩, ⟨rfl, LeQ.int (w64_of (by omega) (by omega))⟩, trivial⟩
    · exact SubR.lit rfl

def excS (g d : Grid) (sum : Int) (i : Nat) : Int :=
  bif d.levels.getD i 0 != 30000 && g.levels.getD i 0 != 30000 then w64 (sum + w64 (w64 (g.side * g.side) * mm true 0 (w64 (g.levels.getD i 0 - d.levels.getD i 0)))) else sum
def excF (g d : Grid) : Nat → Int
  | 0 => 0
  | i + 1 => excS g d (excF g d i) i
end Go.Ch

namespace Go.Ch
open Go Go.Ax Go.Proofs Go.Proofs.Tryz
set_option maxRecDepth 100000
set_option pp.maxSteps 400
set_option maxHeartbeats 1000000

theorem rSame (g : Grid) (hl : g.levels.length ≤ 1000000) : CallP Tryz.prog 11 [grid g, grid g] (vB true) := by
  refine callP_of_ex (rc := []) (N := 45) Tryz.func11 rfl rfl Tryz.call11 tab_ok mix rfl rfl (fun cx href => ?_)
  repeat first | refine sk ?_ | refine st ?_ | refine sg ?_ | refine sh ?_ | refine su ?_ | refine sn1 ?_ | refine sn0 ?_
  refine callG (rIntsEq g.levels hl) ?_
  repeat first | refine sk ?_ | refine st ?_ | refine sg ?_ | refine sh ?_ | refine su ?_ | refine sn1 ?_ | refine sn0 ?_
  refine SubR.of_eq ?_
  show vB (((((g.x == g.x && g.y == g.y) && g.side == g.side) && g.cols == g.cols) && g.rows == g.rows) && true) = vB true
  simp
theorem errG_levels {g : Grid} {l : List Int} (h : errG g = 0) (hn : l.length = g.levels.length) (hb : l.any badL = false) : errG { g with levels := l } = 0 := by
  unfold errG at h ⊢
  rw [show e1 { g with levels := l } = e1 g from rfl]
  cases h1 : e1 g with
  | true => rw [h1] at h; cases h
  | false =>
    rw [h1] at h
    simp only [cond_false, hn, hb] at h ⊢
    cases h2 : decide (w64 (g.cols * g.rows) > 1024) with
    | true => rw [h2] at h; cases h
    | false =>
      rw [h2] at h
      simp only [cond_false] at h ⊢
      cases h3 : (decide (w64 (g.x + w64 (g.cols * g.side)) > 1000000) || decide (w64 (g.y + w64 (g.rows * g.side)) > 1000000)) with
      | true => rw [h3] at h; cases h
      | false =>
        rw [h3] at h
        simp only [cond_false] at h ⊢
        cases h4 : ((g.levels.length : Int) != w64 (g.cols * g.rows)) with
        | true => rw [h4] at h; cases h
        | false => rfl
theorem few_len {g : Grid} (h : few g = true) : g.levels.length ≤ 1100 := by
  unfold few at h
  simp only [Bool.or_eq_true, Bool.and_eq_true, decide_eq_true_eq] at h
  omega
end Go.Ch

namespace Go.Ch
open Go Go.Ax Go.Proofs Go.Proofs.Tryz
set_option maxRecDepth 100000
set_option pp.maxSteps 400
set_option maxHeartbeats 1000000

theorem bknown (g : Grid) (i : Nat) (hi : i < g.levels.length) (hl : g.levels.length ≤ 1000000) : CallP Tryz.prog 65 [grid g, vI i] (vB (g.levels.getD i 0 != 30000)) := by
  refine callP_of_ex (rc := []) (N := 20) Tryz.func65 rfl rfl Tryz.call65 tab_ok mix rfl rfl (fun cx _ => ?_)
  refine callN ((bbetween 0 (w64 ((g.levels.length : Int) - 1)) [(i : Int)] (by simp)).conv (args' := _) ⟨LeD.refl _, LeD.refl _, LeD.slc fun i j hi hj => ?_, trivial⟩) ?_
  · obtain rfl : i = 0 := by have : i < 1 := hi; omega
    obtain rfl : j = 0 := by have : j < 1 := hj; omega
    exact LeD.of_eq rfl
  repeat first | refine sk ?_ | refine st ?_ | refine sg ?_ | refine sh ?_ | refine su ?_ | refine sn1 ?_ | refine sn0 ?_
  refine og (fun _ => ⟨by omega, by omega⟩) ?_
  repeat first | refine sk ?_ | refine st ?_ | refine sg ?_ | refine sh ?_ | refine su ?_ | refine sn1 ?_ | refine sn0 ?_
  refine SubR.of_eq ?_
  show vB ((!outL 0 (w64 ((g.levels.length : Int) - 1)) [(i : Int)]) && (g.levels.getD i 0 != 30000)) = _
  have e : outL 0 (w64 ((g.levels.length : Int) - 1)) [(i : Int)] = false := by
    rw [w64_of (by omega) (by omega)]
    simp [outL, within]
    omega
  rw [e]; rfl
def partV (lo hi a b : Int) : Int := mm true 0 (w64 (mm false b hi - mm true a lo))
theorem bpart (lo hi a b : Int) : CallP Tryz.prog 97 [.g [.d (dI lo), .d (dI hi)], vI a, vI b] (vI (partV lo hi a b)) := by
  refine callP_of_ex (rc := []) (N := 17) Tryz.func97 rfl rfl Tryz.call97 tab_ok mix rfl rfl (fun cx _ => ?_)
  exact SubR.refl _
theorem bcells (g : Grid) : CallP Tryz.prog 96 [grid g] (.g [.d (dI g.x), .d (dI g.y), .d (dI g.side), .d (dI g.cols), .d (dI g.rows)]) := by
  refine callP_of_ex (rc := []) (N := 14) Tryz.func96 rfl rfl Tryz.call96 tab_ok mix rfl rfl (fun cx _ => ?_)
  exact SubR.refl _
theorem ball : CallP Tryz.prog 59 [] (.g [.d (dI (-20000)), .d (dI 20000)]) := by
  refine callP_of_ex (rc := []) (N := 2) Tryz.func59 rfl rfl Tryz.call59 tab_ok mix rfl rfl (fun cx _ => ?_)
  exact SubR.refl _
theorem bany (i : Int) : CallP Tryz.prog 60 [vI i] (vB true) := by
  refine callP_of_ex (rc := []) (N := 3) Tryz.func60 rfl rfl Tryz.call60 tab_ok mix rfl rfl (fun cx _ => ?_)
  exact SubR.lit rfl
def sameC (a b : Grid) : Bool := a.x == b.x && (a.y == b.y && (a.side == b.side && (a.cols == b.cols && (a.rows == b.rows && true))))
def err2 (a b : Grid) : Int := bif errG a != 0 then errG a else bif errG b != 0 then errG b else bif !sameC a b then 10 else 0
attribute [local irreducible] errG in
theorem bboth (a b : Grid) (ha : a.ok) (hb : b.ok) : CallP Tryz.prog 57 [grid a, grid b] (vI (err2 a b)) := by
  refine callP_of_ex (rc := []) (N := 27) Tryz.func57 rfl rfl Tryz.call57 tab_ok mix rfl rfl (fun cx href => ?_)
  refine AW.loopI (fun i : Nat => ⟨[(2, .s (.ptr 2 0)), (3, .s (.ptr 3 0)), (10, .s (.own 10)), (11, vI 2), (12, vI i)],
      [(2, some (gridB a)), (3, some (gridB b)), (10, some (.row 24 2 6 (rowF 6 [.d (dI a.x), .d (dI a.y), .d (dI a.side), .d (dI a.cols), .d (dI a.rows), .d (dInts a.levels), .d (dI b.x), .d (dI b.y), .d (dI b.side), .d (dI b.cols), .d (dI b.rows), .d (dInts b.levels)])))]⟩)
    (fun i => i ≤ 2 ∧ (0 < i → errG a = 0) ∧ (1 < i → errG b = 0)) (fun i => 2 - i) 0 ⟨by omega, by omega, by omega⟩ ?_ ?_
  · exact SubI.of0 href [] rfl ⟨⟨rfl, LeBx.rfl⟩, ⟨rfl, LeBx.rfl⟩, ⟨rfl, LeBx.rfl⟩, trivial⟩ ⟨⟨rfl, LeQ.rfl⟩, ⟨rfl, LeQ.rfl⟩, ⟨rfl, LeQ.rfl⟩, ⟨rfl, LeQ.rfl⟩, ⟨rfl, LeQ.rfl⟩, trivial⟩
  · rintro i ⟨hi, ea, eb⟩
    refine ex.sound (rc := []) tab_ok mix href _ ?_
    refine And.intro (fun h => ?_) (fun h => ?_)
    · have h : (i : Int) < 2 := decT h
      match i, h, ea with
      | 0, _, _ =>
        refine oi ⟨by omega, by omega⟩ ?_
        refine oi (by decide) ?_
        refine callN (bcheck a ha.levels) ?_
        refine And.intro (fun h2 => ?_) (fun h2 => ?_)
        · have h2 : (errG a != 0) = true := h2
          exact SubR.of_eq (by unfold err2; rw [h2]; rfl)
        · have h2 : (errG a != 0) = false := h2
          refine ⟨1, ⟨by omega, fun _ => by simpa using h2, by omega⟩, by omega, ?_⟩
          exact SubI.of0 href [] rfl ⟨⟨rfl, LeBx.rfl⟩, ⟨rfl, LeBx.rfl⟩, ⟨rfl, LeBx.rfl⟩, trivial⟩ ⟨⟨rfl, LeQ.rfl⟩, ⟨rfl, LeQ.rfl⟩, ⟨rfl, LeQ.rfl⟩, ⟨rfl, LeQ.rfl⟩, ⟨rfl, LeQ.int rfl⟩, trivial⟩
      | 1, _, ea =>
        have ea := ea (by omega)
        refine oi ⟨by omega, by omega⟩ ?_
        refine oi (by decide) ?_
        refine callN (bcheck b hb.levels) ?_
        refine And.intro (fun h2 => ?_) (fun h2 => ?_)
        · have h2 : (errG b != 0) = true := h2
          exact SubR.of_eq (by unfold err2; rw [ea, h2]; rfl)
        · have h2 : (errG b != 0) = false := h2
          refine ⟨2, ⟨by omega, fun _ => ea, fun _ => by simpa using h2⟩, by omega, ?_⟩
          exact SubI.of0 href [] rfl ⟨⟨rfl, LeBx.rfl⟩, ⟨rfl, LeBx.rfl⟩, ⟨rfl, LeBx.rfl⟩, trivial⟩ ⟨⟨rfl, LeQ.rfl⟩, ⟨rfl, LeQ.rfl⟩, ⟨rfl, LeQ.rfl⟩, ⟨rfl, LeQ.rfl⟩, ⟨rfl, LeQ.int rfl⟩, trivial⟩
    · have h : ¬ (i : Int) < 2 := decF h
      have ea := ea (by omega)
      have eb := eb (by omega)
      refine callN (bcells a) ?_
      refine callN (bcells b) ?_
      refine And.intro (by kernel_rfl) ?_
      have e : err2 a b = bif !sameC a b then 10 else 0 := by unfold err2; rw [ea, eb]; rfl
      refine And.intro (fun h2 => ?_) (fun h2 => ?_)
      · have h2 : (!sameC a b) = true := h2
        exact SubR.of_eq (by rw [e, h2]; rfl)
      · have h2 : (!sameC a b) = false := h2
        exact SubR.of_eq (by rw [e, h2]; rfl)
end Go.Ch

namespace Go.Ch
open Go Go.Ax Go.Proofs Go.Proofs.Tryz
set_option maxRecDepth 100000
set_option pp.maxSteps 400
set_option maxHeartbeats 1000000

/-- Cut, fill and unknown cells. -/
structure Chg where
  cut : Int
  fill : Int
  unk : Int
def chS (a b : Grid) (lo hi : Int) (s : Chg) (i : Nat) : Chg :=
  bif !(a.levels.getD i 0 != 30000) || !(b.levels.getD i 0 != 30000) then ⟨s.cut, s.fill, w64 (s.unk + 1)⟩
  else ⟨w64 (s.cut + w64 (w64 (a.side * a.side) * partV lo hi (b.levels.getD i 0) (a.levels.getD i 0))), w64 (s.fill + w64 (w64 (a.side * a.side) * partV lo hi (a.levels.getD i 0) (b.levels.getD i 0))), s.unk⟩
def chF (a b : Grid) (lo hi : Int) : Nat → Chg
  | 0 => ⟨0, 0, 0⟩
  | i + 1 => chS a b lo hi (chF a b lo hi i) i
abbrev chg (s : Chg) : AV := .g [.d (dI s.cut), .d (dI s.fill), .d (dI s.unk)]
abbrev chgB (s : Chg) : Box := .cells [.d (dI s.cut), .d (dI s.fill), .d (dI s.unk)]
theorem bchange (a b : Grid) (lo hi : Int) (ha : a.levels.length ≤ 1000000) (hb : b.levels.length = a.levels.length) :
    CallP Tryz.prog 58 [grid a, grid b, .g [.d (dI lo), .d (dI hi)], .s (.d (.clo 60 0 fun _ => .junk))] (chg (chF a b lo hi a.levels.length)) := by
  refine callP_of_ex (rc := []) (N := 77) Tryz.func58 rfl rfl Tryz.call58 tab_ok mix rfl rfl (fun cx href => ?_)
  refine AW.loopI (fun i : Nat => ⟨[(3, .s (.d (.clo 60 0 fun _ => .junk))), (4, .s (.ptr 4 0)), (5, .s (.ptr 5 0)), (6, .s (.ptr 6 0)), (8, .s (.ptr 8 0)), (9, .s (.ptr 9 0)), (10, vI (w64 (a.side * a.side))), (21, vI a.levels.length), (22, vI i)],
      [(4, some (gridB a)), (5, some (gridB b)), (6, some (.cells [.d (dI lo), .d (dI hi)])), (8, some (chgB ⟨0, 0, 0⟩)), (9, some (chgB (chF a b lo hi i)))]⟩)
    (fun i => i ≤ a.levels.length) (fun i => a.levels.length - i) 0 (Nat.zero_le _) ?_ ?_
  · exact SubI.of0 href [] rfl ⟨⟨rfl, LeBx.rfl⟩, ⟨rfl, LeBx.rfl⟩, ⟨rfl, LeBx.rfl⟩, ⟨rfl, LeBx.rfl⟩, ⟨rfl, LeBx.rfl⟩, trivial⟩ ⟨⟨rfl, LeQ.rfl⟩, ⟨rfl, LeQ.rfl⟩, ⟨rfl, LeQ.rfl⟩, ⟨rfl, LeQ.rfl⟩, ⟨rfl, LeQ.rfl⟩, ⟨rfl, LeQ.rfl⟩, ⟨rfl, LeQ.rfl⟩, ⟨rfl, LeQ.rfl⟩, ⟨rfl, LeQ.rfl⟩, trivial⟩
  · intro i hi'
    refine ex.sound (rc := []) tab_ok mix href _ ?_
    refine And.intro (fun h => ?_) (fun h => ?_)
    · have h : (i : Int) < a.levels.length := decT h
      refine oi ⟨by omega, by omega⟩ ?_
      refine oi ⟨by omega, by omega⟩ ?_
      refine And.intro (by kernel_rfl) ?_
      refine callN (bany i) ?_
      refine And.intro (fun h2 => by cases h2) (fun _ => ?_)
      refine callN (bknown a i (by omega) ha) ?_
      repeat first | refine sk ?_ | refine st ?_ | refine sg ?_ | refine sh ?_ | refine su ?_ | refine sn1 ?_ | refine sn0 ?_
      refine callG (bknown b i (by omega) (by omega)) ?_
      repeat first | refine sk ?_ | refine st ?_ | refine sg ?_ | refine sh ?_ | refine su ?_ | refine sn1 ?_ | refine sn0 ?_
      refine And.intro (fun h2 => ?_) (fun h2 => ?_)
      · have h2 : (!(a.levels.getD i 0 != 30000) || !(b.levels.getD i 0 != 30000)) = true := h2
        have e : chF a b lo hi (i + 1) = ⟨(chF a b lo hi i).cut, (chF a b lo hi i).fill, w64 ((chF a b lo hi i).unk + 1)⟩ := by rw [chF, chS, h2]; rfl
        refine ⟨i + 1, by omega, by omega, ?_⟩
        exact SubI.of0 href [] rfl ⟨⟨rfl, LeBx.rfl⟩, ⟨rfl, LeBx.rfl⟩, ⟨rfl, LeBx.rfl⟩, ⟨rfl, LeBx.rfl⟩, ⟨rfl, LeBx.of_eq (by rw [e]; rfl)⟩, trivial⟩ ⟨⟨rfl, LeQ.rfl⟩, ⟨rfl, LeQ.rfl⟩, ⟨rfl, LeQ.rfl⟩, ⟨rfl, LeQ.rfl⟩, ⟨rfl, LeQ.rfl⟩, ⟨rfl, LeQ.rfl⟩, ⟨rfl, LeQ.rfl⟩, ⟨rfl, LeQ.rfl⟩, ⟨rfl, LeQ.int (w64_of (by omega) (by omega))⟩, trivial⟩
      · have h2 : (!(a.levels.getD i 0 != 30000) || !(b.levels.getD i 0 != 30000)) = false := h2
        have e : chF a b lo hi (i + 1) = ⟨w64 ((chF a b lo hi i).cut + w64 (w64 (a.side * a.side) * partV lo hi (b.levels.getD i 0) (a.levels.getD i 0))), w64 ((chF a b lo hi i).fill + w64 (w64 (a.side * a.side) * partV lo hi (a.levels.getD i 0) (b.levels.getD i 0))), (chF a b lo hi i).unk⟩ := by rw [chF, chS, h2]; rfl
        refine callN (bpart lo hi _ _) ?_
        refine And.intro (by kernel_rfl) ?_
        refine callN (bpart lo hi _ _) ?_
        refine And.intro (by kernel_rfl) ?_
        refine ⟨i + 1, by omega, by omega, ?_⟩
        exact SubI.of0 href [] rfl ⟨⟨rfl, LeBx.rfl⟩, ⟨rfl, LeBx.rfl⟩, ⟨rfl, LeBx.rfl⟩, ⟨rfl, LeBx.rfl⟩, ⟨rfl, LeBx.of_eq (by rw [e]; rfl)⟩, trivial⟩ ⟨⟨rfl, LeQ.rfl⟩, ⟨rfl, LeQ.rfl⟩, ⟨rfl, LeQ.rfl⟩, ⟨rfl, LeQ.rfl⟩, ⟨rfl, LeQ.rfl⟩, ⟨rfl, LeQ.rfl⟩, ⟨rfl, LeQ.rfl⟩, ⟨rfl, LeQ.rfl⟩, ⟨rfl, LeQ.int (w64_of (by omega) (by omega))⟩, trivial⟩
    · have h : ¬ (i : Int) < a.levels.length := decF h
      obtain rfl : i = a.levels.length := by omega
      exact SubR.refl _
theorem sameC_len {a b : Grid} (ga : GVal a) (gb : GVal b) (h : sameC a b = true) : b.levels.length = a.levels.length := by
  unfold sameC at h
  simp only [Bool.and_eq_true, beq_iff_eq] at h
  have h1 := ga.len
  have h2 := gb.len
  rw [h.2.2.2.1, h.2.2.2.2.1] at h1
  omega
theorem err2_zero {a b : Grid} (h : err2 a b = 0) : errG a = 0 ∧ errG b = 0 ∧ sameC a b = true := by
  unfold err2 at h
  cases h1 : errG a != 0 with
  | true => rw [h1] at h; simp at h1; exact absurd h h1
  | false =>
    cases h2 : errG b != 0 with
    | true => rw [h1, h2] at h; simp at h2; exact absurd h h2
    | false =>
      cases h3 : sameC a b with
      | false => rw [h1, h2, h3] at h; cases h
      | true => simp at h1 h2; exact ⟨h1, h2, rfl⟩
def cmpR (a b : Grid) : Chg × Int := bif err2 a b != 0 then (⟨0, 0, 0⟩, err2 a b) else (chF a b (-20000) 20000 a.levels.length, 0)
attribute [local irreducible] err2 in
theorem gCompare (a b : Grid) (ha : a.ok) (hb : b.ok) : CallP Tryz.prog 24 [grid a, grid b] (.t [.g [.d (dI (cmpR a b).1.cut), .d (dI (cmpR a b).1.fill), .d (dI (cmpR a b).1.unk)], .s (.d (dI (cmpR a b).2))]) := by
  refine callP_of_ex (rc := []) (N := 18) Tryz.func24 rfl rfl Tryz.call24 tab_ok mix rfl rfl (fun cx href => ?_)
  refine callN (bboth a b ha hb) ?_
  refine And.intro (fun h => ?_) (fun h => ?_)
  · have h : (err2 a b != 0) = true := h
    rw [show cmpR a b = (⟨0, 0, 0⟩, err2 a b) by unfold cmpR; rw [h]; rfl]
    exact SubR.refl _
  · have h : (err2 a b != 0) = false := h
    obtain ⟨e1, e2, e3⟩ := err2_zero (show err2 a b = 0 by simpa using h)
    have ga := GVal.of e1
    have gb := GVal.of e2
    have hn := ga.n
    rw [show cmpR a b = (chF a b (-20000) 20000 a.levels.length, 0) by unfold cmpR; rw [h]; rfl]
    refine callN ball ?_
    refine callN ((bchange a b (-20000) 20000 (by omega) (sameC_len ga gb e3)).conv (args' := _) ⟨⟨LeD.refl _, LeD.refl _, LeD.refl _, LeD.refl _, LeD.refl _, LeD.refl _, trivial⟩, ⟨LeD.refl _, LeD.refl _, LeD.refl _, LeD.refl _, LeD.refl _, LeD.refl _, trivial⟩, ⟨LeD.refl _, LeD.refl _, trivial⟩, LeD.clo fun j hj => absurd hj (Nat.not_lt_zero j), trivial⟩) ?_
    refine And.intro (by kernel_rfl) ?_
    exact SubR.refl _
end Go.Ch
