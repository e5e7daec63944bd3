/- Part Ch4: lemmas that the proofs of this seat share; by itself it claims nothing. -/
import Derived.Test.YtfdgbddmggoilaaCh3
namespace Go.Ch
open Go Go.Ax Go.Proofs Go.Proofs.Try
set_option maxRecDepth 100000
set_option pp.maxSteps 400
set_option maxHeartbeats 1000000

abbrev prtA (x : Prt) : AV := .g (prtS x)
def onBot (x : Prt) : Bool := decide (x.offset ≤ x.half)
def botF (c : Chan) (p : Pt) : Bool := (partsL c p).any onBot
theorem parts_len (c : Chan) (p : Pt) : (partsL c p).length ≤ 2 * c.axis.length := by
  unfold partsL legsL bendsL
  rw [List.length_append]
  have h1 := List.length_filterMap_le (fun k => legF c k p) (List.range (c.axis.length - 1))
  have h2 := List.length_filterMap_le (fun k => bendN c k p) (List.range (c.axis.length - 2))
  rw [List.length_range] at h1 h2
  omega
theorem botF_holds (c : Chan) (p : Pt) (h2 : 2 ≤ c.axis.length) : (holdsL c p (c.axis.length - 1)).any onBot = botF c p := by
  unfold botF
  rw [Bool.eq_iff_iff, List.any_eq_true, List.any_eq_true]
  exact ⟨fun ⟨x, hx, h⟩ => ⟨x, (parts_holds c p h2 x).2 hx, h⟩, fun ⟨x, hx, h⟩ => ⟨x, (parts_holds c p h2 x).1 hx, h⟩⟩
def lv (g : Grid) (k : Int) : Int := g.levels.getD k.toNat 0
def botI (c : Chan) (g : Grid) (i : Nat) : Bool := botF c (centreG g i)
def stepC (g : Grid) (r : Int × Bool) (i : Nat) : Int × Bool := (bif decide (r.1 < 0) || decide (lv g i > lv g r.1) then (i : Int) else r.1, r.2 || lv g i == 30000)
def contF (c : Chan) (g : Grid) : Nat → Int × Bool
  | 0 => (-1, false)
  | i + 1 => bif !botI c g i then contF c g i else stepC g (contF c g i) i
def ctlR (c : Chan) (g : Grid) : Int × Int := bif withErr c [g] != 0 then (0, withErr c [g]) else bif decide ((contF c g g.levels.length).1 < 0) then (0, 11) else bif (contF c g g.levels.length).2 then (0, 12) else ((contF c g g.levels.length).1, 0)
theorem withErr1_zero {c : Chan} {g : Grid} (h : withErr c [g] = 0) : errC c = 0 ∧ errG g = 0 := by
  rw [withErr1] at h
  cases h1 : errC c != 0 with
  | true => rw [h1] at h; simp at h1; exact absurd h h1
  | false => rw [h1] at h; exact ⟨by simpa using h1, h⟩
theorem contF_in (c : Chan) (g : Grid) : ∀ i, -1 ≤ (contF c g i).1 ∧ (contF c g i).1 < i
  | 0 => by simp [contF]
  | i + 1 => by
    have ih := contF_in c g i
    rw [contF]
    cases h : botI c g i with
    | false => simp only [Bool.not_false, cond_true]; omega
    | true =>
      simp only [Bool.not_true, cond_false]
      unfold stepC
      cases h2 : decide ((contF c g i).1 < 0) || decide (lv g i > lv g (contF c g i).1) with
      | true => simp only [cond_true]; omega
      | false => simp only [cond_false]; omega
end Go.Ch

namespace Go.Ch
open Go Go.Ax Go.Proofs Go.Proofs.Try
set_option maxRecDepth 100000
set_option pp.maxSteps 400
set_option maxHeartbeats 1000000

theorem rThere (g : Grid) (k : Int) : CallP Try.prog 25 [grid g, vI k] (vB (decide (k ≥ 0) && decide (k < g.levels.length))) := by
  refine callP_of_ex (rc := []) (N := 14) Try.func25 rfl rfl Try.call25 tab_ok mix rfl rfl (fun cx href => ?_)
  repeat first | refine sk ?_ | refine st ?_ | refine sg ?_ | refine sh ?_ | refine su ?_ | refine sn1 ?_ | refine sn0 ?_
  exact SubR.refl _
def knownF (g : Grid) (k : Int) : Bool := (decide (k ≥ 0) && decide (k < g.levels.length)) && lv g k != 30000
theorem rKnown (g : Grid) (k : Int) : CallP Try.prog 108 [grid g, vI k] (vB (knownF g k)) := by
  refine callP_of_ex (rc := []) (N := 16) Try.func108 rfl rfl Try.call108 tab_ok mix rfl rfl (fun cx href => ?_)
  refine callN (rThere g k) ?_
  repeat first | refine sk ?_ | refine st ?_ | refine sg ?_ | refine sh ?_ | refine su ?_ | refine sn1 ?_ | refine sn0 ?_
  refine og (fun hb => ?_) ?_
  · have hb : (decide (k ≥ 0) && decide (k < g.levels.length)) = true := hb
    simp only [Bool.and_eq_true, decide_eq_true_eq] at hb
    exact ⟨hb.1, hb.2⟩
  repeat first | refine sk ?_ | refine st ?_ | refine sg ?_ | refine sh ?_ | refine su ?_ | refine sn1 ?_ | refine sn0 ?_
  exact SubR.refl _
def hiStep (g : Grid) (b k : Int) : Int := bif knownF g k && ((decide (b < 0) || decide (lv g k > lv g b)) || (lv g k == lv g b && decide (k < b))) then k else b
def hiF (g : Grid) (l : List Int) : Int := l.foldl (hiStep g) (-1)
theorem hiF_take {g : Grid} {l : List Int} {i : Nat} (h : i < l.length) : hiF g (l.take (i + 1)) = hiStep g (hiF g (l.take i)) (l.getD i 0) := by
  unfold hiF
  rw [List.take_add_one, List.getElem?_eq_getElem h, List.foldl_append]
  have e : l.getD i 0 = l[i] := by simp [List.getD_eq_getElem?_getD, h]
  rw [e]; rfl
theorem rHighest (g : Grid) (l : List Int) (hl : l.length ≤ 9223372036854775807) (hm : ∀ i, i < l.length → 0 ≤ l.getD i 0 ∧ l.getD i 0 < g.levels.length) : CallP Try.prog 56 [grid g, vInts l] (vI (hiF g l)) := by
  refine callP_of_ex (rc := []) (N := 58) Try.func56 rfl rfl Try.call56 tab_ok mix rfl rfl (fun cx href => ?_)
  refine AW.loopI (fun i : Nat => ⟨[(1, vInts l), (2, .s (.ptr 2 0)), (5, vI (hiF g (l.take i))), (6, vI i)], [(2, some (gridB g))]⟩) (fun i => i ≤ l.length ∧ -1 ≤ hiF g (l.take i) ∧ (0 ≤ hiF g (l.take i) → hiF g (l.take i) < g.levels.length)) (fun i => l.length - i) 0 ⟨Nat.zero_le _, by simp [hiF], by simp [hiF]⟩ ?_ ?_
  · exact SubI.of0 href [] rfl ⟨⟨rfl, LeBx.rfl⟩, trivial⟩ ⟨⟨rfl, LeQ.rfl⟩, ⟨rfl, LeQ.rfl⟩, ⟨rfl, LeQ.rfl⟩, ⟨rfl, LeQ.rfl⟩, trivial⟩
  · rintro i ⟨hi, hb0, hb1⟩
    refine ex.sound (rc := []) tab_ok mix href _ ?_
    refine And.intro (fun h => ?_) (fun h => ?_)
    · have h : (i : Int) < l.length := decT h
      have hi' : i < l.length := by omega
      have hk := hm i hi'
      refine oi ⟨by omega, by omega⟩ ?_
      refine callN (rKnown g (l.getD i 0)) ?_
      repeat first | refine sk ?_ | refine st ?_ | refine sg ?_ | refine sh ?_ | refine su ?_ | refine sn1 ?_ | refine sn0 ?_
      have hx : ∀ (x : Bool), (x && !decide (hiF g (l.take i) < 0)) = true → 0 ≤ hiF g (l.take i) ∧ hiF g (l.take i) < (g.levels.length : Int) := by
        intro x hx
        simp only [Bool.and_eq_true, Bool.not_eq_true', decide_eq_false_iff_not] at hx
        exact ⟨by omega, hb1 (by omega)⟩
      have hy : ∀ (x y : Bool), (x && !(decide (hiF g (l.take i) < 0) || y)) = true → 0 ≤ hiF g (l.take i) ∧ hiF g (l.take i) < (g.levels.length : Int) := by
        intro x y hx
        simp only [Bool.and_eq_true, Bool.not_eq_true', Bool.or_eq_false_iff, decide_eq_false_iff_not] at hx
        exact ⟨by omega, hb1 (by omega)⟩
      refine og (fun _ => hk) ?_
      repeat first | refine sk ?_ | refine st ?_ | refine sg ?_ | refine sh ?_ | refine su ?_ | refine sn1 ?_ | refine sn0 ?_
      refine og (fun hb => hx _ hb) ?_
      repeat first | refine sk ?_ | refine st ?_ | refine sg ?_ | refine sh ?_ | refine su ?_ | refine sn1 ?_ | refine sn0 ?_
      refine og (fun _ => hk) ?_
      repeat first | refine sk ?_ | refine st ?_ | refine sg ?_ | refine sh ?_ | refine su ?_ | refine sn1 ?_ | refine sn0 ?_
      refine og (fun hb => hy _ _ hb) ?_
      repeat first | refine sk ?_ | refine st ?_ | refine sg ?_ | refine sh ?_ | refine su ?_ | refine sn1 ?_ | refine sn0 ?_
      refine And.intro (by kernel_rfl) ?_
      have et := hiF_take (g := g) hi'
      refine And.intro (fun h3 => ?_) (fun h3 => ?_)
      · have h3 : (knownF g (l.getD i 0) && ((decide (hiF g (l.take i) < 0) || decide (lv g (l.getD i 0) > lv g (hiF g (l.take i)))) || (lv g (l.getD i 0) == lv g (hiF g (l.take i)) && decide (l.getD i 0 < hiF g (l.take i))))) = true := h3
        rw [hiStep, h3] at et
        simp only [cond_true] at et
        refine ⟨i + 1, ⟨by omega, by rw [et]; omega, by rw [et]; omega⟩, by omega, ?_⟩
        exact SubI.of0 href [] rfl ⟨⟨rfl, LeBx.rfl⟩, trivial⟩ ⟨⟨rfl, LeQ.rfl⟩, ⟨rfl, LeQ.rfl⟩, ⟨rfl, LeQ.int et.symm⟩, ⟨rfl, LeQ.int (w64_of (by omega) (by omega))⟩, trivial⟩
      · have h3 : (knownF g (l.getD i 0) && ((decide (hiF g (l.take i) < 0) || decide (lv g (l.getD i 0) > lv g (hiF g (l.take i)))) || (lv g (l.getD i 0) == lv g (hiF g (l.take i)) && decide (l.getD i 0 < hiF g (l.take i))))) = false := h3
        rw [hiStep, h3] at et
        simp only [cond_false] at et
        refine ⟨i + 1, ⟨by omega, by rw [et]; omega, by rw [et]; exact hb1⟩, by omega, ?_⟩
        exact SubI.of0 href [] rfl ⟨⟨rfl, LeBx.rfl⟩, trivial⟩ ⟨⟨rfl, LeQ.rfl⟩, ⟨rfl, LeQ.rfl⟩, ⟨rfl, LeQ.int et.symm⟩, ⟨rfl, LeQ.int (w64_of (by omega) (by omega))⟩, trivial⟩
    · have h : ¬ (i : Int) < l.length := decF h
      obtain rfl : i = l.length := by omega
      exact SubR.of_eq (congrArg (fun x => vI (hiF g x)) List.take_length)

def botsL (c : Chan) (g : Grid) (i : Nat) : List Int := (List.range i).filterMap fun k => bif botI c g k then some (k : Int) else none
theorem botsL_succ (c : Chan) (g : Grid) (i : Nat) : botsL c g (i + 1) = bif botI c g i then botsL c g i ++ [(i : Int)] else botsL c g i := by
  unfold botsL
  rw [filterMap_range_succ]
  cases botI c g i <;> simp
theorem botsL_len (c : Chan) (g : Grid) (i : Nat) : (botsL c g i).length ≤ i := by
  have := List.length_filterMap_le (fun k => bif botI c g k then some (k : Int) else none) (List.range i)
  rw [List.length_range] at this
  exact this
theorem botsL_mem {c : Chan} {g : Grid} {i : Nat} {k : Int} (h : k ∈ botsL c g i) : 0 ≤ k ∧ k < i := by
  unfold botsL at h
  simp only [List.mem_filterMap, List.mem_range] at h
  obtain ⟨j, hj, h⟩ := h
  cases h2 : botI c g j with
  | false => rw [h2] at h; cases h
  | true => rw [h2] at h; simp at h; omega
def flF (c : Chan) (g : Grid) (i : Nat) : Nat → Nat → DV := fun k _ => dI (if k < i ∧ botI c g k = false then 30000 else g.levels.getD k 0)
def floorG (c : Chan) (g : Grid) : Grid := { g with levels := (List.range g.levels.length).map fun k => if botI c g k = false then 30000 else g.levels.getD k 0 }
end Go.Ch

namespace Go.Ch
open Go Go.Ax Go.Proofs Go.Proofs.Try
set_option maxRecDepth 100000
set_option pp.maxSteps 400
set_option maxHeartbeats 1000000

def unkB (g : Grid) (k : Int) : Bool := lv g k == 30000
def rCtlR (c : Chan) (g : Grid) : Int × Int := bif (botsL c g g.levels.length).isEmpty then (0, 11) else bif (botsL c g g.levels.length).any (unkB g) then (0, 12) else (hiF g (botsL c g g.levels.length), 0)
theorem cont_bots (c : Chan) (g : Grid) : ∀ i, i ≤ g.levels.length → decide ((contF c g i).1 < 0) = (botsL c g i).isEmpty ∧ (contF c g i).2 = (botsL c g i).any (unkB g) ∧ ((contF c g i).2 = false → hiF g (botsL c g i) = (contF c g i).1)
  | 0, _ => ⟨rfl, rfl, fun _ => rfl⟩
  | i + 1, hi => by
    obtain ⟨h1, h2, h3⟩ := cont_bots c g i (by omega)
    have hin := contF_in c g i
    rw [contF, botsL_succ]
    cases hb : botI c g i with
    | false => exact ⟨h1, h2, h3⟩
    | true =>
      simp only [Bool.not_true, cond_false, cond_true]
      refine ⟨?_, ?_, fun h => ?_⟩
      · rw [isEmpty_snoc]
        unfold stepC
        cases hs : decide ((contF c g i).1 < 0) || decide (lv g i > lv g (contF c g i).1) with
        | true => simp only [cond_true, decide_eq_false_iff_not]; omega
        | false =>
          simp only [Bool.or_eq_false_iff, decide_eq_false_iff_not] at hs
          simp only [cond_false, decide_eq_false_iff_not]; exact hs.1
      · unfold stepC
        rw [List.any_append, h2]
        simp [unkB]
      · unfold stepC at h ⊢
        simp only [Bool.or_eq_false_iff] at h
        have h3 := h3 h.1
        unfold hiF at h3 ⊢
        rw [List.foldl_append, h3]
        show hiStep g (contF c g i).1 i = _
        have hk : knownF g (i : Int) = true := by
          unfold knownF
          have : (lv g (i : Int) != 30000) = true := by simpa using h.2
          rw [this, decide_eq_true (show (i : Int) ≥ 0 by omega), decide_eq_true (show (i : Int) < g.levels.length by omega)]; rfl
        have hlt : decide ((i : Int) < (contF c g i).1) = false := decide_eq_false (by omega)
        unfold hiStep
        rw [hk, hlt, Bool.and_false, Bool.or_false, Bool.true_and]
theorem ctl_eq (c : Chan) (g : Grid) (h : withErr c [g] = 0) : ctlR c g = rCtlR c g := by
  obtain ⟨h1, h2, h3⟩ := cont_bots c g _ (Nat.le_refl _)
  unfold ctlR rCtlR
  rw [h, ← h1, ← h2]
  cases hb : (contF c g g.levels.length).2 with
  | true => rfl
  | false => rw [h3 hb]; rfl
end Go.Ch

namespace Go.Ch
open Go Go.Ax Go.Proofs Go.Proofs.Try
set_option maxRecDepth 100000
set_option pp.maxSteps 400
set_option maxHeartbeats 1000000

/-- What one cell has to lose. -/
def needS (g : Grid) (sum : Int) (i : Nat) (level : Int) : Int :=
  bif g.levels.getD i 0 != 30000 then w64 (sum + w64 (w64 (g.side * g.side) * mm true 0 (w64 (g.levels.getD i 0 - level)))) else sum
abbrev needB (g : Grid) (sum : Int) : BoxL := [(1001, gridB g), (1002, .cells [.d (dI sum)])]
def openB (g : Grid) : List Int → BoxL
  | [] => [(1001, gridB g), (1002, .cells [.d (.val (.slice none 0 0))])]
  | x :: r => [(1001, gridB g), (1002, .cells [.own 1003]), (1003, .row 3 (x :: r).length 1 (intEl (x :: r)))]
def openHit (g : Grid) (i : Nat) (level : Int) : Bool := g.levels.getD i 0 != 30000 && decide (g.levels.getD i 0 > level)
end Go.Ch

namespace Go.Ch
open Go Go.Ax Go.Proofs Go.Proofs.Try
set_option maxRecDepth 100000
set_option pp.maxSteps 400
set_option maxHeartbeats 1000000

theorem snoc_cons {α : Type} : ∀ (l : List α) (x : α), ∃ y r, l ++ [x] = y :: r
  | [], x => ⟨x, [], rfl⟩
  | y :: r, x => ⟨y, r ++ [x], rfl⟩
abbrev rIntsE (l : List Int) (e : Int) : AV := .t [.s (.d (dInts l)), .s (.d (dI e))]
end Go.Ch

namespace Go.Ch
open Go Go.Ax Go.Proofs Go.Proofs.Try
set_option maxRecDepth 100000
set_option pp.maxSteps 400
set_option maxHeartbeats 1000000

theorem rIntsEq (a : List Int) (ha : a.length ≤ 1000000) : CallP Try.prog 27 [vInts a, vInts a] (vB true) := by
  refine callP_of_ex (rc := []) (N := 26) Try.func27 rfl rfl Try.call27 tab_ok mix rfl rfl (fun cx href => ?_)
  refine And.intro (fun h => ?_) (fun _ => ?_)
  · exfalso
    have h : ((a.length : Int) != (a.length : Int)) = true := h
    simp at h
  refine AW.loopI (fun i : Nat => ⟨[(0, vInts a), (1, vInts a), (5, vI i)], []⟩) (fun i => i ≤ a.length) (fun i => a.length - i) 0 (Nat.zero_le _) ?_ ?_
  · exact SubI.of0 href [] rfl trivial ⟨⟨rfl, LeQ.rfl⟩, ⟨rfl, LeQ.rfl⟩, ⟨rfl, LeQ.rfl⟩, trivial⟩
  · intro i hi
    refine ex.sound (rc := []) tab_ok mix href _ ?_
    refine And.intro (fun h => ?_) (fun h => ?_)
    · have h : decide ((i : Int) < a.length) = true := h
      have h := of_decide_eq_true h
      refine oi ⟨by omega, by omega⟩ ?_
      refine oi ⟨by omega, by omega⟩ ?_
      refine And.intro (by kernel_rfl) ?_
      refine And.intro (fun h2 => ?_) (fun _ => ?_)
      · exfalso
        have h2 : (a.getD i 0 != a.getD i 0) = true := h2
        simp at h2
      · refine ⟨i + 1, by omega, by omega, ?_⟩
        exact SubI.of0 href [] rfl trivial ⟨⟨rfl, LeQ.rfl⟩, ⟨rfl, LeQ.rfl⟩, ⟨rfl, LeQ.int (w64_of (by omega) (by omega))⟩, trivial⟩
    · exact SubR.lit rfl

def excS (g d : Grid) (sum : Int) (i : Nat) : Int :=
  bif d.levels.getD i 0 != 30000 && g.levels.getD i 0 != 30000 then w64 (sum + w64 (w64 (g.side * g.side) * mm true 0 (w64 (g.levels.getD i 0 - d.levels.getD i 0)))) else sum
def excF (g d : Grid) : Nat → Int
  | 0 => 0
  | i + 1 => excS g d (excF g d i) i
end Go.Ch
