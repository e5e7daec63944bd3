/- Part 5: lemmas that the proofs of this seat share; by itself it claims nothing. -/
import Derived.Shelf.Slices.In.SortNone
import Derived.Lib.ItoaNum
import Derived.Test.YtphelnpanihmiaaGreatDoorPt4
namespace Go.Ch
open Go Go.Ax Go.Proofs Go.Proofs.Tryz
set_option maxRecDepth 100000
set_option pp.maxSteps 400
set_option maxHeartbeats 1000000

theorem bknown (g : Grid) (i : Nat) (hi : i < g.levels.length) (hl : g.levels.length ≤ 1000000) : CallP Tryz.prog 65 [grid g, vI i] (vB (g.levels.getD i 0 != 30000)) := by
  refine callP_of_ex (rc := []) (N := 20) Tryz.func65 rfl rfl Tryz.call65 tab_ok mix rfl rfl (fun cx _ => ?_)
  refine callN ((bbetween 0 (w64 ((g.levels.length : Int) - 1)) [(i : Int)] (by simp)).conv (args' := _) ⟨LeD.refl _, LeD.refl _, LeD.slc fun i j hi hj => ?_, trivial⟩) ?_
  · obtain rfl : i = 0 := by have : i < 1 := hi; omega
    obtain rfl : j = 0 := by have : j < 1 := hj; omega
    exact LeD.of_eq rfl
  repeat first | refine sk ?_ | refine st ?_ | refine sg ?_ | refine sh ?_ | refine su ?_ | refine sn1 ?_ | refine sn0 ?_
  refine og (fun _ => ⟨by omega, by omega⟩) ?_
  repeat first | refine sk ?_ | refine st ?_ | refine sg ?_ | refine sh ?_ | refine su ?_ | refine sn1 ?_ | refine sn0 ?_
  refine SubR.of_eq ?_
  show vB ((!outL 0 (w64 ((g.levels.length : Int) - 1)) [(i : Int)]) && (g.levels.getD i 0 != 30000)) = _
  have e : outL 0 (w64 ((g.levels.length : Int) - 1)) [(i : Int)] = false := by
    rw [w64_of (by omega) (by omega)]
    simp [outL, within]
    omega
  rw [e]; rfl
def partV (lo hi a b : Int) : Int := mm true 0 (w64 (mm false b hi - mm true a lo))
theorem bpart (lo hi a b : Int) : CallP Tryz.prog 97 [.g [.d (dI lo), .d (dI hi)], vI a, vI b] (vI (partV lo hi a b)) := by
  refine callP_of_ex (rc := []) (N := 17) Tryz.func97 rfl rfl Tryz.call97 tab_ok mix rfl rfl (fun cx _ => ?_)
  exact SubR.refl _
theorem bcells (g : Grid) : CallP Tryz.prog 96 [grid g] (.g [.d (dI g.x), .d (dI g.y), .d (dI g.side), .d (dI g.cols), .d (dI g.rows)]) := by
  refine callP_of_ex (rc := []) (N := 14) Tryz.func96 rfl rfl Tryz.call96 tab_ok mix rfl rfl (fun cx _ => ?_)
  exact SubR.refl _
theorem ball : CallP Tryz.prog 59 [] (.g [.d (dI (-20000)), .d (dI 20000)]) := by
  refine callP_of_ex (rc := []) (N := 2) Tryz.func59 rfl rfl Tryz.call59 tab_ok mix rfl rfl (fun cx _ => ?_)
  exact SubR.refl _
theorem bany (i : Int) : CallP Tryz.prog 60 [vI i] (vB true) := by
  refine callP_of_ex (rc := []) (N := 3) Tryz.func60 rfl rfl Tryz.call60 tab_ok mix rfl rfl (fun cx _ => ?_)
  exact SubR.lit rfl
def sameC (a b : Grid) : Bool := a.x == b.x && (a.y == b.y && (a.side == b.side && (a.cols == b.cols && (a.rows == b.rows && true))))
def err2 (a b : Grid) : Int := bif errG a != 0 then errG a else bif errG b != 0 then errG b else bif !sameC a b then 10 else 0
attribute [local irreducible] errG in
theorem bboth (a b : Grid) (ha : a.ok) (hb : b.ok) : CallP Tryz.prog 57 [grid a, grid b] (vI (err2 a b)) := by
  refine callP_of_ex (rc := []) (N := 27) Tryz.func57 rfl rfl Tryz.call57 tab_ok mix rfl rfl (fun cx href => ?_)
  refine AW.loopI (fun i : Nat => ⟨[(2, .s (.ptr 2 0)), (3, .s (.ptr 3 0)), (10, .s (.own 10)), (11, vI 2), (12, vI i)],
      [(2, some (gridB a)), (3, some (gridB b)), (10, some (.row 24 2 6 (rowF 6 [.d (dI a.x), .d (dI a.y), .d (dI a.side), .d (dI a.cols), .d (dI a.rows), .d (dInts a.levels), .d (dI b.x), .d (dI b.y), .d (dI b.side), .d (dI b.cols), .d (dI b.rows), .d (dInts b.levels)])))]⟩)
    (fun i => i ≤ 2 ∧ (0 < i → errG a = 0) ∧ (1 < i → errG b = 0)) (fun i => 2 - i) 0 ⟨by omega, by omega, by omega⟩ ?_ ?_
  · exact SubI.of0 href [] rfl ⟨⟨rfl, LeBx.rfl⟩, ⟨rfl, LeBx.rfl⟩, ⟨rfl, LeBx.rfl⟩, trivial⟩ ⟨⟨rfl, LeQ.rfl⟩, ⟨rfl, LeQ.rfl⟩, ⟨rfl, LeQ.rfl⟩, ⟨rfl, LeQ.rfl⟩, ⟨rfl, LeQ.rfl⟩, trivial⟩
  · rintro i ⟨hi, ea, eb⟩
    refine ex.sound (rc := []) tab_ok mix href _ ?_
    refine And.intro (fun h => ?_) (fun h => ?_)
    · have h : (i : Int) < 2 := decT h
      match i, h, ea with
      | 0, _, _ =>
        refine oi ⟨by omega, by omega⟩ ?_
        refine oi (by decide) ?_
        refine callN (bcheck a ha.levels) ?_
        refine And.intro (fun h2 => ?_) (fun h2 => ?_)
        · have h2 : (errG a != 0) = true := h2
          exact SubR.of_eq (by unfold err2; rw [h2]; rfl)
        · have h2 : (errG a != 0) = false := h2
          refine ⟨1, ⟨by omega, fun _ => by simpa using h2, by omega⟩, by omega, ?_⟩
          exact SubI.of0 href [] rfl ⟨⟨rfl, LeBx.rfl⟩, ⟨rfl, LeBx.rfl⟩, ⟨rfl, LeBx.rfl⟩, trivial⟩ ⟨⟨rfl, LeQ.rfl⟩, ⟨rfl, LeQ.rfl⟩, ⟨rfl, LeQ.rfl⟩, ⟨rfl, LeQ.rfl⟩, ⟨rfl, LeQ.int rfl⟩, trivial⟩
      | 1, _, ea =>
        have ea := ea (by omega)
        refine oi ⟨by omega, by omega⟩ ?_
        refine oi (by decide) ?_
        refine callN (bcheck b hb.levels) ?_
        refine And.intro (fun h2 => ?_) (fun h2 => ?_)
        · have h2 : (errG b != 0) = true := h2
          exact SubR.of_eq (by unfold err2; rw [ea, h2]; rfl)
        · have h2 : (errG b != 0) = false := h2
          refine ⟨2, ⟨by omega, fun _ => ea, fun _ => by simpa using h2⟩, by omega, ?_⟩
          exact SubI.of0 href [] rfl ⟨⟨rfl, LeBx.rfl⟩, ⟨rfl, LeBx.rfl⟩, ⟨rfl, LeBx.rfl⟩, trivial⟩ ⟨⟨rfl, LeQ.rfl⟩, ⟨rfl, LeQ.rfl⟩, ⟨rfl, LeQ.rfl⟩, ⟨rfl, LeQ.rfl⟩, ⟨rfl, LeQ.int rfl⟩, trivial⟩
    · have h : ¬ (i : Int) < 2 := decF h
      have ea := ea (by omega)
      have eb := eb (by omega)
      refine callN (bcells a) ?_
      refine callN (bcells b) ?_
      refine And.intro (by kernel_rfl) ?_
      have e : err2 a b = bif !sameC a b then 10 else 0 := by unfold err2; rw [ea, eb]; rfl
      refine And.intro (fun h2 => ?_) (fun h2 => ?_)
      · have h2 : (!sameC a b) = true := h2
        exact SubR.of_eq (by rw [e, h2]; rfl)
      · have h2 : (!sameC a b) = false := h2
        exact SubR.of_eq (by rw [e, h2]; rfl)
end Go.Ch

namespace Go.Ch
open Go Go.Ax Go.Proofs Go.Proofs.Tryz
set_option maxRecDepth 100000
set_option pp.maxSteps 400
set_option maxHeartbeats 1000000

/-- Cut, fill and unknown cells. -/
structure Chg where
  cut : Int
  fill : Int
  unk : Int
def chS (a b : Grid) (lo hi : Int) (s : Chg) (i : Nat) : Chg :=
  bif !(a.levels.getD i 0 != 30000) || !(b.levels.getD i 0 != 30000) then ⟨s.cut, s.fill, w64 (s.unk + 1)⟩
  else ⟨w64 (s.cut + w64 (w64 (a.side * a.side) * partV lo hi (b.levels.getD i 0) (a.levels.getD i 0))), w64 (s.fill + w64 (w64 (a.side * a.side) * partV lo hi (a.levels.getD i 0) (b.levels.getD i 0))), s.unk⟩
def chF (a b : Grid) (lo hi : Int) : Nat → Chg
  | 0 => ⟨0, 0, 0⟩
  | i + 1 => chS a b lo hi (chF a b lo hi i) i
abbrev chg (s : Chg) : AV := .g [.d (dI s.cut), .d (dI s.fill), .d (dI s.unk)]
abbrev chgB (s : Chg) : Box := .cells [.d (dI s.cut), .d (dI s.fill), .d (dI s.unk)]
theorem bchange (a b : Grid) (lo hi : Int) (ha : a.levels.length ≤ 1000000) (hb : b.levels.length = a.levels.length) :
    CallP Tryz.prog 58 [grid a, grid b, .g [.d (dI lo), .d (dI hi)], .s (.d (.clo 60 0 fun _ => .junk))] (chg (chF a b lo hi a.levels.length)) := by
  refine callP_of_ex (rc := []) (N := 77) Tryz.func58 rfl rfl Tryz.call58 tab_ok mix rfl rfl (fun cx href => ?_)
  refine AW.loopI (fun i : Nat => ⟨[(3, .s (.d (.clo 60 0 fun _ => .junk))), (4, .s (.ptr 4 0)), (5, .s (.ptr 5 0)), (6, .s (.ptr 6 0)), (8, .s (.ptr 8 0)), (9, .s (.ptr 9 0)), (10, vI (w64 (a.side * a.side))), (21, vI a.levels.length), (22, vI i)],
      [(4, some (gridB a)), (5, some (gridB b)), (6, some (.cells [.d (dI lo), .d (dI hi)])), (8, some (chgB ⟨0, 0, 0⟩)), (9, some (chgB (chF a b lo hi i)))]⟩)
    (fun i => i ≤ a.levels.length) (fun i => a.levels.length - i) 0 (Nat.zero_le _) ?_ ?_
  · exact SubI.of0 href [] rfl ⟨⟨rfl, LeBx.rfl⟩, ⟨rfl, LeBx.rfl⟩, ⟨rfl, LeBx.rfl⟩, ⟨rfl, LeBx.rfl⟩, ⟨rfl, LeBx.rfl⟩, trivial⟩ ⟨⟨rfl, LeQ.rfl⟩, ⟨rfl, LeQ.rfl⟩, ⟨rfl, LeQ.rfl⟩, ⟨rfl, LeQ.rfl⟩, ⟨rfl, LeQ.rfl⟩, ⟨rfl, LeQ.rfl⟩, ⟨rfl, LeQ.rfl⟩, ⟨rfl, LeQ.rfl⟩, ⟨rfl, LeQ.rfl⟩, trivial⟩
  · intro i hi'
    refine ex.sound (rc := []) tab_ok mix href _ ?_
    refine And.intro (fun h => ?_) (fun h => ?_)
    · have h : (i : Int) < a.levels.length := decT h
      refine oi ⟨by omega, by omega⟩ ?_
      refine oi ⟨by omega, by omega⟩ ?_
      refine And.intro (by kernel_rfl) ?_
      refine callN (bany i) ?_
      refine And.intro (fun h2 => by cases h2) (fun _ => ?_)
      refine callN (bknown a i (by omega) ha) ?_
      repeat first | refine sk ?_ | refine st ?_ | refine sg ?_ | refine sh ?_ | refine su ?_ | refine sn1 ?_ | refine sn0 ?_
      refine callG (bknown b i (by omega) (by omega)) ?_
      repeat first | refine sk ?_ | refine st ?_ | refine sg ?_ | refine sh ?_ | refine su ?_ | refine sn1 ?_ | refine sn0 ?_
      refine And.intro (fun h2 => ?_) (fun h2 => ?_)
      · have h2 : (!(a.levels.getD i 0 != 30000) || !(b.levels.getD i 0 != 30000)) = true := h2
        have e : chF a b lo hi (i + 1) = ⟨(chF a b lo hi i).cut, (chF a b lo hi i).fill, w64 ((chF a b lo hi i).unk + 1)⟩ := by rw [chF, chS, h2]; rfl
        refine ⟨i + 1, by omega, by omega, ?_⟩
        exact SubI.of0 href [] rfl ⟨⟨rfl, LeBx.rfl⟩, ⟨rfl, LeBx.rfl⟩, ⟨rfl, LeBx.rfl⟩, ⟨rfl, LeBx.rfl⟩, ⟨rfl, LeBx.of_eq (by rw [e]; rfl)⟩, trivial⟩ ⟨⟨rfl, LeQ.rfl⟩, ⟨rfl, LeQ.rfl⟩, ⟨rfl, LeQ.rfl⟩, ⟨rfl, LeQ.rfl⟩, ⟨rfl, LeQ.rfl⟩, ⟨rfl, LeQ.rfl⟩, ⟨rfl, LeQ.rfl⟩, ⟨rfl, LeQ.rfl⟩, ⟨rfl, LeQ.int (w64_of (by omega) (by omega))⟩, trivial⟩
      · have h2 : (!(a.levels.getD i 0 != 30000) || !(b.levels.getD i 0 != 30000)) = false := h2
        have e : chF a b lo hi (i + 1) = ⟨w64 ((chF a b lo hi i).cut + w64 (w64 (a.side * a.side) * partV lo hi (b.levels.getD i 0) (a.levels.getD i 0))), w64 ((chF a b lo hi i).fill + w64 (w64 (a.side * a.side) * partV lo hi (a.levels.getD i 0) (b.levels.getD i 0))), (chF a b lo hi i).unk⟩ := by rw [chF, chS, h2]; rfl
        refine callN (bpart lo hi _ _) ?_
        refine And.intro (by kernel_rfl) ?_
        refine callN (bpart lo hi _ _) ?_
        refine And.intro (by kernel_rfl) ?_
        refine ⟨i + 1, by omega, by omega, ?_⟩
        exact SubI.of0 href [] rfl ⟨⟨rfl, LeBx.rfl⟩, ⟨rfl, LeBx.rfl⟩, ⟨rfl, LeBx.rfl⟩, ⟨rfl, LeBx.rfl⟩, ⟨rfl, LeBx.of_eq (by rw [e]; rfl)⟩, trivial⟩ ⟨⟨rfl, LeQ.rfl⟩, ⟨rfl, LeQ.rfl⟩, ⟨rfl, LeQ.rfl⟩, ⟨rfl, LeQ.rfl⟩, ⟨rfl, LeQ.rfl⟩, ⟨rfl, LeQ.rfl⟩, ⟨rfl, LeQ.rfl⟩, ⟨rfl, LeQ.rfl⟩, ⟨rfl, LeQ.int (w64_of (by omega) (by omega))⟩, trivial⟩
    · have h : ¬ (i : Int) < a.levels.length := decF h
      obtain rfl : i = a.levels.length := by omega
      exact SubR.refl _
theorem sameC_len {a b : Grid} (ga : GVal a) (gb : GVal b) (h : sameC a b = true) : b.levels.length = a.levels.length := by
  unfold sameC at h
  simp only [Bool.and_eq_true, beq_iff_eq] at h
  have h1 := ga.len
  have h2 := gb.len
  rw [h.2.2.2.1, h.2.2.2.2.1] at h1
  omega
theorem err2_zero {a b : Grid} (h : err2 a b = 0) : errG a = 0 ∧ errG b = 0 ∧ sameC a b = true := by
  unfold err2 at h
  cases h1 : errG a != 0 with
  | true => rw [h1] at h; simp at h1; exact absurd h h1
  | false =>
    cases h2 : errG b != 0 with
    | true => rw [h1, h2] at h; simp at h2; exact absurd h h2
    | false =>
      cases h3 : sameC a b with
      | false => rw [h1, h2, h3] at h; cases h
      | true => simp at h1 h2; exact ⟨h1, h2, rfl⟩
def cmpR (a b : Grid) : Chg × Int := bif err2 a b != 0 then (⟨0, 0, 0⟩, err2 a b) else (chF a b (-20000) 20000 a.levels.length, 0)
attribute [local irreducible] err2 in
theorem gCompare (a b : Grid) (ha : a.ok) (hb : b.ok) : CallP Tryz.prog 24 [grid a, grid b] (.t [.g [.d (dI (cmpR a b).1.cut), .d (dI (cmpR a b).1.fill), .d (dI (cmpR a b).1.unk)], .s (.d (dI (cmpR a b).2))]) := by
  refine callP_of_ex (rc := []) (N := 18) Tryz.func24 rfl rfl Tryz.call24 tab_ok mix rfl rfl (fun cx href => ?_)
  refine callN (bboth a b ha hb) ?_
  refine And.intro (fun h => ?_) (fun h => ?_)
  · have h : (err2 a b != 0) = true := h
    rw [show cmpR a b = (⟨0, 0, 0⟩, err2 a b) by unfold cmpR; rw [h]; rfl]
    exact SubR.refl _
  · have h : (err2 a b != 0) = false := h
    obtain ⟨e1, e2, e3⟩ := err2_zero (show err2 a b = 0 by simpa using h)
    have ga := GVal.of e1
    have gb := GVal.of e2
    have hn := ga.n
    rw [show cmpR a b = (chF a b (-20000) 20000 a.levels.length, 0) by unfold cmpR; rw [h]; rfl]
    refine callN ball ?_
    refine callN ((bchange a b (-20000) 20000 (by omega) (sameC_len ga gb e3)).conv (args' := _) ⟨⟨LeD.refl _, LeD.refl _, LeD.refl _, LeD.refl _, LeD.refl _, LeD.refl _, trivial⟩, ⟨LeD.refl _, LeD.refl _, LeD.refl _, LeD.refl _, LeD.refl _, LeD.refl _, trivial⟩, ⟨LeD.refl _, LeD.refl _, trivial⟩, LeD.clo fun j hj => absurd hj (Nat.not_lt_zero j), trivial⟩) ?_
    refine And.intro (by kernel_rfl) ?_
    exact SubR.refl _
end Go.Ch

namespace Go.Ch
open Go Go.Ax Go.Proofs Go.Proofs.Tryz
set_option maxRecDepth 100000
set_option pp.maxSteps 400
set_option maxHeartbeats 1000000

abbrev zeroF : Nat → Nat → DV := fun _ j => match (zvs ty3.zero)[j]? with | some c => dOf c | none => .junk
theorem GrowO (n : Nat) (h0 : 0 < n) (hn : n ≤ 1000000) : CallR Tryz.prog 130 [.s (.d (.val (.slice none 0 0))), vI n] [] (.s (.osl 22 1 0 0)) [(22, .row 3 n 1 zeroF)] := by
  have e : w64 ((n : Int) - w64 (0 - 0)) = n := by rw [w64_of (n := 0 - 0) (by decide) (by decide), w64_of (by omega) (by omega)]; omega
  refine callO_of_ex (rc := []) (N := 27) Tryz.func130 rfl rfl Tryz.call130 tab_ok mix rfl rfl rfl rfl (fun cx href => ?_)
  refine And.intro (fun h => absurd (decT h) (by omega)) (fun _ => ?_)
  refine And.intro (fun _ => ?_) (fun h => ?_)
  · refine oi ⟨rfl, rfl⟩ ?_
    refine ob (show 0 < w64 ((n : Int) - w64 (0 - 0)) by omega) ?_
    refine ob (show w64 ((n : Int) - w64 (0 - 0)) * ((8 : Nat) : Int) ≤ _ by omega) ?_
    refine oi ⟨Int.le_refl _, Int.le_refl _, by show (0 : Int) ≤ _; omega⟩ ?_
    refine ⟨LeQ.rfl, ?_, trivial⟩
    show some (some (Box.row 3 (w64 ((n : Int) - w64 (0 - 0))).toNat 1 _)) = _
    rw [e]; rfl
  · exfalso
    have h : decide (w64 ((n : Int) - w64 (0 - 0)) > 0) = false := h
    rw [e] at h
    simp at h; omega
end Go.Ch

namespace Go.Ch
open Go Go.Ax Go.Proofs Go.Proofs.Tryz
set_option maxRecDepth 100000
set_option pp.maxSteps 400
set_option maxHeartbeats 1000000

/-- How many cells the first lists have. -/
def lensL (l : List (List Int)) : Nat → Nat
  | 0 => 0
  | i + 1 => lensL l i + (l.getD i default).length
theorem lensL_take {l : List (List Int)} : ∀ i, i ≤ l.length → lensL l i = ((l.take i).flatten).length
  | 0, _ => rfl
  | i + 1, hi => by
    have hi' : i < l.length := by omega
    rw [lensL, lensL_take i (by omega), List.take_succ_eq_append_getElem hi', List.flatten_append, List.length_append, getD_of hi']
    simp
theorem lensL_le {l : List (List Int)} : ∀ j i, i ≤ j → lensL l i ≤ lensL l j
  | 0, i, h => by obtain rfl : i = 0 := by omega
                  exact Nat.le_refl _
  | j + 1, i, h => by
    by_cases hij : i = j + 1
    · rw [hij]; exact Nat.le_refl _
    · have := lensL_le (l := l) j i (by omega)
      rw [lensL]; omega
abbrev intsEl (l : List (List Int)) : Nat → Nat → DV := fun i _ => dInts (l.getD i default)
theorem ConcatR (l : List (List Int)) (f0 : Nat → Nat → DV) (hf0 : ∀ i j, i < l.length → j < 1 → LeD (f0 i j) (intsEl l i j)) (hpos : 0 < lensL l l.length) (hn : lensL l l.length ≤ 1000000) (hl : l.length ≤ 1000) :
    CallR Tryz.prog 98 [.s (.own 1001)] [(1001, .row 22 l.length 1 f0)] (vInts l.flatten) [(1001, .row 22 l.length 1 (intsEl l))] := by
  refine callR_of_ex (rc := [130]) (N := 36) Tryz.func98 rfl rfl Tryz.call98 tab_ok mix rfl rfl rfl rfl (fun cx href => ?_)
  refine AW.loopI (fun i : Nat => ⟨[(0, .s (.own 1001)), (3, vI (lensL l i)), (9, .s (.own 1001)), (10, vI l.length), (11, vI i)], [(1001, some (.row 22 l.length 1 (intsEl l)))]⟩)
    (fun i => i ≤ l.length) (fun i => l.length - i) 0 (Nat.zero_le _) ?_ ?_
  · exact SubI.of [] (by rw [href]; rfl) rfl ⟨⟨rfl, LeBx.row rfl hf0⟩, trivial⟩ ⟨⟨rfl, LeQ.rfl⟩, ⟨rfl, LeQ.rfl⟩, ⟨rfl, LeQ.rfl⟩, ⟨rfl, LeQ.rfl⟩, ⟨rfl, LeQ.rfl⟩, trivial⟩
  · intro i hi
    refine ex.sound (rc := [130]) tab_ok mix href _ ?_
    refine And.intro (fun h => ?_) (fun h => ?_)
    · have h : (i : Int) < l.length := decT h
      have hle := lensL_le (l := l) l.length (i + 1) (by omega)
      have ew : w64 ((lensL l i : Int) + ((l.getD i default).length : Int)) = (lensL l (i + 1) : Int) := by
        rw [lensL] at hle ⊢
        rw [w64_of (by omega) (by omega)]; omega
      refine oi ⟨by omega, by omega⟩ ?_
      refine oi (show (i : Int).toNat < l.length by omega) ?_
      refine And.intro (fun h2 => ?_) (fun _ => ?_)
      · exfalso
        have h2 : w64 ((lensL l i : Int) + ((l.getD i default).length : Int)) < 0 := decT h2
        rw [ew] at h2; omega
      refine ⟨i + 1, by omega, by omega, ?_⟩
      exact SubI.of [] (by rw [href]; rfl) rfl ⟨⟨rfl, LeBx.rfl⟩, trivial⟩ ⟨⟨rfl, LeQ.rfl⟩, ⟨rfl, LeQ.int ew⟩, ⟨rfl, LeQ.rfl⟩, ⟨rfl, LeQ.rfl⟩, ⟨rfl, LeQ.int (w64_of (by omega) (by omega))⟩, trivial⟩
    · have h : ¬ (i : Int) < l.length := decF h
      obtain rfl : i = l.length := by omega
      refine ⟨[(22, 100)], _, _, _, _, GrowO (lensL l l.length) hpos hn, rfl, trivial, rfl, ?_⟩
      refine AW.loopI (fun s : Nat × Nat × (Nat → Nat → DV) => ⟨[(6, .s (.osl 100 1 0 (lensL l s.1))), (25, .s (.own 1001)), (26, vI l.length), (27, vI s.1)], [(1001, some (.row 22 l.length 1 (intsEl l))), (100, some (.row 3 s.2.1 1 s.2.2))]⟩)
        (fun s => s.1 ≤ l.length ∧ lensL l s.1 ≤ s.2.1 ∧ ∀ k, k < lensL l s.1 → s.2.2 k 0 = dI (((l.take s.1).flatten).getD k 0)) (fun s => l.length - s.1) (0, lensL l l.length, zeroF) ⟨Nat.zero_le _, Nat.zero_le _, fun k hk => absurd hk (Nat.not_lt_zero k)⟩ ?_ ?_
      · exact SubI.of [] (by rw [href]; rfl) rfl ⟨⟨rfl, LeBx.rfl⟩, ⟨rfl, LeBx.rfl⟩, trivial⟩ ⟨⟨rfl, LeQ.rfl⟩, ⟨rfl, LeQ.rfl⟩, ⟨rfl, LeQ.rfl⟩, ⟨rfl, LeQ.rfl⟩, trivial⟩
      · rintro ⟨i, R, f⟩ ⟨hi, hR, hf⟩
        simp only at hi hR hf ⊢
        refine ex.sound (rc := [130]) tab_ok mix href _ ?_
        refine And.intro (fun h => ?_) (fun h => ?_)
        · have h : (i : Int) < l.length := decT h
          have hi' : i < l.length := by omega
          have hle := lensL_le (l := l) l.length (i + 1) (by omega)
          have hs : lensL l (i + 1) = lensL l i + (l.getD i default).length := rfl
          have hcell : ∀ k, k < lensL l (i + 1) → catF (lensL l i) f (intEl (l.getD i default)) k 0 = dI (((l.take (i + 1)).flatten).getD k 0) := by
            intro k hk
            rw [List.take_succ_eq_append_getElem hi', List.flatten_append]
            have hlt := lensL_take i hi
            unfold catF
            by_cases hk2 : k < lensL l i
            · rw [if_pos hk2, hf k hk2]
              simp only [List.getD_eq_getElem?_getD]
              rw [List.getElem?_append_left (by omega)]
            · rw [if_neg hk2]
              show dI ((l.getD i default).getD (k - lensL l i) 0) = _
              simp only [List.getD_eq_getElem?_getD]
              rw [List.getElem?_append_right (by omega), ← hlt]
              simp [hi']
          refine oi ⟨by omega, by omega⟩ ?_
          refine oi (show (i : Int).toNat < l.length by omega) ?_
          refine ob (Nat.zero_le _) ?_
          refine ob (show (0 + lensL l i + (l.getD i default).length) * 8 ≤ _ by omega) ?_
          refine ob (fun k j _ _ => rfl) ?_
          refine And.intro ?_ ?_
          · refine ⟨(i + 1, 0 + lensL l i + (l.getD i default).length, catF (0 + lensL l i) f (intEl (l.getD i default))), ⟨by simp only; omega, by simp only; omega, fun k hk => ?_⟩, by simp only; omega, ?_⟩
            · simp only [Nat.zero_add] at hk ⊢
              exact hcell k hk
            · exact SubI.of [(100, 33)] (by rw [href]; rfl) rfl ⟨⟨rfl, LeBx.rfl⟩, ⟨rfl, LeBx.rfl⟩, trivial⟩ ⟨⟨rfl, LeQ.rfl⟩, ⟨rfl, LeQ.rfl⟩, ⟨rfl, LeQ.rfl⟩, ⟨rfl, LeQ.int (w64_of (by omega) (by omega))⟩, trivial⟩
          · refine ⟨(i + 1, lensL l i + (l.getD i default).length, catF (lensL l i) (fun i => f (0 + i)) (intEl (l.getD i default))), ⟨by simp only; omega, by simp only; omega, fun k hk => ?_⟩, by simp only; omega, ?_⟩
            · simp only [Nat.zero_add] at hk ⊢
              exact hcell k hk
            · exact SubI.of [(100, 33)] (by rw [href]; rfl) rfl ⟨⟨rfl, LeBx.rfl⟩, ⟨rfl, LeBx.rfl⟩, trivial⟩ ⟨⟨rfl, LeQ.rfl⟩, ⟨rfl, LeQ.rfl⟩, ⟨rfl, LeQ.rfl⟩, ⟨rfl, LeQ.int (w64_of (by omega) (by omega))⟩, trivial⟩
        · have h : ¬ (i : Int) < l.length := decF h
          obtain rfl : i = l.length := by omega
          have hlt := lensL_take l.length (Nat.le_refl l.length)
          rw [List.take_length] at hlt
          refine ⟨?_, ?_⟩
          rotate_left
          · exact ⟨rfl, trivial⟩
          refine SubR.le (LeD.slc' hlt fun k j hk hj => LeD.of_eq ?_)
          have hj : j = 0 := by have : j < 1 := hj; omega
          subst hj
          have := hf k hk
          rw [List.take_length] at this
          show f (0 + k) 0 = _
          rw [Nat.zero_add, this]; rfl
end Go.Ch

namespace Go.Ch
open Go Go.Ax Go.Proofs Go.Proofs.Tryz
set_option maxRecDepth 100000
set_option pp.maxSteps 400
set_option maxHeartbeats 1000000

def idxI (l : List Int) (x : Int) : Nat → Nat → Int
  | 0, _ => -1
  | n + 1, i => bif x == l.getD i 0 then (i : Int) else idxI l x n (i + 1)
theorem IndexI (l : List Int) (x : Int) (hl : l.length ≤ 1000000) : CallP Tryz.prog 103 [vInts l, vI x] (vI (idxI l x l.length 0)) := by
  refine callP_of_ex (rc := []) (N := 19) Tryz.func103 rfl rfl Tryz.call103 tab_ok mix rfl rfl (fun cx href => ?_)
  refine AW.loopI (fun i : Nat => ⟨[(0, vInts l), (1, vI x), (7, vI l.length), (8, vI i)], []⟩) (fun i => i ≤ l.length ∧ idxI l x l.length 0 = idxI l x (l.length - i) i) (fun i => l.length - i) 0 ⟨Nat.zero_le _, rfl⟩ ?_ ?_
  · exact SubI.of0 href [] rfl trivial ⟨⟨rfl, LeQ.rfl⟩, ⟨rfl, LeQ.rfl⟩, ⟨rfl, LeQ.rfl⟩, ⟨rfl, LeQ.rfl⟩, trivial⟩
  · rintro i ⟨hi, hj⟩
    refine ex.sound (rc := []) tab_ok mix href _ ?_
    refine And.intro (fun h => ?_) (fun h => ?_)
    · have h : (i : Int) < l.length := decT h
      rw [show l.length - i = (l.length - (i + 1)) + 1 by omega, idxI] at hj
      refine oi ⟨by omega, by omega⟩ ?_
      refine And.intro (fun h2 => ?_) (fun h2 => ?_)
      · have h2 : (x == l.getD i 0) = true := h2
        exact SubR.of_eq (by rw [hj, h2]; rfl)
      · have h2 : (x == l.getD i 0) = false := h2
        refine ⟨i + 1, ⟨by omega, by rw [hj, h2]; rfl⟩, by omega, ?_⟩
        exact SubI.of0 href [] rfl trivial ⟨⟨rfl, LeQ.rfl⟩, ⟨rfl, LeQ.rfl⟩, ⟨rfl, LeQ.rfl⟩, ⟨rfl, LeQ.int (w64_of (by omega) (by omega))⟩, trivial⟩
    · have h : ¬ (i : Int) < l.length := decF h
      rw [show l.length - i = 0 by omega] at hj
      exact SubR.of_eq (by rw [hj]; rfl)
theorem idxI_mem {l : List Int} {x : Int} : ∀ n i, i + n = l.length → decide (idxI l x n i ≥ 0) = (l.drop i).contains x
  | 0, i, h => by
    rw [List.drop_eq_nil_of_le (by omega)]; rfl
  | n + 1, i, h => by
    have hi : i < l.length := by omega
    rw [idxI, List.drop_eq_getElem_cons hi]
    have e : l.getD i 0 = l[i] := by simp [hi]
    rw [e]
    cases hx : x == l[i] with
    | true =>
      simp only [cond_true, List.contains_cons, hx, Bool.true_or]
      exact decide_eq_true (by omega)
    | false =>
      simp only [cond_false, List.contains_cons, hx, Bool.false_or]
      exact idxI_mem n (i + 1) (by omega)
theorem ContainsI (l : List Int) (x : Int) (hl : l.length ≤ 1000000) : CallP Tryz.prog 68 [vInts l, vI x] (vB (l.contains x)) := by
  refine callP_of_ex (rc := []) (N := 9) Tryz.func68 rfl rfl Tryz.call68 tab_ok mix rfl rfl (fun cx href => ?_)
  refine callN (IndexI l x hl) ?_
  refine SubR.of_eq ?_
  show vB (decide (idxI l x l.length 0 ≥ 0)) = _
  rw [idxI_mem l.length 0 (by omega)]; rfl
end Go.Ch

namespace Go.Ch
open Go Go.Ax Go.Proofs Go.Proofs.Tryz
set_option maxRecDepth 100000
set_option pp.maxSteps 400
set_option maxHeartbeats 1000000

theorem hasG (g : Grid) (i : Int) (hg : g.ok) : CallP Tryz.prog 99 [grid g, vI i] (vI (bif errG g != 0 then errG g else bif within i 0 ((g.levels.length : Int) - 1) then 0 else 6)) := by
  have hl := hg.levels
  refine callP_of_ex (rc := []) (N := 19) Tryz.func99 rfl rfl Tryz.call99 tab_ok mix rfl rfl (fun cx _ => ?_)
  refine callN (bcheck g hl) ?_
  refine And.intro (fun h => ?_) (fun h => ?_)
  · have h : (errG g != 0) = true := h
    exact SubR.of_eq (by rw [h]; rfl)
  have h : (errG g != 0) = false := h
  have hn : g.levels.length ≤ 1024 := (GVal.of (show errG g = 0 by simpa using h)).n
  have e : outL 0 (w64 ((g.levels.length : Int) - 1)) [i] = !within i 0 ((g.levels.length : Int) - 1) := by
    rw [w64_of (by omega) (by omega)]; simp [outL]
  refine callN ((bbetween 0 (w64 ((g.levels.length : Int) - 1)) [i] (by simp)).conv (args' := _) ⟨LeD.refl _, LeD.refl _, LeD.slc fun i j hi hj => ?_, trivial⟩) ?_
  · obtain rfl : i = 0 := by have : i < 1 := hi; omega
    obtain rfl : j = 0 := by have : j < 1 := hj; omega
    exact LeD.of_eq rfl
  rw [e, h]
  refine And.intro (fun h2 => ?_) (fun h2 => ?_)
  · have h2 : (!(!(!within i 0 ((g.levels.length : Int) - 1)))) = true := h2
    rw [Bool.not_not] at h2
    have h3 : within i 0 ((g.levels.length : Int) - 1) = false := by simpa using h2
    exact SubR.of_eq (by rw [h3]; rfl)
  · have h2 : (!(!(!within i 0 ((g.levels.length : Int) - 1)))) = false := h2
    rw [Bool.not_not] at h2
    have h3 : within i 0 ((g.levels.length : Int) - 1) = true := by simpa using h2
    exact SubR.of_eq (by rw [h3]; rfl)
end Go.Ch

namespace Go.Ch
open Go Go.Ax Go.Proofs Go.Proofs.Tryz
set_option maxRecDepth 100000
set_option pp.maxSteps 400
set_option maxHeartbeats 1000000

/-- The neighbours of a cell. -/
def nearL (g : Grid) (i : Int) : List Int :=
  (((bif decide (i ≥ g.cols) then [i - g.cols] else []) ++ (bif decide (i % g.cols > 0) then [i - 1] else [])) ++ (bif decide (i % g.cols < g.cols - 1) then [i + 1] else [])) ++ (bif decide (i + g.cols < g.levels.length) then [i + g.cols] else [])
abbrev nearS (g : Grid) (i : Int) (l : List Int) : St := ⟨[(2, .s (.ptr 2 0)), (1, vI i), (5, .s (.mo l.isEmpty 100))], [(2, some (gridB g)), (100, some (.mrow 3 l.length 1 (intEl l)))]⟩
theorem nearRow {l : List Int} {n : Nat} {f g : Nat → Nat → DV} (h : RowIs 1 n f (fun x _ => dI x) l) {y : Int} (hy : g 0 0 = dI y) :
    LeBx (.row 3 (n + 1) 1 (catF n f g)) (.mrow 3 (l ++ [y]).length 1 (intEl (l ++ [y]))) :=
  RowIs.mrow (el := fun x _ => dI x) (RowIs.snoc h (lt1 hy))
theorem len1 {b : Bool} {x : Int} : (bif b then [x] else []).length ≤ 1 := by cases b <;> simp
theorem nearMe (g : Grid) (i : Int) (hg : GVal g) (h0 : 0 ≤ i) (hi : i < g.levels.length) : g.cols ≠ 0 ∧ i.tmod g.cols = i % g.cols ∧ w64 (g.cols - 1) = g.cols - 1 ∧ w64 (i - g.cols) = i - g.cols ∧ w64 (i + g.cols) = i + g.cols ∧ w64 (i + 1) = i + 1 ∧ w64 (i - 1) = i - 1 := by
  have hn := hg.n
  have hc := hg.cols
  have hm := Int.emod_lt_of_pos i (show 0 < g.cols by omega)
  have hp := Int.emod_nonneg i (show g.cols ≠ 0 by omega)
  refine ⟨by omega, ?_, w64_of (by omega) (by omega), w64_of (by omega) (by omega), w64_of (by omega) (by omega), w64_of (by omega) (by omega), w64_of (by omega) (by omega)⟩
  exact Int.tmod_eq_emod_of_nonneg h0
theorem near (g : Grid) (i : Int) (hg : GVal g) (h0 : 0 ≤ i) (hi : i < g.levels.length) : CallP Tryz.prog 101 [grid g, vI i] (vInts (nearL g i)) := by
  have hn := hg.n
  obtain ⟨hc0, er, ec, es, ea, ea1, es1⟩ := nearMe g i hg h0 hi
  refine callP_of_aw Tryz.func101 rfl rfl Tryz.call101 tab_ok rfl rfl (fun cx href => ?_)
  refine AW.seq (ex.sound (rc := []) tab_ok mix href _ ?_)
  refine AW.seq (ex.sound (rc := []) tab_ok mix href _ ?_)
  refine AW.cut (σ' := nearS g i (bif decide (i ≥ g.cols) then [i - g.cols] else [])) (ex.sound (rc := []) tab_ok mix href _ ?_) ?_
  · refine And.intro (fun h => ?_) (fun h => ?_)
    · have h : decide (i ≥ g.cols) = true := h
      rw [h]
      refine ob (by decide) ?_
      refine ob (by decide) ?_
      refine ⟨rfl, SubI.of0 href [(100, 16)] rfl ⟨⟨rfl, LeBx.rfl⟩, ⟨rfl, ?_⟩, trivial⟩ ⟨⟨rfl, LeQ.rfl⟩, ⟨rfl, LeQ.rfl⟩, ⟨rfl, LeQ.mo rfl⟩, trivial⟩⟩
      exact RowIs.mrow (el := fun x _ => dI x) (RowIs.one (lt1 (congrArg dI es)))
    · have h : decide (i ≥ g.cols) = false := h
      rw [h]
      refine ⟨rfl, SubI.of0 href [(100, 1000)] rfl ⟨⟨rfl, LeBx.rfl⟩, ⟨rfl, rfl⟩, trivial⟩ ⟨⟨rfl, LeQ.rfl⟩, ⟨rfl, LeQ.rfl⟩, ⟨rfl, LeQ.nil rfl⟩, trivial⟩⟩
  have l1 := len1 (b := decide (i ≥ g.cols)) (x := i - g.cols)
  have l2 := len1 (b := decide (i % g.cols > 0)) (x := i - 1)
  have l3 := len1 (b := decide (i % g.cols < g.cols - 1)) (x := i + 1)
  have l4 := len1 (b := decide (i + g.cols < g.levels.length)) (x := i + g.cols)
  unfold nearL
  generalize hA : (bif decide (i ≥ g.cols) then [i - g.cols] else []) = A at l1 ⊢
  clear hA
  generalize hB : (bif decide (i % g.cols > 0) then [i - 1] else []) = B at l2 ⊢
  refine AW.cut (σ' := nearS g i (A ++ B)) (ex.sound (rc := []) tab_ok mix href _ ?_) ?_
  · refine oi hc0 ?_
    refine And.intro (fun h => ?_) (fun h => ?_)
    · have h : decide (i.tmod g.cols > 0) = true := h
      rw [er] at h
      rw [h, cond_true] at hB
      subst hB
      refine ob (by decide) ?_
      refine ob (by rw [bif_len]; show _ * 8 ≤ _; omega) ?_
      refine ob (fit1 (lt1 rfl)) ?_
      refine ⟨rfl, SubI.of0 href [(100, 26)] rfl ⟨⟨rfl, LeBx.rfl⟩, ⟨rfl, nearRow intRow (congrArg dI es1)⟩, trivial⟩ ⟨⟨rfl, LeQ.rfl⟩, ⟨rfl, LeQ.rfl⟩, ⟨rfl, LeQ.mo (isEmpty_snoc _ _)⟩, trivial⟩⟩
    · have h : decide (i.tmod g.cols > 0) = false := h
      rw [er] at h
      rw [h] at hB
      subst hB
      rw [cond_false, List.append_nil]
      exact ⟨rfl, SubI.of0 href [] rfl ⟨⟨rfl, LeBx.rfl⟩, ⟨rfl, LeBx.rfl⟩, trivial⟩ ⟨⟨rfl, LeQ.rfl⟩, ⟨rfl, LeQ.rfl⟩, ⟨rfl, LeQ.rfl⟩, trivial⟩⟩
  have l12 : (A ++ B).length ≤ 2 := by rw [List.length_append]; omega
  clear hB l1 l2
  generalize A ++ B = A at l12 ⊢
  generalize hB : (bif decide (i % g.cols < g.cols - 1) then [i + 1] else []) = B at l3 ⊢
  refine AW.cut (σ' := nearS g i (A ++ B)) (ex.sound (rc := []) tab_ok mix href _ ?_) ?_
  · refine oi hc0 ?_
    refine And.intro (by kernel_rfl) ?_
    refine And.intro (fun h => ?_) (fun h => ?_)
    · have h : decide (i.tmod g.cols < w64 (g.cols - 1)) = true := h
      rw [er, ec] at h
      rw [h, cond_true] at hB
      subst hB
      refine ob (by decide) ?_
      refine ob (by rw [bif_len]; show _ * 8 ≤ _; omega) ?_
      refine ob (fit1 (lt1 rfl)) ?_
      refine ⟨rfl, SubI.of0 href [(100, 39)] rfl ⟨⟨rfl, LeBx.rfl⟩, ⟨rfl, nearRow intRow (congrArg dI ea1)⟩, trivial⟩ ⟨⟨rfl, LeQ.rfl⟩, ⟨rfl, LeQ.rfl⟩, ⟨rfl, LeQ.mo (isEmpty_snoc _ _)⟩, trivial⟩⟩
    · have h : decide (i.tmod g.cols < w64 (g.cols - 1)) = false := h
      rw [er, ec] at h
      rw [h] at hB
      subst hB
      rw [cond_false, List.append_nil]
      exact ⟨rfl, SubI.of0 href [] rfl ⟨⟨rfl, LeBx.rfl⟩, ⟨rfl, LeBx.rfl⟩, trivial⟩ ⟨⟨rfl, LeQ.rfl⟩, ⟨rfl, LeQ.rfl⟩, ⟨rfl, LeQ.rfl⟩, trivial⟩⟩
  have l13 : (A ++ B).length ≤ 3 := by rw [List.length_append]; omega
  clear hB l3 l12
  generalize A ++ B = A at l13 ⊢
  generalize hB : (bif decide (i + g.cols < g.levels.length) then [i + g.cols] else []) = B at l4 ⊢
  refine AW.cut (σ' := nearS g i (A ++ B)) (ex.sound (rc := []) tab_ok mix href _ ?_) ?_
  · refine And.intro (fun h => ?_) (fun h => ?_)
    · have h : decide (w64 (i + g.cols) < (g.levels.length : Int)) = true := h
      rw [ea] at h
      rw [h, cond_true] at hB
      subst hB
      refine ob (by decide) ?_
      refine ob (by rw [bif_len]; show _ * 8 ≤ _; omega) ?_
      refine ob (fit1 (lt1 rfl)) ?_
      refine ⟨rfl, SubI.of0 href [(100, 54)] rfl ⟨⟨rfl, LeBx.rfl⟩, ⟨rfl, nearRow intRow (congrArg dI ea)⟩, trivial⟩ ⟨⟨rfl, LeQ.rfl⟩, ⟨rfl, LeQ.rfl⟩, ⟨rfl, LeQ.mo (isEmpty_snoc _ _)⟩, trivial⟩⟩
    · have h : decide (w64 (i + g.cols) < (g.levels.length : Int)) = false := h
      rw [ea] at h
      rw [h] at hB
      subst hB
      rw [cond_false, List.append_nil]
      exact ⟨rfl, SubI.of0 href [] rfl ⟨⟨rfl, LeBx.rfl⟩, ⟨rfl, LeBx.rfl⟩, trivial⟩ ⟨⟨rfl, LeQ.rfl⟩, ⟨rfl, LeQ.rfl⟩, ⟨rfl, LeQ.rfl⟩, trivial⟩⟩
  clear hB
  generalize A ++ B = A
  refine ex.sound (rc := []) tab_ok mix href _ ?_
  exact SubR.mo
end Go.Ch

/- A search through cells, as plain lists: what 'way' computes. -/
namespace Go.Ch
open Go.Ax

theorem findM_set (k v x : Int) : ∀ l : List (Int × Int), findM (setM l k v) x = bif x == k then some v else findM l x
  | [] => rfl
  | (a, u) :: r => by
    rw [setM]
    cases hk : k == a with
    | true =>
      simp only [cond_true, findM]
      have : k = a := by simpa using hk
      subst this
      cases x == k <;> rfl
    | false =>
      simp only [cond_false, findM, findM_set k v x r]
      cases hx : x == a with
      | true =>
        have : x = a := by simpa using hx
        subst this
        have : (x == k) = false := by
          cases h : x == k with
          | false => rfl
          | true => have : x = k := by simpa using h
                    subst this; simp at hk
        rw [this]; rfl
      | false => rfl
theorem hasM_set {l : List (Int × Int)} {k v x : Int} : hasM (setM l k v) x = (x == k || hasM l x) := by
  unfold hasM
  rw [findM_set]
  cases x == k <;> simp
theorem getM_set {l : List (Int × Int)} {k v x : Int} : getM (setM l k v) x = bif x == k then v else getM l x := by
  unfold getM
  rw [findM_set]
  cases x == k <;> simp
theorem setM_new {k v : Int} : ∀ {l : List (Int × Int)}, hasM l k = false → setM l k v = l ++ [(k, v)]
  | [], _ => rfl
  | (a, u) :: r, h => by
    unfold hasM at h
    rw [findM] at h
    cases hk : k == a with
    | true => rw [hk] at h; cases h
    | false =>
      rw [hk] at h
      rw [setM, hk]
      exact congrArg ((a, u) :: ·) (setM_new (l := r) h)
theorem hasM_mem {x : Int} : ∀ {l : List (Int × Int)}, hasM l x = true ↔ x ∈ l.map (·.1)
  | [] => by simp [hasM, findM]
  | (a, u) :: r => by
    have h := hasM_mem (x := x) (l := r)
    unfold hasM at h ⊢
    rw [findM]
    cases hk : x == a with
    | true =>
      have : x = a := by simpa using hk
      subst this
      simp
    | false =>
      have : ¬ x = a := by simpa using hk
      simp [this, h]

/-- The place of a key. -/
def posM : List (Int × Int) → Int → Nat
  | [], _ => 0
  | (a, _) :: r, k => bif k == a then 0 else posM r k + 1
theorem posM_lt {x : Int} : ∀ {l : List (Int × Int)}, hasM l x = true → posM l x < l.length
  | [], h => by simp [hasM, findM] at h
  | (a, u) :: r, h => by
    rw [posM]
    cases hk : x == a with
    | true => simp
    | false =>
      have : hasM r x = true := by
        unfold hasM at h ⊢
        rw [findM, hk] at h
        exact h
      have := posM_lt this
      simp; omega
theorem posM_old {x k v : Int} : ∀ {l : List (Int × Int)}, hasM l x = true → posM (l ++ [(k, v)]) x = posM l x
  | [], h => by simp [hasM, findM] at h
  | (a, u) :: r, h => by
    rw [List.cons_append, posM, posM]
    cases hk : x == a with
    | true => rfl
    | false =>
      have : hasM r x = true := by
        unfold hasM at h ⊢
        rw [findM, hk] at h
        exact h
      simp only [cond_false, posM_old this]
theorem posM_new {k v : Int} : ∀ {l : List (Int × Int)}, hasM l k = false → posM (l ++ [(k, v)]) k = l.length
  | [], _ => by simp [posM]
  | (a, u) :: r, h => by
    have hk : (k == a) = false := by
      cases hk : k == a with
      | false => rfl
      | true => unfold hasM at h; rw [findM, hk] at h; cases h
    have h' : hasM r k = false := by
      unfold hasM at h ⊢
      rw [findM, hk] at h
      exact h
    rw [List.cons_append, posM, hk, cond_false, posM_new h', List.length_cons]

theorem countP_drop {α : Type} {p q : α → Bool} : ∀ {l : List α}, (∀ x ∈ l, q x = true → p x = true) → (∃ x ∈ l, p x = true ∧ q x = false) → l.countP q + 1 ≤ l.countP p
  | [], _, ⟨_, h, _⟩ => by cases h
  | y :: r, h, ⟨x, hx, hp, hq⟩ => by
    have hr : r.countP q ≤ r.countP p := List.countP_mono_left fun z hz => h z (List.mem_cons_of_mem _ hz)
    rw [List.countP_cons, List.countP_cons]
    rcases List.mem_cons.1 hx with rfl | hx
    · rw [hp, hq]; simp; omega
    · have := countP_drop (p := p) (q := q) (l := r) (fun z hz => h z (List.mem_cons_of_mem _ hz)) ⟨x, hx, hp, hq⟩
      have h1 := h y (List.mem_cons_self ..)
      cases hq' : q y with
      | false => simp; cases p y <;> simp <;> omega
      | true => rw [h1 hq']; simp; omega

/-- How many cells have not been seen. -/
def unseen (n : Nat) (b : List (Int × Int)) : Nat := (List.range n).countP fun i : Nat => !hasM b (i : Int)
theorem unseen_set {n : Nat} {b : List (Int × Int)} {k v : Int} (h0 : 0 ≤ k) (hn : k < n) (h : hasM b k = false) : unseen n (setM b k v) + 1 ≤ unseen n b := by
  refine countP_drop (fun x _ hx => ?_) ⟨k.toNat, List.mem_range.2 (by omega), ?_, ?_⟩
  · rw [hasM_set] at hx
    cases hb : hasM b (x : Int) with
    | false => rfl
    | true => rw [hb] at hx; simp at hx
  · rw [show ((k.toNat : Nat) : Int) = k by omega, h]; rfl
  · rw [hasM_set, show ((k.toNat : Nat) : Int) = k by omega]; simp

abbrev BS := List (Int × Int) × List Int
def seedS (ok : Int → Bool) (s : BS) (i : Int) : BS := bif !hasM s.1 i && ok i then (setM s.1 i i, s.2 ++ [i]) else s
def pushS (ok : Int → Bool) (i : Int) (s : BS) (k : Int) : BS := bif hasM s.1 k || !ok k then s else (setM s.1 k i, s.2 ++ [k])
def seedL (ok : Int → Bool) (l : List Int) : BS := l.foldl (seedS ok) ([], [])
def pushL (ok : Int → Bool) (i : Int) (l : List Int) (s : BS) : BS := l.foldl (pushS ok i) s
def searchL (ok : Int → Bool) (nr : Int → List Int) (to : List Int) : Nat → BS → BS
  | 0, s => s
  | _ + 1, (b, []) => (b, [])
  | m + 1, (b, i :: r) => bif to.contains i then (b, i :: r) else searchL ok nr to m ((pushL ok i (nr i) (b, i :: r)).1, (pushL ok i (nr i) (b, i :: r)).2.tail)
def backL (b : List (Int × Int)) : Nat → Int → List Int → List Int
  | 0, _, out => out
  | m + 1, i, out => bif getM b i == i then out else backL b m (getM b i) (out ++ [getM b i])
def wayS (n : Nat) (ok : Int → Bool) (nr : Int → List Int) (fr to : List Int) : BS := searchL ok nr to n (seedL ok fr)
def wayL (n : Nat) (ok : Int → Bool) (nr : Int → List Int) (fr to : List Int) : List Int :=
  match (wayS n ok nr fr to).2 with
  | [] => []
  | i :: _ => (backL (wayS n ok nr fr to).1 (wayS n ok nr fr to).1.length i [i]).reverse

/-- What holds at each step of the search. -/
structure Bw (n : Nat) (ok : Int → Bool) (s : BS) : Prop where
  mem : ∀ x ∈ s.2, hasM s.1 x = true
  par : ∀ k, hasM s.1 k = true → getM s.1 k = k ∨ (hasM s.1 (getM s.1 k) = true ∧ posM s.1 (getM s.1 k) < posM s.1 k)
  key : ∀ k, hasM s.1 k = true → ok k = true
  cnt : s.1.length + unseen n s.1 ≤ n
def muS (n : Nat) (s : BS) : Nat := s.2.length + unseen n s.1
theorem Bw.put {n : Nat} {ok : Int → Bool} {s : BS} {k v : Int} (h : Bw n ok s) (hok : ∀ i, ok i = true → 0 ≤ i ∧ i < n) (hk : ok k = true) (hn : hasM s.1 k = false) (hv : v = k ∨ hasM s.1 v = true) :
    Bw n ok (setM s.1 k v, s.2 ++ [k]) ∧ muS n (setM s.1 k v, s.2 ++ [k]) ≤ muS n s := by
  have hr := hok k hk
  have hu := unseen_set (v := v) hr.1 hr.2 hn
  have hl := setM_new (v := v) hn
  have hc := h.cnt
  refine ⟨⟨?_, ?_, ?_, ?_⟩, ?_⟩
  · intro x hx
    show hasM (setM s.1 k v) x = true
    rw [hasM_set]
    rcases List.mem_append.1 hx with hx | hx
    · rw [h.mem x hx]; simp
    · have : x = k := by simpa using hx
      subst this; simp
  · intro x hx
    show getM (setM s.1 k v) x = x ∨ (hasM (setM s.1 k v) (getM (setM s.1 k v) x) = true ∧ posM (setM s.1 k v) (getM (setM s.1 k v) x) < posM (setM s.1 k v) x)
    have hx : hasM (setM s.1 k v) x = true := hx
    rw [hasM_set] at hx
    cases hxk : x == k with
    | true =>
      have : x = k := by simpa using hxk
      subst this
      rw [getM_set, hxk, cond_true]
      rcases hv with rfl | hv
      · exact .inl rfl
      · refine .inr ⟨by rw [hasM_set, hv]; simp, ?_⟩
        rw [hl, posM_old hv, posM_new hn]
        exact posM_lt hv
    | false =>
      rw [hxk, Bool.false_or] at hx
      rw [getM_set, hxk, cond_false]
      rcases h.par x hx with e | ⟨e, p⟩
      · exact .inl e
      · refine .inr ⟨by rw [hasM_set, e]; simp, ?_⟩
        rw [hl, posM_old e, posM_old hx]
        exact p
  · intro x hx
    have hx : hasM (setM s.1 k v) x = true := hx
    rw [hasM_set] at hx
    cases hxk : x == k with
    | true => have : x = k := by simpa using hxk
              subst this; exact hk
    | false => rw [hxk, Bool.false_or] at hx; exact h.key x hx
  · show (setM s.1 k v).length + unseen n (setM s.1 k v) ≤ n
    rw [hl] at hu ⊢
    rw [List.length_append, List.length_singleton]
    omega
  · show (s.2 ++ [k]).length + unseen n (setM s.1 k v) ≤ s.2.length + unseen n s.1
    rw [List.length_append, List.length_singleton]
    omega
theorem Bw.nil {n : Nat} {ok : Int → Bool} : Bw n ok ([], []) :=
  ⟨fun x hx => (by cases hx), fun k hk => (by cases hk), fun k hk => (by cases hk), by
    show 0 + unseen n [] ≤ n
    rw [Nat.zero_add]
    exact Nat.le_trans List.countP_le_length (by simp)⟩
theorem Bw.seed {n : Nat} {ok : Int → Bool} {s : BS} {i : Int} (h : Bw n ok s) (hok : ∀ i, ok i = true → 0 ≤ i ∧ i < n) : Bw n ok (seedS ok s i) ∧ muS n (seedS ok s i) ≤ muS n s := by
  unfold seedS
  cases hb : hasM s.1 i with
  | true => exact ⟨h, Nat.le_refl _⟩
  | false =>
    cases hk : ok i with
    | false => exact ⟨h, Nat.le_refl _⟩
    | true => exact h.put hok hk hb (.inl rfl)
theorem Bw.push {n : Nat} {ok : Int → Bool} {s : BS} {i k : Int} (h : Bw n ok s) (hok : ∀ i, ok i = true → 0 ≤ i ∧ i < n) (hi : hasM s.1 i = true) :
    Bw n ok (pushS ok i s k) ∧ muS n (pushS ok i s k) ≤ muS n s ∧ hasM (pushS ok i s k).1 i = true := by
  unfold pushS
  cases hb : hasM s.1 k with
  | true => exact ⟨h, Nat.le_refl _, hi⟩
  | false =>
    cases hk : ok k with
    | false => exact ⟨h, Nat.le_refl _, hi⟩
    | true =>
      have := h.put hok hk hb (.inr hi)
      refine ⟨this.1, this.2, ?_⟩
      show hasM (setM s.1 k i) i = true
      rw [hasM_set, hi]; simp
theorem muS_nil {n : Nat} : muS n ([], []) ≤ n := by
  show 0 + unseen n [] ≤ n
  rw [Nat.zero_add]
  exact Nat.le_trans List.countP_le_length (by simp)
theorem foldl_take {α β : Type} {f : β → α → β} {b : β} {l : List α} {i : Nat} (h : i < l.length) : (l.take (i + 1)).foldl f b = f ((l.take i).foldl f b) l[i] := by
  rw [List.take_succ_eq_append_getElem h, List.foldl_append]; rfl
theorem Bw.seeds {n : Nat} {ok : Int → Bool} (hok : ∀ i, ok i = true → 0 ≤ i ∧ i < n) {l : List Int} : ∀ i, i ≤ l.length → Bw n ok ((l.take i).foldl (seedS ok) ([], [])) ∧ muS n ((l.take i).foldl (seedS ok) ([], [])) ≤ n
  | 0, _ => ⟨Bw.nil, muS_nil⟩
  | i + 1, h => by
    have ih := Bw.seeds hok (l := l) i (by omega)
    rw [foldl_take (by omega)]
    have := ih.1.seed hok (i := l[i])
    exact ⟨this.1, Nat.le_trans this.2 ih.2⟩
theorem Bw.pushes {n : Nat} {ok : Int → Bool} (hok : ∀ i, ok i = true → 0 ≤ i ∧ i < n) {c : Int} {s : BS} (h : Bw n ok s) (hc : hasM s.1 c = true) {l : List Int} :
    ∀ i, i ≤ l.length → Bw n ok ((l.take i).foldl (pushS ok c) s) ∧ muS n ((l.take i).foldl (pushS ok c) s) ≤ muS n s ∧ hasM ((l.take i).foldl (pushS ok c) s).1 c = true
  | 0, _ => ⟨h, Nat.le_refl _, hc⟩
  | i + 1, hi => by
    have ih := Bw.pushes hok h hc (l := l) i (by omega)
    rw [foldl_take (by omega)]
    have := ih.1.push hok (k := l[i]) ih.2.2
    exact ⟨this.1, Nat.le_trans this.2.1 ih.2.1, this.2.2⟩
theorem push_head {ok : Int → Bool} {c : Int} {s : BS} {k i : Int} {r : List Int} (h : s.2 = i :: r) : ∃ r', (pushS ok c s k).2 = i :: r' := by
  unfold pushS
  cases hasM s.1 k || !ok k with
  | true => exact ⟨r, h⟩
  | false => exact ⟨r ++ [k], by rw [cond_false, h]; rfl⟩
theorem pushes_head {ok : Int → Bool} {c : Int} {s : BS} {i : Int} {r : List Int} (h : s.2 = i :: r) (l : List Int) : ∃ r', (l.foldl (pushS ok c) s).2 = i :: r' := by
  induction l generalizing s r with
  | nil => exact ⟨r, h⟩
  | cons k l ih => obtain ⟨r', h'⟩ := push_head (ok := ok) (c := c) (k := k) h; exact ih h'
theorem Bw.tail {n : Nat} {ok : Int → Bool} {s : BS} (h : Bw n ok s) : Bw n ok (s.1, s.2.tail) :=
  ⟨fun x hx => h.mem x (List.mem_of_mem_tail hx), h.par, h.key, h.cnt⟩
end Go.Ch

/- The search is right: what it returns is a way, and where it returns none there is none. -/
namespace Go.Ch
open Go.Ax

def upL (nr : Int → List Int) (l : List Int) : Prop := ∀ k, k + 1 < l.length → l.getD k 0 ∈ nr (l.getD (k + 1) 0)
def linkL (nr : Int → List Int) (l : List Int) : Prop := ∀ k, k + 1 < l.length → l.getD (k + 1) 0 ∈ nr (l.getD k 0)
theorem getD_app {l : List Int} {x : Int} {k : Nat} : (l ++ [x]).getD k 0 = if k < l.length then l.getD k 0 else if k = l.length then x else 0 := by
  simp only [List.getD_eq_getElem?_getD]
  by_cases h : k < l.length
  · rw [if_pos h, List.getElem?_append_left h]
  · rw [if_neg h, List.getElem?_append_right (by omega)]
    by_cases e : k = l.length
    · subst e; simp
    · rw [if_neg e, List.getElem?_eq_none (by simp; omega)]; rfl
theorem upL_snoc {nr : Int → List Int} {l : List Int} {i x : Int} (h : upL nr l) (hl : l.getLast? = some i) (hx : i ∈ nr x) : upL nr (l ++ [x]) := by
  intro k hk
  rw [List.length_append, List.length_singleton] at hk
  have e0 : (l ++ [x]).getD k 0 = l.getD k 0 := by rw [getD_app]; exact if_pos (by omega)
  rw [e0]
  by_cases e : k + 1 < l.length
  · have e1 : (l ++ [x]).getD (k + 1) 0 = l.getD (k + 1) 0 := by rw [getD_app]; exact if_pos e
    rw [e1]; exact h k e
  · have e2 : k + 1 = l.length := by omega
    have e1 : (l ++ [x]).getD (k + 1) 0 = x := by rw [getD_app, if_neg e, if_pos e2]
    rw [e1]
    rw [List.getLast?_eq_getElem?, show l.length - 1 = k by omega] at hl
    rw [List.getD_eq_getElem?_getD, hl]; exact hx
theorem upL_rev {nr : Int → List Int} {l : List Int} (h : upL nr l) : linkL nr l.reverse := by
  intro k hk
  rw [List.length_reverse] at hk
  simp only [List.getD_eq_getElem?_getD]
  rw [List.getElem?_reverse (by omega), List.getElem?_reverse (by omega)]
  have := h (l.length - 1 - (k + 1)) (by omega)
  simp only [List.getD_eq_getElem?_getD] at this
  rw [show l.length - 1 - k = l.length - 1 - (k + 1) + 1 by omega]
  exact this

theorem backL_spec {nr : Int → List Int} {b : List (Int × Int)} (hp : ∀ k, hasM b k = true → getM b k = k ∨ (hasM b (getM b k) = true ∧ posM b (getM b k) < posM b k))
    (hn : ∀ k, hasM b k = true → getM b k ≠ k → k ∈ nr (getM b k)) : ∀ (m : Nat) (i : Int) (out : List Int), hasM b i = true → posM b i ≤ m → out.getLast? = some i → upL nr out → (∀ x ∈ out, hasM b x = true) →
    upL nr (backL b m i out) ∧ (backL b m i out).head? = out.head? ∧ (∀ x ∈ backL b m i out, hasM b x = true) ∧ ∃ r, (backL b m i out).getLast? = some r ∧ getM b r = r
  | 0, i, out, hi, hpos, hl, hu, hx => by
    refine ⟨hu, rfl, hx, i, hl, ?_⟩
    rcases hp i hi with h | ⟨_, h⟩
    · exact h
    · omega
  | m + 1, i, out, hi, hpos, hl, hu, hx => by
    rw [backL]
    cases he : getM b i == i with
    | true => exact ⟨hu, rfl, hx, i, hl, by simpa using he⟩
    | false =>
      have he' : getM b i ≠ i := by simpa using he
      rcases hp i hi with h | ⟨h1, h2⟩
      · exact absurd h he'
      · have ih := backL_spec hp hn m (getM b i) (out ++ [getM b i]) h1 (by omega) (by simp) (upL_snoc hu hl (hn i hi he')) (fun x h => by
          rcases List.mem_append.1 h with h | h
          · exact hx x h
          · have : x = getM b i := by simpa using h
            rw [this]; exact h1)
        refine ⟨ih.1, ih.2.1.trans ?_, ih.2.2⟩
        cases out with
        | nil => cases hl
        | cons a r => rfl

/-- The cells that have been taken: their neighbours have been seen. -/
structure Bd (ok : Int → Bool) (nr : Int → List Int) (fr to : List Int) (s : BS) : Prop where
  root : ∀ k, hasM s.1 k = true → getM s.1 k = k → k ∈ fr ∨ k ∈ nr k
  link : ∀ k, hasM s.1 k = true → getM s.1 k ≠ k → k ∈ nr (getM s.1 k)
  done : ∀ k, hasM s.1 k = true → k ∈ s.2 ∨ (k ∉ to ∧ ∀ y ∈ nr k, ok y = true → hasM s.1 y = true)
theorem Bd.put {ok : Int → Bool} {nr : Int → List Int} {fr to : List Int} {s : BS} {k v : Int} (h : Bd ok nr fr to s) (hn : hasM s.1 k = false) (hv : (v = k ∧ k ∈ fr) ∨ k ∈ nr v) :
    Bd ok nr fr to (setM s.1 k v, s.2 ++ [k]) := by
  refine ⟨?_, ?_, ?_⟩
  · intro x hx
    show getM (setM s.1 k v) x = x → _
    have hx : hasM (setM s.1 k v) x = true := hx
    rw [hasM_set] at hx
    rw [getM_set]
    cases hxk : x == k with
    | true =>
      have : x = k := by simpa using hxk
      subst this
      rw [cond_true]
      intro e
      rcases hv with ⟨_, h⟩ | h
      · exact .inl h
      · rw [e] at h; exact .inr h
    | false => rw [hxk, Bool.false_or] at hx; exact h.root x hx
  · intro x hx
    show getM (setM s.1 k v) x ≠ x → x ∈ nr (getM (setM s.1 k v) x)
    have hx : hasM (setM s.1 k v) x = true := hx
    rw [hasM_set] at hx
    rw [getM_set]
    cases hxk : x == k with
    | true =>
      have : x = k := by simpa using hxk
      subst this
      rw [cond_true]
      intro e
      rcases hv with ⟨h, _⟩ | h
      · exact absurd h e
      · exact h
    | false => rw [hxk, Bool.false_or] at hx; exact h.link x hx
  · intro x hx
    have hx : hasM (setM s.1 k v) x = true := hx
    rw [hasM_set] at hx
    show x ∈ s.2 ++ [k] ∨ (x ∉ to ∧ ∀ y ∈ nr x, ok y = true → hasM (setM s.1 k v) y = true)
    cases hxk : x == k with
    | true =>
      have : x = k := by simpa using hxk
      subst this
      exact .inl (by simp)
    | false =>
      rw [hxk, Bool.false_or] at hx
      rcases h.done x hx with e | ⟨e1, e2⟩
      · exact .inl (List.mem_append_left _ e)
      · exact .inr ⟨e1, fun y hy hk => by rw [hasM_set, e2 y hy hk]; simp⟩
theorem pushL_spec {ok : Int → Bool} {nr : Int → List Int} {fr to : List Int} {i : Int} : ∀ (l : List Int) (s : BS), (∀ y ∈ l, y ∈ nr i) → Bd ok nr fr to s →
    Bd ok nr fr to (pushL ok i l s) ∧ (∀ y ∈ l, ok y = true → hasM (pushL ok i l s).1 y = true) ∧ (∀ y, hasM s.1 y = true → hasM (pushL ok i l s).1 y = true)
  | [], s, _, h => ⟨h, fun y hy => (by cases hy), fun _ h => h⟩
  | k :: l, s, hl, h => by
    have key : Bd ok nr fr to (pushS ok i s k) ∧ (ok k = true → hasM (pushS ok i s k).1 k = true) ∧ (∀ y, hasM s.1 y = true → hasM (pushS ok i s k).1 y = true) := by
      unfold pushS
      cases hb : hasM s.1 k with
      | true => exact ⟨h, fun _ => hb, fun _ h => h⟩
      | false =>
        cases hk : ok k with
        | false => exact ⟨h, fun e => (by cases e), fun _ h => h⟩
        | true =>
          refine ⟨h.put hb (.inr (hl k (List.mem_cons_self ..))), fun _ => ?_, fun y hy => ?_⟩
          · show hasM (setM s.1 k i) k = true
            rw [hasM_set]; simp
          · show hasM (setM s.1 k i) y = true
            rw [hasM_set, hy]; simp
    have ih := pushL_spec (i := i) l (pushS ok i s k) (fun y hy => hl y (List.mem_cons_of_mem _ hy)) key.1
    refine ⟨ih.1, fun y hy hk => ?_, fun y hy => ih.2.2 y (key.2.2 y hy)⟩
    rcases List.mem_cons.1 hy with rfl | hy
    · exact ih.2.2 _ (key.2.1 hk)
    · exact ih.2.1 y hy hk
theorem seedL_spec {ok : Int → Bool} {nr : Int → List Int} {fr to : List Int} : ∀ (l : List Int) (s : BS), (∀ y ∈ l, y ∈ fr) → Bd ok nr fr to s →
    Bd ok nr fr to (l.foldl (seedS ok) s) ∧ (∀ y ∈ l, ok y = true → hasM (l.foldl (seedS ok) s).1 y = true) ∧ (∀ y, hasM s.1 y = true → hasM (l.foldl (seedS ok) s).1 y = true)
  | [], s, _, h => ⟨h, fun y hy => (by cases hy), fun _ h => h⟩
  | k :: l, s, hl, h => by
    have key : Bd ok nr fr to (seedS ok s k) ∧ (ok k = true → hasM (seedS ok s k).1 k = true) ∧ (∀ y, hasM s.1 y = true → hasM (seedS ok s k).1 y = true) := by
      unfold seedS
      cases hb : hasM s.1 k with
      | true => exact ⟨h, fun _ => hb, fun _ h => h⟩
      | false =>
        cases hk : ok k with
        | false => exact ⟨h, fun e => (by cases e), fun _ h => h⟩
        | true =>
          refine ⟨h.put hb (.inl ⟨rfl, hl k (List.mem_cons_self ..)⟩), fun _ => ?_, fun y hy => ?_⟩
          · show hasM (setM s.1 k k) k = true
            rw [hasM_set]; simp
          · show hasM (setM s.1 k k) y = true
            rw [hasM_set, hy]; simp
    have ih := seedL_spec l (seedS ok s k) (fun y hy => hl y (List.mem_cons_of_mem _ hy)) key.1
    refine ⟨ih.1, fun y hy hk => ?_, fun y hy => ih.2.2 y (key.2.2 y hy)⟩
    rcases List.mem_cons.1 hy with rfl | hy
    · exact ih.2.2 _ (key.2.1 hk)
    · exact ih.2.1 y hy hk
theorem searchL_spec {n : Nat} {ok : Int → Bool} {nr : Int → List Int} {fr to : List Int} (hok : ∀ i, ok i = true → 0 ≤ i ∧ i < n) : ∀ (m : Nat) (s : BS), muS n s ≤ m → Bw n ok s → Bd ok nr fr to s →
    Bw n ok (searchL ok nr to m s) ∧ Bd ok nr fr to (searchL ok nr to m s) ∧ (∀ y, hasM s.1 y = true → hasM (searchL ok nr to m s).1 y = true) ∧
    ((searchL ok nr to m s).2 = [] ∨ ∃ i r, (searchL ok nr to m s).2 = i :: r ∧ i ∈ to)
  | 0, s, hm, w, d => by
    refine ⟨w, d, fun _ h => h, .inl ?_⟩
    have : s.2.length = 0 := by unfold muS at hm; omega
    show s.2 = []
    exact List.eq_nil_of_length_eq_zero this
  | m + 1, (b, []), hm, w, d => ⟨w, d, fun _ h => h, .inl rfl⟩
  | m + 1, (b, i :: r), hm, w, d => by
    rw [searchL]
    cases hc : to.contains i with
    | true => exact ⟨w, d, fun _ h => h, .inr ⟨i, r, rfl, by simpa using hc⟩⟩
    | false =>
      rw [cond_false]
      have hi : hasM b i = true := w.mem i (List.mem_cons_self ..)
      have p1 := pushL_spec (i := i) (nr i) (b, i :: r) (fun _ h => h) d
      have p2 : Bw n ok (pushL ok i (nr i) (b, i :: r)) ∧ muS n (pushL ok i (nr i) (b, i :: r)) ≤ muS n (b, i :: r) ∧ hasM (pushL ok i (nr i) (b, i :: r)).1 i = true := by
        have := w.pushes hok hi (l := nr i) (nr i).length (Nat.le_refl _)
        rw [List.take_length] at this
        exact this
      obtain ⟨r', hr⟩ := pushes_head (ok := ok) (c := i) (s := (b, i :: r)) rfl (nr i)
      have hr : (pushL ok i (nr i) (b, i :: r)).2 = i :: r' := hr
      have ih := searchL_spec hok m ((pushL ok i (nr i) (b, i :: r)).1, (pushL ok i (nr i) (b, i :: r)).2.tail) (by
          have := p2.2.1
          unfold muS at this hm ⊢
          rw [hr] at this ⊢
          simp only [List.tail_cons, List.length_cons] at this hm ⊢
          omega) p2.1.tail ⟨p1.1.root, p1.1.link, fun k hk => by
            rcases p1.1.done k hk with h | h
            · rw [hr] at h
              rcases List.mem_cons.1 h with rfl | h
              · refine .inr ⟨by simpa using hc, fun y hy ho => p1.2.1 y hy ho⟩
              · refine .inl ?_
                show k ∈ (pushL ok i (nr i) (b, i :: r)).2.tail
                rw [hr]; exact h
            · exact .inr h⟩
      exact ⟨ih.1, ih.2.1, fun y hy => ih.2.2.1 y (p1.2.2 y hy), ih.2.2.2⟩

theorem wayS_spec {n : Nat} {ok : Int → Bool} {nr : Int → List Int} {fr to : List Int} (hok : ∀ i, ok i = true → 0 ≤ i ∧ i < n) :
    Bw n ok (wayS n ok nr fr to) ∧ Bd ok nr fr to (wayS n ok nr fr to) ∧ (∀ y ∈ fr, ok y = true → hasM (wayS n ok nr fr to).1 y = true) ∧
    ((wayS n ok nr fr to).2 = [] ∨ ∃ i r, (wayS n ok nr fr to).2 = i :: r ∧ i ∈ to) := by
  have h1 := Bw.seeds hok (l := fr) fr.length (Nat.le_refl _)
  rw [List.take_length] at h1
  have h2 := seedL_spec (ok := ok) (nr := nr) (to := to) fr ([], []) (fun _ h => h) ⟨fun k h => (by cases h), fun k h => (by cases h), fun k h => (by cases h)⟩
  have h3 := searchL_spec (nr := nr) (fr := fr) (to := to) hok n (seedL ok fr) h1.2 h1.1 h2.1
  exact ⟨h3.1, h3.2.1, fun y hy ho => h3.2.2.1 y (h2.2.1 y hy ho), h3.2.2.2⟩
/-- A way is a way. -/
theorem wayL_some {n : Nat} {ok : Int → Bool} {nr : Int → List Int} {fr to : List Int} (hok : ∀ i, ok i = true → 0 ≤ i ∧ i < n) (hnr : ∀ i, i ∉ nr i) (h : wayL n ok nr fr to ≠ []) :
    linkL nr (wayL n ok nr fr to) ∧ (∀ x ∈ wayL n ok nr fr to, ok x = true) ∧ (∃ a, (wayL n ok nr fr to).head? = some a ∧ a ∈ fr) ∧ ∃ z, (wayL n ok nr fr to).getLast? = some z ∧ z ∈ to := by
  obtain ⟨hw, hd, _, he⟩ := wayS_spec (nr := nr) (fr := fr) (to := to) hok
  unfold wayL at h ⊢
  rcases he with he | ⟨i, r, he, hi⟩
  · rw [he] at h; exact absurd rfl h
  · rw [he]
    simp only
    have hm := hw.mem i (by rw [he]; exact List.mem_cons_self ..)
    obtain ⟨u1, u2, u3, q, u4, u5⟩ := backL_spec hw.par hd.link (wayS n ok nr fr to).1.length i [i] hm (Nat.le_of_lt (posM_lt hm)) rfl (fun k hk => by simp at hk) (fun x hx => by
      have : x = i := by simpa using hx
      rw [this]; exact hm)
    refine ⟨upL_rev u1, fun x hx => hw.key x (u3 x (List.mem_reverse.1 hx)), ⟨q, ?_, ?_⟩, i, ?_, hi⟩
    · rw [List.head?_reverse]; exact u4
    · have hq := u3 q (List.mem_of_getLast? u4)
      rcases hd.root q hq u5 with h | h
      · exact h
      · exact absurd h (hnr q)
    · rw [List.getLast?_reverse]; exact u2
/-- Where no way is returned a closed set of cells leaves out the aim. -/
theorem wayL_none {n : Nat} {ok : Int → Bool} {nr : Int → List Int} {fr to : List Int} (hok : ∀ i, ok i = true → 0 ≤ i ∧ i < n) (h : wayL n ok nr fr to = []) :
    ∃ S : Int → Bool, (∀ y ∈ fr, ok y = true → S y = true) ∧ (∀ x, S x = true → ok x = true ∧ x ∉ to ∧ ∀ y ∈ nr x, ok y = true → S y = true) := by
  obtain ⟨hw, hd, hf, he⟩ := wayS_spec (nr := nr) (fr := fr) (to := to) hok
  rcases he with he | ⟨i, r, he, hi⟩
  · refine ⟨hasM (wayS n ok nr fr to).1, hf, fun x hx => ⟨hw.key x hx, ?_⟩⟩
    rcases hd.done x hx with h | h
    · rw [he] at h; cases h
    · exact h
  · exfalso
    unfold wayL at h
    rw [he] at h
    simp only at h
    have hm := hw.mem i (by rw [he]; exact List.mem_cons_self ..)
    have := (backL_spec hw.par hd.link (wayS n ok nr fr to).1.length i [i] hm (Nat.le_of_lt (posM_lt hm)) rfl (fun k hk => by simp at hk) (fun x hx => by
      have : x = i := by simpa using hx
      rw [this]; exact hm)).2.1
    rw [List.reverse_eq_nil_iff] at h
    rw [h] at this
    cases this
end Go.Ch

/- The different levels, ascending, as plain lists. -/
namespace Go.Ch
open Go.Ax

abbrev leI (x y : Int) : Bool := decide (x ≤ y)
abbrev sortI (l : List Int) : List Int := l.mergeSort fun x y => decide (x ≤ y)
theorem sortI_pw (l : List Int) : (sortI l).Pairwise (fun a b => a ≤ b) :=
  (List.pairwise_mergeSort (le := fun x y : Int => decide (x ≤ y)) (fun a b c h1 h2 => by simp at *; omega) (fun a b => by simp; omega) l).imp fun h => of_decide_eq_true h
theorem sortI_perm {l m : List Int} (h : l.Perm m) : sortI l = sortI m :=
  List.Perm.eq_of_pairwise (le := fun a b => a ≤ b) (fun a b _ _ h1 h2 => by omega) (sortI_pw l) (sortI_pw m)
    ((List.mergeSort_perm l _).trans (h.trans (List.mergeSort_perm m _).symm))
theorem sortI_mem {l : List Int} {x : Int} : x ∈ sortI l ↔ x ∈ l := (List.mergeSort_perm l _).mem_iff
theorem sortI_len {l : List Int} : (sortI l).length = l.length := (List.mergeSort_perm l _).length_eq
def keyAt (b : List (Int × Int)) (i : Nat) : Int := (b.getD i (0, 0)).1
theorem keyAt_range (b : List (Int × Int)) : (List.range b.length).map (keyAt b) = b.map (·.1) := by
  apply List.ext_getElem (by simp)
  intro i h1 h2
  have : i < b.length := by simpa using h1
  simp [keyAt, this]
theorem keys_sort {b : List (Int × Int)} {sn : List Nat} (hn : sn.Nodup) (hlt : ∀ i ∈ sn, i < b.length) (hall : ∀ i, i < b.length → i ∈ sn) : sortI (sn.reverse.map (keyAt b)) = sortI (b.map (·.1)) := by
  refine sortI_perm ?_
  rw [← keyAt_range]
  refine List.Perm.map _ ?_
  refine (List.reverse_perm sn).trans ?_
  exact (List.perm_ext_iff_of_nodup hn List.nodup_range).2 fun i => ⟨fun h => List.mem_range.2 (hlt i h), fun h => hall i (List.mem_range.1 h)⟩

def lvS (lv : List Int) (b : List (Int × Int)) (i : Nat) : List (Int × Int) := bif lv.getD i 0 != 30000 then setM b (lv.getD i 0) 1 else b
def lvF (lv : List Int) : Nat → List (Int × Int)
  | 0 => []
  | i + 1 => lvS lv (lvF lv i) i
theorem setM_len {b : List (Int × Int)} {k v : Int} : (setM b k v).length ≤ b.length + 1 := by
  induction b with
  | nil => simp [setM]
  | cons x r ih =>
    obtain ⟨a, u⟩ := x
    rw [setM]
    cases k == a with
    | true => simp
    | false => simpa using ih
theorem lvF_len (lv : List Int) : ∀ i, (lvF lv i).length ≤ i
  | 0 => Nat.le_refl _
  | i + 1 => by
    have ih := lvF_len lv i
    rw [lvF, lvS]
    cases lv.getD i 0 != 30000 with
    | true => have := setM_len (b := lvF lv i) (k := lv.getD i 0) (v := 1); rw [cond_true]; omega
    | false => rw [cond_false]; omega
theorem lvF_mem (lv : List Int) (x : Int) : ∀ i, i ≤ lv.length → (hasM (lvF lv i) x = true ↔ x ≠ 30000 ∧ ∃ k, k < i ∧ lv.getD k 0 = x)
  | 0, _ => by simp [lvF, hasM, findM]
  | i + 1, h => by
    have ih := lvF_mem lv x i (by omega)
    rw [lvF, lvS]
    cases hk : lv.getD i 0 != 30000 with
    | true =>
      have hk' : lv.getD i 0 ≠ 30000 := by simpa using hk
      rw [cond_true, hasM_set, Bool.or_eq_true, ih]
      constructor
      · rintro (e | ⟨e, k, h1, h2⟩)
        · have e : x = lv.getD i 0 := by simpa using e
          exact ⟨by rw [e]; exact hk', i, by omega, e.symm⟩
        · exact ⟨e, k, by omega, h2⟩
      · rintro ⟨e, k, h1, h2⟩
        by_cases hki : k = i
        · subst hki; left; rw [h2]; simp
        · exact .inr ⟨e, k, by omega, h2⟩
    | false =>
      have hk' : lv.getD i 0 = 30000 := by simpa using hk
      rw [cond_false, ih]
      constructor
      · rintro ⟨e, k, h1, h2⟩; exact ⟨e, k, by omega, h2⟩
      · rintro ⟨e, k, h1, h2⟩
        by_cases hki : k = i
        · subst hki; rw [hk'] at h2; exact absurd h2.symm e
        · exact ⟨e, k, by omega, h2⟩
def levelsL (lv : List Int) : List Int := sortI ((lvF lv lv.length).map (·.1))
theorem levelsL_mem {lv : List Int} {x : Int} : x ∈ levelsL lv ↔ x ≠ 30000 ∧ x ∈ lv := by
  unfold levelsL
  rw [sortI_mem, ← hasM_mem, lvF_mem lv x lv.length (Nat.le_refl _)]
  refine and_congr_right fun _ => ⟨fun ⟨k, h1, h2⟩ => ?_, fun h => ?_⟩
  · rw [List.getD_eq_getElem?_getD, List.getElem?_eq_getElem h1] at h2
    rw [← h2]; exact List.getElem_mem h1
  · obtain ⟨k, h1, h2⟩ := List.mem_iff_getElem.1 h
    exact ⟨k, h1, by rw [List.getD_eq_getElem?_getD, List.getElem?_eq_getElem h1]; exact h2⟩
theorem levelsL_len {lv : List Int} : (levelsL lv).length ≤ lv.length := by
  unfold levelsL
  rw [sortI_len, List.length_map]
  exact lvF_len lv lv.length
end Go.Ch

namespace Go.Ch
open Go Go.Ax Go.Proofs Go.Proofs.Tryz
set_option maxRecDepth 100000
set_option pp.maxSteps 400
set_option maxHeartbeats 1000000

def there (g : Grid) (i : Int) : Bool := within i 0 ((g.levels.length : Int) - 1)
def levelAt (g : Grid) (i : Int) : Int := g.levels.getD i.toNat 0
def knownG (g : Grid) (i : Int) : Bool := there g i && levelAt g i != 30000
theorem there_iff {g : Grid} {i : Int} : there g i = true ↔ 0 ≤ i ∧ i < g.levels.length := by
  unfold there within
  simp; omega
theorem knownI (g : Grid) (i : Int) (hl : g.levels.length ≤ 1000000) : CallP Tryz.prog 65 [grid g, vI i] (vB (knownG g i)) := by
  refine callP_of_ex (rc := []) (N := 20) Tryz.func65 rfl rfl Tryz.call65 tab_ok mix rfl rfl (fun cx _ => ?_)
  have e : outL 0 (w64 ((g.levels.length : Int) - 1)) [i] = !there g i := by
    rw [w64_of (by omega) (by omega)]
    simp [outL, there]
  refine callN ((bbetween 0 (w64 ((g.levels.length : Int) - 1)) [i] (by simp)).conv (args' := _) ⟨LeD.refl _, LeD.refl _, LeD.slc fun i j hi hj => ?_, trivial⟩) ?_
  · obtain rfl : i = 0 := by have : i < 1 := hi; omega
    obtain rfl : j = 0 := by have : j < 1 := hj; omega
    exact LeD.of_eq rfl
  repeat first | refine sk ?_ | refine st ?_ | refine sg ?_ | refine sh ?_ | refine su ?_ | refine sn1 ?_ | refine sn0 ?_
  refine og (fun h => ?_) ?_
  · rw [e, Bool.not_not] at h
    have := there_iff.1 h
    exact ⟨by omega, by omega⟩
  repeat first | refine sk ?_ | refine st ?_ | refine sg ?_ | refine sh ?_ | refine su ?_ | refine sn1 ?_ | refine sn0 ?_
  refine SubR.of_eq ?_
  show vB ((!outL 0 (w64 ((g.levels.length : Int) - 1)) [i]) && (g.levels.getD i.toNat 0 != 30000)) = _
  rw [e, Bool.not_not]; rfl

/-- The first error of the ends of a way. -/
def endsErr (g : Grid) (l : List Int) : Int := bif l.all (there g) then 0 else 6
def endsG (g : Grid) (fr to : List Int) : Int := bif errG g != 0 then errG g else bif fr.isEmpty || to.isEmpty then 10 else endsErr g (fr ++ to)
theorem len0 {α : Type} {l : List α} : ((l.length : Int) == 0) = l.isEmpty := by
  cases l with
  | nil => rfl
  | cons a r => simp; omega
theorem ends (g : Grid) (fr to : List Int) (hg : g.ok) (hf : fr.length ≤ 1000) (ht : to.length ≤ 1000) : CallP Tryz.prog 61 [grid g, vInts fr, vInts to] (vI (endsG g fr to)) := by
  have hl := hg.levels
  refine callP_of_ex (rc := [98]) (N := 40) Tryz.func61 rfl rfl Tryz.call61 tab_ok mix rfl rfl (fun cx href => ?_)
  refine callN (bcheck g hl) ?_
  refine And.intro (fun h => ?_) (fun h => ?_)
  · have h : (errG g != 0) = true := h
    exact SubR.of_eq (by unfold endsG; rw [h]; rfl)
  have h : (errG g != 0) = false := h
  repeat first | refine sk ?_ | refine st ?_ | refine sg ?_ | refine sh ?_ | refine su ?_ | refine sn1 ?_ | refine sn0 ?_
  refine And.intro (fun h2 => ?_) (fun h2 => ?_)
  · have h2 : (((fr.length : Int) == 0) || ((to.length : Int) == 0)) = true := h2
    rw [len0, len0] at h2
    exact SubR.of_eq (by unfold endsG; rw [h, h2]; rfl)
  have h2 : (((fr.length : Int) == 0) || ((to.length : Int) == 0)) = false := h2
  rw [len0, len0] at h2
  have hne : 0 < fr.length ∧ 0 < to.length := by
    rw [Bool.or_eq_false_iff] at h2
    constructor
    · cases fr with
      | nil => cases h2.1
      | cons => simp
    · cases to with
      | nil => cases h2.2
      | cons => simp
  have hj : [fr, to].flatten = fr ++ to := by simp
  refine ⟨[(1001, 26)], _, _, _, _, ConcatR [fr, to] _ (fun i j hi hj => ?_) (by show 0 < 0 + fr.length + to.length; have := hne.1; omega) (by show 0 + fr.length + to.length ≤ _; omega) (by simp), rfl, ⟨rfl, trivial⟩, rfl, ?_⟩
  · have hi : i < 2 := hi
    obtain rfl : j = 0 := by omega
    match i, hi with
    | 0, _ => exact LeD.of_eq rfl
    | 1, _ => exact LeD.of_eq rfl
  rw [hj]
  have hlen : (fr ++ to).length ≤ 2000 := by rw [List.length_append]; omega
  have hres : endsG g fr to = endsErr g (fr ++ to) := by unfold endsG; rw [h, h2]; rfl
  rw [hres]
  generalize fr ++ to = l at hlen ⊢
  refine AW.loopI (fun i : Nat => ⟨[(3, .s (.ptr 3 0)), (27, vInts l), (28, vI l.length), (29, vI i)], [(3, some (gridB g))]⟩)
    (fun i => i ≤ l.length ∧ endsErr g l = endsErr g (l.drop i)) (fun i => l.length - i) 0 ⟨Nat.zero_le _, rfl⟩ ?_ ?_
  · exact SubI.of0 href [] rfl ⟨⟨rfl, LeBx.rfl⟩, trivial⟩ ⟨⟨rfl, LeQ.rfl⟩, ⟨rfl, LeQ.rfl⟩, ⟨rfl, LeQ.rfl⟩, ⟨rfl, LeQ.rfl⟩, trivial⟩
  · rintro i ⟨hi, hj⟩
    refine ex.sound (rc := [98]) tab_ok mix href _ ?_
    refine And.intro (fun h3 => ?_) (fun h3 => ?_)
    · have h3 : (i : Int) < l.length := decT h3
      have hi' : i < l.length := by omega
      rw [List.drop_eq_getElem_cons hi'] at hj
      have hx : l.getD i 0 = l[i] := by simp [hi']
      refine oi ⟨by omega, by omega⟩ ?_
      refine callN (hasG g (l.getD i 0) hg) ?_
      rw [hx, h, cond_false]
      cases ht : within l[i] 0 ((g.levels.length : Int) - 1) with
      | true =>
        have ht' : there g l[i] = true := ht
        refine And.intro (fun h4 => by cases h4) (fun _ => ?_)
        refine ⟨i + 1, ⟨by omega, ?_⟩, by omega, ?_⟩
        · rw [hj]; unfold endsErr; rw [List.all_cons, ht']; rfl
        · exact SubI.of0 href [] rfl ⟨⟨rfl, LeBx.rfl⟩, trivial⟩ ⟨⟨rfl, LeQ.rfl⟩, ⟨rfl, LeQ.rfl⟩, ⟨rfl, LeQ.rfl⟩, ⟨rfl, LeQ.int (w64_of (by omega) (by omega))⟩, trivial⟩
      | false =>
        have ht' : there g l[i] = false := ht
        refine And.intro (fun _ => ?_) (fun h4 => by cases h4)
        refine SubR.of_eq ?_
        rw [hj]; unfold endsErr; rw [List.all_cons, ht']; rfl
    · have h3 : ¬ (i : Int) < l.length := decF h3
      obtain rfl : i = l.length := by omega
      refine SubR.of_eq ?_
      rw [hj, List.drop_length]; rfl
end Go.Ch

namespace Go.Ch
open Go Go.Ax Go.Proofs Go.Proofs.Tryz
set_option maxRecDepth 100000
set_option pp.maxSteps 400
set_option maxHeartbeats 1000000

/-- The row while it is turned round: the outer k cells on each side are done. -/
def revF (l : List Int) (k : Nat) : Nat → Nat → DV := fun i _ => dI (if i < k ∨ l.length - 1 - k < i then l.getD (l.length - 1 - i) 0 else l.getD i 0)
theorem revF_step {l : List Int} {k : Nat} (hk : 2 * k + 1 < l.length) (i : Nat) (hi : i < l.length) :
    rowSet (rowSet (revF l k) k 0 [.d (dI (l.getD (l.length - 1 - k) 0))]) (l.length - 1 - k) 0 [.d (dI (l.getD k 0))] i 0 = revF l (k + 1) i 0 := by
  by_cases h1 : i = l.length - 1 - k
  · subst h1
    rw [rowSet_self]
    unfold revF
    rw [if_pos (by omega)]
    congr 2; omega
  · rw [rowSet_ne h1]
    by_cases h2 : i = k
    · subst h2
      rw [rowSet_self]
      unfold revF
      rw [if_pos (by omega)]
    · rw [rowSet_ne h2]
      unfold revF
      by_cases h3 : i < k ∨ l.length - 1 - k < i
      · rw [if_pos h3, if_pos (by omega)]
      · rw [if_neg h3, if_neg (by omega)]
theorem revF_end {l : List Int} {i : Nat} (hi : i < l.length) : revF l (l.length / 2) i 0 = intEl l.reverse i 0 := by
  unfold revF
  show dI _ = dI (l.reverse.getD i 0)
  simp only [List.getD_eq_getElem?_getD]
  rw [List.getElem?_reverse hi]
  by_cases h : i < l.length / 2 ∨ l.length - 1 - l.length / 2 < i
  · rw [if_pos h]
  · rw [if_neg h, show l.length - 1 - i = i by omega]
theorem ReverseR (l : List Int) (f0 : Nat → Nat → DV) (hf0 : ∀ i j, i < l.length → j < 1 → LeD (f0 i j) (intEl l i j)) (h0 : 0 < l.length) (hl : l.length ≤ 1000000) :
    CallR Tryz.prog 102 [.s (.own 1001)] [(1001, .row 3 l.length 1 f0)] (.t []) [(1001, .row 3 l.length 1 (revF l (l.length / 2)))] := by
  refine callQ_of_ex (rc := []) (N := 28) Tryz.func102 rfl rfl Tryz.call102 tab_ok mix rfl rfl rfl (fun cx href => ?_)
  have el : w64 ((l.length : Int) - 1) = ((l.length - 1 - 0 : Nat) : Int) := by rw [w64_of (by omega) (by omega)]; omega
  refine AW.loopI (fun k : Nat => ⟨[(0, .s (.own 1001)), (2, vI k), (3, vI ((l.length : Int) - 1 - k))], [(1001, some (.row 3 l.length 1 (revF l k)))]⟩)
    (fun k => 2 * k ≤ l.length) (fun k => l.length - k) 0 (Nat.zero_le _) ?_ ?_
  · refine SubI.of [] (by rw [href]; rfl) rfl ⟨⟨rfl, LeBx.row rfl fun i j hi hj => ?_⟩, trivial⟩ ⟨⟨rfl, LeQ.rfl⟩, ⟨rfl, LeQ.rfl⟩, ⟨rfl, LeQ.int ?_⟩, trivial⟩
    · obtain rfl : j = 0 := by omega
      have e : revF l 0 i 0 = intEl l i 0 := by unfold revF; rw [if_neg (by omega)]; rfl
      rw [e]; exact hf0 i 0 hi hj
    · exact (w64_of (by omega) (by omega)).trans (by omega)
  · intro k hk
    refine ex.sound (rc := []) tab_ok mix href _ ?_
    refine And.intro (fun h => ?_) (fun h => ?_)
    · have h : (k : Int) < (l.length : Int) - 1 - k := decT h
      refine oi ⟨by omega, by omega⟩ ?_
      refine oi (show ((l.length : Int) - 1 - k).toNat < l.length by omega) ?_
      refine oi ⟨by omega, by omega⟩ ?_
      refine oi (show ((k : Int)).toNat < l.length by omega) ?_
      refine oi ⟨by omega, by omega⟩ ?_
      refine ob (show ((k : Int)).toNat < l.length by omega) ?_
      refine oi ⟨by omega, by omega⟩ ?_
      refine ob (show ((l.length : Int) - 1 - k).toNat < l.length by omega) ?_
      refine And.intro (by kernel_rfl) ?_
      refine ⟨k + 1, by omega, by omega, ?_⟩
      refine SubI.of [] (by rw [href]; rfl) rfl ⟨⟨rfl, ?_⟩, trivial⟩ ⟨⟨rfl, LeQ.rfl⟩, ⟨rfl, LeQ.int (w64_of (by omega) (by omega))⟩, ⟨rfl, LeQ.int ?_⟩, trivial⟩
      · refine LeBx.row rfl fun i j hi hj => LeD.of_eq ?_
        obtain rfl : j = 0 := by omega
        have := revF_step (l := l) (k := k) (by omega) i hi
        rw [← this]
        show rowSet (rowSet (revF l k) ((k : Int)).toNat 0 [.d (revF l k ((l.length : Int) - 1 - k).toNat 0)]) ((l.length : Int) - 1 - k).toNat 0 [.d (revF l k ((k : Int)).toNat 0)] i 0 = _
        have e1 : ((l.length : Int) - 1 - k).toNat = l.length - 1 - k := by omega
        have e2 : revF l k (l.length - 1 - k) 0 = dI (l.getD (l.length - 1 - k) 0) := by unfold revF; rw [if_neg (by omega)]
        have e3 : revF l k k 0 = dI (l.getD k 0) := by unfold revF; rw [if_neg (by omega)]
        rw [e1, natOf, e2, e3]
      · exact (w64_of (by omega) (by omega)).trans (by omega)
    · have h : ¬ (k : Int) < (l.length : Int) - 1 - k := decF h
      obtain rfl : k = l.length / 2 := by omega
      exact ⟨rfl, trivial⟩
end Go.Ch

namespace Go.Ch
open Go Go.Ax Go.Sort Go.Proofs Go.Proofs.Tryz

theorem heap_sorted {w : World} {g n : Nat} {os : Array Obj} {cur : Array Value} {e : TypeId} {fr : Nat × Nat} (d : Array Int) (hb : w.heap[g]? = some (.cells cur e fr)) :
    (grow (putRow (Value.int .i64) (Sort.ahead w n) g 0 d) os).heap[g]? = some (.cells (putCells (Value.int .i64) 0 d cur) e fr) := by
  have hg : g < w.heap.size := (Array.getElem?_eq_some_iff.1 hb).1
  rw [heap_grow_old _ _ (by simpa using hg)]
  simp [putRow, mapBlock, Sort.ahead, Array.getElem?_modify, hb, onCells]
theorem heap_sorted_other {w : World} {g n k : Nat} {os : Array Obj} (d : Array Int) (hk : k < w.heap.size) (h : k ≠ g) :
    (grow (putRow (Value.int .i64) (Sort.ahead w n) g 0 d) os).heap[k]? = w.heap[k]? := by
  rw [heap_grow_old _ _ (by simpa using hk)]
  simp [putRow, mapBlock, Sort.ahead, Array.getElem?_modify, Ne.symm h]
theorem putCells_get {cur : Array Value} {m : List Int} {i : Nat} (hi : i < m.length) (hc : i < cur.size) : (putCells (Value.int .i64) 0 m.toArray cur)[i]? = some (.int .i64 (m.getD i 0)) := by
  unfold putCells
  rw [Array.getElem?_mapIdx]
  simp [hc, hi]
theorem SortR (l : List Int) (f0 : Nat → Nat → DV) (hf0 : ∀ i j, i < l.length → j < 1 → LeD (f0 i j) (intEl l i j)) (hl : l.length ≤ 1000000) :
    CallR Tryz.prog 100 [.s (.own 1001)] [(1001, .row 3 l.length 1 f0)] (.t []) [(1001, .row 3 l.length 1 (intEl (sortI l)))] := by
  refine ⟨Tryz.call100, fun M β w vs _ hr hM hbx hβ => ?_⟩
  obtain ⟨b, c, cur, hx, h1, h2, h3, h4, h5, h6⟩ := hbx.rep 1001 _ (List.mem_singleton.2 rfl)
  match vs, hr with
  | [v], ⟨hv, _⟩ =>
    obtain ⟨b', c', hx', hv', hc'⟩ := hv
    rw [hx] at hx'
    cases hx'
    subst hv'
    have hsz : cur.size = c.1 := by rw [h3, Nat.mul_one]
    have hcell : ∀ j, j < l.length → cur[j]? = some (.int .i64 (l.getD j 0)) := by
      intro j hj
      obtain ⟨u, e1, e2⟩ := h6 j 0 hj (by decide)
      rw [Nat.mul_one, Nat.add_zero] at e1
      have : u = .int .i64 (l.getD j 0) := hf0 j 0 hj (by decide) M u e2
      rw [e1, this]
    have hH : Holds (Value.int .i64) w b 0 l.toArray := by
      intro j hj
      have hj : j < l.length := by simpa using hj
      refine ⟨?_, by simp [World.frozen?, h1]⟩
      simp only [World.cell?, h1, Nat.zero_add, Option.isSome_none, Bool.false_eq_true, if_false]
      rw [hcell j hj]
      simp [hj]
    have hb : b < w.heap.size := (Array.getElem?_eq_some_iff.1 h1).1
    rw [h2]
    refine (Any.slices_Sort_int laysSort b 0 c.1 l w hH hb (by omega)).mono ?_
    rintro e w' ⟨he, n, os, hw⟩
    have hlen : (sortI l).length = l.length := sortI_len
    have hrow := heap_sorted (w := w) (n := n) (os := os) (sortI l).toArray h1
    have hoth : ∀ k, k < w.heap.size → k ≠ b → w'.heap[k]? = w.heap[k]? := fun k hk hne => by rw [hw]; exact heap_sorted_other _ hk hne
    rw [← hw] at hrow
    have hs : w.heap.size ≤ w'.heap.size := by rw [hw]; simp [putRow, mapBlock, Sort.ahead]
    have hin : ∀ x, x ∈ names [(1001, Box.row 3 l.length 1 (intEl (sortI l)))] → x = 1001 := fun x hx => List.mem_singleton.1 hx
    refine ⟨.tuple #[], M, β, he, Nm.le_refl β, ⟨[], rfl, trivial⟩, Grow.refl _ _, ?_, ⟨?_, ?_, ?_, ?_⟩, ?_, ?_, ?_, ?_, hs, ?_⟩
    · intro b2 o u hu
      have hne : b2 ≠ b := fun h => by
        subst h
        have := hbx.apart 1001 b2 c (List.mem_singleton.2 rfl) hx o
        rw [this] at hu; cases hu
      have hold := hM b2 o u hu
      have hb2 : b2 < w.heap.size := by
        cases h : w.heap[b2]? with
        | none => simp [World.cell?, h] at hold
        | some _ => exact (Array.getElem?_eq_some_iff.1 h).1
      simp only [World.cell?] at hold ⊢
      rw [hoth b2 hb2 hne]
      exact hold
    · intro x h
      rw [hin x h]; exact ⟨b, c, hx⟩
    · intro x bx h
      obtain ⟨rfl, rfl⟩ := Prod.mk.inj (List.mem_singleton.1 h)
      refine ⟨b, c, _, hx, hrow, h2, by simp [putCells, h3], h4, h5, fun i j hi hj => ?_⟩
      obtain rfl : j = 0 := by omega
      refine ⟨.int .i64 ((sortI l).getD i 0), ?_, rfl⟩
      rw [Nat.mul_one, Nat.add_zero]
      exact putCells_get (by omega) (by omega)
    · intro x y b1 c1 c2 hx1 hy1 _ _
      rw [hin x hx1, hin y hy1]
    · intro x b1 c1 h e o
      rw [hin x h] at e
      rw [hx] at e
      cases e
      exact hbx.apart 1001 b c (List.mem_singleton.2 rfl) hx o
    · intro x b1 c1 h e
      rw [hin x h] at e
      exact .inr ⟨1001, c1, e⟩
    · rw [hw]; rfl
    · rw [hw]; rfl
    · rw [hw]; rfl
    · intro k hk hne
      exact hoth k hk (fun h => hne 1001 c (by rw [h]; exact hx))
  | [], h => exact h.elim
  | _ :: _ :: _, h => exact h.2.elim
theorem SortNil : CallP Tryz.prog 100 [.s (.d (.val (.slice none 0 0)))] (.t []) := by
  refine ⟨Tryz.call100, fun M w vs _ hr hM => ?_⟩
  match vs, hr with
  | [v], ⟨hv, _⟩ =>
    have hv : v = .slice none 0 0 := hv
    subst hv
    refine (Any.slices_Sort_int_none laysSort none 0 w).mono ?_
    rintro e w' ⟨he, rfl⟩
    exact ⟨.tuple #[], M, he, ⟨[], rfl, trivial⟩, Grow.refl _ _, hM, ⟨rfl, rfl, rfl, Nat.le_refl _, fun _ _ => rfl⟩⟩
  | [], h => exact h.elim
  | _ :: _ :: _, h => exact h.2.elim
end Go.Ch

namespace Go.Ch
open Go Go.Ax Go.Proofs Go.Proofs.Tryz
set_option maxRecDepth 100000
set_option pp.maxSteps 400
set_option maxHeartbeats 1000000

theorem countP_notin {n i : Nat} {sn : List Nat} (hi : i < n) (h : i ∉ sn) : ((List.range n).countP fun k => !(i :: sn).contains k) + 1 ≤ (List.range n).countP fun k => !sn.contains k := by
  refine countP_drop (fun k _ hk => ?_) ⟨i, List.mem_range.2 hi, by simpa using h, by simp⟩
  simp at hk ⊢
  exact hk.2
theorem nodup_len {n : Nat} {sn : List Nat} (h : sn.Nodup) (hlt : ∀ i ∈ sn, i < n) : sn.length ≤ n := by
  have hp : sn.Perm ((List.range n).filter fun i => sn.contains i) := (List.perm_ext_iff_of_nodup h (List.Pairwise.filter _ List.nodup_range)).2 fun i => by
    simp only [List.mem_filter, List.mem_range, List.contains_iff_mem]
    exact ⟨fun hi => ⟨hlt i hi, hi⟩, fun hi => hi.2⟩
  have := hp.length_eq
  have h2 := List.length_filter_le (fun i => sn.contains i) (List.range n)
  rw [List.length_range] at h2
  omega
def outK (b : List (Int × Int)) (sn : List Nat) : List Int := sn.reverse.map (keyAt b)
theorem outK_cons {b : List (Int × Int)} {i : Nat} {sn : List Nat} : outK b (i :: sn) = outK b sn ++ [keyAt b i] := by simp [outK]
abbrev lvS1 (g : Grid) (i : Nat) : St := ⟨[(1, .s (.ptr 1 0)), (3, .s (.mp 8)), (10, vInts g.levels), (11, vI g.levels.length), (12, vI i)], [(1, some (gridB g)), (8, some (.map .bool (lvF g.levels i)))]⟩
abbrev lvS2 (b : List (Int × Int)) (sn : List Nat) : St := ⟨[(24, .s (.ptr 24 0)), (6, .s (.mo (outK b sn).isEmpty 100))], [(8, some (.map .bool b)), (24, some (.iter 8 b.length sn)), (100, some (.mrow 3 (outK b sn).length 1 (intEl (outK b sn))))]⟩
theorem levels (g : Grid) (hn : g.levels.length ≤ 1024) : CallP Tryz.prog 62 [grid g] (vInts (levelsL g.levels)) := by
  refine callP_of_aw Tryz.func62 rfl rfl Tryz.call62 tab_ok rfl rfl (fun cx href => ?_)
  refine AW.seq (ex.sound (rc := []) tab_ok mix href _ ?_)
  refine AW.seq (ex.sound (rc := []) tab_ok mix href _ ?_)
  refine AW.cut (σ' := lvS1 g g.levels.length) (ex.sound (rc := []) tab_ok mix href _ ?_) ?_
  · refine AW.loopI (lvS1 g) (fun i => i ≤ g.levels.length) (fun i => g.levels.length - i) 0 (Nat.zero_le _) ?_ ?_
    · exact SubI.of0 href [] rfl ⟨⟨rfl, LeBx.rfl⟩, ⟨rfl, LeBx.rfl⟩, trivial⟩ ⟨⟨rfl, LeQ.rfl⟩, ⟨rfl, LeQ.rfl⟩, ⟨rfl, LeQ.rfl⟩, ⟨rfl, LeQ.rfl⟩, ⟨rfl, LeQ.rfl⟩, trivial⟩
    · intro i hi
      refine ex.sound (rc := []) tab_ok mix href _ ?_
      refine And.intro (fun h => ?_) (fun h => ?_)
      · have h : (i : Int) < g.levels.length := decT h
        refine oi ⟨by omega, by omega⟩ ?_
        refine callN (bknown g i (by omega) (by omega)) ?_
        refine And.intro (fun h2 => ?_) (fun h2 => ?_)
        · have h2 : (g.levels.getD i 0 != 30000) = true := h2
          refine ⟨i + 1, by omega, by omega, ?_⟩
          refine SubI.of0 href [] rfl ⟨⟨rfl, LeBx.rfl⟩, ⟨rfl, LeBx.of_eq ?_⟩, trivial⟩ ⟨⟨rfl, LeQ.rfl⟩, ⟨rfl, LeQ.rfl⟩, ⟨rfl, LeQ.rfl⟩, ⟨rfl, LeQ.rfl⟩, ⟨rfl, LeQ.int (w64_of (by omega) (by omega))⟩, trivial⟩
          rw [lvF, lvS, h2]; rfl
        · have h2 : (g.levels.getD i 0 != 30000) = false := h2
          refine ⟨i + 1, by omega, by omega, ?_⟩
          refine SubI.of0 href [] rfl ⟨⟨rfl, LeBx.rfl⟩, ⟨rfl, LeBx.of_eq ?_⟩, trivial⟩ ⟨⟨rfl, LeQ.rfl⟩, ⟨rfl, LeQ.rfl⟩, ⟨rfl, LeQ.rfl⟩, ⟨rfl, LeQ.rfl⟩, ⟨rfl, LeQ.int (w64_of (by omega) (by omega))⟩, trivial⟩
          rw [lvF, lvS, h2]; rfl
      · have h : ¬ (i : Int) < g.levels.length := decF h
        obtain rfl : i = g.levels.length := by omega
        exact ⟨rfl, SubI.of0 href [] rfl ⟨⟨rfl, LeBx.rfl⟩, ⟨rfl, LeBx.rfl⟩, trivial⟩ ⟨⟨rfl, LeQ.rfl⟩, ⟨rfl, LeQ.rfl⟩, ⟨rfl, LeQ.rfl⟩, ⟨rfl, LeQ.rfl⟩, ⟨rfl, LeQ.rfl⟩, trivial⟩⟩
  have hbl := lvF_len g.levels g.levels.length
  unfold levelsL
  generalize hb : lvF g.levels g.levels.length = b at hbl
  refine AW.seq (ex.sound (rc := []) tab_ok mix href _ ?_)
  refine AW.cutE (lvS2 b) (fun sn => sortI (outK b sn) = sortI (b.map (·.1)) ∧ (outK b sn).length ≤ 1024) (ex.sound (rc := []) tab_ok mix href _ ?_) ?_
  · refine AW.loopI (lvS2 b) (fun sn => sn.Nodup ∧ ∀ i ∈ sn, i < b.length) (fun sn => (List.range b.length).countP fun k => !sn.contains k) [] ⟨List.nodup_nil, fun i h => by cases h⟩ ?_ ?_
    · exact SubI.of0 href [(100, 1000)] rfl ⟨⟨rfl, LeBx.of_eq (by rw [hb]; rfl)⟩, ⟨rfl, LeBx.of_eq (by rw [hb]; rfl)⟩, ⟨rfl, rfl⟩, trivial⟩ ⟨⟨rfl, LeQ.rfl⟩, ⟨rfl, LeQ.nil rfl⟩, trivial⟩
    · rintro sn ⟨hnd, hlt⟩
      refine ex.sound (rc := []) tab_ok mix href _ ?_
      have hlen : sn.length ≤ b.length := nodup_len hnd hlt
      have hol : (outK b sn).length ≤ 1024 := by unfold outK; rw [List.length_map, List.length_reverse]; omega
      refine ⟨rfl, fun hall => ?_, fun i hi hni => ?_⟩
      · refine ⟨rfl, sn, ⟨?_, hol⟩, ?_⟩
        · exact keys_sort hnd hlt hall
        · exact SubI.of0 href [] rfl ⟨⟨rfl, LeBx.rfl⟩, ⟨rfl, LeBx.rfl⟩, ⟨rfl, LeBx.rfl⟩, trivial⟩ ⟨⟨rfl, LeQ.rfl⟩, ⟨rfl, LeQ.rfl⟩, trivial⟩
      · refine ⟨rfl, hi, ?_⟩
        refine ob (by decide) ?_
        refine ob (by rw [bif_len]; show _ * 8 ≤ _; omega) ?_
        refine ob (fit1 (lt1 rfl)) ?_
        refine ⟨i :: sn, ⟨List.nodup_cons.2 ⟨hni, hnd⟩, fun k hk => ?_⟩, ?_, ?_⟩
        · rcases List.mem_cons.1 hk with rfl | hk
          · exact hi
          · exact hlt k hk
        · have := countP_notin hi hni
          omega
        · refine SubI.of0 href [(100, 32)] rfl ⟨⟨rfl, LeBx.rfl⟩, ⟨rfl, LeBx.rfl⟩, ⟨rfl, ?_⟩, trivial⟩ ⟨⟨rfl, LeQ.rfl⟩, ⟨rfl, LeQ.mo ?_⟩, trivial⟩
          · rw [outK_cons]; exact nearRow intRow rfl
          · rw [outK_cons]; exact isEmpty_snoc _ _
  · rintro sn ⟨hso, hsl⟩
    rw [← hso]
    generalize hl : outK b sn = l at hsl
    cases hz : l.isEmpty with
    | true =>
      obtain rfl : l = [] := List.isEmpty_iff.1 hz
      refine AW.subI (σ' := ⟨[(6, .s (.d (.val (.slice none 0 0))))], []⟩) (SubI.of0 href [] rfl trivial ⟨⟨rfl, LeQ.toNil (by rw [hl]; rfl)⟩, trivial⟩) ?_
      refine ex.sound (rc := []) tab_ok mix href _ ?_
      refine callN SortNil ?_
      have e : sortI [] = [] := List.eq_nil_of_length_eq_zero sortI_len
      rw [e]
      exact SubR.le LeD.nil
    | false =>
      refine AW.subI (SubI.own (e := 3) (n := l.length) (s := 1) (f := intEl l) (z := false) 6 100 ?_ rfl ?_) ?_
      · show AV.s (.mo (outK b sn).isEmpty 100) = _
        rw [hl, hz]
      · show some (some (Box.mrow 3 (outK b sn).length 1 (intEl (outK b sn)))) = _
        rw [hl]
      refine ex.sound (rc := [100]) tab_ok mix href _ ?_
      refine ⟨[(1001, 100)], _, _, _, _, SortR l (intEl l) (fun i j _ hj => ?_) (by omega), rfl, ?_, rfl, ?_⟩
      · obtain rfl : j = 0 := by omega
        exact LeD.refl _
      · exact ⟨rfl, trivial⟩
      · refine SubR.le (LeD.slc' sortI_len.symm fun i j _ hj => ?_)
        obtain rfl : j = 0 := by omega
        exact LeD.refl _
end Go.Ch

namespace Go.Ch
open Go Go.Ax Go.Proofs Go.Proofs.Tryz
set_option maxRecDepth 100000
set_option pp.maxSteps 400
set_option maxHeartbeats 1000000

abbrev intF (h : Nat → Int) : Nat → Nat → DV := fun i _ => dI (h i)
def snocF (h : Nat → Int) (n : Nat) (x : Int) : Nat → Int := fun i => if i < n then h i else x
theorem LeBx.snocI {n m : Nat} {h : Nat → Int} {g : Nat → Nat → DV} {x : Int} (hg : g 0 0 = dI x) (hm : n + 1 = m) : LeBx (.row 3 (n + 1) 1 (catF n (intF h) g)) (.row 3 m 1 (intF (snocF h n x))) := by
  refine LeBx.row hm fun i j hi hj => LeD.of_eq ?_
  obtain rfl : j = 0 := by omega
  unfold catF
  show _ = dI (if i < n then h i else x)
  by_cases e : i < n
  · rw [if_pos e, if_pos e]
  · rw [if_neg e, if_neg e, show i - n = 0 by omega]; exact hg
theorem and_right {a b : Bool} (h : gpol true (a && b) = true) : b = true := by
  have h : (a && b) = true := h
  simp only [Bool.and_eq_true] at h
  exact h.2
theorem or_right {a b : Bool} (h : gpol false (a || !b) = true) : b = true := by
  have h : (!(a || !b)) = true := h
  cases b with
  | true => rfl
  | false => simp at h
theorem wayL_eq {n : Nat} {ok : Int → Bool} {nr : Int → List Int} {fr to : List Int} {s : BS} (h : searchL ok nr to n (fr.foldl (seedS ok) ([], [])) = s) : wayL n ok nr fr to = match s.2 with | [] => [] | i :: _ => (backL s.1 s.1.length i [i]).reverse := by
  subst h; rfl
theorem searchL_nil {ok : Int → Bool} {nr : Int → List Int} {to : List Int} {b : List (Int × Int)} : ∀ {m : Nat}, searchL ok nr to m (b, []) = (b, [])
  | 0 => rfl
  | _ + 1 => rfl
theorem nearL_len {g : Grid} {i : Int} : (nearL g i).length ≤ 4 := by
  have l1 := len1 (b := decide (i ≥ g.cols)) (x := i - g.cols)
  have l2 := len1 (b := decide (i % g.cols > 0)) (x := i - 1)
  have l3 := len1 (b := decide (i % g.cols < g.cols - 1)) (x := i + 1)
  have l4 := len1 (b := decide (i + g.cols < g.levels.length)) (x := i + g.cols)
  unfold nearL
  simp only [List.length_append]
  omega
theorem intRow1 {l : List Int} : RowIs 1 l.length (intEl l) (fun x _ => dI x) l := ⟨rfl, fun _ _ _ _ => rfl⟩
def okMost (g : Grid) (most : Int) (i : Int) : Bool := knownG g i && decide (levelAt g i ≤ most)
theorem okMost_known {g : Grid} {most i : Int} (h : okMost g most i = true) : there g i = true := by
  unfold okMost knownG at h
  simp only [Bool.and_eq_true] at h
  exact h.1.1
theorem clear1 (g : Grid) (most i : Int) (hi : knownG g i = true) (f h : Nat → DV) (hf : f 5 = dInts g.levels) (hh : h 0 = dI most) : CallP Tryz.prog 64 [vI i, .s (.d (.rp 6 f)), .s (.d (.rp 1 h))] (vB (decide (levelAt g i ≤ most))) := by
  have ht : there g i = true := by
    unfold knownG at hi
    simp only [Bool.and_eq_true] at hi
    exact hi.1
  have ht := there_iff.1 ht
  have h1 : LeAs [vI i, .s (.d (.rp 6 f)), .s (.d (.rp 1 h))] [vI i, .s (.d (.rp 6 fun j => if j = 5 then dInts g.levels else .junk)), .s (.d (.rp 1 fun _ => dI most))] :=
    ⟨LeD.refl _, LeD.rp fun j hj => ?_, LeD.rp fun j hj => LeD.of_eq (by rw [show j = 0 by omega]; exact hh), trivial⟩
  · refine CallP.conv ?_ h1
    refine callP_of_ex (rc := []) (N := 12) Tryz.func64 rfl rfl Tryz.call64 tab_ok mix rfl rfl (fun cx _ => ?_)
    refine oi ⟨by omega, by omega⟩ ?_
    refine And.intro (by kernel_rfl) ?_
    exact SubR.refl _
  · by_cases e : j = 5
    · rw [if_pos e, e]; exact LeD.of_eq hf
    · rw [if_neg e]; exact fun _ _ _ => trivial
end Go.Ch

namespace Go.Ch
open Go Go.Ax Go.Proofs Go.Proofs.Tryz
set_option maxRecDepth 100000
set_option pp.maxSteps 400
set_option maxHeartbeats 1000000
set_option linter.unusedVariables false

abbrev wayClear1 (g : Grid) (most : Int) (fr to : List Int) (s : BS) (i : Nat) : St := ⟨[(4, .s (.ptr 4 0)), (2, vInts to), (3, .s (.clo 64 [.ptr 1001 0, .ptr 1002 0])), (9, .s (.mp 22)), (10, .s (.mo s.2.isEmpty 100)), (23, vInts fr), (24, vI fr.length), (25, vI i)], [(1001, some (gridB g)), (1002, some (.cells [.d (dI most)])), (4, some (gridB g)), (22, some (.map .int s.1)), (100, some (.mrow 3 s.2.length 1 (intEl s.2)))]⟩
abbrev wayClear0 (g : Grid) (most : Int) : St := ⟨[(10, .s (.d (.val (.slice none 0 0))))], [(1001, some (gridB g)), (1002, some (.cells [.d (dI most)]))]⟩
abbrev wayClear2 (g : Grid) (most : Int) (to : List Int) (lo : Nat) (h : Nat → Int) (s : BS) : St := ⟨[(4, .s (.ptr 4 0)), (2, vInts to), (3, .s (.clo 64 [.ptr 1001 0, .ptr 1002 0])), (9, .s (.mp 22)), (10, .s (.osl 100 1 lo s.2.length))], [(1001, some (gridB g)), (1002, some (.cells [.d (dI most)])), (4, some (gridB g)), (22, some (.map .int s.1)), (100, some (.row 3 (lo + s.2.length) 1 (intF h)))]⟩
abbrev wayClear4 (g : Grid) (most : Int) (to : List Int) (x : Int) (nr : List Int) (lo : Nat) (h : Nat → Int) (s : BS) (j : Nat) : St := ⟨[(4, .s (.ptr 4 0)), (2, vInts to), (3, .s (.clo 64 [.ptr 1001 0, .ptr 1002 0])), (9, .s (.mp 22)), (10, .s (.osl 100 1 lo s.2.length)), (15, vI x), (68, vInts nr), (69, vI nr.length), (70, vI j)], [(1001, some (gridB g)), (1002, some (.cells [.d (dI most)])), (4, some (gridB g)), (22, some (.map .int s.1)), (100, some (.row 3 (lo + s.2.length) 1 (intF h)))]⟩
abbrev wayClear5 (g : Grid) (most : Int) (b : List (Int × Int)) (i : Int) (out : List Int) : St := ⟨[(9, .s (.mp 22)), (20, .s (.own 200)), (21, vI i)], [(1001, some (gridB g)), (1002, some (.cells [.d (dI most)])), (22, some (.map .int b)), (200, some (.row 3 out.length 1 (intEl out)))]⟩
theorem wayClear (g : Grid) (most : Int) (fr to : List Int) (hg : GVal g) (hf : fr.length ≤ 1000) (ht : to.length ≤ 1000) :
    CallR Tryz.prog 63 [grid g, vInts fr, vInts to, .s (.clo 64 [.ptr 1001 0, .ptr 1002 0])] [(1001, gridB g), (1002, .cells [.d (dI most)])] (vInts (wayL g.levels.length (okMost g most) (nearL g) fr to)) [(1001, gridB g), (1002, .cells [.d (dI most)])] := by
  have hn := hg.n
  have hok : ∀ i, (okMost g most) i = true → 0 ≤ i ∧ i < g.levels.length := fun i h => there_iff.1 (okMost_known h)
  refine callR_of_aw Tryz.func63 rfl rfl Tryz.call63 tab_ok rfl rfl rfl rfl (fun cx href => ?_)
  refine AW.seq (ex.sound (rc := [102]) tab_ok mix href _ ?_)
  refine AW.scope ?_
  refine AW.seq (ex.sound (rc := [102]) tab_ok mix href _ ?_)
  refine AW.seq (ex.sound (rc := [102]) tab_ok mix href _ ?_)
  refine AW.cut (σ' := wayClear1 g most fr to ((fr.take fr.length).foldl (seedS (okMost g most)) ([], [])) fr.length) (ex.sound (rc := [102]) tab_ok mix href _ ?_) ?_
  · refine AW.loopI (fun i => wayClear1 g most fr to ((fr.take i).foldl (seedS (okMost g most)) ([], [])) i) (fun i => i ≤ fr.length) (fun i => fr.length - i) 0 (Nat.zero_le _) ?_ ?_
    · exact SubI.of [(100, 1000)] (by rw [href]; rfl) rfl ⟨⟨rfl, LeBx.rfl⟩, ⟨rfl, LeBx.rfl⟩, ⟨rfl, LeBx.rfl⟩, ⟨rfl, LeBx.rfl⟩, ⟨rfl, rfl⟩, trivial⟩ ⟨⟨rfl, LeQ.rfl⟩, ⟨rfl, LeQ.rfl⟩, ⟨rfl, LeQ.rfl⟩, ⟨rfl, LeQ.rfl⟩, ⟨rfl, LeQ.nil rfl⟩, ⟨rfl, LeQ.rfl⟩, ⟨rfl, LeQ.rfl⟩, ⟨rfl, LeQ.rfl⟩, trivial⟩
    · intro i hi
      have hw := Bw.seeds hok (l := fr) i hi
      refine ex.sound (rc := [102]) tab_ok mix href _ ?_
      refine And.intro (fun h => ?_) (fun h => ?_)
      · have h : (i : Int) < fr.length := decT h
        have hi' : i < fr.length := by omega
        have hs := foldl_take (f := seedS (okMost g most)) (b := ([], [])) hi'
        have hx : fr[i] = fr.getD i 0 := by simp [hi']
        rw [hx] at hs
        generalize (fr.take i).foldl (seedS (okMost g most)) ([], []) = s at hw hs
        have hl : s.2.length ≤ 1024 := by have := hw.2; unfold muS at this; omega
        refine oi ⟨by omega, by omega⟩ ?_
        repeat first | refine sk ?_ | refine st ?_ | refine sg ?_ | refine sh ?_ | refine su ?_ | refine sn1 ?_ | refine sn0 ?_
        refine callG (knownI g (fr.getD i 0) (by omega)) ?_
        repeat first | refine sk ?_ | refine st ?_ | refine sg ?_ | refine sh ?_ | refine su ?_ | refine sn1 ?_ | refine sn0 ?_
        refine callGo (fun hk => clear1 g most _ (and_right hk) _ _ rfl rfl) ?_
        repeat first | refine sk ?_ | refine st ?_ | refine sg ?_ | refine sh ?_ | refine su ?_ | refine sn1 ?_ | refine sn0 ?_
        refine And.intro (fun h2 => ?_) (fun h2 => ?_)
        · have h2 : ((!hasM s.1 (fr.getD i 0) && knownG g (fr.getD i 0)) && decide (levelAt g (fr.getD i 0) ≤ most)) = true := h2
          rw [Bool.and_assoc] at h2
          have hs : (fr.take (i + 1)).foldl (seedS (okMost g most)) ([], []) = (setM s.1 (fr.getD i 0) (fr.getD i 0), s.2 ++ [fr.getD i 0]) := by
            rw [hs]
            show (bif !hasM s.1 (fr.getD i 0) && (knownG g (fr.getD i 0) && decide (levelAt g (fr.getD i 0) ≤ most)) then _ else _) = _
            rw [h2]; rfl
          refine ob (by decide) ?_
          refine ob (by rw [bif_len]; show _ * 8 ≤ _; omega) ?_
          refine ob (fit1 (lt1 rfl)) ?_
          refine ⟨i + 1, by omega, by omega, ?_⟩
          show SubI cx _ _ (wayClear1 g most fr to ((fr.take (i + 1)).foldl (seedS (okMost g most)) ([], [])) (i + 1))
          rw [hs]
          exact SubI.of [(100, 53)] (by rw [href]; rfl) rfl ⟨⟨rfl, LeBx.rfl⟩, ⟨rfl, LeBx.rfl⟩, ⟨rfl, LeBx.rfl⟩, ⟨rfl, LeBx.rfl⟩, ⟨rfl, nearRow intRow rfl⟩, trivial⟩ ⟨⟨rfl, LeQ.rfl⟩, ⟨rfl, LeQ.rfl⟩, ⟨rfl, LeQ.rfl⟩, ⟨rfl, LeQ.rfl⟩, ⟨rfl, LeQ.mo (isEmpty_snoc _ _)⟩, ⟨rfl, LeQ.rfl⟩, ⟨rfl, LeQ.rfl⟩, ⟨rfl, LeQ.int (w64_of (by omega) (by omega))⟩, trivial⟩
        · have h2 : ((!hasM s.1 (fr.getD i 0) && knownG g (fr.getD i 0)) && decide (levelAt g (fr.getD i 0) ≤ most)) = false := h2
          rw [Bool.and_assoc] at h2
          have hs : (fr.take (i + 1)).foldl (seedS (okMost g most)) ([], []) = s := by
            rw [hs]
            show (bif !hasM s.1 (fr.getD i 0) && (knownG g (fr.getD i 0) && decide (levelAt g (fr.getD i 0) ≤ most)) then _ else _) = _
            rw [h2]; rfl
          refine ⟨i + 1, by omega, by omega, ?_⟩
          show SubI cx _ _ (wayClear1 g most fr to ((fr.take (i + 1)).foldl (seedS (okMost g most)) ([], [])) (i + 1))
          rw [hs]
          exact SubI.of [] (by rw [href]; rfl) rfl ⟨⟨rfl, LeBx.rfl⟩, ⟨rfl, LeBx.rfl⟩, ⟨rfl, LeBx.rfl⟩, ⟨rfl, LeBx.rfl⟩, ⟨rfl, LeBx.rfl⟩, trivial⟩ ⟨⟨rfl, LeQ.rfl⟩, ⟨rfl, LeQ.rfl⟩, ⟨rfl, LeQ.rfl⟩, ⟨rfl, LeQ.rfl⟩, ⟨rfl, LeQ.rfl⟩, ⟨rfl, LeQ.rfl⟩, ⟨rfl, LeQ.rfl⟩, ⟨rfl, LeQ.int (w64_of (by omega) (by omega))⟩, trivial⟩
      · have h : ¬ (i : Int) < fr.length := decF h
        obtain rfl : i = fr.length := by omega
        exact ⟨rfl, SubI.of [] (by rw [href]; rfl) rfl ⟨⟨rfl, LeBx.rfl⟩, ⟨rfl, LeBx.rfl⟩, ⟨rfl, LeBx.rfl⟩, ⟨rfl, LeBx.rfl⟩, ⟨rfl, LeBx.rfl⟩, trivial⟩ ⟨⟨rfl, LeQ.rfl⟩, ⟨rfl, LeQ.rfl⟩, ⟨rfl, LeQ.rfl⟩, ⟨rfl, LeQ.rfl⟩, ⟨rfl, LeQ.rfl⟩, ⟨rfl, LeQ.rfl⟩, ⟨rfl, LeQ.rfl⟩, ⟨rfl, LeQ.rfl⟩, trivial⟩⟩
  rw [List.take_length]
  have h0 := Bw.seeds hok (l := fr) fr.length (Nat.le_refl _)
  rw [List.take_length] at h0
  have hwl := wayL_eq (n := g.levels.length) (ok := (okMost g most)) (nr := nearL g) (fr := fr) (to := to) (s := searchL (okMost g most) (nearL g) to g.levels.length (fr.foldl (seedS (okMost g most)) ([], []))) rfl
  rw [hwl]
  clear hwl
  generalize fr.foldl (seedS (okMost g most)) ([], []) = s0 at h0 ⊢
  refine AW.seq (AW.label ?_)
  cases hz : s0.2.isEmpty with
  | true =>
    have hs0 : s0 = (s0.1, []) := Prod.ext rfl (List.isEmpty_iff.1 hz)
    rw [hs0, searchL_nil]
    refine AW.subI (σ' := wayClear0 g most) (SubI.of [] (by rw [href]; rfl) rfl ⟨⟨rfl, LeBx.rfl⟩, ⟨rfl, LeBx.rfl⟩, trivial⟩ ⟨⟨rfl, LeQ.toNil rfl⟩, trivial⟩) ?_
    refine AW.cut (σ' := wayClear0 g most) (ex.sound (rc := [102]) tab_ok mix href _ ?_) ?_
    · refine AW.loopI (fun _ : Unit => wayClear0 g most) (fun _ => True) (fun _ => 0) () trivial ?_ ?_
      · exact SubI.of [] (by rw [href]; rfl) rfl ⟨⟨rfl, LeBx.rfl⟩, ⟨rfl, LeBx.rfl⟩, trivial⟩ ⟨⟨rfl, LeQ.rfl⟩, trivial⟩
      · intro _ _
        refine ex.sound (rc := [102]) tab_ok mix href _ ?_
        refine And.intro (fun h => by cases h) (fun _ => ?_)
        exact ⟨rfl, SubI.of [] (by rw [href]; rfl) rfl ⟨⟨rfl, LeBx.rfl⟩, ⟨rfl, LeBx.rfl⟩, trivial⟩ ⟨⟨rfl, LeQ.rfl⟩, trivial⟩⟩
    · refine ex.sound (rc := [102]) tab_ok mix href _ ?_
      refine And.intro (fun _ => ?_) (fun h => by cases h)
      exact ⟨SubR.le LeD.nil, ⟨rfl, rfl, trivial⟩⟩
  | false =>
    have hrow : SubI cx Tryz.f63.ntmps (wayClear1 g most fr to s0 fr.length) (wayClear2 g most to 0 (fun j => s0.2.getD j 0) s0) := by
      refine SubI.trans (SubI.osl (e := 3) (n := s0.2.length) (s := 1) (f := intEl s0.2) (z := s0.2.isEmpty) 10 100 rfl hz rfl) ?_
      exact SubI.of [] (by rw [href]; rfl) rfl ⟨⟨rfl, LeBx.rfl⟩, ⟨rfl, LeBx.rfl⟩, ⟨rfl, LeBx.rfl⟩, ⟨rfl, LeBx.rfl⟩, ⟨rfl, LeBx.row (Nat.zero_add _).symm fun i j _ _ => LeD.refl _⟩, trivial⟩ ⟨⟨rfl, LeQ.rfl⟩, ⟨rfl, LeQ.rfl⟩, ⟨rfl, LeQ.rfl⟩, ⟨rfl, LeQ.rfl⟩, ⟨rfl, LeQ.rfl⟩, trivial⟩
    refine AW.subI hrow ?_
    clear hrow hz
    refine AW.cutE (fun q : Nat × (Nat → Int) => wayClear2 g most to q.1 q.2 (searchL (okMost g most) (nearL g) to g.levels.length s0)) (fun q => Bw g.levels.length (okMost g most) (searchL (okMost g most) (nearL g) to g.levels.length s0) ∧ ∀ j, j < (searchL (okMost g most) (nearL g) to g.levels.length s0).2.length → q.2 (q.1 + j) = (searchL (okMost g most) (nearL g) to g.levels.length s0).2.getD j 0) (ex.sound (rc := [102]) tab_ok mix href _ ?_) ?_
    · refine AW.loopI (fun q : Nat × (Nat → Int) × BS × Nat => wayClear2 g most to q.1 q.2.1 q.2.2.1)
        (fun q => searchL (okMost g most) (nearL g) to g.levels.length s0 = searchL (okMost g most) (nearL g) to q.2.2.2 q.2.2.1 ∧ muS g.levels.length q.2.2.1 ≤ q.2.2.2 ∧ Bw g.levels.length (okMost g most) q.2.2.1 ∧ q.1 + muS g.levels.length q.2.2.1 ≤ g.levels.length ∧ ∀ j, j < q.2.2.1.2.length → q.2.1 (q.1 + j) = q.2.2.1.2.getD j 0)
        (fun q => q.2.2.2) (0, (fun j => s0.2.getD j 0), s0, g.levels.length) ⟨rfl, h0.2, h0.1, by simp only; have := h0.2; omega, fun j _ => by simp only [Nat.zero_add]⟩ ?_ ?_
      · exact SubI.of [] (by rw [href]; rfl) rfl ⟨⟨rfl, LeBx.rfl⟩, ⟨rfl, LeBx.rfl⟩, ⟨rfl, LeBx.rfl⟩, ⟨rfl, LeBx.rfl⟩, ⟨rfl, LeBx.rfl⟩, trivial⟩ ⟨⟨rfl, LeQ.rfl⟩, ⟨rfl, LeQ.rfl⟩, ⟨rfl, LeQ.rfl⟩, ⟨rfl, LeQ.rfl⟩, ⟨rfl, LeQ.rfl⟩, trivial⟩
      · rintro ⟨lo, h, ⟨b, t⟩, m⟩ ⟨he, hm, hw, hlo, hh⟩
        simp only at he hm hw hlo hh ⊢
        refine ex.sound (rc := [102]) tab_ok mix href _ ?_
        refine And.intro (fun h1 => ?_) (fun h1 => ?_)
        · have h1 : (t.length : Int) > 0 := decT h1
          match t, m with
          | [], _ => simp at h1
          | i :: r, 0 => exfalso; unfold muS at hm; simp at hm
          | i :: r, m + 1 =>
            have hi0 : h (lo + 0) = i := hh 0 (by simp)
            subst hi0
            have hlen : (h (lo + 0) :: r).length ≤ 1024 := by unfold muS at hlo; simp only at hlo; omega
            have hix := hw.mem (h (lo + 0)) (List.mem_cons_self ..)
            have hxr := hok _ (hw.key _ hix)
            refine oi ⟨by omega, by omega⟩ ?_
            refine oi (show lo + 0 < lo + (h (lo + 0) :: r).length by simp) ?_
            refine callN (ContainsI to (h (lo + 0)) (by omega)) ?_
            refine And.intro (fun h2 => ?_) (fun h2 => ?_)
            · have h2 : to.contains (h (lo + 0)) = true := h2
              rw [searchL, h2, cond_true] at he
              rw [he]
              refine ⟨rfl, (lo, h), ⟨hw, hh⟩, ?_⟩
              exact SubI.of [] (by rw [href]; rfl) rfl ⟨⟨rfl, LeBx.rfl⟩, ⟨rfl, LeBx.rfl⟩, ⟨rfl, LeBx.rfl⟩, ⟨rfl, LeBx.rfl⟩, ⟨rfl, LeBx.rfl⟩, trivial⟩ ⟨⟨rfl, LeQ.rfl⟩, ⟨rfl, LeQ.rfl⟩, ⟨rfl, LeQ.rfl⟩, ⟨rfl, LeQ.rfl⟩, ⟨rfl, LeQ.rfl⟩, trivial⟩
            · have h2 : to.contains (h (lo + 0)) = false := h2
              rw [searchL, h2, cond_false] at he
              refine callN (near g (h (lo + 0)) hg hxr.1 hxr.2) ?_
              have hnl : (nearL g (h (lo + 0))).length ≤ 1000000 := Nat.le_trans nearL_len (by decide)
              have hpw : ∀ j, j ≤ (nearL g (h (lo + 0))).length → _ := fun j hj => hw.pushes hok hix (l := nearL g (h (lo + 0))) j hj
              have hph : ∀ j, _ := fun j => pushes_head (ok := (okMost g most)) (c := h (lo + 0)) (s := (b, h (lo + 0) :: r)) rfl ((nearL g (h (lo + 0))).take j)
              have hpl : pushL (okMost g most) (h (lo + 0)) (nearL g (h (lo + 0))) (b, h (lo + 0) :: r) = ((nearL g (h (lo + 0))).take (nearL g (h (lo + 0))).length).foldl (pushS (okMost g most) (h (lo + 0))) (b, h (lo + 0) :: r) := by rw [List.take_length]; rfl
              rw [hpl] at he
              generalize hx : h (lo + 0) = x at *
              generalize nearL g x = nr at *
              refine AW.loopI (fun q : Nat × (Nat → Int) × Nat => wayClear4 g most to x nr q.1 q.2.1 ((nr.take q.2.2).foldl (pushS (okMost g most) x) (b, x :: r)) q.2.2)
                (fun q => q.2.2 ≤ nr.length ∧ q.1 + muS g.levels.length ((nr.take q.2.2).foldl (pushS (okMost g most) x) (b, x :: r)) ≤ g.levels.length ∧ ∀ j, j < ((nr.take q.2.2).foldl (pushS (okMost g most) x) (b, x :: r)).2.length → q.2.1 (q.1 + j) = ((nr.take q.2.2).foldl (pushS (okMost g most) x) (b, x :: r)).2.getD j 0)
                (fun q => nr.length - q.2.2) (lo, h, 0) ⟨Nat.zero_le _, hlo, hh⟩ ?_ ?_
              · exact SubI.of [] (by rw [href]; rfl) rfl ⟨⟨rfl, LeBx.rfl⟩, ⟨rfl, LeBx.rfl⟩, ⟨rfl, LeBx.rfl⟩, ⟨rfl, LeBx.rfl⟩, ⟨rfl, LeBx.rfl⟩, trivial⟩ ⟨⟨rfl, LeQ.rfl⟩, ⟨rfl, LeQ.rfl⟩, ⟨rfl, LeQ.rfl⟩, ⟨rfl, LeQ.rfl⟩, ⟨rfl, LeQ.rfl⟩, ⟨rfl, LeQ.int hx⟩, ⟨rfl, LeQ.rfl⟩, ⟨rfl, LeQ.rfl⟩, ⟨rfl, LeQ.rfl⟩, trivial⟩
              · rintro ⟨lo, h, j⟩ ⟨hj, hlo, hh⟩
                simp only at hj hlo hh ⊢
                have hpj := hpw j hj
                obtain ⟨r', hr'⟩ := hph j
                refine ex.sound (rc := [102]) tab_ok mix href _ ?_
                refine And.intro (fun h3 => ?_) (fun h3 => ?_)
                · have h3 : (j : Int) < nr.length := decT h3
                  have hj' : j < nr.length := by omega
                  have hs := foldl_take (f := pushS (okMost g most) x) (b := (b, x :: r)) hj'
                  have hk : nr[j] = nr.getD j 0 := by simp [hj']
                  rw [hk] at hs
                  generalize (nr.take j).foldl (pushS (okMost g most) x) (b, x :: r) = s at hlo hh hpj hr' hs
                  have hsl : s.2.length ≤ g.levels.length - lo := by unfold muS at hlo; omega
                  refine oi ⟨by omega, by omega⟩ ?_
                  repeat first | refine sk ?_ | refine st ?_ | refine sg ?_ | refine sh ?_ | refine su ?_ | refine sn1 ?_ | refine sn0 ?_
                  refine callG (knownI g (nr.getD j 0) (by omega)) ?_
                  repeat first | refine sk ?_ | refine st ?_ | refine sg ?_ | refine sh ?_ | refine su ?_ | refine sn1 ?_ | refine sn0 ?_
                  refine callGo (fun hk => clear1 g most _ (or_right hk) _ _ rfl rfl) ?_
                  repeat first | refine sk ?_ | refine st ?_ | refine sg ?_ | refine sh ?_ | refine su ?_ | refine sn1 ?_ | refine sn0 ?_
                  refine And.intro (fun h4 => ?_) (fun h4 => ?_)
                  · have h4 : ((hasM s.1 (nr.getD j 0) || !knownG g (nr.getD j 0)) || !decide (levelAt g (nr.getD j 0) ≤ most)) = true := h4
                    rw [Bool.or_assoc, ← Bool.not_and] at h4
                    have hs : (nr.take (j + 1)).foldl (pushS (okMost g most) x) (b, x :: r) = s := by
                      rw [hs]
                      show (bif hasM s.1 (nr.getD j 0) || !(knownG g (nr.getD j 0) && decide (levelAt g (nr.getD j 0) ≤ most)) then _ else _) = _
                      rw [h4]; rfl
                    refine ⟨(lo, h, j + 1), ⟨by simp only; omega, by simp only; rw [hs]; exact hlo, by simp only; rw [hs]; exact hh⟩, by simp only; omega, ?_⟩
                    show SubI cx _ _ (wayClear4 g most to x nr lo h ((nr.take (j + 1)).foldl (pushS (okMost g most) x) (b, x :: r)) (j + 1))
                    rw [hs]
                    exact SubI.of [] (by rw [href]; rfl) rfl ⟨⟨rfl, LeBx.rfl⟩, ⟨rfl, LeBx.rfl⟩, ⟨rfl, LeBx.rfl⟩, ⟨rfl, LeBx.rfl⟩, ⟨rfl, LeBx.rfl⟩, trivial⟩ ⟨⟨rfl, LeQ.rfl⟩, ⟨rfl, LeQ.rfl⟩, ⟨rfl, LeQ.rfl⟩, ⟨rfl, LeQ.rfl⟩, ⟨rfl, LeQ.rfl⟩, ⟨rfl, LeQ.rfl⟩, ⟨rfl, LeQ.rfl⟩, ⟨rfl, LeQ.rfl⟩, ⟨rfl, LeQ.int (w64_of (by omega) (by omega))⟩, trivial⟩
                  · have h4 : ((hasM s.1 (nr.getD j 0) || !knownG g (nr.getD j 0)) || !decide (levelAt g (nr.getD j 0) ≤ most)) = false := h4
                    rw [Bool.or_assoc, ← Bool.not_and] at h4
                    have hs : (nr.take (j + 1)).foldl (pushS (okMost g most) x) (b, x :: r) = (setM s.1 (nr.getD j 0) x, s.2 ++ [nr.getD j 0]) := by
                      rw [hs]
                      show (bif hasM s.1 (nr.getD j 0) || !(knownG g (nr.getD j 0) && decide (levelAt g (nr.getD j 0) ≤ most)) then _ else _) = _
                      rw [h4]; rfl
                    have hmu : muS g.levels.length ((nr.take (j + 1)).foldl (pushS (okMost g most) x) (b, x :: r)) ≤ muS g.levels.length s := by
                      have hh1 : ((hasM s.1 (nr.getD j 0)) || !((okMost g most) (nr.getD j 0))) = false := h4
                      rw [Bool.or_eq_false_iff] at hh1
                      rw [hs]
                      exact (hpj.1.put hok (by simpa using hh1.2) hh1.1 (.inr hpj.2.2)).2
                    rw [hs] at hmu
                    refine ob (by decide) ?_
                    refine ob (show (lo + s.2.length + 1) * 8 ≤ _ by omega) ?_
                    refine ob (fit1 (lt1 rfl)) ?_
                    refine And.intro ?_ ?_
                    · refine ⟨(lo, snocF h (lo + s.2.length) (nr.getD j 0), j + 1), ⟨by simp only; omega, by simp only; rw [hs]; omega, ?_⟩, by simp only; omega, ?_⟩
                      · simp only
                        rw [hs]
                        intro k hk
                        rw [List.length_append, List.length_singleton] at hk
                        show (if lo + k < lo + s.2.length then h (lo + k) else nr.getD j 0) = (s.2 ++ [nr.getD j 0]).getD k 0
                        rw [getD_app]
                        by_cases e : k < s.2.length
                        · rw [if_pos (by omega), if_pos e]; exact hh k e
                        · rw [if_neg (by omega), if_neg e, if_pos (by omega)]
                      · show SubI cx _ _ (wayClear4 g most to x nr lo (snocF h (lo + s.2.length) (nr.getD j 0)) ((nr.take (j + 1)).foldl (pushS (okMost g most) x) (b, x :: r)) (j + 1))
                        rw [hs]
                        exact SubI.of [(100, 99)] (by rw [href]; rfl) rfl ⟨⟨rfl, LeBx.rfl⟩, ⟨rfl, LeBx.rfl⟩, ⟨rfl, LeBx.rfl⟩, ⟨rfl, LeBx.rfl⟩, ⟨rfl, LeBx.snocI rfl (by rw [List.length_append, List.length_singleton]; omega)⟩, trivial⟩ ⟨⟨rfl, LeQ.rfl⟩, ⟨rfl, LeQ.rfl⟩, ⟨rfl, LeQ.rfl⟩, ⟨rfl, LeQ.rfl⟩, ⟨rfl, LeQ.of_eq (by rw [List.length_append, List.length_singleton]; rfl)⟩, ⟨rfl, LeQ.rfl⟩, ⟨rfl, LeQ.rfl⟩, ⟨rfl, LeQ.rfl⟩, ⟨rfl, LeQ.int (w64_of (by omega) (by omega))⟩, trivial⟩
                    · refine ⟨(0, snocF (fun i => h (lo + i)) s.2.length (nr.getD j 0), j + 1), ⟨by simp only; omega, by simp only; rw [hs]; omega, ?_⟩, by simp only; omega, ?_⟩
                      · simp only
                        rw [hs]
                        intro k hk
                        rw [List.length_append, List.length_singleton] at hk
                        show (if 0 + k < s.2.length then h (lo + (0 + k)) else nr.getD j 0) = (s.2 ++ [nr.getD j 0]).getD k 0
                        rw [getD_app, Nat.zero_add]
                        by_cases e : k < s.2.length
                        · rw [if_pos e, if_pos e]; exact hh k e
                        · rw [if_neg e, if_neg e, if_pos (by omega)]
                      · show SubI cx _ _ (wayClear4 g most to x nr 0 (snocF (fun i => h (lo + i)) s.2.length (nr.getD j 0)) ((nr.take (j + 1)).foldl (pushS (okMost g most) x) (b, x :: r)) (j + 1))
                        rw [hs]
                        exact SubI.of [(100, 99)] (by rw [href]; rfl) rfl ⟨⟨rfl, LeBx.rfl⟩, ⟨rfl, LeBx.rfl⟩, ⟨rfl, LeBx.rfl⟩, ⟨rfl, LeBx.rfl⟩, ⟨rfl, LeBx.snocI rfl (by rw [List.length_append, List.length_singleton]; omega)⟩, trivial⟩ ⟨⟨rfl, LeQ.rfl⟩, ⟨rfl, LeQ.rfl⟩, ⟨rfl, LeQ.rfl⟩, ⟨rfl, LeQ.rfl⟩, ⟨rfl, LeQ.of_eq (by rw [List.length_append, List.length_singleton]; rfl)⟩, ⟨rfl, LeQ.rfl⟩, ⟨rfl, LeQ.rfl⟩, ⟨rfl, LeQ.rfl⟩, ⟨rfl, LeQ.int (w64_of (by omega) (by omega))⟩, trivial⟩
                · have h3 : ¬ (j : Int) < nr.length := decF h3
                  obtain rfl : j = nr.length := by omega
                  generalize (nr.take nr.length).foldl (pushS (okMost g most) x) (b, x :: r) = s at hlo hh hpj hr' he
                  obtain ⟨b', t'⟩ := s
                  simp only at hr'
                  subst hr'
                  have hmt : muS g.levels.length (b', x :: r') = muS g.levels.length (b', r') + 1 := by unfold muS; simp only [List.length_cons]; omega
                  have hmp := hpj.2.1
                  refine oi ⟨by decide, by show (1 : Int) ≤ ((x :: r').length : Int); simp only [List.length_cons]; omega, Int.le_refl _⟩ ?_
                  refine ⟨(lo + 1, h, (b', r'), m), ⟨he, by simp only; omega, hpj.1.tail, by simp only; omega, fun k hk => ?_⟩, by simp only; omega, ?_⟩
                  · have := hh (k + 1) (by simp only [List.length_cons]; simp only at hk; omega)
                    show h (lo + 1 + k) = r'.getD k 0
                    rw [show lo + 1 + k = lo + (k + 1) by omega, this]; rfl
                  · exact SubI.of [] (by rw [href]; rfl) rfl ⟨⟨rfl, LeBx.rfl⟩, ⟨rfl, LeBx.rfl⟩, ⟨rfl, LeBx.rfl⟩, ⟨rfl, LeBx.rfl⟩, ⟨rfl, LeBx.row (by simp only [List.length_cons]; omega) fun _ _ _ _ => LeD.refl _⟩, trivial⟩ ⟨⟨rfl, LeQ.rfl⟩, ⟨rfl, LeQ.rfl⟩, ⟨rfl, LeQ.rfl⟩, ⟨rfl, LeQ.rfl⟩, ⟨rfl, LeQ.rfl⟩, trivial⟩
        · have h1 : ¬ (t.length : Int) > 0 := decF h1
          obtain rfl : t = [] := List.eq_nil_of_length_eq_zero (by omega)
          rw [searchL_nil] at he
          rw [he]
          refine ⟨rfl, (lo, h), ⟨hw, hh⟩, ?_⟩
          exact SubI.of [] (by rw [href]; rfl) rfl ⟨⟨rfl, LeBx.rfl⟩, ⟨rfl, LeBx.rfl⟩, ⟨rfl, LeBx.rfl⟩, ⟨rfl, LeBx.rfl⟩, ⟨rfl, LeBx.rfl⟩, trivial⟩ ⟨⟨rfl, LeQ.rfl⟩, ⟨rfl, LeQ.rfl⟩, ⟨rfl, LeQ.rfl⟩, ⟨rfl, LeQ.rfl⟩, ⟨rfl, LeQ.rfl⟩, trivial⟩
    · generalize searchL (okMost g most) (nearL g) to g.levels.length s0 = s
      rintro ⟨lo, h⟩ ⟨hw, hh⟩
      simp only at hw hh ⊢
      refine ex.sound (rc := [102]) tab_ok mix href _ ?_
      obtain ⟨b, t⟩ := s
      match t with
      | [] =>
        refine And.intro (fun _ => ?_) (fun h => by cases h)
        exact ⟨SubR.le LeD.nil, ⟨rfl, rfl, trivial⟩⟩
      | i :: r =>
        have hi0 : h (lo + 0) = i := hh 0 (by simp)
        refine And.intro (fun h => ?_) (fun _ => ?_)
        · exfalso
          have h : (((i :: r).length : Int) == 0) = true := h
          rw [len0] at h; cases h
        have hm := hw.mem i (List.mem_cons_self ..)
        have hpl := posM_lt hm
        have hcn := hw.cnt
        simp only at hm hpl hcn
        refine oi ⟨Int.le_refl _, by show (0 : Int) < ((i :: r).length : Int); simp only [List.length_cons]; omega⟩ ?_
        refine oi (show lo + 0 < lo + (i :: r).length by simp) ?_
        refine oi ⟨Int.le_refl _, by show (0 : Int) < ((i :: r).length : Int); simp only [List.length_cons]; omega⟩ ?_
        refine oi (show lo + 0 < lo + (i :: r).length by simp) ?_
        refine AW.loopI (fun q : Int × List Int × Nat => wayClear5 g most b q.1 q.2.1)
          (fun q => backL b b.length i [i] = backL b q.2.2 q.1 q.2.1 ∧ hasM b q.1 = true ∧ posM b q.1 ≤ q.2.2 ∧ 0 < q.2.1.length ∧ q.2.1.length + posM b q.1 ≤ 1025)
          (fun q => posM b q.1) (i, [i], b.length) ⟨rfl, hm, Nat.le_of_lt hpl, by simp, by simp only [List.length_singleton]; omega⟩ ?_ ?_
        · refine SubI.of [(200, 107)] (by rw [href]; rfl) rfl ⟨⟨rfl, LeBx.rfl⟩, ⟨rfl, LeBx.rfl⟩, ⟨rfl, LeBx.rfl⟩, ⟨rfl, LeBx.row rfl fun k j hk hj => LeD.of_eq ?_⟩, trivial⟩ ⟨⟨rfl, LeQ.rfl⟩, ⟨rfl, LeQ.rfl⟩, ⟨rfl, LeQ.int hi0⟩, trivial⟩
          have hk : k < 1 := hk
          obtain rfl : k = 0 := by omega
          have hj : j < 1 := hj
          obtain rfl : j = 0 := by omega
          exact congrArg dI hi0
        · generalize hi00 : i = i0
          rintro ⟨i, out, m⟩ ⟨he, hm, hpos, ho0, hol⟩
          simp only at he hm hpos ho0 hol ⊢
          refine ex.sound (rc := [102]) tab_ok mix href _ ?_
          refine oi hm ?_
          refine And.intro (fun h => ?_) (fun h => ?_)
          · have h : (getM b i != i) = true := h
            have hne : getM b i ≠ i := by simpa using h
            have hp := (hw.par i hm).resolve_left hne
            simp only at hp
            match m with
            | 0 => omega
            | m + 1 =>
              rw [backL, beq_eq_false_iff_ne.2 hne, cond_false] at he
              refine oi hm ?_
              refine ob (show (out.length + 1) * 8 ≤ _ by omega) ?_
              refine ob (fit1 (lt1 rfl)) ?_
              refine oi hm ?_
              refine ⟨(getM b i, out ++ [getM b i], m), ⟨he, hp.1, by simp only; omega, by simp, by simp only [List.length_append, List.length_singleton]; omega⟩, hp.2, ?_⟩
              exact SubI.of [(200, 124)] (by rw [href]; rfl) rfl ⟨⟨rfl, LeBx.rfl⟩, ⟨rfl, LeBx.rfl⟩, ⟨rfl, LeBx.rfl⟩, ⟨rfl, RowIs.row (el := fun x _ => dI x) (RowIs.snoc intRow1 (lt1 rfl))⟩, trivial⟩ ⟨⟨rfl, LeQ.rfl⟩, ⟨rfl, LeQ.rfl⟩, ⟨rfl, LeQ.rfl⟩, trivial⟩
          · have h : (getM b i != i) = false := h
            have heq : (getM b i == i) = true := by simpa using h
            have hres : backL b b.length i0 [i0] = out := by
              rw [he]
              cases m with
              | zero => rfl
              | succ m => rw [backL, heq, cond_true]
            simp only
            rw [hres]
            refine ⟨[(1001, 200)], _, _, _, _, ReverseR out (intEl out) (fun i j _ hj => ?_) ho0 (by omega), rfl, ⟨rfl, trivial⟩, rfl, ?_⟩
            · obtain rfl : j = 0 := by omega
              exact LeD.refl _
            · refine ⟨SubR.le (LeD.slc' (by simp) fun i j hi hj => LeD.of_eq ?_), ⟨rfl, rfl, trivial⟩⟩
              obtain rfl : j = 0 := by omega
              exact revF_end hi
end Go.Ch

namespace Go.Ch
open Go Go.Ax Go.Proofs Go.Proofs.Tryz
set_option maxRecDepth 100000
set_option pp.maxSteps 400
set_option maxHeartbeats 1000000

structure WayV where
  fr : List Int
  to : List Int
  level : Int
  path : List Int
  bar : List Int
  deriving Inhabited
abbrev wayB (q : WayV) : Box := .cells [.d (dInts q.fr), .d (dInts q.to), .d (dI q.level), .d (dInts q.path), .d (dInts q.bar)]
abbrev wayA (q : WayV) : AV := .g [.d (dInts q.fr), .d (dInts q.to), .d (dI q.level), .d (dInts q.path), .d (dInts q.bar)]
def okFree (g : Grid) (bar : List Int) (i : Int) : Bool := knownG g i && !bar.contains i
theorem okFree_known {g : Grid} {bar : List Int} {i : Int} (h : okFree g bar i = true) : there g i = true := by
  unfold okFree knownG at h
  simp only [Bool.and_eq_true] at h
  exact h.1.1
theorem check1 (q : WayV) (hq : q.bar.length ≤ 1000000) (i : Int) (f : Nat → DV) (hf : f 4 = dInts q.bar) : CallP Tryz.prog 67 [vI i, .s (.d (.rp 5 f))] (vB (!q.bar.contains i)) := by
  have h1 : LeAs [vI i, .s (.d (.rp 5 f))] [vI i, .s (.d (.rp 5 fun j => if j = 4 then dInts q.bar else .junk))] :=
    ⟨LeD.refl _, LeD.rp fun j hj => ?_, trivial⟩
  · refine CallP.conv ?_ h1
    refine callP_of_ex (rc := []) (N := 10) Tryz.func67 rfl rfl Tryz.call67 tab_ok mix rfl rfl (fun cx _ => ?_)
    refine callN (ContainsI q.bar i hq) ?_
    exact SubR.refl _
  · by_cases e : j = 4
    · rw [if_pos e, e]; exact LeD.of_eq hf
    · rw [if_neg e]; exact fun _ _ _ => trivial
end Go.Ch

namespace Go.Ch
open Go Go.Ax Go.Proofs Go.Proofs.Tryz
set_option maxRecDepth 100000
set_option pp.maxSteps 400
set_option maxHeartbeats 1000000
set_option linter.unusedVariables false

abbrev wayCheck1 (g : Grid) (v : WayV) (fr to : List Int) (s : BS) (i : Nat) : St := ⟨[(4, .s (.ptr 4 0)), (2, vInts to), (3, .s (.clo 67 [.ptr 1001 0])), (9, .s (.mp 22)), (10, .s (.mo s.2.isEmpty 100)), (23, vInts fr), (24, vI fr.length), (25, vI i)], [(1001, some (wayB v)), (4, some (gridB g)), (22, some (.map .int s.1)), (100, some (.mrow 3 s.2.length 1 (intEl s.2)))]⟩
abbrev wayCheck0 (g : Grid) (v : WayV) : St := ⟨[(10, .s (.d (.val (.slice none 0 0))))], [(1001, some (wayB v))]⟩
abbrev wayCheck2 (g : Grid) (v : WayV) (to : List Int) (lo : Nat) (h : Nat → Int) (s : BS) : St := ⟨[(4, .s (.ptr 4 0)), (2, vInts to), (3, .s (.clo 67 [.ptr 1001 0])), (9, .s (.mp 22)), (10, .s (.osl 100 1 lo s.2.length))], [(1001, some (wayB v)), (4, some (gridB g)), (22, some (.map .int s.1)), (100, some (.row 3 (lo + s.2.length) 1 (intF h)))]⟩
abbrev wayCheck4 (g : Grid) (v : WayV) (to : List Int) (x : Int) (nr : List Int) (lo : Nat) (h : Nat → Int) (s : BS) (j : Nat) : St := ⟨[(4, .s (.ptr 4 0)), (2, vInts to), (3, .s (.clo 67 [.ptr 1001 0])), (9, .s (.mp 22)), (10, .s (.osl 100 1 lo s.2.length)), (15, vI x), (68, vInts nr), (69, vI nr.length), (70, vI j)], [(1001, some (wayB v)), (4, some (gridB g)), (22, some (.map .int s.1)), (100, some (.row 3 (lo + s.2.length) 1 (intF h)))]⟩
abbrev wayCheck5 (g : Grid) (v : WayV) (b : List (Int × Int)) (i : Int) (out : List Int) : St := ⟨[(9, .s (.mp 22)), (20, .s (.own 200)), (21, vI i)], [(1001, some (wayB v)), (22, some (.map .int b)), (200, some (.row 3 out.length 1 (intEl out)))]⟩
theorem wayCheck (g : Grid) (v : WayV) (fr to : List Int) (hg : GVal g) (hf : fr.length ≤ 1000) (ht : to.length ≤ 1000) (hq : v.bar.length ≤ 1000000) :
    CallR Tryz.prog 63 [grid g, vInts fr, vInts to, .s (.clo 67 [.ptr 1001 0])] [(1001, wayB v)] (vInts (wayL g.levels.length (okFree g v.bar) (nearL g) fr to)) [(1001, wayB v)] := by
  have hn := hg.n
  have hok : ∀ i, (okFree g v.bar) i = true → 0 ≤ i ∧ i < g.levels.length := fun i h => there_iff.1 (okFree_known h)
  refine callR_of_aw Tryz.func63 rfl rfl Tryz.call63 tab_ok rfl rfl rfl rfl (fun cx href => ?_)
  refine AW.seq (ex.sound (rc := [102]) tab_ok mix href _ ?_)
  refine AW.scope ?_
  refine AW.seq (ex.sound (rc := [102]) tab_ok mix href _ ?_)
  refine AW.seq (ex.sound (rc := [102]) tab_ok mix href _ ?_)
  refine AW.cut (σ' := wayCheck1 g v fr to ((fr.take fr.length).foldl (seedS (okFree g v.bar)) ([], [])) fr.length) (ex.sound (rc := [102]) tab_ok mix href _ ?_) ?_
  · refine AW.loopI (fun i => wayCheck1 g v fr to ((fr.take i).foldl (seedS (okFree g v.bar)) ([], [])) i) (fun i => i ≤ fr.length) (fun i => fr.length - i) 0 (Nat.zero_le _) ?_ ?_
    · exact SubI.of [(100, 1000)] (by rw [href]; rfl) rfl ⟨⟨rfl, LeBx.rfl⟩, ⟨rfl, LeBx.rfl⟩, ⟨rfl, LeBx.rfl⟩, ⟨rfl, rfl⟩, trivial⟩ ⟨⟨rfl, LeQ.rfl⟩, ⟨rfl, LeQ.rfl⟩, ⟨rfl, LeQ.rfl⟩, ⟨rfl, LeQ.rfl⟩, ⟨rfl, LeQ.nil rfl⟩, ⟨rfl, LeQ.rfl⟩, ⟨rfl, LeQ.rfl⟩, ⟨rfl, LeQ.rfl⟩, trivial⟩
    · intro i hi
      have hw := Bw.seeds hok (l := fr) i hi
      refine ex.sound (rc := [102]) tab_ok mix href _ ?_
      refine And.intro (fun h => ?_) (fun h => ?_)
      · have h : (i : Int) < fr.length := decT h
        have hi' : i < fr.length := by omega
        have hs := foldl_take (f := seedS (okFree g v.bar)) (b := ([], [])) hi'
        have hx : fr[i] = fr.getD i 0 := by simp [hi']
        rw [hx] at hs
        generalize (fr.take i).foldl (seedS (okFree g v.bar)) ([], []) = s at hw hs
        have hl : s.2.length ≤ 1024 := by have := hw.2; unfold muS at this; omega
        refine oi ⟨by omega, by omega⟩ ?_
        repeat first | refine sk ?_ | refine st ?_ | refine sg ?_ | refine sh ?_ | refine su ?_ | refine sn1 ?_ | refine sn0 ?_
        refine callG (knownI g (fr.getD i 0) (by omega)) ?_
        repeat first | refine sk ?_ | refine st ?_ | refine sg ?_ | refine sh ?_ | refine su ?_ | refine sn1 ?_ | refine sn0 ?_
        refine callGo (fun hk => check1 v hq _ _ rfl) ?_
        repeat first | refine sk ?_ | refine st ?_ | refine sg ?_ | refine sh ?_ | refine su ?_ | refine sn1 ?_ | refine sn0 ?_
        refine And.intro (fun h2 => ?_) (fun h2 => ?_)
        · have h2 : ((!hasM s.1 (fr.getD i 0) && knownG g (fr.getD i 0)) && (!v.bar.contains (fr.getD i 0))) = true := h2
          rw [Bool.and_assoc] at h2
          have hs : (fr.take (i + 1)).foldl (seedS (okFree g v.bar)) ([], []) = (setM s.1 (fr.getD i 0) (fr.getD i 0), s.2 ++ [fr.getD i 0]) := by
            rw [hs]
            show (bif !hasM s.1 (fr.getD i 0) && (knownG g (fr.getD i 0) && (!v.bar.contains (fr.getD i 0))) then _ else _) = _
            rw [h2]; rfl
          refine ob (by decide) ?_
          refine ob (by rw [bif_len]; show _ * 8 ≤ _; omega) ?_
          refine ob (fit1 (lt1 rfl)) ?_
          refine ⟨i + 1, by omega, by omega, ?_⟩
          show SubI cx _ _ (wayCheck1 g v fr to ((fr.take (i + 1)).foldl (seedS (okFree g v.bar)) ([], [])) (i + 1))
          rw [hs]
          exact SubI.of [(100, 53)] (by rw [href]; rfl) rfl ⟨⟨rfl, LeBx.rfl⟩, ⟨rfl, LeBx.rfl⟩, ⟨rfl, LeBx.rfl⟩, ⟨rfl, nearRow intRow rfl⟩, trivial⟩ ⟨⟨rfl, LeQ.rfl⟩, ⟨rfl, LeQ.rfl⟩, ⟨rfl, LeQ.rfl⟩, ⟨rfl, LeQ.rfl⟩, ⟨rfl, LeQ.mo (isEmpty_snoc _ _)⟩, ⟨rfl, LeQ.rfl⟩, ⟨rfl, LeQ.rfl⟩, ⟨rfl, LeQ.int (w64_of (by omega) (by omega))⟩, trivial⟩
        · have h2 : ((!hasM s.1 (fr.getD i 0) && knownG g (fr.getD i 0)) && (!v.bar.contains (fr.getD i 0))) = false := h2
          rw [Bool.and_assoc] at h2
          have hs : (fr.take (i + 1)).foldl (seedS (okFree g v.bar)) ([], []) = s := by
            rw [hs]
            show (bif !hasM s.1 (fr.getD i 0) && (knownG g (fr.getD i 0) && (!v.bar.contains (fr.getD i 0))) then _ else _) = _
            rw [h2]; rfl
          refine ⟨i + 1, by omega, by omega, ?_⟩
          show SubI cx _ _ (wayCheck1 g v fr to ((fr.take (i + 1)).foldl (seedS (okFree g v.bar)) ([], [])) (i + 1))
          rw [hs]
          exact SubI.of [] (by rw [href]; rfl) rfl ⟨⟨rfl, LeBx.rfl⟩, ⟨rfl, LeBx.rfl⟩, ⟨rfl, LeBx.rfl⟩, ⟨rfl, LeBx.rfl⟩, trivial⟩ ⟨⟨rfl, LeQ.rfl⟩, ⟨rfl, LeQ.rfl⟩, ⟨rfl, LeQ.rfl⟩, ⟨rfl, LeQ.rfl⟩, ⟨rfl, LeQ.rfl⟩, ⟨rfl, LeQ.rfl⟩, ⟨rfl, LeQ.rfl⟩, ⟨rfl, LeQ.int (w64_of (by omega) (by omega))⟩, trivial⟩
      · have h : ¬ (i : Int) < fr.length := decF h
        obtain rfl : i = fr.length := by omega
        exact ⟨rfl, SubI.of [] (by rw [href]; rfl) rfl ⟨⟨rfl, LeBx.rfl⟩, ⟨rfl, LeBx.rfl⟩, ⟨rfl, LeBx.rfl⟩, ⟨rfl, LeBx.rfl⟩, trivial⟩ ⟨⟨rfl, LeQ.rfl⟩, ⟨rfl, LeQ.rfl⟩, ⟨rfl, LeQ.rfl⟩, ⟨rfl, LeQ.rfl⟩, ⟨rfl, LeQ.rfl⟩, ⟨rfl, LeQ.rfl⟩, ⟨rfl, LeQ.rfl⟩, ⟨rfl, LeQ.rfl⟩, trivial⟩⟩
  rw [List.take_length]
  have h0 := Bw.seeds hok (l := fr) fr.length (Nat.le_refl _)
  rw [List.take_length] at h0
  have hwl := wayL_eq (n := g.levels.length) (ok := (okFree g v.bar)) (nr := nearL g) (fr := fr) (to := to) (s := searchL (okFree g v.bar) (nearL g) to g.levels.length (fr.foldl (seedS (okFree g v.bar)) ([], []))) rfl
  rw [hwl]
  clear hwl
  generalize fr.foldl (seedS (okFree g v.bar)) ([], []) = s0 at h0 ⊢
  refine AW.seq (AW.label ?_)
  cases hz : s0.2.isEmpty with
  | true =>
    have hs0 : s0 = (s0.1, []) := Prod.ext rfl (List.isEmpty_iff.1 hz)
    rw [hs0, searchL_nil]
    refine AW.subI (σ' := wayCheck0 g v) (SubI.of [] (by rw [href]; rfl) rfl ⟨⟨rfl, LeBx.rfl⟩, trivial⟩ ⟨⟨rfl, LeQ.toNil rfl⟩, trivial⟩) ?_
    refine AW.cut (σ' := wayCheck0 g v) (ex.sound (rc := [102]) tab_ok mix href _ ?_) ?_
    · refine AW.loopI (fun _ : Unit => wayCheck0 g v) (fun _ => True) (fun _ => 0) () trivial ?_ ?_
      · exact SubI.of [] (by rw [href]; rfl) rfl ⟨⟨rfl, LeBx.rfl⟩, trivial⟩ ⟨⟨rfl, LeQ.rfl⟩, trivial⟩
      · intro _ _
        refine ex.sound (rc := [102]) tab_ok mix href _ ?_
        refine And.intro (fun h => by cases h) (fun _ => ?_)
        exact ⟨rfl, SubI.of [] (by rw [href]; rfl) rfl ⟨⟨rfl, LeBx.rfl⟩, trivial⟩ ⟨⟨rfl, LeQ.rfl⟩, trivial⟩⟩
    · refine ex.sound (rc := [102]) tab_ok mix href _ ?_
      refine And.intro (fun _ => ?_) (fun h => by cases h)
      exact ⟨SubR.le LeD.nil, ⟨rfl, trivial⟩⟩
  | false =>
    have hrow : SubI cx Tryz.f63.ntmps (wayCheck1 g v fr to s0 fr.length) (wayCheck2 g v to 0 (fun j => s0.2.getD j 0) s0) := by
      refine SubI.trans (SubI.osl (e := 3) (n := s0.2.length) (s := 1) (f := intEl s0.2) (z := s0.2.isEmpty) 10 100 rfl hz rfl) ?_
      exact SubI.of [] (by rw [href]; rfl) rfl ⟨⟨rfl, LeBx.rfl⟩, ⟨rfl, LeBx.rfl⟩, ⟨rfl, LeBx.rfl⟩, ⟨rfl, LeBx.row (Nat.zero_add _).symm fun i j _ _ => LeD.refl _⟩, trivial⟩ ⟨⟨rfl, LeQ.rfl⟩, ⟨rfl, LeQ.rfl⟩, ⟨rfl, LeQ.rfl⟩, ⟨rfl, LeQ.rfl⟩, ⟨rfl, LeQ.rfl⟩, trivial⟩
    refine AW.subI hrow ?_
    clear hrow hz
    refine AW.cutE (fun q : Nat × (Nat → Int) => wayCheck2 g v to q.1 q.2 (searchL (okFree g v.bar) (nearL g) to g.levels.length s0)) (fun q => Bw g.levels.length (okFree g v.bar) (searchL (okFree g v.bar) (nearL g) to g.levels.length s0) ∧ ∀ j, j < (searchL (okFree g v.bar) (nearL g) to g.levels.length s0).2.length → q.2 (q.1 + j) = (searchL (okFree g v.bar) (nearL g) to g.levels.length s0).2.getD j 0) (ex.sound (rc := [102]) tab_ok mix href _ ?_) ?_
    · refine AW.loopI (fun q : Nat × (Nat → Int) × BS × Nat => wayCheck2 g v to q.1 q.2.1 q.2.2.1)
        (fun q => searchL (okFree g v.bar) (nearL g) to g.levels.length s0 = searchL (okFree g v.bar) (nearL g) to q.2.2.2 q.2.2.1 ∧ muS g.levels.length q.2.2.1 ≤ q.2.2.2 ∧ Bw g.levels.length (okFree g v.bar) q.2.2.1 ∧ q.1 + muS g.levels.length q.2.2.1 ≤ g.levels.length ∧ ∀ j, j < q.2.2.1.2.length → q.2.1 (q.1 + j) = q.2.2.1.2.getD j 0)
        (fun q => q.2.2.2) (0, (fun j => s0.2.getD j 0), s0, g.levels.length) ⟨rfl, h0.2, h0.1, by simp only; have := h0.2; omega, fun j _ => by simp only [Nat.zero_add]⟩ ?_ ?_
      · exact SubI.of [] (by rw [href]; rfl) rfl ⟨⟨rfl, LeBx.rfl⟩, ⟨rfl, LeBx.rfl⟩, ⟨rfl, LeBx.rfl⟩, ⟨rfl, LeBx.rfl⟩, trivial⟩ ⟨⟨rfl, LeQ.rfl⟩, ⟨rfl, LeQ.rfl⟩, ⟨rfl, LeQ.rfl⟩, ⟨rfl, LeQ.rfl⟩, ⟨rfl, LeQ.rfl⟩, trivial⟩
      · rintro ⟨lo, h, ⟨b, t⟩, m⟩ ⟨he, hm, hw, hlo, hh⟩
        simp only at he hm hw hlo hh ⊢
        refine ex.sound (rc := [102]) tab_ok mix href _ ?_
        refine And.intro (fun h1 => ?_) (fun h1 => ?_)
        · have h1 : (t.length : Int) > 0 := decT h1
          match t, m with
          | [], _ => simp at h1
          | i :: r, 0 => exfalso; unfold muS at hm; simp at hm
          | i :: r, m + 1 =>
            have hi0 : h (lo + 0) = i := hh 0 (by simp)
            subst hi0
            have hlen : (h (lo + 0) :: r).length ≤ 1024 := by unfold muS at hlo; simp only at hlo; omega
            have hix := hw.mem (h (lo + 0)) (List.mem_cons_self ..)
            have hxr := hok _ (hw.key _ hix)
            refine oi ⟨by omega, by omega⟩ ?_
            refine oi (show lo + 0 < lo + (h (lo + 0) :: r).length by simp) ?_
            refine callN (ContainsI to (h (lo + 0)) (by omega)) ?_
            refine And.intro (fun h2 => ?_) (fun h2 => ?_)
            · have h2 : to.contains (h (lo + 0)) = true := h2
              rw [searchL, h2, cond_true] at he
              rw [he]
              refine ⟨rfl, (lo, h), ⟨hw, hh⟩, ?_⟩
              exact SubI.of [] (by rw [href]; rfl) rfl ⟨⟨rfl, LeBx.rfl⟩, ⟨rfl, LeBx.rfl⟩, ⟨rfl, LeBx.rfl⟩, ⟨rfl, LeBx.rfl⟩, trivial⟩ ⟨⟨rfl, LeQ.rfl⟩, ⟨rfl, LeQ.rfl⟩, ⟨rfl, LeQ.rfl⟩, ⟨rfl, LeQ.rfl⟩, ⟨rfl, LeQ.rfl⟩, trivial⟩
            · have h2 : to.contains (h (lo + 0)) = false := h2
              rw [searchL, h2, cond_false] at he
              refine callN (near g (h (lo + 0)) hg hxr.1 hxr.2) ?_
              have hnl : (nearL g (h (lo + 0))).length ≤ 1000000 := Nat.le_trans nearL_len (by decide)
              have hpw : ∀ j, j ≤ (nearL g (h (lo + 0))).length → _ := fun j hj => hw.pushes hok hix (l := nearL g (h (lo + 0))) j hj
              have hph : ∀ j, _ := fun j => pushes_head (ok := (okFree g v.bar)) (c := h (lo + 0)) (s := (b, h (lo + 0) :: r)) rfl ((nearL g (h (lo + 0))).take j)
              have hpl : pushL (okFree g v.bar) (h (lo + 0)) (nearL g (h (lo + 0))) (b, h (lo + 0) :: r) = ((nearL g (h (lo + 0))).take (nearL g (h (lo + 0))).length).foldl (pushS (okFree g v.bar) (h (lo + 0))) (b, h (lo + 0) :: r) := by rw [List.take_length]; rfl
              rw [hpl] at he
              generalize hx : h (lo + 0) = x at *
              generalize nearL g x = nr at *
              refine AW.loopI (fun q : Nat × (Nat → Int) × Nat => wayCheck4 g v to x nr q.1 q.2.1 ((nr.take q.2.2).foldl (pushS (okFree g v.bar) x) (b, x :: r)) q.2.2)
                (fun q => q.2.2 ≤ nr.length ∧ q.1 + muS g.levels.length ((nr.take q.2.2).foldl (pushS (okFree g v.bar) x) (b, x :: r)) ≤ g.levels.length ∧ ∀ j, j < ((nr.take q.2.2).foldl (pushS (okFree g v.bar) x) (b, x :: r)).2.length → q.2.1 (q.1 + j) = ((nr.take q.2.2).foldl (pushS (okFree g v.bar) x) (b, x :: r)).2.getD j 0)
                (fun q => nr.length - q.2.2) (lo, h, 0) ⟨Nat.zero_le _, hlo, hh⟩ ?_ ?_
              · exact SubI.of [] (by rw [href]; rfl) rfl ⟨⟨rfl, LeBx.rfl⟩, ⟨rfl, LeBx.rfl⟩, ⟨rfl, LeBx.rfl⟩, ⟨rfl, LeBx.rfl⟩, trivial⟩ ⟨⟨rfl, LeQ.rfl⟩, ⟨rfl, LeQ.rfl⟩, ⟨rfl, LeQ.rfl⟩, ⟨rfl, LeQ.rfl⟩, ⟨rfl, LeQ.rfl⟩, ⟨rfl, LeQ.int hx⟩, ⟨rfl, LeQ.rfl⟩, ⟨rfl, LeQ.rfl⟩, ⟨rfl, LeQ.rfl⟩, trivial⟩
              · rintro ⟨lo, h, j⟩ ⟨hj, hlo, hh⟩
                simp only at hj hlo hh ⊢
                have hpj := hpw j hj
                obtain ⟨r', hr'⟩ := hph j
                refine ex.sound (rc := [102]) tab_ok mix href _ ?_
                refine And.intro (fun h3 => ?_) (fun h3 => ?_)
                · have h3 : (j : Int) < nr.length := decT h3
                  have hj' : j < nr.length := by omega
                  have hs := foldl_take (f := pushS (okFree g v.bar) x) (b := (b, x :: r)) hj'
                  have hk : nr[j] = nr.getD j 0 := by simp [hj']
                  rw [hk] at hs
                  generalize (nr.take j).foldl (pushS (okFree g v.bar) x) (b, x :: r) = s at hlo hh hpj hr' hs
                  have hsl : s.2.length ≤ g.levels.length - lo := by unfold muS at hlo; omega
                  refine oi ⟨by omega, by omega⟩ ?_
                  repeat first | refine sk ?_ | refine st ?_ | refine sg ?_ | refine sh ?_ | refine su ?_ | refine sn1 ?_ | refine sn0 ?_
                  refine callG (knownI g (nr.getD j 0) (by omega)) ?_
                  repeat first | refine sk ?_ | refine st ?_ | refine sg ?_ | refine sh ?_ | refine su ?_ | refine sn1 ?_ | refine sn0 ?_
                  refine callGo (fun hk => check1 v hq _ _ rfl) ?_
                  repeat first | refine sk ?_ | refine st ?_ | refine sg ?_ | refine sh ?_ | refine su ?_ | refine sn1 ?_ | refine sn0 ?_
                  refine And.intro (fun h4 => ?_) (fun h4 => ?_)
                  · have h4 : ((hasM s.1 (nr.getD j 0) || !knownG g (nr.getD j 0)) || !(!v.bar.contains (nr.getD j 0))) = true := h4
                    rw [Bool.or_assoc, ← Bool.not_and] at h4
                    have hs : (nr.take (j + 1)).foldl (pushS (okFree g v.bar) x) (b, x :: r) = s := by
                      rw [hs]
                      show (bif hasM s.1 (nr.getD j 0) || !(knownG g (nr.getD j 0) && (!v.bar.contains (nr.getD j 0))) then _ else _) = _
                      rw [h4]; rfl
                    refine ⟨(lo, h, j + 1), ⟨by simp only; omega, by simp only; rw [hs]; exact hlo, by simp only; rw [hs]; exact hh⟩, by simp only; omega, ?_⟩
                    show SubI cx _ _ (wayCheck4 g v to x nr lo h ((nr.take (j + 1)).foldl (pushS (okFree g v.bar) x) (b, x :: r)) (j + 1))
                    rw [hs]
                    exact SubI.of [] (by rw [href]; rfl) rfl ⟨⟨rfl, LeBx.rfl⟩, ⟨rfl, LeBx.rfl⟩, ⟨rfl, LeBx.rfl⟩, ⟨rfl, LeBx.rfl⟩, trivial⟩ ⟨⟨rfl, LeQ.rfl⟩, ⟨rfl, LeQ.rfl⟩, ⟨rfl, LeQ.rfl⟩, ⟨rfl, LeQ.rfl⟩, ⟨rfl, LeQ.rfl⟩, ⟨rfl, LeQ.rfl⟩, ⟨rfl, LeQ.rfl⟩, ⟨rfl, LeQ.rfl⟩, ⟨rfl, LeQ.int (w64_of (by omega) (by omega))⟩, trivial⟩
                  · have h4 : ((hasM s.1 (nr.getD j 0) || !knownG g (nr.getD j 0)) || !(!v.bar.contains (nr.getD j 0))) = false := h4
                    rw [Bool.or_assoc, ← Bool.not_and] at h4
                    have hs : (nr.take (j + 1)).foldl (pushS (okFree g v.bar) x) (b, x :: r) = (setM s.1 (nr.getD j 0) x, s.2 ++ [nr.getD j 0]) := by
                      rw [hs]
                      show (bif hasM s.1 (nr.getD j 0) || !(knownG g (nr.getD j 0) && (!v.bar.contains (nr.getD j 0))) then _ else _) = _
                      rw [h4]; rfl
                    have hmu : muS g.levels.length ((nr.take (j + 1)).foldl (pushS (okFree g v.bar) x) (b, x :: r)) ≤ muS g.levels.length s := by
                      have hh1 : ((hasM s.1 (nr.getD j 0)) || !((okFree g v.bar) (nr.getD j 0))) = false := h4
                      rw [Bool.or_eq_false_iff] at hh1
                      rw [hs]
                      exact (hpj.1.put hok (by simpa using hh1.2) hh1.1 (.inr hpj.2.2)).2
                    rw [hs] at hmu
                    refine ob (by decide) ?_
                    refine ob (show (lo + s.2.length + 1) * 8 ≤ _ by omega) ?_
                    refine ob (fit1 (lt1 rfl)) ?_
                    refine And.intro ?_ ?_
                    · refine ⟨(lo, snocF h (lo + s.2.length) (nr.getD j 0), j + 1), ⟨by simp only; omega, by simp only; rw [hs]; omega, ?_⟩, by simp only; omega, ?_⟩
                      · simp only
                        rw [hs]
                        intro k hk
                        rw [List.length_append, List.length_singleton] at hk
                        show (if lo + k < lo + s.2.length then h (lo + k) else nr.getD j 0) = (s.2 ++ [nr.getD j 0]).getD k 0
                        rw [getD_app]
                        by_cases e : k < s.2.length
                        · rw [if_pos (by omega), if_pos e]; exact hh k e
                        · rw [if_neg (by omega), if_neg e, if_pos (by omega)]
                      · show SubI cx _ _ (wayCheck4 g v to x nr lo (snocF h (lo + s.2.length) (nr.getD j 0)) ((nr.take (j + 1)).foldl (pushS (okFree g v.bar) x) (b, x :: r)) (j + 1))
                        rw [hs]
                        exact SubI.of [(100, 99)] (by rw [href]; rfl) rfl ⟨⟨rfl, LeBx.rfl⟩, ⟨rfl, LeBx.rfl⟩, ⟨rfl, LeBx.rfl⟩, ⟨rfl, LeBx.snocI rfl (by rw [List.length_append, List.length_singleton]; omega)⟩, trivial⟩ ⟨⟨rfl, LeQ.rfl⟩, ⟨rfl, LeQ.rfl⟩, ⟨rfl, LeQ.rfl⟩, ⟨rfl, LeQ.rfl⟩, ⟨rfl, LeQ.of_eq (by rw [List.length_append, List.length_singleton]; rfl)⟩, ⟨rfl, LeQ.rfl⟩, ⟨rfl, LeQ.rfl⟩, ⟨rfl, LeQ.rfl⟩, ⟨rfl, LeQ.int (w64_of (by omega) (by omega))⟩, trivial⟩
                    · refine ⟨(0, snocF (fun i => h (lo + i)) s.2.length (nr.getD j 0), j + 1), ⟨by simp only; omega, by simp only; rw [hs]; omega, ?_⟩, by simp only; omega, ?_⟩
                      · simp only
                        rw [hs]
                        intro k hk
                        rw [List.length_append, List.length_singleton] at hk
                        show (if 0 + k < s.2.length then h (lo + (0 + k)) else nr.getD j 0) = (s.2 ++ [nr.getD j 0]).getD k 0
                        rw [getD_app, Nat.zero_add]
                        by_cases e : k < s.2.length
                        · rw [if_pos e, if_pos e]; exact hh k e
                        · rw [if_neg e, if_neg e, if_pos (by omega)]
                      · show SubI cx _ _ (wayCheck4 g v to x nr 0 (snocF (fun i => h (lo + i)) s.2.length (nr.getD j 0)) ((nr.take (j + 1)).foldl (pushS (okFree g v.bar) x) (b, x :: r)) (j + 1))
                        rw [hs]
                        exact SubI.of [(100, 99)] (by rw [href]; rfl) rfl ⟨⟨rfl, LeBx.rfl⟩, ⟨rfl, LeBx.rfl⟩, ⟨rfl, LeBx.rfl⟩, ⟨rfl, LeBx.snocI rfl (by rw [List.length_append, List.length_singleton]; omega)⟩, trivial⟩ ⟨⟨rfl, LeQ.rfl⟩, ⟨rfl, LeQ.rfl⟩, ⟨rfl, LeQ.rfl⟩, ⟨rfl, LeQ.rfl⟩, ⟨rfl, LeQ.of_eq (by rw [List.length_append, List.length_singleton]; rfl)⟩, ⟨rfl, LeQ.rfl⟩, ⟨rfl, LeQ.rfl⟩, ⟨rfl, LeQ.rfl⟩, ⟨rfl, LeQ.int (w64_of (by omega) (by omega))⟩, trivial⟩
                · have h3 : ¬ (j : Int) < nr.length := decF h3
                  obtain rfl : j = nr.length := by omega
                  generalize (nr.take nr.length).foldl (pushS (okFree g v.bar) x) (b, x :: r) = s at hlo hh hpj hr' he
                  obtain ⟨b', t'⟩ := s
                  simp only at hr'
                  subst hr'
                  have hmt : muS g.levels.length (b', x :: r') = muS g.levels.length (b', r') + 1 := by unfold muS; simp only [List.length_cons]; omega
                  have hmp := hpj.2.1
                  refine oi ⟨by decide, by show (1 : Int) ≤ ((x :: r').length : Int); simp only [List.length_cons]; omega, Int.le_refl _⟩ ?_
                  refine ⟨(lo + 1, h, (b', r'), m), ⟨he, by simp only; omega, hpj.1.tail, by simp only; omega, fun k hk => ?_⟩, by simp only; omega, ?_⟩
                  · have := hh (k + 1) (by simp only [List.length_cons]; simp only at hk; omega)
                    show h (lo + 1 + k) = r'.getD k 0
                    rw [show lo + 1 + k = lo + (k + 1) by omega, this]; rfl
                  · exact SubI.of [] (by rw [href]; rfl) rfl ⟨⟨rfl, LeBx.rfl⟩, ⟨rfl, LeBx.rfl⟩, ⟨rfl, LeBx.rfl⟩, ⟨rfl, LeBx.row (by simp only [List.length_cons]; omega) fun _ _ _ _ => LeD.refl _⟩, trivial⟩ ⟨⟨rfl, LeQ.rfl⟩, ⟨rfl, LeQ.rfl⟩, ⟨rfl, LeQ.rfl⟩, ⟨rfl, LeQ.rfl⟩, ⟨rfl, LeQ.rfl⟩, trivial⟩
        · have h1 : ¬ (t.length : Int) > 0 := decF h1
          obtain rfl : t = [] := List.eq_nil_of_length_eq_zero (by omega)
          rw [searchL_nil] at he
          rw [he]
          refine ⟨rfl, (lo, h), ⟨hw, hh⟩, ?_⟩
          exact SubI.of [] (by rw [href]; rfl) rfl ⟨⟨rfl, LeBx.rfl⟩, ⟨rfl, LeBx.rfl⟩, ⟨rfl, LeBx.rfl⟩, ⟨rfl, LeBx.rfl⟩, trivial⟩ ⟨⟨rfl, LeQ.rfl⟩, ⟨rfl, LeQ.rfl⟩, ⟨rfl, LeQ.rfl⟩, ⟨rfl, LeQ.rfl⟩, ⟨rfl, LeQ.rfl⟩, trivial⟩
    · generalize searchL (okFree g v.bar) (nearL g) to g.levels.length s0 = s
      rintro ⟨lo, h⟩ ⟨hw, hh⟩
      simp only at hw hh ⊢
      refine ex.sound (rc := [102]) tab_ok mix href _ ?_
      obtain ⟨b, t⟩ := s
      match t with
      | [] =>
        refine And.intro (fun _ => ?_) (fun h => by cases h)
        exact ⟨SubR.le LeD.nil, ⟨rfl, trivial⟩⟩
      | i :: r =>
        have hi0 : h (lo + 0) = i := hh 0 (by simp)
        refine And.intro (fun h => ?_) (fun _ => ?_)
        · exfalso
          have h : (((i :: r).length : Int) == 0) = true := h
          rw [len0] at h; cases h
        have hm := hw.mem i (List.mem_cons_self ..)
        have hpl := posM_lt hm
        have hcn := hw.cnt
        simp only at hm hpl hcn
        refine oi ⟨Int.le_refl _, by show (0 : Int) < ((i :: r).length : Int); simp only [List.length_cons]; omega⟩ ?_
        refine oi (show lo + 0 < lo + (i :: r).length by simp) ?_
        refine oi ⟨Int.le_refl _, by show (0 : Int) < ((i :: r).length : Int); simp only [List.length_cons]; omega⟩ ?_
        refine oi (show lo + 0 < lo + (i :: r).length by simp) ?_
        refine AW.loopI (fun q : Int × List Int × Nat => wayCheck5 g v b q.1 q.2.1)
          (fun q => backL b b.length i [i] = backL b q.2.2 q.1 q.2.1 ∧ hasM b q.1 = true ∧ posM b q.1 ≤ q.2.2 ∧ 0 < q.2.1.length ∧ q.2.1.length + posM b q.1 ≤ 1025)
          (fun q => posM b q.1) (i, [i], b.length) ⟨rfl, hm, Nat.le_of_lt hpl, by simp, by simp only [List.length_singleton]; omega⟩ ?_ ?_
        · refine SubI.of [(200, 107)] (by rw [href]; rfl) rfl ⟨⟨rfl, LeBx.rfl⟩, ⟨rfl, LeBx.rfl⟩, ⟨rfl, LeBx.row rfl fun k j hk hj => LeD.of_eq ?_⟩, trivial⟩ ⟨⟨rfl, LeQ.rfl⟩, ⟨rfl, LeQ.rfl⟩, ⟨rfl, LeQ.int hi0⟩, trivial⟩
          have hk : k < 1 := hk
          obtain rfl : k = 0 := by omega
          have hj : j < 1 := hj
          obtain rfl : j = 0 := by omega
          exact congrArg dI hi0
        · generalize hi00 : i = i0
          rintro ⟨i, out, m⟩ ⟨he, hm, hpos, ho0, hol⟩
          simp only at he hm hpos ho0 hol ⊢
          refine ex.sound (rc := [102]) tab_ok mix href _ ?_
          refine oi hm ?_
          refine And.intro (fun h => ?_) (fun h => ?_)
          · have h : (getM b i != i) = true := h
            have hne : getM b i ≠ i := by simpa using h
            have hp := (hw.par i hm).resolve_left hne
            simp only at hp
            match m with
            | 0 => omega
            | m + 1 =>
              rw [backL, beq_eq_false_iff_ne.2 hne, cond_false] at he
              refine oi hm ?_
              refine ob (show (out.length + 1) * 8 ≤ _ by omega) ?_
              refine ob (fit1 (lt1 rfl)) ?_
              refine oi hm ?_
              refine ⟨(getM b i, out ++ [getM b i], m), ⟨he, hp.1, by simp only; omega, by simp, by simp only [List.length_append, List.length_singleton]; omega⟩, hp.2, ?_⟩
              exact SubI.of [(200, 124)] (by rw [href]; rfl) rfl ⟨⟨rfl, LeBx.rfl⟩, ⟨rfl, LeBx.rfl⟩, ⟨rfl, RowIs.row (el := fun x _ => dI x) (RowIs.snoc intRow1 (lt1 rfl))⟩, trivial⟩ ⟨⟨rfl, LeQ.rfl⟩, ⟨rfl, LeQ.rfl⟩, ⟨rfl, LeQ.rfl⟩, trivial⟩
          · have h : (getM b i != i) = false := h
            have heq : (getM b i == i) = true := by simpa using h
            have hres : backL b b.length i0 [i0] = out := by
              rw [he]
              cases m with
              | zero => rfl
              | succ m => rw [backL, heq, cond_true]
            simp only
            rw [hres]
            refine ⟨[(1001, 200)], _, _, _, _, ReverseR out (intEl out) (fun i j _ hj => ?_) ho0 (by omega), rfl, ⟨rfl, trivial⟩, rfl, ?_⟩
            · obtain rfl : j = 0 := by omega
              exact LeD.refl _
            · refine ⟨SubR.le (LeD.slc' (by simp) fun i j hi hj => LeD.of_eq ?_), ⟨rfl, trivial⟩⟩
              obtain rfl : j = 0 := by omega
              exact revF_end hi
end Go.Ch

namespace Go.Ch
open Go Go.Ax Go.Proofs Go.Proofs.Tryz
set_option maxRecDepth 100000
set_option pp.maxSteps 400
set_option maxHeartbeats 1000000

/-- The cells of a barrier among the first i ones. -/
def barC (g : Grid) (m : Int) (k : Nat) : Bool := g.levels.getD k 0 != 30000 && decide (g.levels.getD k 0 ≥ m)
def barL (g : Grid) (m : Int) (i : Nat) : List Int := (List.range i).filterMap fun k => bif barC g m k then some (k : Int) else none
theorem barL_succ (g : Grid) (m : Int) (i : Nat) : barL g m (i + 1) = barL g m i ++ (bif barC g m i then [(i : Int)] else []) := by
  unfold barL
  rw [filterMap_range_succ]
  cases barC g m i <;> rfl
theorem barL_len (g : Grid) (m : Int) : ∀ i, (barL g m i).length ≤ i
  | 0 => Nat.le_refl _
  | i + 1 => by
    rw [barL_succ, List.length_append]
    have := barL_len g m i
    have := len1 (b := barC g m i) (x := (i : Int))
    omega
abbrev RouteR := Int × List Int × List Int × Int
def wayM (g : Grid) (m : Int) (fr to : List Int) : List Int := wayL g.levels.length (okMost g m) (nearL g) fr to
def clearL (g : Grid) (fr to : List Int) : List Int → RouteR
  | [] => (0, [], [], 11)
  | m :: r => bif (wayM g m fr to).isEmpty then clearL g fr to r else (m, wayM g m fr to, barL g m g.levels.length, 0)
def clearG (g : Grid) (fr to : List Int) : RouteR := bif endsG g fr to != 0 then (0, [], [], endsG g fr to) else clearL g fr to (levelsL g.levels)
abbrev rRoute (r : RouteR) : AV := .t [.g [.d (dI r.1), .d (dInts r.2.1), .d (dInts r.2.2.1)], .s (.d (dI r.2.2.2))]
abbrev nilS : SV := .d (.val (.slice none 0 0))
theorem rRoute_nil {e e' : Int} (h : e = e') : SubR (.t [.g [.d (dI 0), nilS, nilS], .s (.d (dI e))]) (rRoute (0, [], [], e')) := by
  subst h
  exact SubR.t ⟨⟨LeD.refl _, LeD.nil, LeD.nil, trivial⟩, LeD.refl _, trivial⟩
theorem endsG_zero {g : Grid} {fr to : List Int} (h : endsG g fr to = 0) : errG g = 0 ∧ fr.isEmpty = false ∧ to.isEmpty = false ∧ ∀ i ∈ fr ++ to, there g i = true := by
  unfold endsG at h
  cases h1 : errG g != 0 with
  | true => rw [h1, cond_true] at h; simp [h] at h1
  | false =>
    rw [h1, cond_false] at h
    refine ⟨by simpa using h1, ?_⟩
    cases h2 : fr.isEmpty || to.isEmpty with
    | true => rw [h2, cond_true] at h; cases h
    | false =>
      rw [h2, cond_false] at h
      rw [Bool.or_eq_false_iff] at h2
      refine ⟨h2.1, h2.2, ?_⟩
      unfold endsErr at h
      cases h3 : (fr ++ to).all (there g) with
      | false => rw [h3] at h; cases h
      | true => rw [List.all_eq_true] at h3; exact h3
abbrev clS (g : Grid) (fr to ls : List Int) (i : Nat) : St := ⟨[(3, .s (.ptr 3 0)), (1, vInts fr), (2, vInts to), (6, .s (.ptr 6 0)), (24, vInts ls), (25, vI ls.length), (26, vI i)], [(3, some (gridB g)), (6, some (.cells [.d (dI 0), nilS, nilS]))]⟩
abbrev clS2 (g : Grid) (m : Int) (p : List Int) (i : Nat) : St := ⟨[(3, .s (.ptr 3 0)), (10, .s (.ptr 10 0)), (6, .s (.ptr 6 0)), (12, .s (.ptr 12 0)), (42, vInts g.levels), (43, vI g.levels.length), (44, vI i)],
  [(3, some (gridB g)), (10, some (.cells [.d (dI m)])), (6, some (.cells [.d (dI 0), nilS, nilS])), (12, some (.cells [.d (dI m), .d (dInts p), .mo (barL g m i).isEmpty 100])), (100, some (.mrow 3 (barL g m i).length 1 (intEl (barL g m i))))]⟩
theorem gClear (g : Grid) (fr to : List Int) (hg : g.ok) (hf : fr.length ≤ 1000) (ht : to.length ≤ 1000) : CallP Tryz.prog 25 [grid g, vInts fr, vInts to] (rRoute (clearG g fr to)) := by
  refine callP_of_ex (rc := [63]) (N := 67) Tryz.func25 rfl rfl Tryz.call25 tab_ok mix rfl rfl (fun cx href => ?_)
  refine callN (ends g fr to hg hf ht) ?_
  unfold clearG
  refine And.intro (fun h => ?_) (fun h => ?_)
  · have h : (endsG g fr to != 0) = true := h
    rw [h, cond_true]
    exact rRoute_nil rfl
  have h : (endsG g fr to != 0) = false := h
  rw [h, cond_false]
  have hv : GVal g := GVal.of (endsG_zero (by simpa using h)).1
  have hn := hv.n
  refine callN (levels g hn) ?_
  have hll := levelsL_len (lv := g.levels)
  generalize levelsL g.levels = ls at hll ⊢
  refine AW.loopI (clS g fr to ls) (fun i => i ≤ ls.length ∧ clearL g fr to ls = clearL g fr to (ls.drop i)) (fun i => ls.length - i) 0 ⟨Nat.zero_le _, rfl⟩ ?_ ?_
  · exact SubI.of0 href [] rfl ⟨⟨rfl, LeBx.rfl⟩, ⟨rfl, LeBx.rfl⟩, trivial⟩ ⟨⟨rfl, LeQ.rfl⟩, ⟨rfl, LeQ.rfl⟩, ⟨rfl, LeQ.rfl⟩, ⟨rfl, LeQ.rfl⟩, ⟨rfl, LeQ.rfl⟩, ⟨rfl, LeQ.rfl⟩, ⟨rfl, LeQ.rfl⟩, trivial⟩
  · rintro i ⟨hi, hj⟩
    refine ex.sound (rc := [63]) tab_ok mix href _ ?_
    refine And.intro (fun h1 => ?_) (fun h1 => ?_)
    · have h1 : (i : Int) < ls.length := decT h1
      have hi' : i < ls.length := by omega
      rw [List.drop_eq_getElem_cons hi', clearL] at hj
      have hx : ls[i] = ls.getD i 0 := by simp [hi']
      rw [hx] at hj
      generalize hm : ls.getD i 0 = m at hj
      refine oi ⟨by omega, by omega⟩ ?_
      refine ⟨[(1001, 3), (1002, 10)], _, _, _, _, wayClear g (ls.getD i 0) fr to hv hf ht, rfl, ⟨rfl, rfl, trivial⟩, rfl, ?_⟩
      refine And.intro (fun h2 => ?_) (fun h2 => ?_)
      · have h2 : (((wayM g (ls.getD i 0) fr to).length : Int) == 0) = true := h2
        rw [len0, hm] at h2
        rw [h2, cond_true] at hj
        refine ⟨i + 1, ⟨by omega, hj⟩, by omega, ?_⟩
        exact SubI.of0 href [] rfl ⟨⟨rfl, LeBx.rfl⟩, ⟨rfl, LeBx.rfl⟩, trivial⟩ ⟨⟨rfl, LeQ.rfl⟩, ⟨rfl, LeQ.rfl⟩, ⟨rfl, LeQ.rfl⟩, ⟨rfl, LeQ.rfl⟩, ⟨rfl, LeQ.rfl⟩, ⟨rfl, LeQ.rfl⟩, ⟨rfl, LeQ.int (w64_of (by omega) (by omega))⟩, trivial⟩
      · have h2 : (((wayM g (ls.getD i 0) fr to).length : Int) == 0) = false := h2
        rw [len0, hm] at h2
        rw [h2, cond_false] at hj
        rw [hj]
        refine AW.loopI (clS2 g m (wayM g m fr to)) (fun k => k ≤ g.levels.length) (fun k => g.levels.length - k) 0 (Nat.zero_le _) ?_ ?_
        · subst hm
          exact SubI.of0 href [(100, 1000)] rfl ⟨⟨rfl, LeBx.rfl⟩, ⟨rfl, LeBx.rfl⟩, ⟨rfl, LeBx.rfl⟩, ⟨rfl, LeBx.cells ⟨LeQ.rfl, LeQ.rfl, LeQ.nil rfl, trivial⟩⟩, ⟨rfl, rfl⟩, trivial⟩ ⟨⟨rfl, LeQ.rfl⟩, ⟨rfl, LeQ.rfl⟩, ⟨rfl, LeQ.rfl⟩, ⟨rfl, LeQ.rfl⟩, ⟨rfl, LeQ.rfl⟩, ⟨rfl, LeQ.rfl⟩, ⟨rfl, LeQ.rfl⟩, trivial⟩
        · intro k hk
          have hbl := barL_len g m k
          have hbs := barL_succ g m k
          refine ex.sound (rc := [63]) tab_ok mix href _ ?_
          refine And.intro (fun h3 => ?_) (fun h3 => ?_)
          · have h3 : (k : Int) < g.levels.length := decT h3
            refine oi ⟨by omega, by omega⟩ ?_
            refine callN (bknown g k (by omega) (by omega)) ?_
            repeat first | refine sk ?_ | refine st ?_ | refine sg ?_ | refine sh ?_ | refine su ?_ | refine sn1 ?_ | refine sn0 ?_
            refine And.intro (fun h4 => ?_) (fun h4 => ?_)
            · have h4 : barC g m k = true := h4
              rw [h4, cond_true] at hbs
              refine ob (by decide) ?_
              refine ob (by rw [bif_len]; show _ * 8 ≤ _; omega) ?_
              refine ob (fit1 (lt1 rfl)) ?_
              refine ⟨k + 1, by omega, by omega, ?_⟩
              show SubI cx _ _ (clS2 g m (wayM g m fr to) (k + 1))
              unfold clS2
              rw [hbs]
              exact SubI.of0 href [(100, 61)] rfl ⟨⟨rfl, LeBx.rfl⟩, ⟨rfl, LeBx.rfl⟩, ⟨rfl, LeBx.rfl⟩, ⟨rfl, LeBx.cells ⟨LeQ.rfl, LeQ.rfl, LeQ.mo (isEmpty_snoc _ _), trivial⟩⟩, ⟨rfl, nearRow intRow rfl⟩, trivial⟩ ⟨⟨rfl, LeQ.rfl⟩, ⟨rfl, LeQ.rfl⟩, ⟨rfl, LeQ.rfl⟩, ⟨rfl, LeQ.rfl⟩, ⟨rfl, LeQ.rfl⟩, ⟨rfl, LeQ.rfl⟩, ⟨rfl, LeQ.int (w64_of (by omega) (by omega))⟩, trivial⟩
            · have h4 : barC g m k = false := h4
              rw [h4, cond_false, List.append_nil] at hbs
              refine ⟨k + 1, by omega, by omega, ?_⟩
              show SubI cx _ _ (clS2 g m (wayM g m fr to) (k + 1))
              unfold clS2
              rw [hbs]
              exact SubI.of0 href [] rfl ⟨⟨rfl, LeBx.rfl⟩, ⟨rfl, LeBx.rfl⟩, ⟨rfl, LeBx.rfl⟩, ⟨rfl, LeBx.rfl⟩, ⟨rfl, LeBx.rfl⟩, trivial⟩ ⟨⟨rfl, LeQ.rfl⟩, ⟨rfl, LeQ.rfl⟩, ⟨rfl, LeQ.rfl⟩, ⟨rfl, LeQ.rfl⟩, ⟨rfl, LeQ.rfl⟩, ⟨rfl, LeQ.rfl⟩, ⟨rfl, LeQ.int (w64_of (by omega) (by omega))⟩, trivial⟩
          · have h3 : ¬ (k : Int) < g.levels.length := decF h3
            obtain rfl : k = g.levels.length := by omega
            exact SubR.t ⟨⟨LeD.refl _, LeD.refl _, LeD.slc' (bif_len _) fun _ _ _ _ => LeD.refl _, trivial⟩, LeD.refl _, trivial⟩
    · have h1 : ¬ (i : Int) < ls.length := decF h1
      obtain rfl : i = ls.length := by omega
      rw [hj, List.drop_length]
      exact rRoute_nil rfl
end Go.Ch

namespace Go.Ch
open Go Go.Ax Go.Proofs Go.Proofs.Tryz
set_option maxRecDepth 100000
set_option pp.maxSteps 400
set_option maxHeartbeats 1000000

def wayBad (g : Grid) (l : List Int) (k : Nat) : Bool := !knownG g (l.getD k 0) || (decide ((k : Int) > 0) && !(nearL g (l.getD (k - 1) 0)).contains (l.getD k 0))
def wayRest (g : Grid) (l : List Int) : Nat → Nat → Int → Int × Bool
  | 0, _, h => (h, true)
  | n + 1, k, h => bif wayBad g l k then (0, false) else wayRest g l n (k + 1) (mm true h (levelAt g (l.getD k 0)))
def isWayG (g : Grid) (q : WayV) : Int × Bool :=
  bif (q.path.isEmpty || !q.fr.contains (q.path.getD 0 0)) || !q.to.contains (q.path.getD (q.path.length - 1) 0) then (0, false) else wayRest g q.path q.path.length 0 (-20000)
abbrev rIW (r : Int × Bool) : AV := .t [.s (.d (dI r.1)), .s (.d (.val (.bool r.2)))]
structure WayV.sm (q : WayV) : Prop where
  fr : q.fr.length ≤ 1000
  to : q.to.length ≤ 1000
  path : q.path.length ≤ 1000000
  bar : q.bar.length ≤ 1000000
theorem LeDlit {b : Bool} : LeD (.lit b) (.val (.bool b)) := fun _ _ r => r
theorem isWay (g : Grid) (q : WayV) (hg : GVal g) (hq : q.sm) : CallP Tryz.prog 66 [grid g, wayA q] (rIW (isWayG g q)) := by
  have hn := hg.n
  have hp := hq.path
  have hfr := hq.fr
  have hto := hq.to
  refine callP_of_ex (rc := []) (N := 73) Tryz.func66 rfl rfl Tryz.call66 tab_ok mix rfl rfl (fun cx href => ?_)
  repeat first | refine sk ?_ | refine st ?_ | refine sg ?_ | refine sh ?_ | refine su ?_ | refine sn1 ?_ | refine sn0 ?_
  refine og (fun h => ⟨Int.le_refl _, ?_⟩) ?_
  · have h : (!((q.path.length : Int) == 0)) = true := h
    rw [Bool.not_eq_true', beq_eq_false_iff_ne] at h
    show (0 : Int) < (q.path.length : Int)
    omega
  repeat first | refine sk ?_ | refine st ?_ | refine sg ?_ | refine sh ?_ | refine su ?_ | refine sn1 ?_ | refine sn0 ?_
  refine callG (ContainsI q.fr (q.path.getD 0 0) (by omega)) ?_
  repeat first | refine sk ?_ | refine st ?_ | refine sg ?_ | refine sh ?_ | refine su ?_ | refine sn1 ?_ | refine sn0 ?_
  refine og (fun h => ?_) ?_
  · have h : (!(((q.path.length : Int) == 0) || !q.fr.contains (q.path.getD 0 0))) = true := h
    rw [Bool.not_eq_true', Bool.or_eq_false_iff, beq_eq_false_iff_ne] at h
    have e : w64 ((q.path.length : Int) - 1) = (q.path.length : Int) - 1 := w64_of (by omega) (by omega)
    show 0 ≤ w64 ((q.path.length : Int) - 1) ∧ w64 ((q.path.length : Int) - 1) < (q.path.length : Int)
    omega
  repeat first | refine sk ?_ | refine st ?_ | refine sg ?_ | refine sh ?_ | refine su ?_ | refine sn1 ?_ | refine sn0 ?_
  refine callG (ContainsI q.to (q.path.getD (w64 ((q.path.length : Int) - 1)).toNat 0) (by omega)) ?_
  repeat first | refine sk ?_ | refine st ?_ | refine sg ?_ | refine sh ?_ | refine su ?_ | refine sn1 ?_ | refine sn0 ?_
  refine And.intro (by kernel_rfl) ?_
  have ei : (w64 ((q.path.length : Int) - 1)).toNat = q.path.length - 1 := by rw [w64_of (by omega) (by omega)]; omega
  unfold isWayG
  refine And.intro (fun h => ?_) (fun h => ?_)
  · have h : ((((q.path.length : Int) == 0) || !q.fr.contains (q.path.getD 0 0)) || !q.to.contains (q.path.getD (w64 ((q.path.length : Int) - 1)).toNat 0)) = true := h
    rw [ei, len0] at h
    rw [h, cond_true]
    exact SubR.t ⟨LeD.refl _, LeDlit, trivial⟩
  have h : ((((q.path.length : Int) == 0) || !q.fr.contains (q.path.getD 0 0)) || !q.to.contains (q.path.getD (w64 ((q.path.length : Int) - 1)).toNat 0)) = false := h
  rw [ei, len0] at h
  rw [h, cond_false]
  refine AW.loopI (fun s : Nat × Int => ⟨[(2, .s (.ptr 2 0)), (6, vInts q.path), (7, vI s.2), (37, vInts q.path), (38, vI q.path.length), (39, vI s.1)], [(2, some (gridB g))]⟩)
    (fun s => s.1 ≤ q.path.length ∧ wayRest g q.path q.path.length 0 (-20000) = wayRest g q.path (q.path.length - s.1) s.1 s.2 ∧ ∀ k, k < s.1 → knownG g (q.path.getD k 0) = true) (fun s => q.path.length - s.1) (0, -20000) ⟨Nat.zero_le _, rfl, fun k hk => absurd hk (Nat.not_lt_zero k)⟩ ?_ ?_
  · exact SubI.of0 href [] rfl ⟨⟨rfl, LeBx.rfl⟩, trivial⟩ ⟨⟨rfl, LeQ.rfl⟩, ⟨rfl, LeQ.rfl⟩, ⟨rfl, LeQ.rfl⟩, ⟨rfl, LeQ.rfl⟩, ⟨rfl, LeQ.rfl⟩, ⟨rfl, LeQ.rfl⟩, trivial⟩
  · rintro ⟨k, hi⟩ ⟨hk, he, hkn⟩
    simp only at hk he hkn ⊢
    refine ex.sound (rc := []) tab_ok mix href _ ?_
    refine And.intro (fun h1 => ?_) (fun h1 => ?_)
    · have h1 : (k : Int) < q.path.length := decT h1
      rw [show q.path.length - k = (q.path.length - (k + 1)) + 1 by omega, wayRest] at he
      refine oi ⟨by omega, by omega⟩ ?_
      refine callN (knownI g (q.path.getD k 0) (by omega)) ?_
      repeat first | refine sk ?_ | refine st ?_ | refine sg ?_ | refine sh ?_ | refine su ?_ | refine sn1 ?_ | refine sn0 ?_
      have ek : 0 < k → (w64 ((k : Int) - 1)).toNat = k - 1 := fun h => by rw [w64_of (by omega) (by omega)]; omega
      have hpos : ∀ {b : Bool}, (gpol false b && gpol true (decide ((k : Int) > 0))) = true → 0 < k := fun {b} h => by
        rw [Bool.and_eq_true] at h
        have : decide ((k : Int) > 0) = true := h.2
        have := of_decide_eq_true this
        omega
      refine og (fun h => ?_) ?_
      · have := hpos h
        show 0 ≤ w64 ((k : Int) - 1) ∧ w64 ((k : Int) - 1) < (q.path.length : Int)
        rw [w64_of (by omega) (by omega)]; omega
      repeat first | refine sk ?_ | refine st ?_ | refine sg ?_ | refine sh ?_ | refine su ?_ | refine sn1 ?_ | refine sn0 ?_
      refine callGo (r := vInts (nearL g (q.path.getD (w64 ((k : Int) - 1)).toNat 0))) (fun h => ?_) ?_
      · have hk0 := hpos h
        have hkk := hkn (k - 1) (by omega)
        unfold knownG at hkk
        rw [Bool.and_eq_true] at hkk
        have := there_iff.1 hkk.1
        rw [← ek hk0] at this
        exact near g _ hg this.1 this.2
      repeat first | refine sk ?_ | refine st ?_ | refine sg ?_ | refine sh ?_ | refine su ?_ | refine sn1 ?_ | refine sn0 ?_
      refine callG (ContainsI (nearL g (q.path.getD (w64 ((k : Int) - 1)).toNat 0)) (q.path.getD k 0) (Nat.le_trans nearL_len (by decide))) ?_
      repeat first | refine sk ?_ | refine st ?_ | refine sg ?_ | refine sh ?_ | refine su ?_ | refine sn1 ?_ | refine sn0 ?_
      refine And.intro (by kernel_rfl) ?_
      have hbad : wayBad g q.path k = (!knownG g (q.path.getD k 0) || (decide ((k : Int) > 0) && !(nearL g (q.path.getD (w64 ((k : Int) - 1)).toNat 0)).contains (q.path.getD k 0))) := by
        unfold wayBad
        by_cases hk0 : 0 < k
        · rw [ek hk0]
        · rw [decide_eq_false (by omega)]; simp
      refine And.intro (fun h2 => ?_) (fun h2 => ?_)
      · have h2 : (!knownG g (q.path.getD k 0) || (decide ((k : Int) > 0) && !(nearL g (q.path.getD (w64 ((k : Int) - 1)).toNat 0)).contains (q.path.getD k 0))) = true := h2
        rw [hbad, h2, cond_true] at he
        rw [he]
        exact SubR.t ⟨LeD.refl _, LeDlit, trivial⟩
      · have h2 : (!knownG g (q.path.getD k 0) || (decide ((k : Int) > 0) && !(nearL g (q.path.getD (w64 ((k : Int) - 1)).toNat 0)).contains (q.path.getD k 0))) = false := h2
        rw [hbad, h2, cond_false] at he
        have hkk : knownG g (q.path.getD k 0) = true := by
          rw [Bool.or_eq_false_iff] at h2
          simpa using h2.1
        have hth : 0 ≤ q.path.getD k 0 ∧ q.path.getD k 0 < g.levels.length := by
          unfold knownG at hkk
          rw [Bool.and_eq_true] at hkk
          exact there_iff.1 hkk.1
        refine oi ⟨hth.1, hth.2⟩ ?_
        refine ⟨(k + 1, mm true hi (levelAt g (q.path.getD k 0))), ⟨by simp only; omega, he, fun j hj => ?_⟩, by simp only; omega, ?_⟩
        · by_cases e : j = k
          · rw [e]; exact hkk
          · simp only at hj; exact hkn j (by omega)
        · exact SubI.of0 href [] rfl ⟨⟨rfl, LeBx.rfl⟩, trivial⟩ ⟨⟨rfl, LeQ.rfl⟩, ⟨rfl, LeQ.rfl⟩, ⟨rfl, LeQ.rfl⟩, ⟨rfl, LeQ.rfl⟩, ⟨rfl, LeQ.rfl⟩, ⟨rfl, LeQ.int (w64_of (by omega) (by omega))⟩, trivial⟩
    · have h1 : ¬ (k : Int) < q.path.length := decF h1
      obtain rfl : k = q.path.length := by omega
      rw [Nat.sub_self, wayRest] at he
      rw [he]
      exact SubR.t ⟨LeD.refl _, LeDlit, trivial⟩
end Go.Ch

namespace Go.Ch
open Go Go.Ax Go.Proofs Go.Proofs.Tryz
set_option maxRecDepth 100000
set_option pp.maxSteps 400
set_option maxHeartbeats 1000000

def barBad (g : Grid) (h : Int) (i : Int) : Bool := !knownG g i || decide (levelAt g i < h)
def wayF (g : Grid) (q : WayV) : List Int := wayL g.levels.length (okFree g q.bar) (nearL g) q.fr q.to
def checkG (g : Grid) (q : WayV) : Int :=
  bif endsG g q.fr q.to != 0 then endsG g q.fr q.to else
  bif !(isWayG g q).2 || ((isWayG g q).1 != q.level) then 21 else
  bif q.bar.any (barBad g (isWayG g q).1) then 21 else
  bif !(wayF g q).isEmpty then 21 else 0
theorem gCheckClear (g : Grid) (q : WayV) (hg : g.ok) (hq : q.sm) : CallP Tryz.prog 26 [grid g, wayA q] (vI (checkG g q)) := by
  have hb := hq.bar
  refine callP_of_ex (rc := [63]) (N := 65) Tryz.func26 rfl rfl Tryz.call26 tab_ok mix rfl rfl (fun cx href => ?_)
  refine callN (ends g q.fr q.to hg hq.fr hq.to) ?_
  unfold checkG
  refine And.intro (fun h => ?_) (fun h => ?_)
  · have h : (endsG g q.fr q.to != 0) = true := h
    rw [h, cond_true]
    exact SubR.refl _
  have h : (endsG g q.fr q.to != 0) = false := h
  rw [h, cond_false]
  have hv : GVal g := GVal.of (endsG_zero (by simpa using h)).1
  have hn := hv.n
  refine callN (isWay g q hv hq) ?_
  repeat first | refine sk ?_ | refine st ?_ | refine sg ?_ | refine sh ?_ | refine su ?_ | refine sn1 ?_ | refine sn0 ?_
  refine And.intro (fun h1 => ?_) (fun h1 => ?_)
  · have h1 : (!(isWayG g q).2 || ((isWayG g q).1 != q.level)) = true := h1
    rw [h1, cond_true]
    exact SubR.refl _
  have h1 : (!(isWayG g q).2 || ((isWayG g q).1 != q.level)) = false := h1
  rw [h1, cond_false]
  generalize hH : (isWayG g q).1 = H
  refine AW.loopI (fun i : Nat => ⟨[(2, .s (.ptr 2 0)), (3, .s (.ptr 3 0)), (6, vI H), (36, vInts q.bar), (37, vI q.bar.length), (38, vI i)], [(2, some (gridB g)), (3, some (wayB q))]⟩)
    (fun i => i ≤ q.bar.length ∧ q.bar.any (barBad g H) = (q.bar.drop i).any (barBad g H)) (fun i => q.bar.length - i) 0 ⟨Nat.zero_le _, rfl⟩ ?_ ?_
  · exact SubI.of0 href [] rfl ⟨⟨rfl, LeBx.rfl⟩, ⟨rfl, LeBx.rfl⟩, trivial⟩ ⟨⟨rfl, LeQ.rfl⟩, ⟨rfl, LeQ.rfl⟩, ⟨rfl, LeQ.rfl⟩, ⟨rfl, LeQ.rfl⟩, ⟨rfl, LeQ.rfl⟩, ⟨rfl, LeQ.rfl⟩, trivial⟩
  · rintro i ⟨hi, hj⟩
    refine ex.sound (rc := [63]) tab_ok mix href _ ?_
    refine And.intro (fun h2 => ?_) (fun h2 => ?_)
    · have h2 : (i : Int) < q.bar.length := decT h2
      have hi' : i < q.bar.length := by omega
      have hx : q.bar[i] = q.bar.getD i 0 := by simp [hi']
      rw [List.drop_eq_getElem_cons hi', List.any_cons, hx] at hj
      refine oi ⟨by omega, by omega⟩ ?_
      refine callN (knownI g (q.bar.getD i 0) (by omega)) ?_
      repeat first | refine sk ?_ | refine st ?_ | refine sg ?_ | refine sh ?_ | refine su ?_ | refine sn1 ?_ | refine sn0 ?_
      refine og (fun h => ?_) ?_
      · have h : (!(!knownG g (q.bar.getD i 0))) = true := h
        rw [Bool.not_not] at h
        unfold knownG at h
        rw [Bool.and_eq_true] at h
        exact there_iff.1 h.1
      repeat first | refine sk ?_ | refine st ?_ | refine sg ?_ | refine sh ?_ | refine su ?_ | refine sn1 ?_ | refine sn0 ?_
      refine And.intro (fun h3 => ?_) (fun h3 => ?_)
      · have h3 : barBad g H (q.bar.getD i 0) = true := h3
        rw [hj, h3, Bool.true_or, cond_true]
        exact SubR.refl _
      · have h3 : barBad g H (q.bar.getD i 0) = false := h3
        rw [h3, Bool.false_or] at hj
        refine ⟨i + 1, ⟨by omega, hj⟩, by omega, ?_⟩
        exact SubI.of0 href [] rfl ⟨⟨rfl, LeBx.rfl⟩, ⟨rfl, LeBx.rfl⟩, trivial⟩ ⟨⟨rfl, LeQ.rfl⟩, ⟨rfl, LeQ.rfl⟩, ⟨rfl, LeQ.rfl⟩, ⟨rfl, LeQ.rfl⟩, ⟨rfl, LeQ.rfl⟩, ⟨rfl, LeQ.int (w64_of (by omega) (by omega))⟩, trivial⟩
    · have h2 : ¬ (i : Int) < q.bar.length := decF h2
      obtain rfl : i = q.bar.length := by omega
      rw [hj, List.drop_length, List.any_nil, cond_false]
      refine ⟨[(1001, 3)], _, _, _, _, wayCheck g q q.fr q.to hv hq.fr hq.to hb, rfl, ⟨rfl, trivial⟩, rfl, ?_⟩
      refine And.intro (fun h3 => ?_) (fun h3 => ?_)
      · have h3 : decide (((wayF g q).length : Int) > 0) = true := h3
        have h3 := of_decide_eq_true h3
        have : (wayF g q).isEmpty = false := by
          cases hw : wayF g q with
          | nil => rw [hw] at h3; simp at h3
          | cons => rfl
        rw [this]
        exact SubR.refl _
      · have h3 : decide (((wayF g q).length : Int) > 0) = false := h3
        have h3 := of_decide_eq_false h3
        have : (wayF g q).isEmpty = true := by
          cases hw : wayF g q with
          | nil => rfl
          | cons a r => exfalso; rw [hw] at h3; simp only [List.length_cons] at h3; omega
        rw [this]
        exact SubR.refl _
end Go.Ch

namespace Go.Ch
open Go Go.Ax Go.Proofs Go.Proofs.Tryz
set_option maxRecDepth 100000
set_option pp.maxSteps 400
set_option maxHeartbeats 1000000

def smallG : Grid := ⟨0, 0, 100, 3, 2, [-500, -300, -400, -600, 30000, -450]⟩
def afterG : Grid := ⟨0, 0, 100, 3, 2, [-500, -500, -350, -600, -700, -450]⟩
def smallW : WayV := ⟨[3], [5], -300, [3, 0, 1, 2, 5], [1]⟩
theorem smallG_ok : smallG.ok := by
  refine ⟨by decide, by decide, by decide, by decide, by decide, by decide, ?_⟩
  intro a ha
  simp only [smallG, List.mem_cons, List.not_mem_nil, or_false] at ha
  rcases ha with rfl | rfl | rfl | rfl | rfl | rfl <;> decide
theorem afterG_ok : afterG.ok := by
  refine ⟨by decide, by decide, by decide, by decide, by decide, by decide, ?_⟩
  intro a ha
  simp only [afterG, List.mem_cons, List.not_mem_nil, or_false] at ha
  rcases ha with rfl | rfl | rfl | rfl | rfl | rfl <;> decide
theorem sortI_eq {l m : List Int} (h : l.Perm m) (hm : m.Pairwise (fun a b => a ≤ b)) : sortI l = m :=
  List.Perm.eq_of_pairwise (le := fun a b => a ≤ b) (fun a b _ _ h1 h2 => by omega) (sortI_pw l) hm ((List.mergeSort_perm l _).trans h)
theorem levels_small : levelsL smallG.levels = [-600, -500, -450, -400, -300] := sortI_eq (by decide) (by decide)
theorem clear_small : clearG smallG [3] [5] = (-300, [3, 0, 1, 2, 5], [1], 0) := by
  unfold clearG
  rw [levels_small]
  decide +kernel
theorem check_small : checkG smallG smallW = 0 := by decide +kernel
theorem cmp_small : cmpR smallG afterG = (⟨2000000, 500000, 1⟩, 0) := by kernel_rfl
theorem bsmall : CallP Tryz.prog 23 [] (grid smallG) := by
  refine callP_of_ex (rc := []) (N := 3) Tryz.func23 rfl rfl Tryz.call23 tab_ok mix rfl rfl (fun cx _ => ?_)
  refine SubR.le ⟨LeD.refl _, LeD.refl _, LeD.refl _, LeD.refl _, LeD.refl _, LeD.slc' rfl fun i j hi hj => ?_, trivial⟩
  have hi : i < 6 := hi
  obtain rfl : j = 0 := by have : j < 1 := hj; omega
  match i, hi with
  | 0, _ => exact LeD.of_eq rfl
  | 1, _ => exact LeD.of_eq rfl
  | 2, _ => exact LeD.of_eq rfl
  | 3, _ => exact LeD.of_eq rfl
  | 4, _ => exact LeD.of_eq rfl
  | 5, _ => exact LeD.of_eq rfl
theorem one1 {x : Int} {f : Nat → Nat → DV} (h : f 0 0 = dI x := by rfl) : LeD (.slc 1 1 f) (dInts [x]) := LeD.slc fun i j hi hj => by
  obtain rfl : i = 0 := by omega
  obtain rfl : j = 0 := by omega
  exact LeD.of_eq h
theorem bawake : CallP Tryz.prog 5 [] (vB true) := by
  have hc := gClear smallG [3] [5] smallG_ok (by decide) (by decide)
  rw [clear_small] at hc
  have hk := gCheckClear smallG smallW smallG_ok ⟨by decide, by decide, by decide, by decide⟩
  rw [check_small] at hk
  have hm := gCompare smallG afterG smallG_ok afterG_ok
  rw [cmp_small] at hm
  refine callP_of_ex (rc := [2000025]) (N := 47) Tryz.func5 rfl rfl Tryz.call5 tab_ok mix rfl rfl (fun cx href => ?_)
  refine callN bsmall ?_
  refine callN bsmall ?_
  refine callN (hm.conv (args' := _) ⟨⟨LeD.refl _, LeD.refl _, LeD.refl _, LeD.refl _, LeD.refl _, LeD.refl _, trivial⟩, ⟨LeD.refl _, LeD.refl _, LeD.refl _, LeD.refl _, LeD.refl _, ?_, trivial⟩, trivial⟩) ?_
  · refine LeD.slc' rfl fun i j hi hj => ?_
    have hi : i < 6 := hi
    obtain rfl : j = 0 := by have : j < 1 := hj; omega
    match i, hi with
    | 0, _ => exact LeD.of_eq rfl
    | 1, _ => exact LeD.of_eq rfl
    | 2, _ => exact LeD.of_eq rfl
    | 3, _ => exact LeD.of_eq rfl
    | 4, _ => exact LeD.of_eq rfl
    | 5, _ => exact LeD.of_eq rfl
  refine And.intro (by kernel_rfl) ?_
  refine callN bsmall ?_
  refine ⟨[17, 18], _, hc.conv (args' := _) ⟨⟨LeD.refl _, LeD.refl _, LeD.refl _, LeD.refl _, LeD.refl _, LeD.refl _, trivial⟩, one1, one1, trivial⟩, ?_⟩
  repeat first | refine sk ?_ | refine st ?_ | refine sg ?_ | refine sh ?_ | refine su ?_ | refine sn1 ?_ | refine sn0 ?_
  refine callG bsmall ?_
  repeat first | refine sk ?_ | refine st ?_ | refine sg ?_ | refine sh ?_ | refine su ?_ | refine sn1 ?_ | refine sn0 ?_
  refine ob (by kernel_rfl) ?_
  refine ob (by kernel_rfl) ?_
  repeat first | refine sk ?_ | refine st ?_ | refine sg ?_ | refine sh ?_ | refine su ?_ | refine sn1 ?_ | refine sn0 ?_
  refine callG (CallP.conv hk ?_) ?_
  · exact ⟨⟨LeD.refl _, LeD.refl _, LeD.refl _, LeD.refl _, LeD.refl _, LeD.refl _, trivial⟩, ⟨one1, one1, LeD.refl _, LeD.refl _, LeD.refl _, trivial⟩, trivial⟩
  repeat first | refine sk ?_ | refine st ?_ | refine sg ?_ | refine sh ?_ | refine su ?_ | refine sn1 ?_ | refine sn0 ?_
  refine And.intro (by kernel_rfl) ?_
  exact SubR.lit (by kernel_rfl)
end Go.Ch

namespace Go.Ch
open Go Go.Ax Go.Proofs Go.Proofs.Tryz
set_option maxRecDepth 100000
set_option pp.maxSteps 400
set_option maxHeartbeats 1000000

def withG (g : Grid) (lv : Nat → Int) : Grid := ⟨g.x, g.y, g.side, g.cols, g.rows, (List.range g.levels.length).map lv⟩
def wF (lv : Nat → Int) (i : Nat) : Nat → Nat → DV := fun k _ => if k < i then dI (lv k) else dI 0
def blankG (g : Grid) : Grid × Int := bif errG g != 0 then (zeroG, errG g) else (withG g fun _ => 30000, 0)
theorem GVal.pos {g : Grid} (h : GVal g) : 0 < g.levels.length := by
  have h1 := h.len
  have h2 := h.cols
  have h3 := h.rows
  have : 0 < g.cols * g.rows := Int.mul_pos (by omega) (by omega)
  omega
end Go.Ch

namespace Go.Ch
open Go Go.Ax Go.Proofs Go.Proofs.Tryz
set_option maxRecDepth 100000
set_option pp.maxSteps 400
set_option maxHeartbeats 1000000

theorem bzero : CallP Tryz.prog 12 [grid zeroG] (vB true) := by
  refine callP_of_ex (rc := []) (N := 6) Tryz.func12 rfl rfl Tryz.call12 tab_ok mix rfl rfl (fun cx _ => ?_)
  refine callN ((rSame zeroG (by decide)).conv (args' := _) ⟨⟨LeD.refl _, LeD.refl _, LeD.refl _, LeD.refl _, LeD.refl _, LeD.refl _, trivial⟩, ⟨LeD.refl _, LeD.refl _, LeD.refl _, LeD.refl _, LeD.refl _, LeD.nil, trivial⟩, trivial⟩) ?_
  exact SubR.refl _
theorem alike_with (g : Grid) (lv : Nat → Int) : alike (withG g lv) g = true := by
  unfold alike withG
  simp
end Go.Ch

/- Texts: bytes, numerals. -/
namespace Go.Ch
open Go Go.Ax Go.Proofs Go.Proofs.Tryz
set_option maxRecDepth 100000
set_option pp.maxSteps 400
set_option maxHeartbeats 1000000

def bs (l : List UInt8) : ByteArray := ⟨l.toArray⟩
abbrev dT (l : List UInt8) : DV := .val (.string (bs l))
abbrev vT (l : List UInt8) : AV := .s (.d (dT l))
theorem bs_size (l : List UInt8) : (bs l).size = l.length := by simp [bs, ByteArray.size]
theorem bs_add (a b : List UInt8) : bs a ++ bs b = bs (a ++ b) := by
  apply ByteArray.ext
  simp [bs, ByteArray.data_append]
theorem bs_extract (l : List UInt8) (i j : Nat) : (bs l).extract i j = bs ((l.take j).drop i) := by
  apply ByteArray.ext
  simp [bs, ByteArray.data_extract, List.drop_take]
theorem bs_toList (l : List UInt8) : (bs l).toList = l := by
  rw [ByteArray.toList_eq]; rfl

open Go.Lib in
theorem nDigits_le : ∀ (n u : Nat), u ≤ n → nDigits u ≤ u / 10 + 2
  | n, u, h => by
    by_cases hu : u < 10
    · rw [nDigits_small hu]; omega
    · rw [nDigits_big hu]
      match n with
      | 0 => omega
      | n + 1 =>
        have := nDigits_le n (u / 10) (by omega)
        omega
def chr10 (d : Nat) : UInt8 := UInt8.ofNat (48 + d)
abbrev tenS : ByteArray := ⟨#[48, 49, 50, 51, 52, 53, 54, 55, 56, 57]⟩
theorem ten_piece : ∀ d : Fin 10, tenS.extract d.val (d.val + 1) = bs [chr10 d.val] := by decide +kernel
theorem bs_beq (l : List UInt8) : ((bs l).toList == (bs []).toList) = l.isEmpty := by
  rw [bs_toList, bs_toList]; cases l <;> rfl
open Go.Lib in
theorem dec_step {u : Nat} (h : ¬ u < 10) : decDigits u = decDigits (u / 10) ++ [chr10 (u % 10)] := by rw [decDigits, dif_neg h]; rfl
open Go.Lib in
theorem dec_one {u : Nat} (h : u < 10) : decDigits u = [chr10 u] := by rw [decDigits, dif_pos h]; rfl
open Go.Lib in
theorem dec_ne (u : Nat) : decDigits u ≠ [] := by
  by_cases h : u < 10
  · rw [dec_one h]; simp
  · rw [dec_step h]; simp
open Go.Lib in
/-- What holds at each step of Decimal. -/
def DecJ (n0 : Int) (q : Int × List UInt8) : Prop := (q.2 ≠ [] ∧ q.1 = 0 ∧ q.2 = decDigits n0.natAbs) ∨ ((q.1 ≠ 0 ∨ q.2 = []) ∧ decDigits q.1.natAbs ++ q.2 = decDigits n0.natAbs ∧ q.1.natAbs ≤ n0.natAbs)
def digD (n : Int) : Int := mm true (n.tmod 10) (w64 (0 - n.tmod 10))
theorem digD_eq (n : Int) : digD n = ((n.natAbs % 10 : Nat) : Int) := by
  have h1 := Int.tmod_add_mul_tdiv n 10
  have h2 := Int.tmod_lt_of_pos n (show (0 : Int) < 10 by decide)
  have h3 : -10 < n.tmod 10 := by
    have := Int.tmod_lt_of_pos (-n) (show (0 : Int) < 10 by decide)
    rw [Int.neg_tmod] at this; omega
  unfold digD
  rw [w64_of (by omega) (by omega)]
  unfold mm
  simp only
  rcases Int.le_total 0 n with h | h
  · rw [Int.tmod_eq_emod_of_nonneg h] at *
    split <;> omega
  · have e : n.tmod 10 = -((-n) % 10) := by rw [← Int.tmod_eq_emod_of_nonneg (by omega : (0 : Int) ≤ -n), Int.neg_tmod, Int.neg_neg]
    rw [e] at *
    split <;> omega
theorem divD_eq (n : Int) : (n.tdiv 10).natAbs = n.natAbs / 10 := by
  rw [Int.natAbs_tdiv]; rfl
open Go.Lib in
theorem Decimal (n : Int) (h0 : -9223372036854775808 < n) (h1 : n ≤ 9223372036854775807) : CallP Tryz.prog 34 [vI n] (vT (itoa n)) := by
  refine callP_of_ex (rc := []) (N := 31) Tryz.func34 rfl rfl Tryz.call34 tab_ok mix rfl rfl (fun cx href => ?_)
  refine And.intro (fun h => ?_) (fun h => ?_)
  · have h : n < 0 := decT h
    refine AW.loopI (fun q : Int × List UInt8 => ⟨[(0, vI q.1), (3, vT [45]), (4, vT q.2)], []⟩) (DecJ n) (fun q => q.1.natAbs + (if q.2 = [] then 1 else 0)) (n, []) (.inr ⟨.inr rfl, by simp, Nat.le_refl _⟩) ?_ ?_
    · exact SubI.of0 href [] rfl trivial ⟨⟨rfl, LeQ.rfl⟩, ⟨rfl, LeQ.rfl⟩, ⟨rfl, LeQ.rfl⟩, trivial⟩
    · rintro ⟨m, s⟩ hJ
      refine ex.sound (rc := []) tab_ok mix href _ ?_
      repeat first | refine sk ?_ | refine st ?_ | refine sg ?_ | refine sh ?_ | refine su ?_ | refine sn1 ?_ | refine sn0 ?_
      refine And.intro (fun h2 => ?_) (fun h2 => ?_)
      · have h2 : (((bs s).toList == (bs []).toList) || (m != 0)) = true := h2
        rw [bs_beq] at h2
        obtain ⟨hd, e, hle⟩ : (m ≠ 0 ∨ s = []) ∧ decDigits m.natAbs ++ s = decDigits n.natAbs ∧ m.natAbs ≤ n.natAbs := by
          rcases hJ with ⟨q1, q2, _⟩ | h
          · exfalso
            simp only at q1 q2
            rw [q2] at h2
            cases s with
            | nil => exact q1 rfl
            | cons _ _ => cases h2
          · exact h
        have hdg := digD_eq m
        have hlen : s.length ≤ n.natAbs / 10 + 2 := by
          have := congrArg List.length e
          rw [List.length_append, decDigits_length n.natAbs] at this
          have := nDigits_le n.natAbs n.natAbs (Nat.le_refl _)
          omega
        have hw : w64 (digD m + 1) = digD m + 1 := w64_of (by omega) (by omega)
        have hp : tenS.extract (digD m).toNat (w64 (digD m + 1)).toNat = bs [chr10 (m.natAbs % 10)] := by
          rw [hw, hdg]
          exact ten_piece ⟨m.natAbs % 10, by omega⟩
        refine oi (by decide) ?_
        refine oi (by decide) ?_
        refine oi ⟨by show 0 ≤ digD m; omega, by show digD m ≤ w64 (digD m + 1); omega, by show w64 (digD m + 1) ≤ 10; omega⟩ ?_
        refine oi (show (tenS.extract (digD m).toNat (w64 (digD m + 1)).toNat).size + (bs s).size ≤ 9223372036854775807 by rw [hp, bs_size, bs_size]; simp; omega) ?_
        refine oi (by decide) ?_
        have hdv := divD_eq m
        have hr : m.tdiv 10 = w64 (m.tdiv 10) := (w64_of (by omega) (by omega)).symm
        refine ⟨(m.tdiv 10, chr10 (m.natAbs % 10) :: s), ?_, ?_, ?_⟩
        · by_cases h10 : m.natAbs < 10
          · left
            refine ⟨by simp, by show m.tdiv 10 = 0; omega, ?_⟩
            show chr10 (m.natAbs % 10) :: s = _
            rw [← e, dec_one h10, Nat.mod_eq_of_lt h10]; rfl
          · right
            refine ⟨.inl (by show m.tdiv 10 ≠ 0; omega), ?_, by show (m.tdiv 10).natAbs ≤ _; omega⟩
            show decDigits (m.tdiv 10).natAbs ++ chr10 (m.natAbs % 10) :: s = _
            rw [← e, dec_step h10, hdv]; simp
        · show (m.tdiv 10).natAbs + (if chr10 (m.natAbs % 10) :: s = [] then 1 else 0) < m.natAbs + (if s = [] then 1 else 0)
          rw [if_neg (by simp), hdv]
          rcases hd with h | h
          · split <;> omega
          · rw [if_pos h]; omega
        · exact SubI.of0 href [] rfl trivial ⟨⟨rfl, LeQ.int hr.symm⟩, ⟨rfl, LeQ.rfl⟩, ⟨rfl, LeQ.of_eq (congrArg (fun x => AV.s (.d (.val (.string x)))) ((congrArg (· ++ bs s) hp).trans (bs_add _ _)))⟩, trivial⟩
      · have h2 : (((bs s).toList == (bs []).toList) || (m != 0)) = false := h2
        rw [bs_beq, Bool.or_eq_false_iff] at h2
        have hs : s = decDigits n.natAbs := by
          rcases hJ with ⟨_, _, q3⟩ | ⟨q1, _, _⟩
          · exact q3
          · exfalso
            simp only at q1
            rcases q1 with q1 | q1
            · have := h2.2; simp at this; exact q1 this
            · rw [q1] at h2; cases h2.1
        have hlen : s.length ≤ n.natAbs / 10 + 2 := by
          rw [hs, decDigits_length]
          exact nDigits_le n.natAbs n.natAbs (Nat.le_refl _)
        refine oi (show (bs [45]).size + (bs s).size ≤ 9223372036854775807 by rw [bs_size, bs_size]; simp; omega) ?_
        refine SubR.of_eq (congrArg (fun x => AV.s (.d (.val (.string x)))) ((bs_add _ _).trans (congrArg bs ?_)))
        rw [hs]
        unfold itoa
        rw [if_pos h]; rfl
  · have h : ¬ n < 0 := decF h
    refine AW.loopI (fun q : Int × List UInt8 => ⟨[(0, vI q.1), (3, vT []), (4, vT q.2)], []⟩) (DecJ n) (fun q => q.1.natAbs + (if q.2 = [] then 1 else 0)) (n, []) (.inr ⟨.inr rfl, by simp, Nat.le_refl _⟩) ?_ ?_
    · exact SubI.of0 href [] rfl trivial ⟨⟨rfl, LeQ.rfl⟩, ⟨rfl, LeQ.rfl⟩, ⟨rfl, LeQ.rfl⟩, trivial⟩
    · rintro ⟨m, s⟩ hJ
      refine ex.sound (rc := []) tab_ok mix href _ ?_
      repeat first | refine sk ?_ | refine st ?_ | refine sg ?_ | refine sh ?_ | refine su ?_ | refine sn1 ?_ | refine sn0 ?_
      refine And.intro (fun h2 => ?_) (fun h2 => ?_)
      · have h2 : (((bs s).toList == (bs []).toList) || (m != 0)) = true := h2
        rw [bs_beq] at h2
        obtain ⟨hd, e, hle⟩ : (m ≠ 0 ∨ s = []) ∧ decDigits m.natAbs ++ s = decDigits n.natAbs ∧ m.natAbs ≤ n.natAbs := by
          rcases hJ with ⟨q1, q2, _⟩ | h
          · exfalso
            simp only at q1 q2
            rw [q2] at h2
            cases s with
            | nil => exact q1 rfl
            | cons _ _ => cases h2
          · exact h
        have hdg := digD_eq m
        have hlen : s.length ≤ n.natAbs / 10 + 2 := by
          have := congrArg List.length e
          rw [List.length_append, decDigits_length n.natAbs] at this
          have := nDigits_le n.natAbs n.natAbs (Nat.le_refl _)
          omega
        have hw : w64 (digD m + 1) = digD m + 1 := w64_of (by omega) (by omega)
        have hp : tenS.extract (digD m).toNat (w64 (digD m + 1)).toNat = bs [chr10 (m.natAbs % 10)] := by
          rw [hw, hdg]
          exact ten_piece ⟨m.natAbs % 10, by omega⟩
        refine oi (by decide) ?_
        refine oi (by decide) ?_
        refine oi ⟨by show 0 ≤ digD m; omega, by show digD m ≤ w64 (digD m + 1); omega, by show w64 (digD m + 1) ≤ 10; omega⟩ ?_
        refine oi (show (tenS.extract (digD m).toNat (w64 (digD m + 1)).toNat).size + (bs s).size ≤ 9223372036854775807 by rw [hp, bs_size, bs_size]; simp; omega) ?_
        refine oi (by decide) ?_
        have hdv := divD_eq m
        have hr : m.tdiv 10 = w64 (m.tdiv 10) := (w64_of (by omega) (by omega)).symm
        refine ⟨(m.tdiv 10, chr10 (m.natAbs % 10) :: s), ?_, ?_, ?_⟩
        · by_cases h10 : m.natAbs < 10
          · left
            refine ⟨by simp, by show m.tdiv 10 = 0; omega, ?_⟩
            show chr10 (m.natAbs % 10) :: s = _
            rw [← e, dec_one h10, Nat.mod_eq_of_lt h10]; rfl
          · right
            refine ⟨.inl (by show m.tdiv 10 ≠ 0; omega), ?_, by show (m.tdiv 10).natAbs ≤ _; omega⟩
            show decDigits (m.tdiv 10).natAbs ++ chr10 (m.natAbs % 10) :: s = _
            rw [← e, dec_step h10, hdv]; simp
        · show (m.tdiv 10).natAbs + (if chr10 (m.natAbs % 10) :: s = [] then 1 else 0) < m.natAbs + (if s = [] then 1 else 0)
          rw [if_neg (by simp), hdv]
          rcases hd with h | h
          · split <;> omega
          · rw [if_pos h]; omega
        · exact SubI.of0 href [] rfl trivial ⟨⟨rfl, LeQ.int hr.symm⟩, ⟨rfl, LeQ.rfl⟩, ⟨rfl, LeQ.of_eq (congrArg (fun x => AV.s (.d (.val (.string x)))) ((congrArg (· ++ bs s) hp).trans (bs_add _ _)))⟩, trivial⟩
      · have h2 : (((bs s).toList == (bs []).toList) || (m != 0)) = false := h2
        rw [bs_beq, Bool.or_eq_false_iff] at h2
        have hs : s = decDigits n.natAbs := by
          rcases hJ with ⟨_, _, q3⟩ | ⟨q1, _, _⟩
          · exact q3
          · exfalso
            simp only at q1
            rcases q1 with q1 | q1
            · have := h2.2; simp at this; exact q1 this
            · rw [q1] at h2; cases h2.1
        have hlen : s.length ≤ n.natAbs / 10 + 2 := by
          rw [hs, decDigits_length]
          exact nDigits_le n.natAbs n.natAbs (Nat.le_refl _)
        refine oi (show (bs []).size + (bs s).size ≤ 9223372036854775807 by rw [bs_size, bs_size]; simp; omega) ?_
        refine SubR.of_eq (congrArg (fun x => AV.s (.d (.val (.string x)))) ((bs_add _ _).trans (congrArg bs ?_)))
        rw [hs]
        unfold itoa
        rw [if_neg h, show n.natAbs = n.toNat by omega]; rfl
end Go.Ch
