/- Part Ch4: lemmas that the proofs of this seat share; by itself it claims nothing. -/
import Derived.Test.YtbocnnfadfbmeaaGreatCh3
namespace Go.Ch
open Go Go.Ax Go.Proofs Go.Proofs.Tryz
set_option maxRecDepth 100000
set_option pp.maxSteps 400
set_option maxHeartbeats 1000000

abbrev prtA (x : Prt) : AV := .g (prtS x)
theorem indexFuncX (l : List Prt) (hl : l.length ≤ 9223372036854775807) (f k : Nat) (c : Nat → DV) (p : Prt → Bool) (hp : ∀ x ∈ l, CallP Tryz.prog f (prtA x :: capD c k 0) (vB (p x))) :
    CallP Tryz.prog 90 [.s (.d (dPrts l)), .s (.d (.clo f k c))] (vI (idxF p l 0)) := by
  refine callP_of_ex (rc := []) (N := 19) Tryz.func90 rfl rfl Tryz.call90 tab_ok mix rfl rfl (fun cx href => ?_)
  refine AW.loop (fun i : Nat => ⟨[(0, .s (.d (dPrts l))), (1, .s (.d (.clo f k c))), (7, vI l.length), (8, vI i), (4, vI 0)], []⟩) (fun i => i ≤ l.length ∧ idxF p l 0 = idxF p (l.drop i) i) (fun i => l.length - i) 0 ⟨Nat.zero_le _, rfl⟩ ?_ ?_
  · refine Sub.of0 href trivial ⟨⟨rfl, rfl⟩, ⟨rfl, rfl⟩, ⟨rfl, rfl⟩, ⟨rfl, rfl⟩, ⟨rfl, rfl⟩, trivial⟩
  · rintro i ⟨hi, he⟩
    refine ex.sound (rc := []) tab_ok mix href _ ?_
    refine And.intro (fun h => ?_) (fun h => ?_)
    · have h : (i : Int) < l.length := decT h
      have hi' : i < l.length := by omega
      have hd : l.drop i = l[i] :: l.drop (i + 1) := List.drop_eq_getElem_cons hi'
      have hg : l.getD i default = l[i] := getD_of hi'
      refine oi ⟨by omega, by omega⟩ ?_
      refine callN ((hp (l.getD i default) (by rw [hg]; simp)).conv (args' := _) ⟨⟨LeD.refl _, LeD.refl _, LeD.refl _, LeD.refl _, trivial⟩, LeAs.capD⟩) ?_
      rw [hd, idxF] at he
      rw [hg]
      refine And.intro (fun h => ?_) (fun h => ?_)
      · refine SubR.of_eq ?_
        rw [he, h]; rfl
      · refine ⟨i + 1, ⟨by omega, ?_⟩, by omega, ?_⟩
        · rw [he, h]; rfl
        · refine Sub.of0 href trivial ⟨⟨rfl, rfl⟩, ⟨rfl, rfl⟩, ⟨rfl, rfl⟩, ⟨rfl, ?_⟩, ⟨rfl, rfl⟩, trivial⟩
          exact congrArg vI (w64_of (by omega) (by omega))
    · have h : ¬ (i : Int) < l.length := decF h
      have hi' : i = l.length := by omega
      subst hi'
      refine SubR.of_eq ?_
      rw [he, List.drop_length]; rfl
theorem containsX (l : List Prt) (hl : l.length ≤ 9223372036854775807) (f k : Nat) (c : Nat → DV) (p : Prt → Bool) (hp : ∀ x ∈ l, CallP Tryz.prog f (prtA x :: capD c k 0) (vB (p x))) :
    CallP Tryz.prog 57 [.s (.d (dPrts l)), .s (.d (.clo f k c))] (vB (l.any p)) := by
  refine callP_of_ex (rc := []) (N := 9) Tryz.func57 rfl rfl Tryz.call57 tab_ok mix rfl rfl (fun cx href => ?_)
  refine callN (indexFuncX l hl f k c p hp) ?_
  exact SubR.of_eq (congrArg vB (idxF_any p l 0))
def onBot (x : Prt) : Bool := decide (x.offset ≤ x.half)
theorem bottom1 (x : Prt) : CallP Tryz.prog 59 [prtA x] (vB (onBot x)) := by
  refine callP_of_ex (rc := []) (N := 8) Tryz.func59 rfl rfl Tryz.call59 tab_ok mix rfl rfl (fun cx href => ?_)
  exact SubR.refl _
def botF (c : Chan) (p : Pt) : Bool := (partsL c p).any onBot
theorem parts_len (c : Chan) (p : Pt) : (partsL c p).length ≤ 2 * c.axis.length := by
  unfold partsL legsL bendsL
  rw [List.length_append]
  have h1 := List.length_filterMap_le (fun k => legF c k p) (List.range (c.axis.length - 1))
  have h2 := List.length_filterMap_le (fun k => bendN c k p) (List.range (c.axis.length - 2))
  rw [List.length_range] at h1 h2
  omega
theorem bottom (c : Chan) (p : Pt) (hv : Val c) (hp : good p = true) : CallP Tryz.prog 29 [chan c, pt p] (vB (botF c p)) := by
  have hl := parts_len c p
  have h20 := hv.n20
  refine callP_of_ex (rc := []) (N := 9) Tryz.func29 rfl rfl Tryz.call29 tab_ok mix rfl rfl (fun cx href => ?_)
  refine callN (parts c p hv hp) ?_
  refine callN ((containsX (partsL c p) (by omega) 59 0 (fun _ => .junk) onBot (fun x _ => bottom1 x)).conv (args' := _) ⟨LeD.refl _, LeD.clo fun j hj => absurd hj (Nat.not_lt_zero j), trivial⟩) ?_
  exact SubR.refl _
theorem botF_holds (c : Chan) (p : Pt) (h2 : 2 ≤ c.axis.length) : (holdsL c p (c.axis.length - 1)).any onBot = botF c p := by
  unfold botF
  rw [Bool.eq_iff_iff, List.any_eq_true, List.any_eq_true]
  exact ⟨fun ⟨x, hx, h⟩ => ⟨x, (parts_holds c p h2 x).2 hx, h⟩, fun ⟨x, hx, h⟩ => ⟨x, (parts_holds c p h2 x).1 hx, h⟩⟩
theorem rBottom (c : Chan) (p : Pt) (hv : Val c) (hp : good p = true) : CallP Tryz.prog 35 [chan c, pt p] (vB (botF c p)) := by
  have hl := holdsL_len c p (c.axis.length - 1)
  have h20 := hv.n20
  rw [← botF_holds c p hv.n2]
  generalize hL : holdsL c p (c.axis.length - 1) = L at *
  refine callP_of_ex (rc := []) (N := 27) Tryz.func35 rfl rfl Tryz.call35 tab_ok mix rfl rfl (fun cx href => ?_)
  refine callN (holds c p hv hp) ?_
  rw [hL]
  refine AW.loopI (fun i : Nat => ⟨[(5, .s (.d (dPrts L))), (6, vI i)], []⟩) (fun i => i ≤ L.length ∧ ∀ j, j < i → onBot (L.getD j default) = false) (fun i => L.length - i) 0 ⟨Nat.zero_le _, fun j hj => absurd hj (Nat.not_lt_zero j)⟩ ?_ ?_
  · exact SubI.of0 href [] rfl trivial ⟨⟨rfl, LeQ.rfl⟩, ⟨rfl, LeQ.rfl⟩, trivial⟩
  · rintro i ⟨hi, hj⟩
    refine ex.sound (rc := []) tab_ok mix href _ ?_
    refine And.intro (fun h => ?_) (fun h => ?_)
    · have h : (i : Int) < L.length := decT h
      refine oi ⟨by omega, by omega⟩ ?_
      refine oi ⟨by omega, by omega⟩ ?_
      refine And.intro (by kernel_rfl) ?_
      refine And.intro (fun h2 => ?_) (fun h2 => ?_)
      · have h2 : onBot (L.getD i default) = true := h2
        exact SubR.lit (any_getD onBot L i (by omega) h2).symm
      · have h2 : onBot (L.getD i default) = false := h2
        refine ⟨i + 1, ⟨by omega, fun j hj' => ?_⟩, by omega, ?_⟩
        · by_cases hji : j = i
          · rw [hji]; exact h2
          · exact hj j (by omega)
        · exact SubI.of0 href [] rfl trivial ⟨⟨rfl, LeQ.rfl⟩, ⟨rfl, LeQ.int (w64_of (by omega) (by omega))⟩, trivial⟩
    · have h : ¬ (i : Int) < L.length := decF h
      exact SubR.lit (any_drop onBot L fun j hj' => hj j (by omega)).symm

def lv (g : Grid) (k : Int) : Int := g.levels.getD k.toNat 0
def botI (c : Chan) (g : Grid) (i : Nat) : Bool := botF c (centreG g i)
def stepC (g : Grid) (r : Int × Bool) (i : Nat) : Int × Bool := (bif decide (r.1 < 0) || decide (lv g i > lv g r.1) then (i : Int) else r.1, r.2 || lv g i == 30000)
def contF (c : Chan) (g : Grid) : Nat → Int × Bool
  | 0 => (-1, false)
  | i + 1 => bif !botI c g i then contF c g i else stepC g (contF c g i) i
def ctlR (c : Chan) (g : Grid) : Int × Int := bif withErr c [g] != 0 then (0, withErr c [g]) else bif decide ((contF c g g.levels.length).1 < 0) then (0, 11) else bif (contF c g g.levels.length).2 then (0, 12) else ((contF c g g.levels.length).1, 0)
theorem withErr1_zero {c : Chan} {g : Grid} (h : withErr c [g] = 0) : errC c = 0 ∧ errG g = 0 := by
  rw [withErr1] at h
  cases h1 : errC c != 0 with
  | true => rw [h1] at h; simp at h1; exact absurd h h1
  | false => rw [h1] at h; exact ⟨by simpa using h1, h⟩
theorem contF_in (c : Chan) (g : Grid) : ∀ i, -1 ≤ (contF c g i).1 ∧ (contF c g i).1 < i
  | 0 => by simp [contF]
  | i + 1 => by
    have ih := contF_in c g i
    rw [contF]
    cases h : botI c g i with
    | false => simp only [Bool.not_false, cond_true]; omega
    | true =>
      simp only [Bool.not_true, cond_false]
      unfold stepC
      cases h2 : decide ((contF c g i).1 < 0) || decide (lv g i > lv g (contF c g i).1) with
      | true => simp only [cond_true]; omega
      | false => simp only [cond_false]; omega
theorem Controlling (c : Chan) (g : Grid) (hc : c.ok) (hg : g.ok) : CallP Tryz.prog 15 [chan c, grid g] (rIE (ctlR c g).1 (ctlR c g).2) := by
  refine callP_of_ex (rc := []) (N := 55) Tryz.func15 rfl rfl Tryz.call15 tab_ok mix rfl rfl (fun cx href => ?_)
  refine callN (cboth c g hc hg) ?_
  refine And.intro (fun h => ?_) (fun h => ?_)
  · have h : (withErr c [g] != 0) = true := h
    have e : ctlR c g = (0, withErr c [g]) := by unfold ctlR; rw [h]; rfl
    rw [e]
    exact SubR.t ⟨fun _ _ r => r, LeD.refl _, trivial⟩
  have h : (withErr c [g] != 0) = false := h
  obtain ⟨hc0, hg0⟩ := withErr1_zero (by simpa using h)
  have hv := val_of c hc0
  have gv := GVal.of hg0
  have hn := gv.n
  have e : ctlR c g = bif decide ((contF c g g.levels.length).1 < 0) then (0, 11) else bif (contF c g g.levels.length).2 then (0, 12) else ((contF c g g.levels.length).1, 0) := by unfold ctlR; rw [h]; rfl
  rw [e]
  refine AW.loopI (fun i : Nat => ⟨[(2, .s (.ptr 2 0)), (3, .s (.ptr 3 0)), (7, vI (contF c g i).1), (8, vB (contF c g i).2), (18, vInts g.levels), (19, vI g.levels.length), (20, vI i)], [(2, some (chanB c)), (3, some (gridB g))]⟩)
    (fun i => i ≤ g.levels.length) (fun i => g.levels.length - i) 0 (Nat.zero_le _) ?_ ?_
  · exact SubI.of0 href [] rfl ⟨⟨rfl, LeBx.rfl⟩, ⟨rfl, LeBx.rfl⟩, trivial⟩ ⟨⟨rfl, LeQ.rfl⟩, ⟨rfl, LeQ.rfl⟩, ⟨rfl, LeQ.rfl⟩, ⟨rfl, LeQ.lit rfl⟩, ⟨rfl, LeQ.rfl⟩, ⟨rfl, LeQ.rfl⟩, ⟨rfl, LeQ.rfl⟩, trivial⟩
  · intro i hi
    have hin := contF_in c g i
    refine ex.sound (rc := []) tab_ok mix href _ ?_
    refine And.intro (fun h1 => ?_) (fun h1 => ?_)
    · have h1 : (i : Int) < g.levels.length := decT h1
      have hi' : i < g.levels.length := by omega
      have hgd := (centre_good gv hi').1
      refine oi ⟨by omega, by omega⟩ ?_
      refine callN (ccentre g i hg0 (by omega) (by omega) (by omega)) ?_
      refine callN (bottom c (centreG g i) hv hgd) ?_
      refine And.intro (by kernel_rfl) ?_
      refine And.intro (fun h2 => ?_) (fun h2 => ?_)
      · have h2 : (!botI c g i) = true := h2
        have e' : contF c g (i + 1) = contF c g i := by rw [contF, h2]; rfl
        refine ⟨i + 1, by omega, by omega, ?_⟩
        exact SubI.of0 href [] rfl ⟨⟨rfl, LeBx.rfl⟩, ⟨rfl, LeBx.rfl⟩, trivial⟩ ⟨⟨rfl, LeQ.rfl⟩, ⟨rfl, LeQ.rfl⟩, ⟨rfl, LeQ.int (by rw [e'])⟩, ⟨rfl, LeQ.bool (by rw [e'])⟩, ⟨rfl, LeQ.rfl⟩, ⟨rfl, LeQ.rfl⟩, ⟨rfl, LeQ.int (w64_of (by omega) (by omega))⟩, trivial⟩
      · have h2 : (!botI c g i) = false := h2
        have e' : contF c g (i + 1) = stepC g (contF c g i) i := by rw [contF, h2]; rfl
        repeat first | refine sk ?_ | refine st ?_ | refine sg ?_ | refine sh ?_ | refine su ?_ | refine sn1 ?_ | refine sn0 ?_
        refine og (fun hb => ?_) ?_
        · have hb : (!decide ((contF c g i).1 < 0)) = true := hb
          simp only [Bool.not_eq_true', decide_eq_false_iff_not] at hb
          exact ⟨by omega, by omega⟩
        repeat first | refine sk ?_ | refine st ?_ | refine sg ?_ | refine sh ?_ | refine su ?_ | refine sn1 ?_ | refine sn0 ?_
        refine And.intro (fun h3 => ?_) (fun h3 => ?_)
        · have h3 : (decide ((contF c g i).1 < 0) || decide (lv g i > lv g (contF c g i).1)) = true := h3
          refine ⟨i + 1, by omega, by omega, ?_⟩
          exact SubI.of0 href [] rfl ⟨⟨rfl, LeBx.rfl⟩, ⟨rfl, LeBx.rfl⟩, trivial⟩ ⟨⟨rfl, LeQ.rfl⟩, ⟨rfl, LeQ.rfl⟩, ⟨rfl, LeQ.int (by rw [e', stepC, h3]; rfl)⟩, ⟨rfl, LeQ.bool (by rw [e', stepC]; rfl)⟩, ⟨rfl, LeQ.rfl⟩, ⟨rfl, LeQ.rfl⟩, ⟨rfl, LeQ.int (w64_of (by omega) (by omega))⟩, trivial⟩
        · have h3 : (decide ((contF c g i).1 < 0) || decide (lv g i > lv g (contF c g i).1)) = false := h3
          refine ⟨i + 1, by omega, by omega, ?_⟩
          exact SubI.of0 href [] rfl ⟨⟨rfl, LeBx.rfl⟩, ⟨rfl, LeBx.rfl⟩, trivial⟩ ⟨⟨rfl, LeQ.rfl⟩, ⟨rfl, LeQ.rfl⟩, ⟨rfl, LeQ.int (by rw [e', stepC, h3]; rfl)⟩, ⟨rfl, LeQ.bool (by rw [e', stepC]; rfl)⟩, ⟨rfl, LeQ.rfl⟩, ⟨rfl, LeQ.rfl⟩, ⟨rfl, LeQ.int (w64_of (by omega) (by omega))⟩, trivial⟩
    · have h1 : ¬ (i : Int) < g.levels.length := decF h1
      obtain rfl : i = g.levels.length := by omega
      refine And.intro (fun h2 => ?_) (fun h2 => ?_)
      · have h2 : decide ((contF c g g.levels.length).1 < 0) = true := h2
        rw [h2]
        exact SubR.t ⟨fun _ _ r => r, fun _ _ r => r, trivial⟩
      · have h2 : decide ((contF c g g.levels.length).1 < 0) = false := h2
        rw [h2]
        refine And.intro (fun h3 => ?_) (fun h3 => ?_)
        · have h3 : (contF c g g.levels.length).2 = true := h3
          rw [h3]
          exact SubR.t ⟨fun _ _ r => r, fun _ _ r => r, trivial⟩
        · have h3 : (contF c g g.levels.length).2 = false := h3
          rw [h3]
          exact SubR.t ⟨LeD.refl _, fun _ _ r => r, trivial⟩
end Go.Ch

namespace Go.Ch
open Go Go.Ax Go.Proofs Go.Proofs.Tryz
set_option maxRecDepth 100000
set_option pp.maxSteps 400
set_option maxHeartbeats 1000000

theorem rThere (g : Grid) (k : Int) : CallP Tryz.prog 73 [grid g, vI k] (vB (decide (k ≥ 0) && decide (k < g.levels.length))) := by
  refine callP_of_ex (rc := []) (N := 14) Tryz.func73 rfl rfl Tryz.call73 tab_ok mix rfl rfl (fun cx href => ?_)
  repeat first | refine sk ?_ | refine st ?_ | refine sg ?_ | refine sh ?_ | refine su ?_ | refine sn1 ?_ | refine sn0 ?_
  exact SubR.refl _
def knownF (g : Grid) (k : Int) : Bool := (decide (k ≥ 0) && decide (k < g.levels.length)) && lv g k != 30000
theorem rKnown (g : Grid) (k : Int) : CallP Tryz.prog 40 [grid g, vI k] (vB (knownF g k)) := by
  refine callP_of_ex (rc := []) (N := 16) Tryz.func40 rfl rfl Tryz.call40 tab_ok mix rfl rfl (fun cx href => ?_)
  refine callN (rThere g k) ?_
  repeat first | refine sk ?_ | refine st ?_ | refine sg ?_ | refine sh ?_ | refine su ?_ | refine sn1 ?_ | refine sn0 ?_
  refine og (fun hb => ?_) ?_
  · have hb : (decide (k ≥ 0) && decide (k < g.levels.length)) = true := hb
    simp only [Bool.and_eq_true, decide_eq_true_eq] at hb
    exact ⟨hb.1, hb.2⟩
  repeat first | refine sk ?_ | refine st ?_ | refine sg ?_ | refine sh ?_ | refine su ?_ | refine sn1 ?_ | refine sn0 ?_
  exact SubR.refl _
def hiStep (g : Grid) (b k : Int) : Int := bif knownF g k && ((decide (b < 0) || decide (lv g k > lv g b)) || (lv g k == lv g b && decide (k < b))) then k else b
def hiF (g : Grid) (l : List Int) : Int := l.foldl (hiStep g) (-1)
theorem hiF_take {g : Grid} {l : List Int} {i : Nat} (h : i < l.length) : hiF g (l.take (i + 1)) = hiStep g (hiF g (l.take i)) (l.getD i 0) := by
  unfold hiF
  rw [List.take_add_one, List.getElem?_eq_getElem h, List.foldl_append]
  have e : l.getD i 0 = l[i] := by simp [List.getD_eq_getElem?_getD, h]
  rw [e]; rfl
theorem rHighest (g : Grid) (l : List Int) (hl : l.length ≤ 9223372036854775807) (hm : ∀ i, i < l.length → 0 ≤ l.getD i 0 ∧ l.getD i 0 < g.levels.length) : CallP Tryz.prog 44 [grid g, vInts l] (vI (hiF g l)) := by
  refine callP_of_ex (rc := []) (N := 58) Tryz.func44 rfl rfl Tryz.call44 tab_ok mix rfl rfl (fun cx href => ?_)
  refine AW.loopI (fun i : Nat => ⟨[(1, vInts l), (2, .s (.ptr 2 0)), (5, vI (hiF g (l.take i))), (6, vI i)], [(2, some (gridB g))]⟩) (fun i => i ≤ l.length ∧ -1 ≤ hiF g (l.take i) ∧ (0 ≤ hiF g (l.take i) → hiF g (l.take i) < g.levels.length)) (fun i => l.length - i) 0 ⟨Nat.zero_le _, by simp [hiF], by simp [hiF]⟩ ?_ ?_
  · exact SubI.of0 href [] rfl ⟨⟨rfl, LeBx.rfl⟩, trivial⟩ ⟨⟨rfl, LeQ.rfl⟩, ⟨rfl, LeQ.rfl⟩, ⟨rfl, LeQ.rfl⟩, ⟨rfl, LeQ.rfl⟩, trivial⟩
  · rintro i ⟨hi, hb0, hb1⟩
    refine ex.sound (rc := []) tab_ok mix href _ ?_
    refine And.intro (fun h => ?_) (fun h => ?_)
    · have h : (i : Int) < l.length := decT h
      have hi' : i < l.length := by omega
      have hk := hm i hi'
      refine oi ⟨by omega, by omega⟩ ?_
      refine callN (rKnown g (l.getD i 0)) ?_
      repeat first | refine sk ?_ | refine st ?_ | refine sg ?_ | refine sh ?_ | refine su ?_ | refine sn1 ?_ | refine sn0 ?_
      have hx : ∀ (x : Bool), (x && !decide (hiF g (l.take i) < 0)) = true → 0 ≤ hiF g (l.take i) ∧ hiF g (l.take i) < (g.levels.length : Int) := by
        intro x hx
        simp only [Bool.and_eq_true, Bool.not_eq_true', decide_eq_false_iff_not] at hx
        exact ⟨by omega, hb1 (by omega)⟩
      have hy : ∀ (x y : Bool), (x && !(decide (hiF g (l.take i) < 0) || y)) = true → 0 ≤ hiF g (l.take i) ∧ hiF g (l.take i) < (g.levels.length : Int) := by
        intro x y hx
        simp only [Bool.and_eq_true, Bool.not_eq_true', Bool.or_eq_false_iff, decide_eq_false_iff_not] at hx
        exact ⟨by omega, hb1 (by omega)⟩
      refine og (fun _ => hk) ?_
      repeat first | refine sk ?_ | refine st ?_ | refine sg ?_ | refine sh ?_ | refine su ?_ | refine sn1 ?_ | refine sn0 ?_
      refine og (fun hb => hx _ hb) ?_
      repeat first | refine sk ?_ | refine st ?_ | refine sg ?_ | refine sh ?_ | refine su ?_ | refine sn1 ?_ | refine sn0 ?_
      refine og (fun _ => hk) ?_
      repeat first | refine sk ?_ | refine st ?_ | refine sg ?_ | refine sh ?_ | refine su ?_ | refine sn1 ?_ | refine sn0 ?_
      refine og (fun hb => hy _ _ hb) ?_
      repeat first | refine sk ?_ | refine st ?_ | refine sg ?_ | refine sh ?_ | refine su ?_ | refine sn1 ?_ | refine sn0 ?_
      refine And.intro (by kernel_rfl) ?_
      have et := hiF_take (g := g) hi'
      refine And.intro (fun h3 => ?_) (fun h3 => ?_)
      · have h3 : (knownF g (l.getD i 0) && ((decide (hiF g (l.take i) < 0) || decide (lv g (l.getD i 0) > lv g (hiF g (l.take i)))) || (lv g (l.getD i 0) == lv g (hiF g (l.take i)) && decide (l.getD i 0 < hiF g (l.take i))))) = true := h3
        rw [hiStep, h3] at et
        simp only [cond_true] at et
        refine ⟨i + 1, ⟨by omega, by rw [et]; omega, by rw [et]; omega⟩, by omega, ?_⟩
        exact SubI.of0 href [] rfl ⟨⟨rfl, LeBx.rfl⟩, trivial⟩ ⟨⟨rfl, LeQ.rfl⟩, ⟨rfl, LeQ.rfl⟩, ⟨rfl, LeQ.int et.symm⟩, ⟨rfl, LeQ.int (w64_of (by omega) (by omega))⟩, trivial⟩
      · have h3 : (knownF g (l.getD i 0) && ((decide (hiF g (l.take i) < 0) || decide (lv g (l.getD i 0) > lv g (hiF g (l.take i)))) || (lv g (l.getD i 0) == lv g (hiF g (l.take i)) && decide (l.getD i 0 < hiF g (l.take i))))) = false := h3
        rw [hiStep, h3] at et
        simp only [cond_false] at et
        refine ⟨i + 1, ⟨by omega, by rw [et]; omega, by rw [et]; exact hb1⟩, by omega, ?_⟩
        exact SubI.of0 href [] rfl ⟨⟨rfl, LeBx.rfl⟩, trivial⟩ ⟨⟨rfl, LeQ.rfl⟩, ⟨rfl, LeQ.rfl⟩, ⟨rfl, LeQ.int et.symm⟩, ⟨rfl, LeQ.int (w64_of (by omega) (by omega))⟩, trivial⟩
    · have h : ¬ (i : Int) < l.length := decF h
      obtain rfl : i = l.length := by omega
      exact SubR.of_eq (congrArg (fun x => vI (hiF g x)) List.take_length)

def botsL (c : Chan) (g : Grid) (i : Nat) : List Int := (List.range i).filterMap fun k => bif botI c g k then some (k : Int) else none
theorem botsL_succ (c : Chan) (g : Grid) (i : Nat) : botsL c g (i + 1) = bif botI c g i then botsL c g i ++ [(i : Int)] else botsL c g i := by
  unfold botsL
  rw [filterMap_range_succ]
  cases botI c g i <;> simp
theorem botsL_len (c : Chan) (g : Grid) (i : Nat) : (botsL c g i).length ≤ i := by
  have := List.length_filterMap_le (fun k => bif botI c g k then some (k : Int) else none) (List.range i)
  rw [List.length_range] at this
  exact this
theorem botsL_mem {c : Chan} {g : Grid} {i : Nat} {k : Int} (h : k ∈ botsL c g i) : 0 ≤ k ∧ k < i := by
  unfold botsL at h
  simp only [List.mem_filterMap, List.mem_range] at h
  obtain ⟨j, hj, h⟩ := h
  cases h2 : botI c g j with
  | false => rw [h2] at h; cases h
  | true => rw [h2] at h; simp at h; omega
def flF (c : Chan) (g : Grid) (i : Nat) : Nat → Nat → DV := fun k _ => dI (if k < i ∧ botI c g k = false then 30000 else g.levels.getD k 0)
def floorG (c : Chan) (g : Grid) : Grid := { g with levels := (List.range g.levels.length).map fun k => if botI c g k = false then 30000 else g.levels.getD k 0 }
theorem rFloor (c : Chan) (g : Grid) (hv : Val c) (hg : GVal g) : CallP Tryz.prog 11 [chan c, grid g] (.t [.g [.d (dI g.x), .d (dI g.y), .d (dI g.side), .d (dI g.cols), .d (dI g.rows), .d (dInts (floorG c g).levels)], .s (.d (dInts (botsL c g g.levels.length)))]) := by
  have hn := hg.n
  refine callP_of_ex (rc := [34]) (N := 33) Tryz.func11 rfl rfl Tryz.call11 tab_ok mix rfl rfl (fun cx href => ?_)
  refine ⟨[(501, 601)], _, _, _, _, CopyGridO g (by omega), rfl, trivial, rfl, ?_⟩
  refine AW.loopI (fun i : Nat => ⟨[(2, .s (.ptr 2 0)), (3, .s (.ptr 3 0)), (4, .s (.ptr 4 0)), (6, .s (.ptr 6 0)), (7, .s (.mo (botsL c g i).isEmpty 100)), (8, vI i)],
      [(2, some (chanB c)), (3, some (gridB g)), (4, some (.cells [.d (dI 0), .d (dI 0), .d (dI 0), .d (dI 0), .d (dI 0), .d (.val (.slice none 0 0))])), (6, some (.cells [.d (dI g.x), .d (dI g.y), .d (dI g.side), .d (dI g.cols), .d (dI g.rows), .own 601])), (100, some (.mrow 3 (botsL c g i).length 1 (intEl (botsL c g i)))), (601, some (.row 3 g.levels.length 1 (flF c g i)))]⟩)
    (fun i => i ≤ g.levels.length) (fun i => g.levels.length - i) 0 (Nat.zero_le _) ?_ ?_
  · exact SubI.of0 href [(100, 1000)] rfl ⟨⟨rfl, LeBx.rfl⟩, ⟨rfl, LeBx.rfl⟩, ⟨rfl, LeBx.rfl⟩, ⟨rfl, LeBx.rfl⟩, ⟨rfl, rfl⟩, ⟨rfl, LeBx.row rfl fun k j _ _ => LeD.refl _⟩, trivial⟩ ⟨⟨rfl, LeQ.rfl⟩, ⟨rfl, LeQ.rfl⟩, ⟨rfl, LeQ.rfl⟩, ⟨rfl, LeQ.rfl⟩, ⟨rfl, LeQ.nil rfl⟩, ⟨rfl, LeQ.rfl⟩, trivial⟩
  · intro i hi
    have hlen := botsL_len c g i
    refine ex.sound (rc := [34]) tab_ok mix href _ ?_
    refine And.intro (fun h => ?_) (fun h => ?_)
    · have h : (i : Int) < g.levels.length := decT h
      have hi' : i < g.levels.length := by omega
      have hgd := (centre_good hg hi').1
      refine callN (Centre g i (by have := hg.cols; omega)) ?_
      refine callN (rBottom c (centreG g i) hv hgd) ?_
      refine And.intro (by kernel_rfl) ?_
      refine And.intro (fun h2 => ?_) (fun h2 => ?_)
      · have h2 : botI c g i = true := h2
        have e : botsL c g (i + 1) = botsL c g i ++ [(i : Int)] := by rw [botsL_succ, h2]; rfl
        refine ob (by decide) ?_
        refine ob (by rw [bif_len]; show _ * 8 ≤ _; omega) ?_
        refine ob (fit1 (lt1 rfl)) ?_
        refine ⟨i + 1, by omega, by omega, ?_⟩
        refine SubI.of0 href [(100, 26)] rfl ⟨⟨rfl, LeBx.rfl⟩, ⟨rfl, LeBx.rfl⟩, ⟨rfl, LeBx.rfl⟩, ⟨rfl, LeBx.rfl⟩, ⟨rfl, ?_⟩, ⟨rfl, LeBx.row rfl fun k j hk hj => LeD.of_eq ?_⟩, trivial⟩ ⟨⟨rfl, LeQ.rfl⟩, ⟨rfl, LeQ.rfl⟩, ⟨rfl, LeQ.rfl⟩, ⟨rfl, LeQ.rfl⟩, ⟨rfl, LeQ.mo ?_⟩, ⟨rfl, LeQ.int (w64_of (by omega) (by omega))⟩, trivial⟩
        · show LeBx _ (.mrow 3 (botsL c g (i + 1)).length 1 (intEl (botsL c g (i + 1))))
          rw [e]
          exact RowIs.mrow (el := fun x _ => dI x) (RowIs.snoc intRow (lt1 rfl))
        · unfold flF
          congr 1
          by_cases hki : k = i
          · subst hki; simp [h2]
          · by_cases hlt : k < i
            · simp [hlt, Nat.lt_succ_of_lt hlt]
            · have : ¬ k < i + 1 := by omega
              simp [hlt, this]
        · rw [e]; exact isEmpty_snoc _ _
      · have h2 : botI c g i = false := h2
        have e : botsL c g (i + 1) = botsL c g i := by rw [botsL_succ, h2]; rfl
        refine oi ⟨by omega, by omega⟩ ?_
        refine ob hi' ?_
        refine ⟨i + 1, by omega, by omega, ?_⟩
        refine SubI.of0 href [] rfl ⟨⟨rfl, LeBx.rfl⟩, ⟨rfl, LeBx.rfl⟩, ⟨rfl, LeBx.rfl⟩, ⟨rfl, LeBx.rfl⟩, ⟨rfl, LeBx.of_eq (by rw [e]; rfl)⟩, ⟨rfl, LeBx.row rfl fun k j hk hj => LeD.of_eq ?_⟩, trivial⟩ ⟨⟨rfl, LeQ.rfl⟩, ⟨rfl, LeQ.rfl⟩, ⟨rfl, LeQ.rfl⟩, ⟨rfl, LeQ.rfl⟩, ⟨rfl, LeQ.of_eq (by rw [e]; rfl)⟩, ⟨rfl, LeQ.int (w64_of (by omega) (by omega))⟩, trivial⟩
        have hj : j = 0 := by have : j < 1 := hj; omega
        subst hj
        by_cases hki : k = i
        · subst hki
          refine rowSet_self.trans ?_
          unfold flF
          rw [if_pos ⟨Nat.lt_succ_self _, h2⟩]
        · refine (rowSet_ne hki).trans ?_
          unfold flF
          congr 1
          by_cases hlt : k < i
          · simp [hlt, Nat.lt_succ_of_lt hlt]
          · have : ¬ k < i + 1 := by omega
            simp [hlt, this]
    · have h : ¬ (i : Int) < g.levels.length := decF h
      have hi' : i = g.levels.length := by omega
      subst hi'
      refine SubR.t ⟨⟨LeD.refl _, LeD.refl _, LeD.refl _, LeD.refl _, LeD.refl _, LeD.slc' (by simp [floorG]) fun k j hk hj => LeD.of_eq ?_, trivial⟩, LeD.slc' (bif_len _) fun _ _ _ _ => LeD.refl _, trivial⟩
      unfold flF intEl
      congr 1
      simp [floorG, hk]
end Go.Ch

namespace Go.Ch
open Go Go.Ax Go.Proofs Go.Proofs.Tryz
set_option maxRecDepth 100000
set_option pp.maxSteps 400
set_option maxHeartbeats 1000000

def unkB (g : Grid) (k : Int) : Bool := lv g k == 30000
def rCtlR (c : Chan) (g : Grid) : Int × Int := bif (botsL c g g.levels.length).isEmpty then (0, 11) else bif (botsL c g g.levels.length).any (unkB g) then (0, 12) else (hiF g (botsL c g g.levels.length), 0)
theorem cont_bots (c : Chan) (g : Grid) : ∀ i, i ≤ g.levels.length → decide ((contF c g i).1 < 0) = (botsL c g i).isEmpty ∧ (contF c g i).2 = (botsL c g i).any (unkB g) ∧ ((contF c g i).2 = false → hiF g (botsL c g i) = (contF c g i).1)
  | 0, _ => ⟨rfl, rfl, fun _ => rfl⟩
  | i + 1, hi => by
    obtain ⟨h1, h2, h3⟩ := cont_bots c g i (by omega)
    have hin := contF_in c g i
    rw [contF, botsL_succ]
    cases hb : botI c g i with
    | false => exact ⟨h1, h2, h3⟩
    | true =>
      simp only [Bool.not_true, cond_false, cond_true]
      refine ⟨?_, ?_, fun h => ?_⟩
      · rw [isEmpty_snoc]
        unfold stepC
        cases hs : decide ((contF c g i).1 < 0) || decide (lv g i > lv g (contF c g i).1) with
        | true => simp only [cond_true, decide_eq_false_iff_not]; omega
        | false =>
          simp only [Bool.or_eq_false_iff, decide_eq_false_iff_not] at hs
          simp only [cond_false, decide_eq_false_iff_not]; exact hs.1
      · unfold stepC
        rw [List.any_append, h2]
        simp [unkB]
      · unfold stepC at h ⊢
        simp only [Bool.or_eq_false_iff] at h
        have h3 := h3 h.1
        unfold hiF at h3 ⊢
        rw [List.foldl_append, h3]
        show hiStep g (contF c g i).1 i = _
        have hk : knownF g (i : Int) = true := by
          unfold knownF
          have : (lv g (i : Int) != 30000) = true := by simpa using h.2
          rw [this, decide_eq_true (show (i : Int) ≥ 0 by omega), decide_eq_true (show (i : Int) < g.levels.length by omega)]; rfl
        have hlt : decide ((i : Int) < (contF c g i).1) = false := decide_eq_false (by omega)
        unfold hiStep
        rw [hk, hlt, Bool.and_false, Bool.or_false, Bool.true_and]
theorem ctl_eq (c : Chan) (g : Grid) (h : withErr c [g] = 0) : ctlR c g = rCtlR c g := by
  obtain ⟨h1, h2, h3⟩ := cont_bots c g _ (Nat.le_refl _)
  unfold ctlR rCtlR
  rw [h, ← h1, ← h2]
  cases hb : (contF c g g.levels.length).2 with
  | true => rfl
  | false => rw [h3 hb]; rfl
end Go.Ch

namespace Go.Ch
open Go Go.Ax Go.Proofs Go.Proofs.Tryz
set_option maxRecDepth 100000
set_option pp.maxSteps 400
set_option maxHeartbeats 1000000

/-- What one cell has to lose. -/
def needS (g : Grid) (sum : Int) (i : Nat) (level : Int) : Int :=
  bif g.levels.getD i 0 != 30000 then w64 (sum + w64 (w64 (g.side * g.side) * mm true 0 (w64 (g.levels.getD i 0 - level)))) else sum
abbrev needB (g : Grid) (sum : Int) : BoxL := [(1001, gridB g), (1002, .cells [.d (dI sum)])]
def needL (c : Chan) (g : Grid) : Nat → Int
  | 0 => 0
  | i + 1 => bif (desF c (centreG g i)).2 then needS g (needL c g i) i (desF c (centreG g i)).1 else needL c g i
def needF (c : Chan) (g : Grid) : Int := bif withErr c [g] != 0 then 0 else needL c g g.levels.length
/-- The cells that are too high. -/
def openC (c : Chan) (g : Grid) (i : Nat) : Bool := (desF c (centreG g i)).2 && (g.levels.getD i 0 != 30000 && decide (g.levels.getD i 0 > (desF c (centreG g i)).1))
def openL (c : Chan) (g : Grid) (i : Nat) : List Int := (List.range i).filterMap fun k => bif openC c g k then some (k : Int) else none
theorem openL_succ (c : Chan) (g : Grid) (i : Nat) : openL c g (i + 1) = bif openC c g i then openL c g i ++ [(i : Int)] else openL c g i := by
  unfold openL
  rw [filterMap_range_succ]
  cases openC c g i <;> simp
theorem openL_len (c : Chan) (g : Grid) (i : Nat) : (openL c g i).length ≤ i := by
  have := List.length_filterMap_le (fun k => bif openC c g k then some (k : Int) else none) (List.range i)
  rw [List.length_range] at this
  exact this
def openB (g : Grid) : List Int → BoxL
  | [] => [(1001, gridB g), (1002, .cells [.d (.val (.slice none 0 0))])]
  | x :: r => [(1001, gridB g), (1002, .cells [.own 1003]), (1003, .row 3 (x :: r).length 1 (intEl (x :: r)))]
def openHit (g : Grid) (i : Nat) (level : Int) : Bool := g.levels.getD i 0 != 30000 && decide (g.levels.getD i 0 > level)
end Go.Ch

namespace Go.Ch
open Go Go.Ax Go.Proofs Go.Proofs.Tryz
set_option maxRecDepth 100000
set_option pp.maxSteps 400
set_option maxHeartbeats 1000000

theorem snoc_cons {α : Type} : ∀ (l : List α) (x : α), ∃ y r, l ++ [x] = y :: r
  | [], x => ⟨x, [], rfl⟩
  | y :: r, x => ⟨y, r ++ [x], rfl⟩
def openF (c : Chan) (g : Grid) : List Int := bif withErr c [g] != 0 then [] else openL c g g.levels.length
abbrev rIntsE (l : List Int) (e : Int) : AV := .t [.s (.d (dInts l)), .s (.d (dI e))]
end Go.Ch

namespace Go.Ch
open Go Go.Ax Go.Proofs Go.Proofs.Tryz
set_option maxRecDepth 100000
set_option pp.maxSteps 400
set_option maxHeartbeats 1000000

def excS (g d : Grid) (sum : Int) (i : Nat) : Int :=
  bif d.levels.getD i 0 != 30000 && g.levels.getD i 0 != 30000 then w64 (sum + w64 (w64 (g.side * g.side) * mm true 0 (w64 (g.levels.getD i 0 - d.levels.getD i 0)))) else sum
def excF (g d : Grid) : Nat → Int
  | 0 => 0
  | i + 1 => excS g d (excF g d i) i
theorem cellT0 {c : Chan} {g : Grid} (hv : Val c) (gv : GVal g) {i : Nat} (hi : i < g.levels.length) : cellT c g 0 i = bif (desF c (centreG g i)).2 then (desF c (centreG g i)).1 else 30000 := by
  unfold cellT
  cases h : (desF c (centreG g i)).2 with
  | false => rfl
  | true =>
    have hd := desF_ok hv (centre_good gv hi).1 h
    have ho := hv.over
    show w64 (_ - 0) = _
    rw [w64_of (by omega) (by omega)]; simp
theorem cellT0_ne {c : Chan} {g : Grid} (hv : Val c) (gv : GVal g) {i : Nat} (hi : i < g.levels.length) : (cellT c g 0 i != 30000) = (desF c (centreG g i)).2 := by
  rw [cellT0 hv gv hi]
  cases h : (desF c (centreG g i)).2 with
  | false => rfl
  | true =>
    have hd := desF_ok hv (centre_good gv hi).1 h
    simp only [cond_true, bne_iff_ne, ne_eq]; omega
theorem exc_need (c : Chan) (g : Grid) (hv : Val c) (gv : GVal g) : ∀ i, i ≤ g.levels.length → excF g (designG c g 0) i = needL c g i
  | 0, _ => rfl
  | i + 1, hi => by
    have hi' : i < g.levels.length := by omega
    rw [excF, exc_need c g hv gv i (by omega), needL, excS, designG_at c g 0 hi', cellT0_ne hv gv hi', cellT0 hv gv hi']
    unfold needS
    cases h : (desF c (centreG g i)).2 with
    | false => rfl
    | true => rfl
end Go.Ch
