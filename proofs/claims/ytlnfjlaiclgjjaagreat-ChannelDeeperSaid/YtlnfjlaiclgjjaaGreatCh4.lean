/- Part Ch4: lemmas that the proofs of this seat share; by itself it claims nothing. -/
import Derived.Test.YtlnfjlaiclgjjaaGreatCh3
namespace Go.Ch
open Go Go.Ax Go.Proofs Go.Proofs.Tryz
set_option maxRecDepth 100000
set_option pp.maxSteps 400
set_option maxHeartbeats 1000000

abbrev prtA (x : Prt) : AV := .g (prtS x)
theorem indexFuncX (l : List Prt) (hl : l.length ≤ 9223372036854775807) (f k : Nat) (c : Nat → DV) (p : Prt → Bool) (hp : ∀ x ∈ l, CallP Tryz.prog f (prtA x :: capD c k 0) (vB (p x))) :
    CallP Tryz.prog 157 [.s (.d (dPrts l)), .s (.d (.clo f k c))] (vI (idxF p l 0)) := by
  refine callP_of_ex (rc := []) (N := 19) Tryz.func157 rfl rfl Tryz.call157 tab_ok mix rfl rfl (fun cx href => ?_)
  refine AW.loop (fun i : Nat => ⟨[(0, .s (.d (dPrts l))), (1, .s (.d (.clo f k c))), (7, vI l.length), (8, vI i), (4, vI 0)], []⟩) (fun i => i ≤ l.length ∧ idxF p l 0 = idxF p (l.drop i) i) (fun i => l.length - i) 0 ⟨Nat.zero_le _, rfl⟩ ?_ ?_
  · refine Sub.of0 href trivial ⟨⟨rfl, rfl⟩, ⟨rfl, rfl⟩, ⟨rfl, rfl⟩, ⟨rfl, rfl⟩, ⟨rfl, rfl⟩, trivial⟩
  · rintro i ⟨hi, he⟩
    refine ex.sound (rc := []) tab_ok mix href _ ?_
    refine And.intro (fun h => ?_) (fun h => ?_)
    · have h : (i : Int) < l.length := decT h
      have hi' : i < l.length := by omega
      have hd : l.drop i = l[i] :: l.drop (i + 1) := List.drop_eq_getElem_cons hi'
      have hg : l.getD i default = l[i] := getD_of hi'
      refine oi ⟨by omega, by omega⟩ ?_
      refine callN ((hp (l.getD i default) (by rw [hg]; simp)).conv (args' := _) ⟨⟨LeD.refl _, LeD.refl _, LeD.refl _, LeD.refl _, trivial⟩, LeAs.capD⟩) ?_
      rw [hd, idxF] at he
      rw [hg]
      refine And.intro (fun h => ?_) (fun h => ?_)
      · refine SubR.of_eq ?_
        rw [he, h]; rfl
      · refine ⟨i + 1, ⟨by omega, ?_⟩, by omega, ?_⟩
        · rw [he, h]; rfl
        · refine Sub.of0 href trivial ⟨⟨rfl, rfl⟩, ⟨rfl, rfl⟩, ⟨rfl, rfl⟩, ⟨rfl, ?_⟩, ⟨rfl, rfl⟩, trivial⟩
          exact congrArg vI (w64_of (by omega) (by omega))
    · have h : ¬ (i : Int) < l.length := decF h
      have hi' : i = l.length := by omega
      subst hi'
      refine SubR.of_eq ?_
      rw [he, List.drop_length]; rfl
theorem containsX (l : List Prt) (hl : l.length ≤ 9223372036854775807) (f k : Nat) (c : Nat → DV) (p : Prt → Bool) (hp : ∀ x ∈ l, CallP Tryz.prog f (prtA x :: capD c k 0) (vB (p x))) :
    CallP Tryz.prog 117 [.s (.d (dPrts l)), .s (.d (.clo f k c))] (vB (l.any p)) := by
  refine callP_of_ex (rc := []) (N := 9) Tryz.func117 rfl rfl Tryz.call117 tab_ok mix rfl rfl (fun cx href => ?_)
  refine callN (indexFuncX l hl f k c p hp) ?_
  exact SubR.of_eq (congrArg vB (idxF_any p l 0))
def onBot (x : Prt) : Bool := decide (x.offset ≤ x.half)
theorem bottom1 (x : Prt) : CallP Tryz.prog 119 [prtA x] (vB (onBot x)) := by
  refine callP_of_ex (rc := []) (N := 8) Tryz.func119 rfl rfl Tryz.call119 tab_ok mix rfl rfl (fun cx href => ?_)
  exact SubR.refl _
def botF (c : Chan) (p : Pt) : Bool := (partsL c p).any onBot
theorem parts_len (c : Chan) (p : Pt) : (partsL c p).length ≤ 2 * c.axis.length := by
  unfold partsL legsL bendsL
  rw [List.length_append]
  have h1 := List.length_filterMap_le (fun k => legF c k p) (List.range (c.axis.length - 1))
  have h2 := List.length_filterMap_le (fun k => bendN c k p) (List.range (c.axis.length - 2))
  rw [List.length_range] at h1 h2
  omega
theorem bottom (c : Chan) (p : Pt) (hv : Val c) (hp : good p = true) : CallP Tryz.prog 63 [chan c, pt p] (vB (botF c p)) := by
  have hl := parts_len c p
  have h20 := hv.n20
  refine callP_of_ex (rc := []) (N := 9) Tryz.func63 rfl rfl Tryz.call63 tab_ok mix rfl rfl (fun cx href => ?_)
  refine callN (parts c p hv hp) ?_
  refine callN ((containsX (partsL c p) (by omega) 119 0 (fun _ => .junk) onBot (fun x _ => bottom1 x)).conv (args' := _) ⟨LeD.refl _, LeD.clo fun j hj => absurd hj (Nat.not_lt_zero j), trivial⟩) ?_
  exact SubR.refl _
theorem botF_holds (c : Chan) (p : Pt) (h2 : 2 ≤ c.axis.length) : (holdsL c p (c.axis.length - 1)).any onBot = botF c p := by
  unfold botF
  rw [Bool.eq_iff_iff, List.any_eq_true, List.any_eq_true]
  exact ⟨fun ⟨x, hx, h⟩ => ⟨x, (parts_holds c p h2 x).2 hx, h⟩, fun ⟨x, hx, h⟩ => ⟨x, (parts_holds c p h2 x).1 hx, h⟩⟩
theorem rBottom (c : Chan) (p : Pt) (hv : Val c) (hp : good p = true) : CallP Tryz.prog 121 [chan c, pt p] (vB (botF c p)) := by
  have hl := holdsL_len c p (c.axis.length - 1)
  have h20 := hv.n20
  rw [← botF_holds c p hv.n2]
  generalize hL : holdsL c p (c.axis.length - 1) = L at *
  refine callP_of_ex (rc := []) (N := 27) Tryz.func121 rfl rfl Tryz.call121 tab_ok mix rfl rfl (fun cx href => ?_)
  refine callN (holds c p hv hp) ?_
  rw [hL]
  refine AW.loopI (fun i : Nat => ⟨[(5, .s (.d (dPrts L))), (6, vI i)], []⟩) (fun i => i ≤ L.length ∧ ∀ j, j < i → onBot (L.getD j default) = false) (fun i => L.length - i) 0 ⟨Nat.zero_le _, fun j hj => absurd hj (Nat.not_lt_zero j)⟩ ?_ ?_
  · exact SubI.of0 href [] rfl trivial ⟨⟨rfl, LeQ.rfl⟩, ⟨rfl, LeQ.rfl⟩, trivial⟩
  · rintro i ⟨hi, hj⟩
    refine ex.sound (rc := []) tab_ok mix href _ ?_
    refine And.intro (fun h => ?_) (fun h => ?_)
    · have h : (i : Int) < L.length := decT h
      refine oi ⟨by omega, by omega⟩ ?_
      refine oi ⟨by omega, by omega⟩ ?_
      refine And.intro (by kernel_rfl) ?_
      refine And.intro (fun h2 => ?_) (fun h2 => ?_)
      · have h2 : onBot (L.getD i default) = true := h2
        exact SubR.lit (any_getD onBot L i (by omega) h2).symm
      · have h2 : onBot (L.getD i default) = false := h2
        refine ⟨i + 1, ⟨by omega, fun j hj' => ?_⟩, by omega, ?_⟩
        · by_cases hji : j = i
          · rw [hji]; exact h2
          · exact hj j (by omega)
        · exact SubI.of0 href [] rfl trivial ⟨⟨rfl, LeQ.rfl⟩, ⟨rfl, LeQ.int (w64_of (by omega) (by omega))⟩, trivial⟩
    · have h : ¬ (i : Int) < L.length := decF h
      exact SubR.lit (any_drop onBot L fun j hj' => hj j (by omega)).symm

def lv (g : Grid) (k : Int) : Int := g.levels.getD k.toNat 0
def botI (c : Chan) (g : Grid) (i : Nat) : Bool := botF c (centreG g i)
def stepC (g : Grid) (r : Int × Bool) (i : Nat) : Int × Bool := (bif decide (r.1 < 0) || decide (lv g i > lv g r.1) then (i : Int) else r.1, r.2 || lv g i == 30000)
def contF (c : Chan) (g : Grid) : Nat → Int × Bool
  | 0 => (-1, false)
  | i + 1 => bif !botI c g i then contF c g i else stepC g (contF c g i) i
def ctlR (c : Chan) (g : Grid) : Int × Int := bif withErr c [g] != 0 then (0, withErr c [g]) else bif decide ((contF c g g.levels.length).1 < 0) then (0, 11) else bif (contF c g g.levels.length).2 then (0, 12) else ((contF c g g.levels.length).1, 0)
theorem withErr1_zero {c : Chan} {g : Grid} (h : withErr c [g] = 0) : errC c = 0 ∧ errG g = 0 := by
  rw [withErr1] at h
  cases h1 : errC c != 0 with
  | true => rw [h1] at h; simp at h1; exact absurd h h1
  | false => rw [h1] at h; exact ⟨by simpa using h1, h⟩
theorem contF_in (c : Chan) (g : Grid) : ∀ i, -1 ≤ (contF c g i).1 ∧ (contF c g i).1 < i
  | 0 => by simp [contF]
  | i + 1 => by
    have ih := contF_in c g i
    rw [contF]
    cases h : botI c g i with
    | false => simp only [Bool.not_false, cond_true]; omega
    | true =>
      simp only [Bool.not_true, cond_false]
      unfold stepC
      cases h2 : decide ((contF c g i).1 < 0) || decide (lv g i > lv g (contF c g i).1) with
      | true => simp only [cond_true]; omega
      | false => simp only [cond_false]; omega
theorem Controlling (c : Chan) (g : Grid) (hc : c.ok) (hg : g.ok) : CallP Tryz.prog 26 [chan c, grid g] (rIE (ctlR c g).1 (ctlR c g).2) := by
  refine callP_of_ex (rc := []) (N := 55) Tryz.func26 rfl rfl Tryz.call26 tab_ok mix rfl rfl (fun cx href => ?_)
  refine callN (cboth c g hc hg) ?_
  refine And.intro (fun h => ?_) (fun h => ?_)
  · have h : (withErr c [g] != 0) = true := h
    have e : ctlR c g = (0, withErr c [g]) := by unfold ctlR; rw [h]; rfl
    rw [e]
    exact SubR.t ⟨fun _ _ r => r, LeD.refl _, trivial⟩
  have h : (withErr c [g] != 0) = false := h
  obtain ⟨hc0, hg0⟩ := withErr1_zero (by simpa using h)
  have hv := val_of c hc0
  have gv := GVal.of hg0
  have hn := gv.n
  have e : ctlR c g = bif decide ((contF c g g.levels.length).1 < 0) then (0, 11) else bif (contF c g g.levels.length).2 then (0, 12) else ((contF c g g.levels.length).1, 0) := by unfold ctlR; rw [h]; rfl
  rw [e]
  refine AW.loopI (fun i : Nat => ⟨[(2, .s (.ptr 2 0)), (3, .s (.ptr 3 0)), (7, vI (contF c g i).1), (8, vB (contF c g i).2), (18, vInts g.levels), (19, vI g.levels.length), (20, vI i)], [(2, some (chanB c)), (3, some (gridB g))]⟩)
    (fun i => i ≤ g.levels.length) (fun i => g.levels.length - i) 0 (Nat.zero_le _) ?_ ?_
  · exact SubI.of0 href [] rfl ⟨⟨rfl, LeBx.rfl⟩, ⟨rfl, LeBx.rfl⟩, trivial⟩ ⟨⟨rfl, LeQ.rfl⟩, ⟨rfl, LeQ.rfl⟩, ⟨rfl, LeQ.rfl⟩, ⟨rfl, LeQ.lit rfl⟩, ⟨rfl, LeQ.rfl⟩, ⟨rfl, LeQ.rfl⟩, ⟨rfl, LeQ.rfl⟩, trivial⟩
  · intro i hi
    have hin := contF_in c g i
    refine ex.sound (rc := []) tab_ok mix href _ ?_
    refine And.intro (fun h1 => ?_) (fun h1 => ?_)
    · have h1 : (i : Int) < g.levels.length := decT h1
      have hi' : i < g.levels.length := by omega
      have hgd := (centre_good gv hi').1
      refine oi ⟨by omega, by omega⟩ ?_
      refine callN (ccentre g i hg0 (by omega) (by omega) (by omega)) ?_
      refine callN (bottom c (centreG g i) hv hgd) ?_
      refine And.intro (by kernel_rfl) ?_
      refine And.intro (fun h2 => ?_) (fun h2 => ?_)
      · have h2 : (!botI c g i) = true := h2
        have e' : contF c g (i + 1) = contF c g i := by rw [contF, h2]; rfl
        refine ⟨i + 1, by omega, by omega, ?_⟩
        exact SubI.of0 href [] rfl ⟨⟨rfl, LeBx.rfl⟩, ⟨rfl, LeBx.rfl⟩, trivial⟩ ⟨⟨rfl, LeQ.rfl⟩, ⟨rfl, LeQ.rfl⟩, ⟨rfl, LeQ.int (by rw [e'])⟩, ⟨rfl, LeQ.bool (by rw [e'])⟩, ⟨rfl, LeQ.rfl⟩, ⟨rfl, LeQ.rfl⟩, ⟨rfl, LeQ.int (w64_of (by omega) (by omega))⟩, trivial⟩
      · have h2 : (!botI c g i) = false := h2
        have e' : contF c g (i + 1) = stepC g (contF c g i) i := by rw [contF, h2]; rfl
        repeat first | refine sk ?_ | refine st ?_ | refine sg ?_ | refine sh ?_ | refine su ?_ | refine sn1 ?_ | refine sn0 ?_
        refine og (fun hb => ?_) ?_
        · have hb : (!decide ((contF c g i).1 < 0)) = true := hb
          simp only [Bool.not_eq_true', decide_eq_false_iff_not] at hb
          exact ⟨by omega, by omega⟩
        repeat first | refine sk ?_ | refine st ?_ | refine sg ?_ | refine sh ?_ | refine su ?_ | refine sn1 ?_ | refine sn0 ?_
        refine And.intro (fun h3 => ?_) (fun h3 => ?_)
        · have h3 : (decide ((contF c g i).1 < 0) || decide (lv g i > lv g (contF c g i).1)) = true := h3
          refine ⟨i + 1, by omega, by omega, ?_⟩
          exact SubI.of0 href [] rfl ⟨⟨rfl, LeBx.rfl⟩, ⟨rfl, LeBx.rfl⟩, trivial⟩ ⟨⟨rfl, LeQ.rfl⟩, ⟨rfl, LeQ.rfl⟩, ⟨rfl, LeQ.int (by rw [e', stepC, h3]; rfl)⟩, ⟨rfl, LeQ.bool (by rw [e', stepC]; rfl)⟩, ⟨rfl, LeQ.rfl⟩, ⟨rfl, LeQ.rfl⟩, ⟨rfl, LeQ.int (w64_of (by omega) (by omega))⟩, trivial⟩
        · have h3 : (decide ((contF c g i).1 < 0) || decide (lv g i > lv g (contF c g i).1)) = false := h3
          refine ⟨i + 1, by omega, by omega, ?_⟩
          exact SubI.of0 href [] rfl ⟨⟨rfl, LeBx.rfl⟩, ⟨rfl, LeBx.rfl⟩, trivial⟩ ⟨⟨rfl, LeQ.rfl⟩, ⟨rfl, LeQ.rfl⟩, ⟨rfl, LeQ.int (by rw [e', stepC, h3]; rfl)⟩, ⟨rfl, LeQ.bool (by rw [e', stepC]; rfl)⟩, ⟨rfl, LeQ.rfl⟩, ⟨rfl, LeQ.rfl⟩, ⟨rfl, LeQ.int (w64_of (by omega) (by omega))⟩, trivial⟩
    · have h1 : ¬ (i : Int) < g.levels.length := decF h1
      obtain rfl : i = g.levels.length := by omega
      refine And.intro (fun h2 => ?_) (fun h2 => ?_)
      · have h2 : decide ((contF c g g.levels.length).1 < 0) = true := h2
        rw [h2]
        exact SubR.t ⟨fun _ _ r => r, fun _ _ r => r, trivial⟩
      · have h2 : decide ((contF c g g.levels.length).1 < 0) = false := h2
        rw [h2]
        refine And.intro (fun h3 => ?_) (fun h3 => ?_)
        · have h3 : (contF c g g.levels.length).2 = true := h3
          rw [h3]
          exact SubR.t ⟨fun _ _ r => r, fun _ _ r => r, trivial⟩
        · have h3 : (contF c g g.levels.length).2 = false := h3
          rw [h3]
          exact SubR.t ⟨LeD.refl _, fun _ _ r => r, trivial⟩
end Go.Ch

namespace Go.Ch
open Go Go.Ax Go.Proofs Go.Proofs.Tryz
set_option maxRecDepth 100000
set_option pp.maxSteps 400
set_option maxHeartbeats 1000000

theorem rThere (g : Grid) (k : Int) : CallP Tryz.prog 160 [grid g, vI k] (vB (decide (k ≥ 0) && decide (k < g.levels.length))) := by
  refine callP_of_ex (rc := []) (N := 14) Tryz.func160 rfl rfl Tryz.call160 tab_ok mix rfl rfl (fun cx href => ?_)
  repeat first | refine sk ?_ | refine st ?_ | refine sg ?_ | refine sh ?_ | refine su ?_ | refine sn1 ?_ | refine sn0 ?_
  exact SubR.refl _
def knownF (g : Grid) (k : Int) : Bool := (decide (k ≥ 0) && decide (k < g.levels.length)) && lv g k != 30000
theorem rKnown (g : Grid) (k : Int) : CallP Tryz.prog 122 [grid g, vI k] (vB (knownF g k)) := by
  refine callP_of_ex (rc := []) (N := 16) Tryz.func122 rfl rfl Tryz.call122 tab_ok mix rfl rfl (fun cx href => ?_)
  refine callN (rThere g k) ?_
  repeat first | refine sk ?_ | refine st ?_ | refine sg ?_ | refine sh ?_ | refine su ?_ | refine sn1 ?_ | refine sn0 ?_
  refine og (fun hb => ?_) ?_
  · have hb : (decide (k ≥ 0) && decide (k < g.levels.length)) = true := hb
    simp only [Bool.and_eq_true, decide_eq_true_eq] at hb
    exact ⟨hb.1, hb.2⟩
  repeat first | refine sk ?_ | refine st ?_ | refine sg ?_ | refine sh ?_ | refine su ?_ | refine sn1 ?_ | refine sn0 ?_
  exact SubR.refl _
def hiStep (g : Grid) (b k : Int) : Int := bif knownF g k && ((decide (b < 0) || decide (lv g k > lv g b)) || (lv g k == lv g b && decide (k < b))) then k else b
def hiF (g : Grid) (l : List Int) : Int := l.foldl (hiStep g) (-1)
theorem hiF_take {g : Grid} {l : List Int} {i : Nat} (h : i < l.length) : hiF g (l.take (i + 1)) = hiStep g (hiF g (l.take i)) (l.getD i 0) := by
  unfold hiF
  rw [List.take_add_one, List.getElem?_eq_getElem h, List.foldl_append]
  have e : l.getD i 0 = l[i] := by simp [List.getD_eq_getElem?_getD, h]
  rw [e]; rfl
theorem rHighest (g : Grid) (l : List Int) (hl : l.length ≤ 9223372036854775807) (hm : ∀ i, i < l.length → 0 ≤ l.getD i 0 ∧ l.getD i 0 < g.levels.length) : CallP Tryz.prog 66 [grid g, vInts l] (vI (hiF g l)) := by
  refine callP_of_ex (rc := []) (N := 58) Tryz.func66 rfl rfl Tryz.call66 tab_ok mix rfl rfl (fun cx href => ?_)
  refine AW.loopI (fun i : Nat => ⟨[(1, vInts l), (2, .s (.ptr 2 0)), (5, vI (hiF g (l.take i))), (6, vI i)], [(2, some (gridB g))]⟩) (fun i => i ≤ l.length ∧ -1 ≤ hiF g (l.take i) ∧ (0 ≤ hiF g (l.take i) → hiF g (l.take i) < g.levels.length)) (fun i => l.length - i) 0 ⟨Nat.zero_le _, by simp [hiF], by simp [hiF]⟩ ?_ ?_
  · exact SubI.of0 href [] rfl ⟨⟨rfl, LeBx.rfl⟩, trivial⟩ ⟨⟨rfl, LeQ.rfl⟩, ⟨rfl, LeQ.rfl⟩, ⟨rfl, LeQ.rfl⟩, ⟨rfl, LeQ.rfl⟩, trivial⟩
  · rintro i ⟨hi, hb0, hb1⟩
    refine ex.sound (rc := []) tab_ok mix href _ ?_
    refine And.intro (fun h => ?_) (fun h => ?_)
    · have h : (i : Int) < l.length := decT h
      have hi' : i < l.length := by omega
      have hk := hm i hi'
      refine oi ⟨by omega, by omega⟩ ?_
      refine callN (rKnown g (l.getD i 0)) ?_
      repeat first | refine sk ?_ | refine st ?_ | refine sg ?_ | refine sh ?_ | refine su ?_ | refine sn1 ?_ | refine sn0 ?_
      have hx : ∀ (x : Bool), (x && !decide (hiF g (l.take i) < 0)) = true → 0 ≤ hiF g (l.take i) ∧ hiF g (l.take i) < (g.levels.length : Int) := by
        intro x hx
        simp only [Bool.and_eq_true, Bool.not_eq_true', decide_eq_false_iff_not] at hx
        exact ⟨by omega, hb1 (by omega)⟩
      have hy : ∀ (x y : Bool), (x && !(decide (hiF g (l.take i) < 0) || y)) = true → 0 ≤ hiF g (l.take i) ∧ hiF g (l.take i) < (g.levels.length : Int) := by
        intro x y hx
        simp only [Bool.and_eq_true, Bool.not_eq_true', Bool.or_eq_false_iff, decide_eq_false_iff_not] at hx
        exact ⟨by omega, hb1 (by omega)⟩
      refine og (fun _ => hk) ?_
      repeat first | refine sk ?_ | refine st ?_ | refine sg ?_ | refine sh ?_ | refine su ?_ | refine sn1 ?_ | refine sn0 ?_
      refine og (fun hb => hx _ hb) ?_
      repeat first | refine sk ?_ | refine st ?_ | refine sg ?_ | refine sh ?_ | refine su ?_ | refine sn1 ?_ | refine sn0 ?_
      refine og (fun _ => hk) ?_
      repeat first | refine sk ?_ | refine st ?_ | refine sg ?_ | refine sh ?_ | refine su ?_ | refine sn1 ?_ | refine sn0 ?_
      refine og (fun hb => hy _ _ hb) ?_
      repeat first | refine sk ?_ | refine st ?_ | refine sg ?_ | refine sh ?_ | refine su ?_ | refine sn1 ?_ | refine sn0 ?_
      refine And.intro (by kernel_rfl) ?_
      have et := hiF_take (g := g) hi'
      refine And.intro (fun h3 => ?_) (fun h3 => ?_)
      · have h3 : (knownF g (l.getD i 0) && ((decide (hiF g (l.take i) < 0) || decide (lv g (l.getD i 0) > lv g (hiF g (l.take i)))) || (lv g (l.getD i 0) == lv g (hiF g (l.take i)) && decide (l.getD i 0 < hiF g (l.take i))))) = true := h3
        rw [hiStep, h3] at et
        simp only [cond_true] at et
        refine ⟨i + 1, ⟨by omega, by rw [et]; omega, by rw [et]; omega⟩, by omega, ?_⟩
        exact SubI.of0 href [] rfl ⟨⟨rfl, LeBx.rfl⟩, trivial⟩ ⟨⟨rfl, LeQ.rfl⟩, ⟨rfl, LeQ.rfl⟩, ⟨rfl, LeQ.int et.symm⟩, ⟨rfl, LeQ.int (w64_of (by omega) (by omega))⟩, trivial⟩
      · have h3 : (knownF g (l.getD i 0) && ((decide (hiF g (l.take i) < 0) || decide (lv g (l.getD i 0) > lv g (hiF g (l.take i)))) || (lv g (l.getD i 0) == lv g (hiF g (l.take i)) && decide (l.getD i 0 < hiF g (l.take i))))) = false := h3
        rw [hiStep, h3] at et
        simp only [cond_false] at et
        refine ⟨i + 1, ⟨by omega, by rw [et]; omega, by rw [et]; exact hb1⟩, by omega, ?_⟩
        exact SubI.of0 href [] rfl ⟨⟨rfl, LeBx.rfl⟩, trivial⟩ ⟨⟨rfl, LeQ.rfl⟩, ⟨rfl, LeQ.rfl⟩, ⟨rfl, LeQ.int et.symm⟩, ⟨rfl, LeQ.int (w64_of (by omega) (by omega))⟩, trivial⟩
    · have h : ¬ (i : Int) < l.length := decF h
      obtain rfl : i = l.length := by omega
      exact SubR.of_eq (congrArg (fun x => vI (hiF g x)) List.take_length)

def botsL (c : Chan) (g : Grid) (i : Nat) : List Int := (List.range i).filterMap fun k => bif botI c g k then some (k : Int) else none
theorem botsL_succ (c : Chan) (g : Grid) (i : Nat) : botsL c g (i + 1) = bif botI c g i then botsL c g i ++ [(i : Int)] else botsL c g i := by
  unfold botsL
  rw [filterMap_range_succ]
  cases botI c g i <;> simp
theorem botsL_len (c : Chan) (g : Grid) (i : Nat) : (botsL c g i).length ≤ i := by
  have := List.length_filterMap_le (fun k => bif botI c g k then some (k : Int) else none) (List.range i)
  rw [List.length_range] at this
  exact this
theorem botsL_mem {c : Chan} {g : Grid} {i : Nat} {k : Int} (h : k ∈ botsL c g i) : 0 ≤ k ∧ k < i := by
  unfold botsL at h
  simp only [List.mem_filterMap, List.mem_range] at h
  obtain ⟨j, hj, h⟩ := h
  cases h2 : botI c g j with
  | false => rw [h2] at h; cases h
  | true => rw [h2] at h; simp at h; omega
def flF (c : Chan) (g : Grid) (i : Nat) : Nat → Nat → DV := fun k _ => dI (if k < i ∧ botI c g k = false then 30000 else g.levels.getD k 0)
def floorG (c : Chan) (g : Grid) : Grid := { g with levels := (List.range g.levels.length).map fun k => if botI c g k = false then 30000 else g.levels.getD k 0 }
theorem rFloor (c : Chan) (g : Grid) (hv : Val c) (hg : GVal g) : CallP Tryz.prog 65 [chan c, grid g] (.t [.g [.d (dI g.x), .d (dI g.y), .d (dI g.side), .d (dI g.cols), .d (dI g.rows), .d (dInts (floorG c g).levels)], .s (.d (dInts (botsL c g g.levels.length)))]) := by
  have hn := hg.n
  refine callP_of_ex (rc := [37]) (N := 33) Tryz.func65 rfl rfl Tryz.call65 tab_ok mix rfl rfl (fun cx href => ?_)
  refine ⟨[(501, 601)], _, _, _, _, CopyGridO g (by omega), rfl, trivial, rfl, ?_⟩
  refine AW.loopI (fun i : Nat => ⟨[(2, .s (.ptr 2 0)), (3, .s (.ptr 3 0)), (4, .s (.ptr 4 0)), (6, .s (.ptr 6 0)), (7, .s (.mo (botsL c g i).isEmpty 100)), (8, vI i)],
      [(2, some (chanB c)), (3, some (gridB g)), (4, some (.cells [.d (dI 0), .d (dI 0), .d (dI 0), .d (dI 0), .d (dI 0), .d (.val (.slice none 0 0))])), (6, some (.cells [.d (dI g.x), .d (dI g.y), .d (dI g.side), .d (dI g.cols), .d (dI g.rows), .own 601])), (100, some (.mrow 3 (botsL c g i).length 1 (intEl (botsL c g i)))), (601, some (.row 3 g.levels.length 1 (flF c g i)))]⟩)
    (fun i => i ≤ g.levels.length) (fun i => g.levels.length - i) 0 (Nat.zero_le _) ?_ ?_
  · exact SubI.of0 href [(100, 1000)] rfl ⟨⟨rfl, LeBx.rfl⟩, ⟨rfl, LeBx.rfl⟩, ⟨rfl, LeBx.rfl⟩, ⟨rfl, LeBx.rfl⟩, ⟨rfl, rfl⟩, ⟨rfl, LeBx.row rfl fun k j _ _ => LeD.refl _⟩, trivial⟩ ⟨⟨rfl, LeQ.rfl⟩, ⟨rfl, LeQ.rfl⟩, ⟨rfl, LeQ.rfl⟩, ⟨rfl, LeQ.rfl⟩, ⟨rfl, LeQ.nil rfl⟩, ⟨rfl, LeQ.rfl⟩, trivial⟩
  · intro i hi
    have hlen := botsL_len c g i
    refine ex.sound (rc := [37]) tab_ok mix href _ ?_
    refine And.intro (fun h => ?_) (fun h => ?_)
    · have h : (i : Int) < g.levels.length := decT h
      have hi' : i < g.levels.length := by omega
      have hgd := (centre_good hg hi').1
      refine callN (Centre g i (by have := hg.cols; omega)) ?_
      refine callN (rBottom c (centreG g i) hv hgd) ?_
      refine And.intro (by kernel_rfl) ?_
      refine And.intro (fun h2 => ?_) (fun h2 => ?_)
      · have h2 : botI c g i = true := h2
        have e : botsL c g (i + 1) = botsL c g i ++ [(i : Int)] := by rw [botsL_succ, h2]; rfl
        refine ob (by decide) ?_
        refine ob (by rw [bif_len]; show _ * 8 ≤ _; omega) ?_
        refine ob (fit1 (lt1 rfl)) ?_
        refine ⟨i + 1, by omega, by omega, ?_⟩
        refine SubI.of0 href [(100, 26)] rfl ⟨⟨rfl, LeBx.rfl⟩, ⟨rfl, LeBx.rfl⟩, ⟨rfl, LeBx.rfl⟩, ⟨rfl, LeBx.rfl⟩, ⟨rfl, ?_⟩, ⟨rfl, LeBx.row rfl fun k j hk hj => LeD.of_eq ?_⟩, trivial⟩ ⟨⟨rfl, LeQ.rfl⟩, ⟨rfl, LeQ.rfl⟩, ⟨rfl, LeQ.rfl⟩, ⟨rfl, LeQ.rfl⟩, ⟨rfl, LeQ.mo ?_⟩, ⟨rfl, LeQ.int (w64_of (by omega) (by omega))⟩, trivial⟩
        · show LeBx _ (.mrow 3 (botsL c g (i + 1)).length 1 (intEl (botsL c g (i + 1))))
          rw [e]
          exact RowIs.mrow (el := fun x _ => dI x) (RowIs.snoc intRow (lt1 rfl))
        · unfold flF
          congr 1
          by_cases hki : k = i
          · subst hki; simp [h2]
          · by_cases hlt : k < i
            · simp [hlt, Nat.lt_succ_of_lt hlt]
            · have : ¬ k < i + 1 := by omega
              simp [hlt, this]
        · rw [e]; exact isEmpty_snoc _ _
      · have h2 : botI c g i = false := h2
        have e : botsL c g (i + 1) = botsL c g i := by rw [botsL_succ, h2]; rfl
        refine oi ⟨by omega, by omega⟩ ?_
        refine ob hi' ?_
        refine ⟨i + 1, by omega, by omega, ?_⟩
        refine SubI.of0 href [] rfl ⟨⟨rfl, LeBx.rfl⟩, ⟨rfl, LeBx.rfl⟩, ⟨rfl, LeBx.rfl⟩, ⟨rfl, LeBx.rfl⟩, ⟨rfl, LeBx.of_eq (by rw [e]; rfl)⟩, ⟨rfl, LeBx.row rfl fun k j hk hj => LeD.of_eq ?_⟩, trivial⟩ ⟨⟨rfl, LeQ.rfl⟩, ⟨rfl, LeQ.rfl⟩, ⟨rfl, LeQ.rfl⟩, ⟨rfl, LeQ.rfl⟩, ⟨rfl, LeQ.of_eq (by rw [e]; rfl)⟩, ⟨rfl, LeQ.int (w64_of (by omega) (by omega))⟩, trivial⟩
        have hj : j = 0 := by have : j < 1 := hj; omega
        subst hj
        by_cases hki : k = i
        · subst hki
          refine rowSet_self.trans ?_
          unfold flF
          rw [if_pos ⟨Nat.lt_succ_self _, h2⟩]
        · refine (rowSet_ne hki).trans ?_
          unfold flF
          congr 1
          by_cases hlt : k < i
          · simp [hlt, Nat.lt_succ_of_lt hlt]
          · have : ¬ k < i + 1 := by omega
            simp [hlt, this]
    · have h : ¬ (i : Int) < g.levels.length := decF h
      have hi' : i = g.levels.length := by omega
      subst hi'
      refine SubR.t ⟨⟨LeD.refl _, LeD.refl _, LeD.refl _, LeD.refl _, LeD.refl _, LeD.slc' (by simp [floorG]) fun k j hk hj => LeD.of_eq ?_, trivial⟩, LeD.slc' (bif_len _) fun _ _ _ _ => LeD.refl _, trivial⟩
      unfold flF intEl
      congr 1
      simp [floorG, hk]
end Go.Ch

namespace Go.Ch
open Go Go.Ax Go.Proofs Go.Proofs.Tryz
set_option maxRecDepth 100000
set_option pp.maxSteps 400
set_option maxHeartbeats 1000000

def unkB (g : Grid) (k : Int) : Bool := lv g k == 30000
def rCtlR (c : Chan) (g : Grid) : Int × Int := bif (botsL c g g.levels.length).isEmpty then (0, 11) else bif (botsL c g g.levels.length).any (unkB g) then (0, 12) else (hiF g (botsL c g g.levels.length), 0)
theorem rControlling (c : Chan) (g : Grid) (hv : Val c) (hg : GVal g) : CallP Tryz.prog 27 [chan c, grid g] (rIE (rCtlR c g).1 (rCtlR c g).2) := by
  have hn := hg.n
  have hlen := botsL_len c g g.levels.length
  have hmem : ∀ i, i < (botsL c g g.levels.length).length → 0 ≤ (botsL c g g.levels.length).getD i 0 ∧ (botsL c g g.levels.length).getD i 0 < g.levels.length := by
    intro i hi
    have e : (botsL c g g.levels.length).getD i 0 = (botsL c g g.levels.length)[i] := by simp [List.getD_eq_getElem?_getD, hi]
    rw [e]
    exact botsL_mem (List.getElem_mem hi)
  unfold rCtlR
  refine callP_of_ex (rc := []) (N := 36) Tryz.func27 rfl rfl Tryz.call27 tab_ok mix rfl rfl (fun cx href => ?_)
  refine callN (rFloor c g hv hg) ?_
  generalize botsL c g g.levels.length = L at *
  refine And.intro (fun h => ?_) (fun h => ?_)
  · have h : ((L.length : Int) == 0) = true := h
    have e : L.isEmpty = true := by cases L with
      | nil => rfl
      | cons x r => simp at h; omega
    rw [e]
    exact SubR.t ⟨fun _ _ r => r, fun _ _ r => r, trivial⟩
  have h : ((L.length : Int) == 0) = false := h
  have e : L.isEmpty = false := by cases L with
    | nil => cases h
    | cons x r => rfl
  rw [e]
  refine AW.loopI (fun i : Nat => ⟨[(3, .s (.ptr 3 0)), (7, vInts L), (8, vI i)], [(3, some (gridB g))]⟩) (fun i => i ≤ L.length ∧ ∀ j, j < i → unkB g (L.getD j default) = false) (fun i => L.length - i) 0 ⟨Nat.zero_le _, fun j hj => absurd hj (Nat.not_lt_zero j)⟩ ?_ ?_
  · exact SubI.of0 href [] rfl ⟨⟨rfl, LeBx.rfl⟩, trivial⟩ ⟨⟨rfl, LeQ.rfl⟩, ⟨rfl, LeQ.rfl⟩, ⟨rfl, LeQ.rfl⟩, trivial⟩
  · rintro i ⟨hi, hj⟩
    refine ex.sound (rc := []) tab_ok mix href _ ?_
    refine And.intro (fun h1 => ?_) (fun h1 => ?_)
    · have h1 : (i : Int) < L.length := decT h1
      have hi' : i < L.length := by omega
      refine oi ⟨by omega, by omega⟩ ?_
      refine oi (hmem i hi') ?_
      refine And.intro (by kernel_rfl) ?_
      refine And.intro (fun h2 => ?_) (fun h2 => ?_)
      · have h2 : unkB g (L.getD i default) = true := h2
        rw [any_getD (unkB g) L i hi' h2]
        exact SubR.t ⟨fun _ _ r => r, fun _ _ r => r, trivial⟩
      · have h2 : unkB g (L.getD i default) = false := h2
        refine ⟨i + 1, ⟨by omega, fun j hj' => ?_⟩, by omega, ?_⟩
        · by_cases hji : j = i
          · rw [hji]; exact h2
          · exact hj j (by omega)
        · exact SubI.of0 href [] rfl ⟨⟨rfl, LeBx.rfl⟩, trivial⟩ ⟨⟨rfl, LeQ.rfl⟩, ⟨rfl, LeQ.rfl⟩, ⟨rfl, LeQ.int (w64_of (by omega) (by omega))⟩, trivial⟩
    · have h1 : ¬ (i : Int) < L.length := decF h1
      rw [any_drop (unkB g) L fun j hj' => hj j (by omega)]
      refine callN (rHighest g L (by omega) hmem) ?_
      exact SubR.t ⟨LeD.refl _, fun _ _ r => r, trivial⟩
theorem cont_bots (c : Chan) (g : Grid) : ∀ i, i ≤ g.levels.length → decide ((contF c g i).1 < 0) = (botsL c g i).isEmpty ∧ (contF c g i).2 = (botsL c g i).any (unkB g) ∧ ((contF c g i).2 = false → hiF g (botsL c g i) = (contF c g i).1)
  | 0, _ => ⟨rfl, rfl, fun _ => rfl⟩
  | i + 1, hi => by
    obtain ⟨h1, h2, h3⟩ := cont_bots c g i (by omega)
    have hin := contF_in c g i
    rw [contF, botsL_succ]
    cases hb : botI c g i with
    | false => exact ⟨h1, h2, h3⟩
    | true =>
      simp only [Bool.not_true, cond_false, cond_true]
      refine ⟨?_, ?_, fun h => ?_⟩
      · rw [isEmpty_snoc]
        unfold stepC
        cases hs : decide ((contF c g i).1 < 0) || decide (lv g i > lv g (contF c g i).1) with
        | true => simp only [cond_true, decide_eq_false_iff_not]; omega
        | false =>
          simp only [Bool.or_eq_false_iff, decide_eq_false_iff_not] at hs
          simp only [cond_false, decide_eq_false_iff_not]; exact hs.1
      · unfold stepC
        rw [List.any_append, h2]
        simp [unkB]
      · unfold stepC at h ⊢
        simp only [Bool.or_eq_false_iff] at h
        have h3 := h3 h.1
        unfold hiF at h3 ⊢
        rw [List.foldl_append, h3]
        show hiStep g (contF c g i).1 i = _
        have hk : knownF g (i : Int) = true := by
          unfold knownF
          have : (lv g (i : Int) != 30000) = true := by simpa using h.2
          rw [this, decide_eq_true (show (i : Int) ≥ 0 by omega), decide_eq_true (show (i : Int) < g.levels.length by omega)]; rfl
        have hlt : decide ((i : Int) < (contF c g i).1) = false := decide_eq_false (by omega)
        unfold hiStep
        rw [hk, hlt, Bool.and_false, Bool.or_false, Bool.true_and]
theorem ctl_eq (c : Chan) (g : Grid) (h : withErr c [g] = 0) : ctlR c g = rCtlR c g := by
  obtain ⟨h1, h2, h3⟩ := cont_bots c g _ (Nat.le_refl _)
  unfold ctlR rCtlR
  rw [h, ← h1, ← h2]
  cases hb : (contF c g g.levels.length).2 with
  | true => rfl
  | false => rw [h3 hb]; rfl
attribute [local irreducible] withErr few small contF botsL in
theorem Controls (c : Chan) (g : Grid) (hc : c.ok) (hg : g.ok) : CallP Tryz.prog 5 [chan c, grid g] (vB true) := by
  refine callP_of_ex (rc := []) (N := 46) Tryz.func5 rfl rfl Tryz.call5 tab_ok mix rfl rfl (fun cx href => ?_)
  refine callN awake ?_
  refine And.intro (fun h => by cases h) (fun _ => ?_)
  refine callN (Small c hc) ?_
  repeat first | refine sk ?_ | refine st ?_ | refine sg ?_ | refine sh ?_ | refine su ?_ | refine sn1 ?_ | refine sn0 ?_
  refine callG (Few g hg.levels) ?_
  repeat first | refine sk ?_ | refine st ?_ | refine sg ?_ | refine sh ?_ | refine su ?_ | refine sn1 ?_ | refine sn0 ?_
  refine And.intro (fun _ => SubR.lit rfl) (fun h1 => ?_)
  have h1 : (!small c || !few g) = false := h1
  have hs : small c = true := by
    cases h : small c
    · rw [h] at h1; cases h1
    · rfl
  refine callN (Copied c (Sm.of hs)) ?_
  refine callN (Controlling c g hc hg) ?_
  refine And.intro (by kernel_rfl) ?_
  refine callN ((rWith c [g] hc (by intro x hx; simp at hx; subst hx; exact hg) (by simp)).conv (args' := _) ⟨⟨LeD.refl _, LeD.refl _, LeD.refl _, LeD.refl _, LeD.refl _, trivial⟩, LeD.slc' rfl fun i j hi hj => LeD.of_eq ?_, trivial⟩) ?_
  · match i, j, hi, hj with
    | 0, 0, _, _ => rfl
    | 0, 1, _, _ => rfl
    | 0, 2, _, _ => rfl
    | 0, 3, _, _ => rfl
    | 0, 4, _, _ => rfl
    | 0, 5, _, _ => rfl
  refine And.intro (fun h2 => ?_) (fun h2 => ?_)
  · have h2 : (withErr c [g] == 0) = true := h2
    have h0 : withErr c [g] = 0 := by simpa using h2
    obtain ⟨g1, g2⟩ := withErr1_zero h0
    refine callN (rControlling c g (val_of c g1) (GVal.of g2)) ?_
    rw [ctl_eq c g h0]
    repeat first | refine sk ?_ | refine st ?_ | refine sg ?_ | refine sh ?_ | refine su ?_ | refine sn1 ?_ | refine sn0 ?_
    refine SubR.of_eq ?_
    show vB ((rCtlR c g).2 == (rCtlR c g).2 && (rCtlR c g).1 == (rCtlR c g).1) = vB true
    simp
  · have h2 : (withErr c [g] == 0) = false := h2
    have h2' : (withErr c [g] != 0) = true := by simpa using h2
    have e : ctlR c g = (0, withErr c [g]) := by unfold ctlR; rw [h2']; rfl
    rw [e]
    repeat first | refine sk ?_ | refine st ?_ | refine sg ?_ | refine sh ?_ | refine su ?_ | refine sn1 ?_ | refine sn0 ?_
    refine SubR.of_eq ?_
    show vB (withErr c [g] == withErr c [g] && (0 : Int) == 0) = vB true
    simp
end Go.Ch

namespace Go.Ch
open Go Go.Ax Go.Proofs Go.Proofs.Tryz
set_option maxRecDepth 100000
set_option pp.maxSteps 400
set_option maxHeartbeats 1000000

/-- What one cell has to lose. -/
def needS (g : Grid) (sum : Int) (i : Nat) (level : Int) : Int :=
  bif g.levels.getD i 0 != 30000 then w64 (sum + w64 (w64 (g.side * g.side) * mm true 0 (w64 (g.levels.getD i 0 - level)))) else sum
abbrev needB (g : Grid) (sum : Int) : BoxL := [(1001, gridB g), (1002, .cells [.d (dI sum)])]
theorem needed1 (g : Grid) (sum : Int) (i : Nat) (level : Int) (hi : i < g.levels.length) :
    CallR Tryz.prog 59 [vI i, vI level, .s (.ptr 1001 0), .s (.ptr 1002 0)] (needB g sum) (.t []) (needB g (needS g sum i level)) := by
  refine callR_of_ex (rc := []) (N := 28) Tryz.func59 rfl rfl Tryz.call59 tab_ok mix rfl rfl rfl rfl (fun cx href => ?_)
  refine oi ⟨by omega, by omega⟩ ?_
  refine And.intro (fun h1 => ?_) (fun h1 => ?_)
  · have h1 : (g.levels.getD i 0 != 30000) = true := h1
    refine oi ⟨by omega, by omega⟩ ?_
    refine And.intro (by kernel_rfl) ?_
    have e : needS g sum i level = w64 (sum + w64 (w64 (g.side * g.side) * mm true 0 (w64 (g.levels.getD i 0 - level)))) := by unfold needS; rw [h1]; rfl
    rw [e]
    exact ⟨SubR.refl _, rfl, rfl, trivial⟩
  · have h1 : (g.levels.getD i 0 != 30000) = false := h1
    have e : needS g sum i level = sum := by unfold needS; rw [h1]; rfl
    rw [e]
    exact ⟨SubR.refl _, rfl, rfl, trivial⟩
def needL (c : Chan) (g : Grid) : Nat → Int
  | 0 => 0
  | i + 1 => bif (desF c (centreG g i)).2 then needS g (needL c g i) i (desF c (centreG g i)).1 else needL c g i
theorem designedNeed (c : Chan) (g : Grid) (hv : Val c) (eg : errG g = 0) :
    CallR Tryz.prog 58 [chan c, grid g, .s (.clo 59 [.ptr 1001 0, .ptr 1002 0])] (needB g 0) (.t []) (needB g (needL c g g.levels.length)) := by
  have gv := GVal.of eg
  have hn := gv.n
  refine callR_of_ex (rc := [59]) (N := 29) Tryz.func58 rfl rfl Tryz.call58 tab_ok mix rfl rfl rfl rfl (fun cx href => ?_)
  refine AW.loopI (fun i : Nat => ⟨[(2, .s (.clo 59 [.ptr 1001 0, .ptr 1002 0])), (3, .s (.ptr 3 0)), (4, .s (.ptr 4 0)), (11, vI g.levels.length), (12, vI i)],
      [(3, some (chanB c)), (4, some (gridB g)), (1001, some (gridB g)), (1002, some (.cells [.d (dI (needL c g i))]))]⟩)
    (fun i => i ≤ g.levels.length) (fun i => g.levels.length - i) 0 (Nat.zero_le _) ?_ ?_
  · exact SubI.of [] (by rw [href]; rfl) rfl ⟨⟨rfl, LeBx.rfl⟩, ⟨rfl, LeBx.rfl⟩, ⟨rfl, LeBx.rfl⟩, ⟨rfl, LeBx.rfl⟩, trivial⟩ ⟨⟨rfl, LeQ.rfl⟩, ⟨rfl, LeQ.rfl⟩, ⟨rfl, LeQ.rfl⟩, ⟨rfl, LeQ.rfl⟩, ⟨rfl, LeQ.rfl⟩, trivial⟩
  · intro i hi
    refine ex.sound (rc := [59]) tab_ok mix href _ ?_
    refine And.intro (fun h1 => ?_) (fun h1 => ?_)
    · have h1 : (i : Int) < g.levels.length := decT h1
      have hi' : i < g.levels.length := by omega
      have hg := (centre_good gv hi').1
      refine callN (ccentre g i eg (by omega) (by omega) (by omega)) ?_
      refine callN (design c (centreG g i) hv hg) ?_
      refine And.intro (by kernel_rfl) ?_
      refine And.intro (fun h2 => ?_) (fun h2 => ?_)
      · have h2 : (desF c (centreG g i)).2 = true := h2
        have e : needL c g (i + 1) = needS g (needL c g i) i (desF c (centreG g i)).1 := by rw [needL, h2]; rfl
        refine ⟨[], _, _, _, _, needed1 g (needL c g i) i (desF c (centreG g i)).1 hi', rfl, ⟨rfl, rfl, trivial⟩, rfl, ?_⟩
        refine ⟨i + 1, by omega, by omega, ?_⟩
        exact SubI.of [] (by rw [href]; rfl) rfl ⟨⟨rfl, LeBx.rfl⟩, ⟨rfl, LeBx.rfl⟩, ⟨rfl, LeBx.rfl⟩, ⟨rfl, LeBx.of_eq (by rw [e])⟩, trivial⟩ ⟨⟨rfl, LeQ.rfl⟩, ⟨rfl, LeQ.rfl⟩, ⟨rfl, LeQ.rfl⟩, ⟨rfl, LeQ.rfl⟩, ⟨rfl, LeQ.int (w64_of (by omega) (by omega))⟩, trivial⟩
      · have h2 : (desF c (centreG g i)).2 = false := h2
        have e : needL c g (i + 1) = needL c g i := by rw [needL, h2]; rfl
        refine ⟨i + 1, by omega, by omega, ?_⟩
        exact SubI.of [] (by rw [href]; rfl) rfl ⟨⟨rfl, LeBx.rfl⟩, ⟨rfl, LeBx.rfl⟩, ⟨rfl, LeBx.rfl⟩, ⟨rfl, LeBx.of_eq (by rw [e]; rfl)⟩, trivial⟩ ⟨⟨rfl, LeQ.rfl⟩, ⟨rfl, LeQ.rfl⟩, ⟨rfl, LeQ.rfl⟩, ⟨rfl, LeQ.rfl⟩, ⟨rfl, LeQ.int (w64_of (by omega) (by omega))⟩, trivial⟩
    · have h1 : ¬ (i : Int) < g.levels.length := decF h1
      obtain rfl : i = g.levels.length := by omega
      exact ⟨SubR.refl _, rfl, rfl, trivial⟩
def needF (c : Chan) (g : Grid) : Int := bif withErr c [g] != 0 then 0 else needL c g g.levels.length
attribute [local irreducible] withErr in
theorem Needed (c : Chan) (g : Grid) (hc : c.ok) (hg : g.ok) : CallP Tryz.prog 20 [chan c, grid g] (rIE (needF c g) (withErr c [g])) := by
  refine callP_of_ex (rc := [58]) (N := 19) Tryz.func20 rfl rfl Tryz.call20 tab_ok mix rfl rfl (fun cx href => ?_)
  refine callN (cboth c g hc hg) ?_
  refine And.intro (fun h1 => ?_) (fun h1 => ?_)
  · exact SubR.of_eq (by unfold needF; rw [show (withErr c [g] != 0) = true from h1]; rfl)
  have h1 : (withErr c [g] != 0) = false := h1
  have h0 : withErr c [g] = 0 := by simpa using h1
  obtain ⟨e1, e2⟩ := withErr1_zero h0
  refine ⟨[(1001, 3), (1002, 7)], _, _, _, _, designedNeed c g (val_of c e1) e2, rfl, ⟨rfl, rfl, trivial⟩, rfl, ?_⟩
  exact SubR.of_eq (by unfold needF; rw [h1, h0]; rfl)

/-- The cells that are too high. -/
def openC (c : Chan) (g : Grid) (i : Nat) : Bool := (desF c (centreG g i)).2 && (g.levels.getD i 0 != 30000 && decide (g.levels.getD i 0 > (desF c (centreG g i)).1))
def openL (c : Chan) (g : Grid) (i : Nat) : List Int := (List.range i).filterMap fun k => bif openC c g k then some (k : Int) else none
theorem openL_succ (c : Chan) (g : Grid) (i : Nat) : openL c g (i + 1) = bif openC c g i then openL c g i ++ [(i : Int)] else openL c g i := by
  unfold openL
  rw [filterMap_range_succ]
  cases openC c g i <;> simp
theorem openL_len (c : Chan) (g : Grid) (i : Nat) : (openL c g i).length ≤ i := by
  have := List.length_filterMap_le (fun k => bif openC c g k then some (k : Int) else none) (List.range i)
  rw [List.length_range] at this
  exact this
def openB (g : Grid) : List Int → BoxL
  | [] => [(1001, gridB g), (1002, .cells [.d (.val (.slice none 0 0))])]
  | x :: r => [(1001, gridB g), (1002, .cells [.own 1003]), (1003, .row 3 (x :: r).length 1 (intEl (x :: r)))]
def openHit (g : Grid) (i : Nat) (level : Int) : Bool := g.levels.getD i 0 != 30000 && decide (g.levels.getD i 0 > level)
theorem open1_no (g : Grid) (l : List Int) (i : Nat) (level : Int) (hi : i < g.levels.length) (h : openHit g i level = false) :
    CallR Tryz.prog 60 [vI i, vI level, .s (.ptr 1001 0), .s (.ptr 1002 0)] (openB g l) (.t []) (openB g l) := by
  cases l with
  | nil =>
    refine callQ_of_ex (rc := []) (N := 25) Tryz.func60 rfl rfl Tryz.call60 tab_ok mix rfl rfl rfl (fun cx href => ?_)
    refine oi ⟨by omega, by omega⟩ ?_
    repeat first | refine sk ?_ | refine st ?_ | refine sg ?_ | refine sh ?_ | refine su ?_ | refine sn1 ?_ | refine sn0 ?_
    refine og (fun _ => ⟨by omega, by omega⟩) ?_
    repeat first | refine sk ?_ | refine st ?_ | refine sg ?_ | refine sh ?_ | refine su ?_ | refine sn1 ?_ | refine sn0 ?_
    refine And.intro (fun h1 => ?_) (fun _ => ⟨rfl, rfl, trivial⟩)
    have h1 : openHit g i level = true := h1
    rw [h] at h1; cases h1
  | cons x r =>
    refine callQ_of_ex (rc := []) (N := 25) Tryz.func60 rfl rfl Tryz.call60 tab_ok mix rfl rfl rfl (fun cx href => ?_)
    refine oi ⟨by omega, by omega⟩ ?_
    repeat first | refine sk ?_ | refine st ?_ | refine sg ?_ | refine sh ?_ | refine su ?_ | refine sn1 ?_ | refine sn0 ?_
    refine og (fun _ => ⟨by omega, by omega⟩) ?_
    repeat first | refine sk ?_ | refine st ?_ | refine sg ?_ | refine sh ?_ | refine su ?_ | refine sn1 ?_ | refine sn0 ?_
    refine And.intro (fun h1 => ?_) (fun _ => ⟨rfl, rfl, rfl, trivial⟩)
    have h1 : openHit g i level = true := h1
    rw [h] at h1; cases h1
theorem open1_yes (g : Grid) (l : List Int) (i : Nat) (level : Int) (hi : i < g.levels.length) (hl : l.length ≤ 1000000) (h : openHit g i level = true) :
    ∃ n f, RowIs 1 n f (fun x _ => dI x) (l ++ [(i : Int)]) ∧
      CallR Tryz.prog 60 [vI i, vI level, .s (.ptr 1001 0), .s (.ptr 1002 0)] (openB g l) (.t []) [(1001, gridB g), (1002, .cells [.own 24]), (24, .row 3 n 1 f)] := by
  cases l with
  | nil =>
    apply Exists.intro
    apply Exists.intro
    apply And.intro
    rotate_left
    · refine callQ_of_ex (rc := []) (N := 25) Tryz.func60 rfl rfl Tryz.call60 tab_ok mix rfl rfl rfl (fun cx href => ?_)
      refine oi ⟨by omega, by omega⟩ ?_
      repeat first | refine sk ?_ | refine st ?_ | refine sg ?_ | refine sh ?_ | refine su ?_ | refine sn1 ?_ | refine sn0 ?_
      refine og (fun _ => ⟨by omega, by omega⟩) ?_
      repeat first | refine sk ?_ | refine st ?_ | refine sg ?_ | refine sh ?_ | refine su ?_ | refine sn1 ?_ | refine sn0 ?_
      refine And.intro (fun _ => ?_) (fun h1 => ?_)
      · refine ob (by decide) ?_
        refine ob (by decide) ?_
        exact ⟨rfl, rfl, rfl, trivial⟩
      · have h1 : openHit g i level = false := h1
        rw [h] at h1; cases h1
    all_goals exact RowIs.one (lt1 rfl)
  | cons x r =>
    apply Exists.intro
    apply Exists.intro
    apply And.intro
    rotate_left
    · refine callQ_of_ex (rc := []) (N := 25) Tryz.func60 rfl rfl Tryz.call60 tab_ok mix rfl rfl rfl (fun cx href => ?_)
      refine oi ⟨by omega, by omega⟩ ?_
      repeat first | refine sk ?_ | refine st ?_ | refine sg ?_ | refine sh ?_ | refine su ?_ | refine sn1 ?_ | refine sn0 ?_
      refine og (fun _ => ⟨by omega, by omega⟩) ?_
      repeat first | refine sk ?_ | refine st ?_ | refine sg ?_ | refine sh ?_ | refine su ?_ | refine sn1 ?_ | refine sn0 ?_
      refine And.intro (fun _ => ?_) (fun h1 => ?_)
      · refine ob (show ((x :: r).length + 1) * 8 ≤ _ by omega) ?_
        refine ob (fit1 (lt1 rfl)) ?_
        exact ⟨rfl, rfl, rfl, trivial⟩
      · have h1 : openHit g i level = false := h1
        rw [h] at h1; cases h1
    all_goals exact RowIs.snoc ⟨rfl, fun _ _ _ _ => rfl⟩ (lt1 rfl)
end Go.Ch

namespace Go.Ch
open Go Go.Ax Go.Proofs Go.Proofs.Tryz
set_option maxRecDepth 100000
set_option pp.maxSteps 400
set_option maxHeartbeats 1000000

abbrev cloO : AV := .s (.clo 60 [.ptr 1001 0, .ptr 1002 0])
def openSt (c : Chan) (g : Grid) (i : Nat) : List Int → St
  | [] => ⟨[(2, cloO), (3, .s (.ptr 3 0)), (4, .s (.ptr 4 0)), (11, vI g.levels.length), (12, vI i)], [(3, some (chanB c)), (4, some (gridB g)), (1001, some (gridB g)), (1002, some (.cells [.d (.val (.slice none 0 0))]))]⟩
  | x :: r => ⟨[(2, cloO), (3, .s (.ptr 3 0)), (4, .s (.ptr 4 0)), (11, vI g.levels.length), (12, vI i)], [(3, some (chanB c)), (4, some (gridB g)), (1001, some (gridB g)), (1002, some (.cells [.own 1003])), (1003, some (.row 3 (x :: r).length 1 (intEl (x :: r))))]⟩
theorem snoc_cons {α : Type} : ∀ (l : List α) (x : α), ∃ y r, l ++ [x] = y :: r
  | [], x => ⟨x, [], rfl⟩
  | y :: r, x => ⟨y, r ++ [x], rfl⟩
theorem designedOpen (c : Chan) (g : Grid) (hv : Val c) (eg : errG g = 0) :
    CallR Tryz.prog 58 [chan c, grid g, cloO] (openB g []) (.t []) (openB g (openL c g g.levels.length)) := by
  have gv := GVal.of eg
  have hn := gv.n
  refine callQ_of_ex (rc := [60]) (N := 29) Tryz.func58 rfl rfl Tryz.call58 tab_ok mix rfl (by cases openL c g g.levels.length <;> rfl) rfl (fun cx href => ?_)
  refine AW.loopI (fun i : Nat => openSt c g i (openL c g i)) (fun i => i ≤ g.levels.length) (fun i => g.levels.length - i) 0 (Nat.zero_le _) ?_ ?_
  · exact SubI.of [] (by rw [href]; rfl) rfl ⟨⟨rfl, LeBx.rfl⟩, ⟨rfl, LeBx.rfl⟩, ⟨rfl, LeBx.rfl⟩, ⟨rfl, LeBx.rfl⟩, trivial⟩ ⟨⟨rfl, LeQ.rfl⟩, ⟨rfl, LeQ.rfl⟩, ⟨rfl, LeQ.rfl⟩, ⟨rfl, LeQ.rfl⟩, ⟨rfl, LeQ.rfl⟩, trivial⟩
  · intro i hi
    have hlen := openL_len c g i
    have hsucc := openL_succ c g i
    cases hL : openL c g i with
    | nil =>
      rw [hL] at hsucc
      refine ex.sound (rc := [60]) tab_ok mix href _ ?_
      refine And.intro (fun h1 => ?_) (fun h1 => ?_)
      · have h1 : (i : Int) < g.levels.length := decT h1
        have hi' : i < g.levels.length := by omega
        have hg := (centre_good gv hi').1
        refine callN (ccentre g i eg (by omega) (by omega) (by omega)) ?_
        refine callN (design c (centreG g i) hv hg) ?_
        refine And.intro (by kernel_rfl) ?_
        refine And.intro (fun h2 => ?_) (fun h2 => ?_)
        · have h2 : (desF c (centreG g i)).2 = true := h2
          cases h3 : openHit g i (desF c (centreG g i)).1 with
          | true =>
            have e : openC c g i = true := by unfold openC; rw [h2]; exact h3
            rw [e] at hsucc
            obtain ⟨n, f, hrow, hcall⟩ := open1_yes g [] i (desF c (centreG g i)).1 hi' (by simp) h3
            refine ⟨[(24, 701)], _, _, _, _, hcall, rfl, ⟨rfl, rfl, trivial⟩, rfl, ?_⟩
            refine ⟨i + 1, by omega, by omega, ?_⟩
            rw [hsucc]
            exact SubI.of [(1003, 701)] (by rw [href]; rfl) rfl ⟨⟨rfl, LeBx.rfl⟩, ⟨rfl, LeBx.rfl⟩, ⟨rfl, LeBx.rfl⟩, ⟨rfl, LeBx.rfl⟩, ⟨rfl, hrow.row⟩, trivial⟩ ⟨⟨rfl, LeQ.rfl⟩, ⟨rfl, LeQ.rfl⟩, ⟨rfl, LeQ.rfl⟩, ⟨rfl, LeQ.rfl⟩, ⟨rfl, LeQ.int (w64_of (by omega) (by omega))⟩, trivial⟩
          | false =>
            have e : openC c g i = false := by unfold openC; rw [h2]; exact h3
            rw [e] at hsucc
            refine ⟨[], _, _, _, _, open1_no g [] i (desF c (centreG g i)).1 hi' h3, rfl, ⟨rfl, rfl, trivial⟩, rfl, ?_⟩
            refine ⟨i + 1, by omega, by omega, ?_⟩
            rw [hsucc]
            exact SubI.of [] (by rw [href]; rfl) rfl ⟨⟨rfl, LeBx.rfl⟩, ⟨rfl, LeBx.rfl⟩, ⟨rfl, LeBx.rfl⟩, ⟨rfl, LeBx.rfl⟩, trivial⟩ ⟨⟨rfl, LeQ.rfl⟩, ⟨rfl, LeQ.rfl⟩, ⟨rfl, LeQ.rfl⟩, ⟨rfl, LeQ.rfl⟩, ⟨rfl, LeQ.int (w64_of (by omega) (by omega))⟩, trivial⟩
        · have h2 : (desF c (centreG g i)).2 = false := h2
          have e : openC c g i = false := by unfold openC; rw [h2]; rfl
          rw [e] at hsucc
          refine ⟨i + 1, by omega, by omega, ?_⟩
          rw [hsucc]
          exact SubI.of [] (by rw [href]; rfl) rfl ⟨⟨rfl, LeBx.rfl⟩, ⟨rfl, LeBx.rfl⟩, ⟨rfl, LeBx.rfl⟩, ⟨rfl, LeBx.rfl⟩, trivial⟩ ⟨⟨rfl, LeQ.rfl⟩, ⟨rfl, LeQ.rfl⟩, ⟨rfl, LeQ.rfl⟩, ⟨rfl, LeQ.rfl⟩, ⟨rfl, LeQ.int (w64_of (by omega) (by omega))⟩, trivial⟩
      · have h1 : ¬ (i : Int) < g.levels.length := decF h1
        obtain rfl : i = g.levels.length := by omega
        rw [hL]
        exact ⟨rfl, rfl, trivial⟩
    | cons x r =>
      rw [hL] at hsucc hlen
      refine ex.sound (rc := [60]) tab_ok mix href _ ?_
      refine And.intro (fun h1 => ?_) (fun h1 => ?_)
      · have h1 : (i : Int) < g.levels.length := decT h1
        have hi' : i < g.levels.length := by omega
        have hg := (centre_good gv hi').1
        refine callN (ccentre g i eg (by omega) (by omega) (by omega)) ?_
        refine callN (design c (centreG g i) hv hg) ?_
        refine And.intro (by kernel_rfl) ?_
        refine And.intro (fun h2 => ?_) (fun h2 => ?_)
        · have h2 : (desF c (centreG g i)).2 = true := h2
          cases h3 : openHit g i (desF c (centreG g i)).1 with
          | true =>
            have e : openC c g i = true := by unfold openC; rw [h2]; exact h3
            rw [e] at hsucc
            obtain ⟨n, f, hrow, hcall⟩ := open1_yes g (x :: r) i (desF c (centreG g i)).1 hi' (by omega) h3
            refine ⟨[(24, 701)], _, _, _, _, hcall, rfl, ⟨rfl, rfl, rfl, trivial⟩, rfl, ?_⟩
            refine ⟨i + 1, by omega, by omega, ?_⟩
            rw [hsucc]
            exact SubI.of [(1003, 701)] (by rw [href]; rfl) rfl ⟨⟨rfl, LeBx.rfl⟩, ⟨rfl, LeBx.rfl⟩, ⟨rfl, LeBx.rfl⟩, ⟨rfl, LeBx.rfl⟩, ⟨rfl, hrow.row⟩, trivial⟩ ⟨⟨rfl, LeQ.rfl⟩, ⟨rfl, LeQ.rfl⟩, ⟨rfl, LeQ.rfl⟩, ⟨rfl, LeQ.rfl⟩, ⟨rfl, LeQ.int (w64_of (by omega) (by omega))⟩, trivial⟩
          | false =>
            have e : openC c g i = false := by unfold openC; rw [h2]; exact h3
            rw [e] at hsucc
            refine ⟨[], _, _, _, _, open1_no g (x :: r) i (desF c (centreG g i)).1 hi' h3, rfl, ⟨rfl, rfl, rfl, trivial⟩, rfl, ?_⟩
            refine ⟨i + 1, by omega, by omega, ?_⟩
            rw [hsucc]
            exact SubI.of [] (by rw [href]; rfl) rfl ⟨⟨rfl, LeBx.rfl⟩, ⟨rfl, LeBx.rfl⟩, ⟨rfl, LeBx.rfl⟩, ⟨rfl, LeBx.rfl⟩, ⟨rfl, LeBx.rfl⟩, trivial⟩ ⟨⟨rfl, LeQ.rfl⟩, ⟨rfl, LeQ.rfl⟩, ⟨rfl, LeQ.rfl⟩, ⟨rfl, LeQ.rfl⟩, ⟨rfl, LeQ.int (w64_of (by omega) (by omega))⟩, trivial⟩
        · have h2 : (desF c (centreG g i)).2 = false := h2
          have e : openC c g i = false := by unfold openC; rw [h2]; rfl
          rw [e] at hsucc
          refine ⟨i + 1, by omega, by omega, ?_⟩
          rw [hsucc]
          exact SubI.of [] (by rw [href]; rfl) rfl ⟨⟨rfl, LeBx.rfl⟩, ⟨rfl, LeBx.rfl⟩, ⟨rfl, LeBx.rfl⟩, ⟨rfl, LeBx.rfl⟩, ⟨rfl, LeBx.rfl⟩, trivial⟩ ⟨⟨rfl, LeQ.rfl⟩, ⟨rfl, LeQ.rfl⟩, ⟨rfl, LeQ.rfl⟩, ⟨rfl, LeQ.rfl⟩, ⟨rfl, LeQ.int (w64_of (by omega) (by omega))⟩, trivial⟩
      · have h1 : ¬ (i : Int) < g.levels.length := decF h1
        obtain rfl : i = g.levels.length := by omega
        rw [hL]
        exact ⟨rfl, rfl, rfl, trivial⟩
def openF (c : Chan) (g : Grid) : List Int := bif withErr c [g] != 0 then [] else openL c g g.levels.length
abbrev rIntsE (l : List Int) (e : Int) : AV := .t [.s (.d (dInts l)), .s (.d (dI e))]
attribute [local irreducible] withErr in
theorem Open (c : Chan) (g : Grid) (hc : c.ok) (hg : g.ok) : CallP Tryz.prog 21 [chan c, grid g] (rIntsE (openF c g) (withErr c [g])) := by
  refine callP_of_ex (rc := [58]) (N := 19) Tryz.func21 rfl rfl Tryz.call21 tab_ok mix rfl rfl (fun cx href => ?_)
  refine callN (cboth c g hc hg) ?_
  refine And.intro (fun h1 => ?_) (fun h1 => ?_)
  · have h1 : (withErr c [g] != 0) = true := h1
    have e : openF c g = [] := by unfold openF; rw [h1]; rfl
    rw [e]
    exact SubR.t ⟨LeD.nil, LeD.refl _, trivial⟩
  have h1 : (withErr c [g] != 0) = false := h1
  have h0 : withErr c [g] = 0 := by simpa using h1
  obtain ⟨e1, e2⟩ := withErr1_zero h0
  have e : openF c g = openL c g g.levels.length := by unfold openF; rw [h1]; rfl
  have hd := designedOpen c g (val_of c e1) e2
  rw [e, h0]
  generalize openL c g g.levels.length = L at hd ⊢
  cases L with
  | nil =>
    refine ⟨[(1001, 3), (1002, 7)], _, _, _, _, hd, rfl, ⟨rfl, rfl, trivial⟩, rfl, ?_⟩
    exact SubR.t ⟨LeD.nil, fun _ _ r => r, trivial⟩
  | cons x r =>
    refine ⟨[(1001, 3), (1002, 7), (1003, 801)], _, _, _, _, hd, rfl, ⟨rfl, rfl, trivial⟩, rfl, ?_⟩
    exact SubR.t ⟨LeD.refl _, fun _ _ r => r, trivial⟩
end Go.Ch

namespace Go.Ch
open Go Go.Ax Go.Proofs Go.Proofs.Tryz
set_option maxRecDepth 100000
set_option pp.maxSteps 400
set_option maxHeartbeats 1000000

theorem rIntsEq (a : List Int) (ha : a.length ≤ 1000000) : CallP Tryz.prog 24 [vInts a, vInts a] (vB true) := by
  refine callP_of_ex (rc := []) (N := 26) Tryz.func24 rfl rfl Tryz.call24 tab_ok mix rfl rfl (fun cx href => ?_)
  refine And.intro (fun h => ?_) (fun _ => ?_)
  · exfalso
    have h : ((a.length : Int) != (a.length : Int)) = true := h
    simp at h
  refine AW.loopI (fun i : Nat => ⟨[(0, vInts a), (1, vInts a), (5, vI i)], []⟩) (fun i => i ≤ a.length) (fun i => a.length - i) 0 (Nat.zero_le _) ?_ ?_
  · exact SubI.of0 href [] rfl trivial ⟨⟨rfl, LeQ.rfl⟩, ⟨rfl, LeQ.rfl⟩, ⟨rfl, LeQ.rfl⟩, trivial⟩
  · intro i hi
    refine ex.sound (rc := []) tab_ok mix href _ ?_
    refine And.intro (fun h => ?_) (fun h => ?_)
    · have h : decide ((i : Int) < a.length) = true := h
      have h := of_decide_eq_true h
      refine oi ⟨by omega, by omega⟩ ?_
      refine oi ⟨by omega, by omega⟩ ?_
      refine And.intro (by kernel_rfl) ?_
      refine And.intro (fun h2 => ?_) (fun _ => ?_)
      · exfalso
        have h2 : (a.getD i 0 != a.getD i 0) = true := h2
        simp at h2
      · refine ⟨i + 1, by omega, by omega, ?_⟩
        exact SubI.of0 href [] rfl trivial ⟨⟨rfl, LeQ.rfl⟩, ⟨rfl, LeQ.rfl⟩, ⟨rfl, LeQ.int (w64_of (by omega) (by omega))⟩, trivial⟩
    · exact SubR.lit rfl

def excS (g d : Grid) (sum : Int) (i : Nat) : Int :=
  bif d.levels.getD i 0 != 30000 && g.levels.getD i 0 != 30000 then w64 (sum + w64 (w64 (g.side * g.side) * mm true 0 (w64 (g.levels.getD i 0 - d.levels.getD i 0)))) else sum
def excF (g d : Grid) : Nat → Int
  | 0 => 0
  | i + 1 => excS g d (excF g d i) i
theorem rExcess (g d : Grid) (hn : g.levels.length ≤ 1000000) (hl : d.levels.length = g.levels.length) :
    CallP Tryz.prog 22 [grid g, grid d, .s (.d (.val (.slice none 0 0)))] (vI (excF g d g.levels.length)) := by
  refine callP_of_ex (rc := []) (N := 60) Tryz.func22 rfl rfl Tryz.call22 tab_ok mix rfl rfl (fun cx href => ?_)
  refine AW.loopI (fun i : Nat => ⟨[(2, .s (.d (.val (.slice none 0 0)))), (3, .s (.ptr 3 0)), (4, .s (.ptr 4 0)), (7, vI (excF g d i)), (8, vI i)], [(3, some (gridB g)), (4, some (gridB d))]⟩)
    (fun i => i ≤ g.levels.length) (fun i => g.levels.length - i) 0 (Nat.zero_le _) ?_ ?_
  · exact SubI.of0 href [] rfl ⟨⟨rfl, LeBx.rfl⟩, ⟨rfl, LeBx.rfl⟩, trivial⟩ ⟨⟨rfl, LeQ.rfl⟩, ⟨rfl, LeQ.rfl⟩, ⟨rfl, LeQ.rfl⟩, ⟨rfl, LeQ.rfl⟩, ⟨rfl, LeQ.rfl⟩, trivial⟩
  · intro i hi
    refine ex.sound (rc := []) tab_ok mix href _ ?_
    refine And.intro (fun h => ?_) (fun h => ?_)
    · have h : (i : Int) < g.levels.length := decT h
      refine oi ⟨by omega, by omega⟩ ?_
      repeat first | refine sk ?_ | refine st ?_ | refine sg ?_ | refine sh ?_ | refine su ?_ | refine sn1 ?_ | refine sn0 ?_
      refine og (fun _ => ⟨by omega, by omega⟩) ?_
      repeat first | refine sk ?_ | refine st ?_ | refine sg ?_ | refine sh ?_ | refine su ?_ | refine sn1 ?_ | refine sn0 ?_
      refine callGo (r := vB false) (fun hb => ?_) ?_
      · exfalso
        simp [gpol] at hb
      repeat first | refine sk ?_ | refine st ?_ | refine sg ?_ | refine sh ?_ | refine su ?_ | refine sn1 ?_ | refine sn0 ?_
      refine And.intro (fun h2 => ?_) (fun h2 => ?_)
      · have h2 : ((d.levels.getD i 0 != 30000 && g.levels.getD i 0 != 30000) && (true || false)) = true := h2
        rw [Bool.true_or, Bool.and_true] at h2
        have e : excF g d (i + 1) = w64 (excF g d i + w64 (w64 (g.side * g.side) * mm true 0 (w64 (g.levels.getD i 0 - d.levels.getD i 0)))) := by rw [excF, excS, h2]; rfl
        refine oi ⟨by omega, by omega⟩ ?_
        refine oi ⟨by omega, by omega⟩ ?_
        refine And.intro (by kernel_rfl) ?_
        refine ⟨i + 1, by omega, by omega, ?_⟩
        exact SubI.of0 href [] rfl ⟨⟨rfl, LeBx.rfl⟩, ⟨rfl, LeBx.rfl⟩, trivial⟩ ⟨⟨rfl, LeQ.rfl⟩, ⟨rfl, LeQ.rfl⟩, ⟨rfl, LeQ.rfl⟩, ⟨rfl, LeQ.int (by rw [e]; rfl)⟩, ⟨rfl, LeQ.int (w64_of (by omega) (by omega))⟩, trivial⟩
      · have h2 : ((d.levels.getD i 0 != 30000 && g.levels.getD i 0 != 30000) && (true || false)) = false := h2
        rw [Bool.true_or, Bool.and_true] at h2
        have e : excF g d (i + 1) = excF g d i := by rw [excF, excS, h2]; rfl
        refine ⟨i + 1, by omega, by omega, ?_⟩
        exact SubI.of0 href [] rfl ⟨⟨rfl, LeBx.rfl⟩, ⟨rfl, LeBx.rfl⟩, trivial⟩ ⟨⟨rfl, LeQ.rfl⟩, ⟨rfl, LeQ.rfl⟩, ⟨rfl, LeQ.rfl⟩, ⟨rfl, LeQ.int (by rw [e])⟩, ⟨rfl, LeQ.int (w64_of (by omega) (by omega))⟩, trivial⟩
    · have h : ¬ (i : Int) < g.levels.length := decF h
      obtain rfl : i = g.levels.length := by omega
      exact SubR.refl _
theorem cellT0 {c : Chan} {g : Grid} (hv : Val c) (gv : GVal g) {i : Nat} (hi : i < g.levels.length) : cellT c g 0 i = bif (desF c (centreG g i)).2 then (desF c (centreG g i)).1 else 30000 := by
  unfold cellT
  cases h : (desF c (centreG g i)).2 with
  | false => rfl
  | true =>
    have hd := desF_ok hv (centre_good gv hi).1 h
    have ho := hv.over
    show w64 (_ - 0) = _
    rw [w64_of (by omega) (by omega)]; simp
theorem cellT0_ne {c : Chan} {g : Grid} (hv : Val c) (gv : GVal g) {i : Nat} (hi : i < g.levels.length) : (cellT c g 0 i != 30000) = (desF c (centreG g i)).2 := by
  rw [cellT0 hv gv hi]
  cases h : (desF c (centreG g i)).2 with
  | false => rfl
  | true =>
    have hd := desF_ok hv (centre_good gv hi).1 h
    simp only [cond_true, bne_iff_ne, ne_eq]; omega
theorem exc_need (c : Chan) (g : Grid) (hv : Val c) (gv : GVal g) : ∀ i, i ≤ g.levels.length → excF g (designG c g 0) i = needL c g i
  | 0, _ => rfl
  | i + 1, hi => by
    have hi' : i < g.levels.length := by omega
    rw [excF, exc_need c g hv gv i (by omega), needL, excS, designG_at c g 0 hi', cellT0_ne hv gv hi', cellT0 hv gv hi']
    unfold needS
    cases h : (desF c (centreG g i)).2 with
    | false => rfl
    | true => rfl
theorem rOpen (c : Chan) (g : Grid) (hv : Val c) (gv : GVal g) : CallP Tryz.prog 25 [chan c, grid g] (vInts (openL c g g.levels.length)) := by
  have hn := gv.n
  refine callP_of_ex (rc := []) (N := 50) Tryz.func25 rfl rfl Tryz.call25 tab_ok mix rfl rfl (fun cx href => ?_)
  refine callN (rDesignGrid c g 0 hv gv) ?_
  refine AW.loopI (fun i : Nat => ⟨[(3, .s (.ptr 3 0)), (5, .s (.ptr 5 0)), (6, .s (.mo (openL c g i).isEmpty 100)), (7, vI i)],
      [(3, some (gridB g)), (5, some (gridB (designG c g 0))), (100, some (.mrow 3 (openL c g i).length 1 (intEl (openL c g i))))]⟩)
    (fun i => i ≤ g.levels.length) (fun i => g.levels.length - i) 0 (Nat.zero_le _) ?_ ?_
  · exact SubI.of0 href [(100, 1000)] rfl ⟨⟨rfl, LeBx.rfl⟩, ⟨rfl, LeBx.rfl⟩, ⟨rfl, rfl⟩, trivial⟩ ⟨⟨rfl, LeQ.rfl⟩, ⟨rfl, LeQ.rfl⟩, ⟨rfl, LeQ.nil rfl⟩, ⟨rfl, LeQ.rfl⟩, trivial⟩
  · intro i hi
    have hlen := openL_len c g i
    have hdl := designG_len c g 0
    refine ex.sound (rc := []) tab_ok mix href _ ?_
    refine And.intro (fun h => ?_) (fun h => ?_)
    · have h : (i : Int) < g.levels.length := decT h
      have hi' : i < g.levels.length := by omega
      have key : (((designG c g 0).levels.getD i 0 != 30000 && g.levels.getD i 0 != 30000) && decide (g.levels.getD i 0 > (designG c g 0).levels.getD i 0)) = openC c g i := by
        rw [designG_at c g 0 hi', cellT0_ne hv gv hi', cellT0 hv gv hi']
        unfold openC
        cases h : (desF c (centreG g i)).2 with
        | false => rfl
        | true => rfl
      refine oi ⟨by omega, by omega⟩ ?_
      repeat first | refine sk ?_ | refine st ?_ | refine sg ?_ | refine sh ?_ | refine su ?_ | refine sn1 ?_ | refine sn0 ?_
      refine og (fun _ => ⟨by omega, by omega⟩) ?_
      repeat first | refine sk ?_ | refine st ?_ | refine sg ?_ | refine sh ?_ | refine su ?_ | refine sn1 ?_ | refine sn0 ?_
      refine og (fun _ => ⟨by omega, by omega⟩) ?_
      repeat first | refine sk ?_ | refine st ?_ | refine sg ?_ | refine sh ?_ | refine su ?_ | refine sn1 ?_ | refine sn0 ?_
      refine og (fun _ => ⟨by omega, by omega⟩) ?_
      repeat first | refine sk ?_ | refine st ?_ | refine sg ?_ | refine sh ?_ | refine su ?_ | refine sn1 ?_ | refine sn0 ?_
      refine And.intro (by kernel_rfl) ?_
      refine And.intro (fun h2 => ?_) (fun h2 => ?_)
      · have h2 := key.symm.trans h2
        have e : openL c g (i + 1) = openL c g i ++ [(i : Int)] := by rw [openL_succ, h2]; rfl
        refine ob (by decide) ?_
        refine ob (by rw [bif_len]; show _ * 8 ≤ _; omega) ?_
        refine ob (fit1 (lt1 rfl)) ?_
        refine ⟨i + 1, by omega, by omega, ?_⟩
        refine SubI.of0 href [(100, 48)] rfl ⟨⟨rfl, LeBx.rfl⟩, ⟨rfl, LeBx.rfl⟩, ⟨rfl, ?_⟩, trivial⟩ ⟨⟨rfl, LeQ.rfl⟩, ⟨rfl, LeQ.rfl⟩, ⟨rfl, LeQ.mo ?_⟩, ⟨rfl, LeQ.int (w64_of (by omega) (by omega))⟩, trivial⟩
        · show LeBx _ (.mrow 3 (openL c g (i + 1)).length 1 (intEl (openL c g (i + 1))))
          rw [e]
          exact RowIs.mrow (el := fun x _ => dI x) (RowIs.snoc intRow (lt1 rfl))
        · rw [e]; exact isEmpty_snoc _ _
      · have h2 := key.symm.trans h2
        have e : openL c g (i + 1) = openL c g i := by rw [openL_succ, h2]; rfl
        refine ⟨i + 1, by omega, by omega, ?_⟩
        exact SubI.of0 href [] rfl ⟨⟨rfl, LeBx.rfl⟩, ⟨rfl, LeBx.rfl⟩, ⟨rfl, LeBx.of_eq (by rw [e]; rfl)⟩, trivial⟩ ⟨⟨rfl, LeQ.rfl⟩, ⟨rfl, LeQ.rfl⟩, ⟨rfl, LeQ.of_eq (by rw [e]; rfl)⟩, ⟨rfl, LeQ.int (w64_of (by omega) (by omega))⟩, trivial⟩
    · have h : ¬ (i : Int) < g.levels.length := decF h
      obtain rfl : i = g.levels.length := by omega
      exact SubR.mo
attribute [local irreducible] withErr few small openL needL excF in
theorem Needs (c : Chan) (g : Grid) (hc : c.ok) (hg : g.ok) : CallP Tryz.prog 4 [chan c, grid g] (vB true) := by
  refine callP_of_ex (rc := []) (N := 79) Tryz.func4 rfl rfl Tryz.call4 tab_ok mix rfl rfl (fun cx href => ?_)
  refine callN awake ?_
  refine And.intro (fun h => by cases h) (fun _ => ?_)
  refine callN (Small c hc) ?_
  repeat first | refine sk ?_ | refine st ?_ | refine sg ?_ | refine sh ?_ | refine su ?_ | refine sn1 ?_ | refine sn0 ?_
  refine callG (Few g hg.levels) ?_
  repeat first | refine sk ?_ | refine st ?_ | refine sg ?_ | refine sh ?_ | refine su ?_ | refine sn1 ?_ | refine sn0 ?_
  refine And.intro (fun _ => SubR.lit rfl) (fun h1 => ?_)
  have h1 : (!small c || !few g) = false := h1
  have hs : small c = true := by
    cases h : small c
    · rw [h] at h1; cases h1
    · rfl
  refine callN (Copied c (Sm.of hs)) ?_
  refine callN (Needed c g hc hg) ?_
  refine And.intro (by kernel_rfl) ?_
  refine callN (Copied c (Sm.of hs)) ?_
  refine callN (Open c g hc hg) ?_
  refine And.intro (by kernel_rfl) ?_
  refine callN ((rWith c [g] hc (by intro x hx; simp at hx; subst hx; exact hg) (by simp)).conv (args' := _) ⟨⟨LeD.refl _, LeD.refl _, LeD.refl _, LeD.refl _, LeD.refl _, trivial⟩, LeD.slc' rfl fun i j hi hj => LeD.of_eq ?_, trivial⟩) ?_
  · match i, j, hi, hj with
    | 0, 0, _, _ => rfl
    | 0, 1, _, _ => rfl
    | 0, 2, _, _ => rfl
    | 0, 3, _, _ => rfl
    | 0, 4, _, _ => rfl
    | 0, 5, _, _ => rfl
  refine And.intro (fun h2 => ?_) (fun h2 => ?_)
  · have h2 : (withErr c [g] != 0) = true := h2
    repeat first | refine sk ?_ | refine st ?_ | refine sg ?_ | refine sh ?_ | refine su ?_ | refine sn1 ?_ | refine sn0 ?_
    refine SubR.of_eq ?_
    show vB (withErr c [g] == withErr c [g] && withErr c [g] == withErr c [g] && needF c g == 0 && ((openF c g).length : Int) == 0) = vB true
    have e1 : needF c g = 0 := by unfold needF; rw [h2]; rfl
    have e2 : openF c g = [] := by unfold openF; rw [h2]; rfl
    rw [e1, e2]; simp
  · have h2 : (withErr c [g] != 0) = false := h2
    have h0 : withErr c [g] = 0 := by simpa using h2
    obtain ⟨g1, g2⟩ := withErr1_zero h0
    have hv := val_of c g1
    have gv := GVal.of g2
    have hn := gv.n
    have hol := openL_len c g g.levels.length
    have e1 : needF c g = needL c g g.levels.length := by unfold needF; rw [h2]; rfl
    have e2 : openF c g = openL c g g.levels.length := by unfold openF; rw [h2]; rfl
    rw [e1, e2, h0]
    repeat first | refine sk ?_ | refine st ?_ | refine sg ?_ | refine sh ?_ | refine su ?_ | refine sn1 ?_ | refine sn0 ?_
    refine callG (rDesignGrid c g 0 hv gv) ?_
    repeat first | refine sk ?_ | refine st ?_ | refine sg ?_ | refine sh ?_ | refine su ?_ | refine sn1 ?_ | refine sn0 ?_
    refine callG (rExcess g (designG c g 0) (by omega) (designG_len c g 0)) ?_
    repeat first | refine sk ?_ | refine st ?_ | refine sg ?_ | refine sh ?_ | refine su ?_ | refine sn1 ?_ | refine sn0 ?_
    refine callG (rOpen c g hv gv) ?_
    repeat first | refine sk ?_ | refine st ?_ | refine sg ?_ | refine sh ?_ | refine su ?_ | refine sn1 ?_ | refine sn0 ?_
    refine callG (rIntsEq (openL c g g.levels.length) (by omega)) ?_
    repeat first | refine sk ?_ | refine st ?_ | refine sg ?_ | refine sh ?_ | refine su ?_ | refine sn1 ?_ | refine sn0 ?_
    refine And.intro (by kernel_rfl) ?_
    refine SubR.of_eq ?_
    show vB ((0 : Int) == 0 && (0 : Int) == 0 && needL c g g.levels.length == excF g (designG c g 0) g.levels.length && true) = vB true
    rw [exc_need c g hv gv _ (Nat.le_refl _)]
    simp
end Go.Ch

namespace Go.Ch
open Go Go.Ax Go.Proofs Go.Proofs.Tryz
set_option maxRecDepth 100000
set_option pp.maxSteps 400
set_option maxHeartbeats 1000000

/-- Whether an edge crosses the ray to the right, and the one upward. -/
def hG0 (a b p : Pt) : Bool := (decide (a.y ≤ p.y) && decide (p.y < b.y)) && decide (cross a b p > 0)
def hG (a b p : Pt) : Bool := bif decide (a.y > b.y) then hG0 b a p else hG0 a b p
def hR (a b p : Pt) : Bool := (!(decide (a.x ≤ p.x) == decide (b.x ≤ p.x))) && (decide (sgn (cross a b p) < 0) == decide (a.x < b.x))
def quad (a p : Pt) : Bool := !decide (a.x ≤ p.x) && !decide (a.y ≤ p.y)
theorem between_of {a b p : Pt} (hc : cross a b p = 0) (hx : (a.x ≤ p.x ∧ p.x ≤ b.x) ∨ (b.x ≤ p.x ∧ p.x ≤ a.x)) (hy : (a.y ≤ p.y ∧ p.y ≤ b.y) ∨ (b.y ≤ p.y ∧ p.y ≤ a.y)) : between a b p = true := by
  have key : ∀ u v w : Int, (u ≤ w ∧ w ≤ v) ∨ (v ≤ w ∧ w ≤ u) → within w (mm false u v) (mm true u v) = true := by
    intro u v w h
    have h1 : mm false u v ≤ w := by unfold mm; simp only; split <;> omega
    have h2 : w ≤ mm true u v := by unfold mm; simp only; split <;> omega
    unfold within
    rw [decide_eq_true h1, decide_eq_true h2]; rfl
  unfold between
  rw [hc, key _ _ _ hx, key _ _ _ hy]; rfl
theorem crossE_shift (a b p : Pt) : crossE a b p = (a.x - p.x) * (b.y - p.y) - (b.x - p.x) * (a.y - p.y) := by
  unfold crossE
  simp only [Int.sub_mul, Int.mul_sub]
  have h1 := Int.mul_comm b.y p.x
  have h2 := Int.mul_comm b.y a.x
  have h3 := Int.mul_comm a.y p.x
  have h4 := Int.mul_comm a.y a.x
  omega
theorem crossE_swap (a b p : Pt) : crossE b a p = -crossE a b p := by
  rw [crossE_shift, crossE_shift]; omega
theorem sgn_neg {n : Int} : decide (sgn n < 0) = decide (n < 0) := by
  unfold sgn
  by_cases h : n < 0
  · simp [h]
  · rw [if_neg h]
    by_cases h2 : n > 0
    · rw [if_pos h2]; simp; omega
    · rw [if_neg h2]; simp; omega
theorem edge_par {a b p : Pt} (ha : good a = true) (hb : good b = true) (hp : good p = true) (hn : between a b p = false) : (hG a b p != hR a b p) = (quad a p != quad b p) := by
  obtain ⟨c1, _, _⟩ := cross_eq ha hb hp
  obtain ⟨c2, _, _⟩ := cross_eq hb ha hp
  have hs := crossE_swap a b p
  have hsh := crossE_shift a b p
  have hno : ¬ (crossE a b p = 0 ∧ ((a.x ≤ p.x ∧ p.x ≤ b.x) ∨ (b.x ≤ p.x ∧ p.x ≤ a.x)) ∧ ((a.y ≤ p.y ∧ p.y ≤ b.y) ∨ (b.y ≤ p.y ∧ p.y ≤ a.y))) := fun ⟨h0, h1, h2⟩ => by
    rw [between_of (by rw [c1]; exact h0) h1 h2] at hn; cases hn
  have sg : ∀ u v : Int, (u > 0 → v > 0 → u * v > 0) ∧ (u > 0 → v ≤ 0 → u * v ≤ 0) ∧ (u ≤ 0 → v > 0 → u * v ≤ 0) ∧ (u ≤ 0 → v ≤ 0 → u * v ≥ 0) := fun u v =>
    ⟨fun h k => Int.mul_pos h k, fun h k => Int.mul_nonpos_of_nonneg_of_nonpos (by omega) k, fun h k => Int.mul_nonpos_of_nonpos_of_nonneg h (by omega), fun h k => Int.mul_nonneg_of_nonpos_of_nonpos h k⟩
  obtain ⟨x1, x2, x3, x4⟩ := sg (a.x - p.x) (b.y - p.y)
  obtain ⟨y1, y2, y3, y4⟩ := sg (b.x - p.x) (a.y - p.y)
  have hzero : (a.x - p.x) * (b.y - p.y) = 0 → a.x - p.x ≠ 0 → b.y - p.y = 0 := fun h0 h1 => (Int.mul_eq_zero.1 h0).resolve_left h1
  have eG : hG a b p = ((decide (a.y ≤ p.y) && !decide (b.y ≤ p.y)) && decide (crossE a b p > 0) || (decide (b.y ≤ p.y) && !decide (a.y ≤ p.y)) && decide (crossE a b p < 0)) := by
    unfold hG hG0
    rw [c1, c2, hs, Bool.eq_iff_iff]
    by_cases h : a.y > b.y
    · rw [decide_eq_true h]; simp; omega
    · rw [decide_eq_false h]; simp; omega
  have eR : hR a b p = ((!(decide (a.x ≤ p.x) == decide (b.x ≤ p.x))) && (decide (crossE a b p < 0) == decide (a.x < b.x))) := by
    unfold hR; rw [sgn_neg, c1]
  rw [eG, eR]
  unfold quad
  clear c1 c2 hs eG eR sg ha hb hp hn
  generalize (a.x - p.x) * (b.y - p.y) = X at *
  generalize (b.x - p.x) * (a.y - p.y) = Y at *
  generalize crossE a b p = C at *
  by_cases xa : a.x ≤ p.x <;> by_cases xb : b.x ≤ p.x <;> by_cases ya : a.y ≤ p.y <;> by_cases yb : b.y ≤ p.y <;> simp only [xa, xb, ya, yb, decide_true, decide_false, Bool.not_true, Bool.not_false, Bool.true_and, Bool.and_true, Bool.false_and, Bool.and_false, Bool.or_false, Bool.false_or, beq_self_eq_true, bne_self_eq_false]
  all_goals by_cases hx : a.x < b.x <;> rcases Int.lt_trichotomy C 0 with h | h | h
  all_goals first
    | (exfalso; omega)
    | (have h1 : decide (C > 0) = false := decide_eq_false (by omega)
       have h2 : decide (C < 0) = true := decide_eq_true (by omega)
       simp [h1, h2, hx]; done)
    | (have h1 : decide (C > 0) = true := decide_eq_true (by omega)
       have h2 : decide (C < 0) = false := decide_eq_false (by omega)
       simp [h1, h2, hx]; done)
    | (have h2 : decide (C < 0) = false := decide_eq_false (by omega)
       simp [h2, hx]; done)

def parF (f : Nat → Bool) : Nat → Bool
  | 0 => false
  | n + 1 => parF f n != f n
theorem parF_tele (q : Nat → Bool) : ∀ n, parF (fun i => q i != q (i + 1)) n = (q 0 != q n)
  | 0 => by rw [parF]; cases q 0 <;> rfl
  | n + 1 => by
    rw [parF, parF_tele q n]
    cases q 0 <;> cases q n <;> cases q (n + 1) <;> rfl
theorem parF_ne {f g h : Nat → Bool} : ∀ n, (∀ i, i < n → (f i != g i) = h i) → (parF f n != parF g n) = parF h n
  | 0, _ => rfl
  | n + 1, e => by
    have ih := parF_ne n fun i hi => e i (by omega)
    have := e n (by omega)
    rw [parF, parF, parF, ← ih, ← this]
    cases parF f n <;> cases parF g n <;> cases f n <;> cases g n <;> rfl
def onEdge (l : List Pt) (p : Pt) (i : Nat) : Bool := between (pAt l i) (cor l (i + 1)) p
def gHit (l : List Pt) (p : Pt) (i : Nat) : Bool := hG (pAt l i) (cor l (i + 1)) p
def rHit (l : List Pt) (p : Pt) (i : Nat) : Bool := hR (pAt l i) (cor l (i + 1)) p
/-- 1 inside, 0 on the line, -1 outside. -/
def insV (l : List Pt) (p : Pt) : Int := bif anyB l.length (onEdge l p) then 0 else bif parF (rHit l p) l.length then 1 else -1
theorem par_eq {l : List Pt} {p : Pt} (h3 : 3 ≤ l.length) (hl : ∀ i, i < l.length → good (l.getD i default) = true) (hp : good p = true) (hn : ∀ i, i < l.length → onEdge l p i = false) : parF (gHit l p) l.length = parF (rHit l p) l.length := by
  have hc : ∀ j, good (cor l j) = true := fun j => hl _ (Nat.mod_lt _ (by omega))
  have hpc : ∀ i, i < l.length → pAt l i = cor l i := fun i hi => by
    show l.getD i default = l.getD (i % l.length) default
    rw [Nat.mod_eq_of_lt hi]
  have h := parF_ne (f := gHit l p) (g := rHit l p) (h := fun i => quad (cor l i) p != quad (cor l (i + 1)) p) l.length fun i hi => by
    have := hn i hi
    unfold onEdge at this
    unfold gHit rHit
    rw [hpc i hi] at this ⊢
    exact edge_par (hc i) (hc (i + 1)) hp this
  rw [parF_tele (fun i => quad (cor l i) p)] at h
  have e : cor l l.length = cor l 0 := by
    show l.getD (l.length % l.length) default = l.getD (0 % l.length) default
    rw [Nat.mod_self, Nat.zero_mod]
  simp only [e, bne_self_eq_false] at h
  simpa using h
theorem rInside (l : List Pt) (p : Pt) (h3 : 3 ≤ l.length) (h40 : l.length ≤ 40) : CallP Tryz.prog 97 [pts l, pt p] (vI (insV l p)) := by
  have hne : l ≠ [] := by rintro rfl; cases h3
  have hpc : ∀ i, i < l.length → cor l i = pAt l i := fun i hi => by
    show l.getD (i % l.length) default = l.getD i default
    rw [Nat.mod_eq_of_lt hi]
  refine callP_of_ex (rc := []) (N := 53) Tryz.func97 rfl rfl Tryz.call97 tab_ok mix rfl rfl (fun cx href => ?_)
  refine AW.loopI (fun i : Nat => ⟨[(0, pts l), (3, .s (.ptr 3 0)), (5, vB (parF (rHit l p) i)), (6, vI i)], [(3, some (ptB p))]⟩) (fun i => i ≤ l.length ∧ ∀ j, j < i → onEdge l p j = false) (fun i => l.length - i) 0 ⟨Nat.zero_le _, fun j hj => absurd hj (Nat.not_lt_zero j)⟩ ?_ ?_
  · exact SubI.of0 href [] rfl ⟨⟨rfl, LeBx.rfl⟩, trivial⟩ ⟨⟨rfl, LeQ.rfl⟩, ⟨rfl, LeQ.rfl⟩, ⟨rfl, LeQ.lit rfl⟩, ⟨rfl, LeQ.rfl⟩, trivial⟩
  · rintro i ⟨hi, hj⟩
    refine ex.sound (rc := []) tab_ok mix href _ ?_
    refine And.intro (fun h => ?_) (fun h => ?_)
    · have h : (i : Int) < l.length := decT h
      have hi' : i < l.length := by omega
      have e1 : w64 ((i : Int) + 1) = ((i + 1 : Nat) : Int) := w64_of (by omega) (by omega)
      have c1 : CallP Tryz.prog 98 [pts l, vI i] (pt (pAt l i)) := by rw [← hpc i hi']; exact corner l i hne
      have c2 : CallP Tryz.prog 98 [pts l, vI (w64 ((i : Int) + 1))] (pt (cor l (i + 1))) := by rw [e1]; exact corner l (i + 1) hne
      refine callN c1 ?_
      refine callN c2 ?_
      refine callN (Between (pAt l i) (cor l (i + 1)) p) ?_
      refine And.intro (fun h2 => ?_) (fun h2 => ?_)
      · have h2 : onEdge l p i = true := h2
        have e : insV l p = 0 := by unfold insV; rw [anyB_true hi' h2]; rfl
        rw [e]; exact fun _ _ r => r
      have h2 : onEdge l p i = false := h2
      have hj' : ∀ j, j < i + 1 → onEdge l p j = false := fun j hj' => by
        by_cases hji : j = i
        · rw [hji]; exact h2
        · exact hj j (by omega)
      repeat first | refine sk ?_ | refine st ?_ | refine sg ?_ | refine sh ?_ | refine su ?_ | refine sn1 ?_ | refine sn0 ?_
      refine callG (Orient (pAt l i) (cor l (i + 1)) p) ?_
      repeat first | refine sk ?_ | refine st ?_ | refine sg ?_ | refine sh ?_ | refine su ?_ | refine sn1 ?_ | refine sn0 ?_
      refine And.intro (by kernel_rfl) ?_
      refine And.intro (fun h3 => ?_) (fun h3 => ?_)
      · have h3 : rHit l p i = true := h3
        have e : parF (rHit l p) (i + 1) = !parF (rHit l p) i := by rw [parF, h3]; cases parF (rHit l p) i <;> rfl
        refine ⟨i + 1, ⟨by omega, hj'⟩, by omega, ?_⟩
        exact SubI.of0 href [] rfl ⟨⟨rfl, LeBx.rfl⟩, trivial⟩ ⟨⟨rfl, LeQ.rfl⟩, ⟨rfl, LeQ.rfl⟩, ⟨rfl, LeQ.bool e.symm⟩, ⟨rfl, LeQ.int e1⟩, trivial⟩
      · have h3 : rHit l p i = false := h3
        have e : parF (rHit l p) (i + 1) = parF (rHit l p) i := by rw [parF, h3]; cases parF (rHit l p) i <;> rfl
        refine ⟨i + 1, ⟨by omega, hj'⟩, by omega, ?_⟩
        exact SubI.of0 href [] rfl ⟨⟨rfl, LeBx.rfl⟩, trivial⟩ ⟨⟨rfl, LeQ.rfl⟩, ⟨rfl, LeQ.rfl⟩, ⟨rfl, LeQ.bool e.symm⟩, ⟨rfl, LeQ.int e1⟩, trivial⟩
    · have h : ¬ (i : Int) < l.length := decF h
      obtain rfl : i = l.length := by omega
      have ea : anyB l.length (onEdge l p) = false := anyB_false hj
      refine And.intro (fun h2 => ?_) (fun h2 => ?_)
      · have h2 : parF (rHit l p) l.length = true := h2
        have e : insV l p = 1 := by unfold insV; rw [ea, h2]; rfl
        rw [e]; exact fun _ _ r => r
      · have h2 : parF (rHit l p) l.length = false := h2
        have e : insV l p = -1 := by unfold insV; rw [ea, h2]; rfl
        rw [e]; exact fun _ _ r => r
def sgnP (b : Bool) : Int := bif b then 1 else -1
theorem ginside (l : List Pt) (p : Pt) (h3 : 3 ≤ l.length) (h40 : l.length ≤ 40) (hg : ∀ i, i < l.length → good (l.getD i default) = true) (hp : good p = true) : CallP Tryz.prog 139 [pts l, pt p] (vI (insV l p)) := by
  have hne : l ≠ [] := by rintro rfl; cases h3
  refine callP_of_ex (rc := []) (N := 54) Tryz.func139 rfl rfl Tryz.call139 tab_ok mix rfl rfl (fun cx href => ?_)
  refine AW.loopI (fun i : Nat => ⟨[(0, pts l), (3, .s (.ptr 3 0)), (5, vI (sgnP (parF (gHit l p) i))), (9, pts l), (10, vI l.length), (11, vI i)], [(3, some (ptB p))]⟩) (fun i => i ≤ l.length ∧ ∀ j, j < i → onEdge l p j = false) (fun i => l.length - i) 0 ⟨Nat.zero_le _, fun j hj => absurd hj (Nat.not_lt_zero j)⟩ ?_ ?_
  · exact SubI.of0 href [] rfl ⟨⟨rfl, LeBx.rfl⟩, trivial⟩ ⟨⟨rfl, LeQ.rfl⟩, ⟨rfl, LeQ.rfl⟩, ⟨rfl, LeQ.rfl⟩, ⟨rfl, LeQ.rfl⟩, ⟨rfl, LeQ.rfl⟩, ⟨rfl, LeQ.rfl⟩, trivial⟩
  · rintro i ⟨hi, hj⟩
    refine ex.sound (rc := []) tab_ok mix href _ ?_
    refine And.intro (fun h => ?_) (fun h => ?_)
    · have h : (i : Int) < l.length := decT h
      have hi' : i < l.length := by omega
      have e1 : w64 ((i : Int) + 1) = ((i + 1 : Nat) : Int) := w64_of (by omega) (by omega)
      have c2 : CallP Tryz.prog 144 [pts l, vI (w64 ((i : Int) + 1))] (pt (cor l (i + 1))) := by rw [e1]; exact gcorner l (i + 1) hne
      refine oi ⟨by omega, by omega⟩ ?_
      refine callN c2 ?_
      refine callN (on (pAt l i) (cor l (i + 1)) p) ?_
      refine And.intro (fun h2 => ?_) (fun h2 => ?_)
      · have h2 : onEdge l p i = true := h2
        have e : insV l p = 0 := by unfold insV; rw [anyB_true hi' h2]; rfl
        rw [e]; exact fun _ _ r => r
      have h2 : onEdge l p i = false := h2
      have hj' : ∀ j, j < i + 1 → onEdge l p j = false := fun j hj' => by
        by_cases hji : j = i
        · rw [hji]; exact h2
        · exact hj j (by omega)
      have yes : gHit l p i = true → w64 (0 - sgnP (parF (gHit l p) i)) = sgnP (parF (gHit l p) (i + 1)) := fun h3 => by
        rw [parF, h3]; cases parF (gHit l p) i <;> rfl
      have no : gHit l p i = false → sgnP (parF (gHit l p) i) = sgnP (parF (gHit l p) (i + 1)) := fun h3 => by
        rw [parF, h3]; cases parF (gHit l p) i <;> rfl
      refine And.intro (fun hs => ?_) (fun hs => ?_)
      · have hs : decide ((pAt l i).y > (cor l (i + 1)).y) = true := hs
        have eh : gHit l p i = hG0 (cor l (i + 1)) (pAt l i) p := by unfold gHit hG; rw [hs]; rfl
        repeat first | refine sk ?_ | refine st ?_ | refine sg ?_ | refine sh ?_ | refine su ?_ | refine sn1 ?_ | refine sn0 ?_
        refine callG (gcross (cor l (i + 1)) (pAt l i) p) ?_
        repeat first | refine sk ?_ | refine st ?_ | refine sg ?_ | refine sh ?_ | refine su ?_ | refine sn1 ?_ | refine sn0 ?_
        refine And.intro (fun h3 => ?_) (fun h3 => ?_)
        · have h3 := eh.trans h3
          refine ⟨i + 1, ⟨by omega, hj'⟩, by omega, ?_⟩
          exact SubI.of0 href [] rfl ⟨⟨rfl, LeBx.rfl⟩, trivial⟩ ⟨⟨rfl, LeQ.rfl⟩, ⟨rfl, LeQ.rfl⟩, ⟨rfl, LeQ.int (yes h3)⟩, ⟨rfl, LeQ.rfl⟩, ⟨rfl, LeQ.rfl⟩, ⟨rfl, LeQ.int e1⟩, trivial⟩
        · have h3 := eh.trans h3
          refine ⟨i + 1, ⟨by omega, hj'⟩, by omega, ?_⟩
          exact SubI.of0 href [] rfl ⟨⟨rfl, LeBx.rfl⟩, trivial⟩ ⟨⟨rfl, LeQ.rfl⟩, ⟨rfl, LeQ.rfl⟩, ⟨rfl, LeQ.int (no h3)⟩, ⟨rfl, LeQ.rfl⟩, ⟨rfl, LeQ.rfl⟩, ⟨rfl, LeQ.int e1⟩, trivial⟩
      · have hs : decide ((pAt l i).y > (cor l (i + 1)).y) = false := hs
        have eh : gHit l p i = hG0 (pAt l i) (cor l (i + 1)) p := by unfold gHit hG; rw [hs]; rfl
        repeat first | refine sk ?_ | refine st ?_ | refine sg ?_ | refine sh ?_ | refine su ?_ | refine sn1 ?_ | refine sn0 ?_
        refine callG (gcross (pAt l i) (cor l (i + 1)) p) ?_
        repeat first | refine sk ?_ | refine st ?_ | refine sg ?_ | refine sh ?_ | refine su ?_ | refine sn1 ?_ | refine sn0 ?_
        refine And.intro (fun h3 => ?_) (fun h3 => ?_)
        · have h3 := eh.trans h3
          refine ⟨i + 1, ⟨by omega, hj'⟩, by omega, ?_⟩
          exact SubI.of0 href [] rfl ⟨⟨rfl, LeBx.rfl⟩, trivial⟩ ⟨⟨rfl, LeQ.rfl⟩, ⟨rfl, LeQ.rfl⟩, ⟨rfl, LeQ.int (yes h3)⟩, ⟨rfl, LeQ.rfl⟩, ⟨rfl, LeQ.rfl⟩, ⟨rfl, LeQ.int e1⟩, trivial⟩
        · have h3 := eh.trans h3
          refine ⟨i + 1, ⟨by omega, hj'⟩, by omega, ?_⟩
          exact SubI.of0 href [] rfl ⟨⟨rfl, LeBx.rfl⟩, trivial⟩ ⟨⟨rfl, LeQ.rfl⟩, ⟨rfl, LeQ.rfl⟩, ⟨rfl, LeQ.int (no h3)⟩, ⟨rfl, LeQ.rfl⟩, ⟨rfl, LeQ.rfl⟩, ⟨rfl, LeQ.int e1⟩, trivial⟩
    · have h : ¬ (i : Int) < l.length := decF h
      obtain rfl : i = l.length := by omega
      refine SubR.of_eq (congrArg vI ?_)
      unfold insV
      rw [anyB_false hj, ← par_eq h3 hg hp hj]; rfl
end Go.Ch

namespace Go.Ch
open Go Go.Ax Go.Proofs Go.Proofs.Tryz
set_option maxRecDepth 100000
set_option pp.maxSteps 400
set_option maxHeartbeats 1000000

theorem errPoly_zero {l : List Pt} (h : errPoly l = 0) : 3 ≤ l.length ∧ l.length ≤ 40 ∧ ∀ i, i < l.length → good (l.getD i default) = true := by
  unfold errPoly at h
  cases h1 : decide ((l.length : Int) < 3) with
  | true => rw [h1] at h; cases h
  | false =>
    cases h2 : decide ((l.length : Int) > 40) with
    | true => rw [h1, h2] at h; cases h
    | false =>
      cases h3 : (l.any fun p => !good p) with
      | true => rw [h1, h2, h3] at h; cases h
      | false =>
        have h1 := decF h1
        have h2 := decF h2
        refine ⟨by omega, by omega, fun i hi => ?_⟩
        rw [List.any_eq_false] at h3
        have := h3 _ (List.getElem_mem hi)
        rw [getD_of hi]
        simpa using this
attribute [local irreducible] errPoly in
theorem gInside (l : List Pt) (p : Pt) (he : errPoly l = 0) (hp : good p = true) : CallP Tryz.prog 86 [pts l, pt p] (rIE (insV l p) 0) := by
  obtain ⟨h3, h40, hg⟩ := errPoly_zero he
  refine callP_of_ex (rc := []) (N := 18) Tryz.func86 rfl rfl Tryz.call86 tab_ok mix rfl rfl (fun cx href => ?_)
  refine callN (gCheckPolygon l (by omega)) ?_
  refine And.intro (fun h => ?_) (fun _ => ?_)
  · have h : (errPoly l != 0) = true := h
    rw [he] at h; cases h
  refine callN ((goutside [p] (by simp)).conv (args' := _) ⟨LeD.slc fun i j hi hj => LeD.of_eq ?_, trivial⟩) ?_
  · have hi : i < 1 := hi
    have hj : j < 2 := hj
    match i, j, hi, hj with
    | 0, 0, _, _ => rfl
    | 0, 1, _, _ => rfl
  refine And.intro (fun h => ?_) (fun _ => ?_)
  · simp [hp] at h
  refine callN (ginside l p h3 h40 hg hp) ?_
  exact SubR.t ⟨LeD.refl _, fun _ _ r => r, trivial⟩
def witC (g : Grid) (l : List Pt) (i : Nat) : Bool := decide (insV l (centreG g i) ≥ 0)
def witL (g : Grid) (l : List Pt) (i : Nat) : List Int := (List.range i).filterMap fun k => bif witC g l k then some (k : Int) else none
theorem witL_succ (g : Grid) (l : List Pt) (i : Nat) : witL g l (i + 1) = bif witC g l i then witL g l i ++ [(i : Int)] else witL g l i := by
  unfold witL
  rw [filterMap_range_succ]
  cases witC g l i <;> simp
theorem witL_len (g : Grid) (l : List Pt) (i : Nat) : (witL g l i).length ≤ i := by
  have := List.length_filterMap_le (fun k => bif witC g l k then some (k : Int) else none) (List.range i)
  rw [List.length_range] at this
  exact this
theorem rWithin (g : Grid) (l : List Pt) (gv : GVal g) (h3 : 3 ≤ l.length) (h40 : l.length ≤ 40) : CallP Tryz.prog 87 [grid g, pts l] (vInts (witL g l g.levels.length)) := by
  have hn := gv.n
  refine callP_of_ex (rc := []) (N := 25) Tryz.func87 rfl rfl Tryz.call87 tab_ok mix rfl rfl (fun cx href => ?_)
  refine AW.loopI (fun i : Nat => ⟨[(1, pts l), (2, .s (.ptr 2 0)), (5, .s (.mo (witL g l i).isEmpty 100)), (6, vI i)],
      [(2, some (gridB g)), (100, some (.mrow 3 (witL g l i).length 1 (intEl (witL g l i))))]⟩)
    (fun i => i ≤ g.levels.length) (fun i => g.levels.length - i) 0 (Nat.zero_le _) ?_ ?_
  · exact SubI.of0 href [(100, 1000)] rfl ⟨⟨rfl, LeBx.rfl⟩, ⟨rfl, rfl⟩, trivial⟩ ⟨⟨rfl, LeQ.rfl⟩, ⟨rfl, LeQ.rfl⟩, ⟨rfl, LeQ.nil rfl⟩, ⟨rfl, LeQ.rfl⟩, trivial⟩
  · intro i hi
    have hlen := witL_len g l i
    refine ex.sound (rc := []) tab_ok mix href _ ?_
    refine And.intro (fun h => ?_) (fun h => ?_)
    · have h : (i : Int) < g.levels.length := decT h
      have hi' : i < g.levels.length := by omega
      refine callN (Centre g i (by have := gv.cols; omega)) ?_
      refine callN (rInside l (centreG g i) h3 h40) ?_
      refine And.intro (fun h2 => ?_) (fun h2 => ?_)
      · have h2 : witC g l i = true := h2
        have e : witL g l (i + 1) = witL g l i ++ [(i : Int)] := by rw [witL_succ, h2]; rfl
        refine ob (by decide) ?_
        refine ob (by rw [bif_len]; show _ * 8 ≤ _; omega) ?_
        refine ob (fit1 (lt1 rfl)) ?_
        refine ⟨i + 1, by omega, by omega, ?_⟩
        refine SubI.of0 href [(100, 23)] rfl ⟨⟨rfl, LeBx.rfl⟩, ⟨rfl, ?_⟩, trivial⟩ ⟨⟨rfl, LeQ.rfl⟩, ⟨rfl, LeQ.rfl⟩, ⟨rfl, LeQ.mo ?_⟩, ⟨rfl, LeQ.int (w64_of (by omega) (by omega))⟩, trivial⟩
        · show LeBx _ (.mrow 3 (witL g l (i + 1)).length 1 (intEl (witL g l (i + 1))))
          rw [e]
          exact RowIs.mrow (el := fun x _ => dI x) (RowIs.snoc intRow (lt1 rfl))
        · rw [e]; exact isEmpty_snoc _ _
      · have h2 : witC g l i = false := h2
        have e : witL g l (i + 1) = witL g l i := by rw [witL_succ, h2]; rfl
        refine ⟨i + 1, by omega, by omega, ?_⟩
        exact SubI.of0 href [] rfl ⟨⟨rfl, LeBx.rfl⟩, ⟨rfl, LeBx.of_eq (by rw [e]; rfl)⟩, trivial⟩ ⟨⟨rfl, LeQ.rfl⟩, ⟨rfl, LeQ.rfl⟩, ⟨rfl, LeQ.of_eq (by rw [e]; rfl)⟩, ⟨rfl, LeQ.int (w64_of (by omega) (by omega))⟩, trivial⟩
    · have h : ¬ (i : Int) < g.levels.length := decF h
      obtain rfl : i = g.levels.length := by omega
      exact SubR.mo
end Go.Ch
