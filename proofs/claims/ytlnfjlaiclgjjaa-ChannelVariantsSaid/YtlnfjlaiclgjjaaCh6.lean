/- Part Ch6: lemmas that the proofs of this seat share; by itself it claims nothing. -/
import Derived.Test.YtlnfjlaiclgjjaaCh3
namespace Go.Ch
open Go Go.Ax Go.Proofs Go.Proofs.Try
set_option maxRecDepth 100000
set_option pp.maxSteps 400
set_option maxHeartbeats 1000000

def lengthR (c : Chan) : Int × Int := bif errC c != 0 then (0, errC c) else (lenF c (c.axis.length - 1), 0)
theorem last_eq {c : Chan} (hv : Val c) : w64 ((c.axis.length : Int) - 1) = ((c.axis.length - 1 : Nat) : Int) := by
  have h2 := hv.n2
  have h20 := hv.n20
  rw [w64_of (by omega) (by omega)]; omega
attribute [local irreducible] errC in
theorem gLength (c : Chan) (hc : c.ok) : CallP Try.prog 9 [chan c] (rIE (lengthR c).1 (lengthR c).2) := by
  refine callP_of_ex (rc := []) (N := 16) Try.func9 rfl rfl Try.call9 tab_ok mix rfl rfl (fun cx href => ?_)
  refine callN (gCheck c hc) ?_
  refine And.intro (fun h => ?_) (fun h => ?_)
  · have h : (errC c != 0) = true := h
    have e : lengthR c = (0, errC c) := by unfold lengthR; rw [h]; rfl
    rw [e]
    exact SubR.t ⟨fun _ _ r => r, LeD.refl _, trivial⟩
  have h : (errC c != 0) = false := h
  have hv := val_of c (by simpa using h)
  have h2 := hv.n2
  have e : lengthR c = (lenF c (c.axis.length - 1), 0) := by unfold lengthR; rw [h]; rfl
  have cl : CallP Try.prog 35 [chan c, vI (w64 ((c.axis.length : Int) - 1))] (vI (lenF c (c.axis.length - 1))) := by
    rw [last_eq hv]; exact clength c (c.axis.length - 1) hv (by omega)
  refine callN cl ?_
  rw [e]
  exact SubR.t ⟨LeD.refl _, fun _ _ r => r, trivial⟩
attribute [local irreducible] errC small lenF in
theorem Checks (c : Chan) (hc : c.ok) : CallP Try.prog 3 [chan c] (vB true) := by
  refine callP_of_ex (rc := []) (N := 47) Try.func3 rfl rfl Try.call3 tab_ok mix rfl rfl (fun cx href => ?_)
  refine callN awake ?_
  refine And.intro (fun h => by cases h) (fun _ => ?_)
  refine callN (Small c hc) ?_
  refine And.intro (fun _ => SubR.lit rfl) (fun h1 => ?_)
  have h1 : (!small c) = false := h1
  have hs : small c = true := by simpa using h1
  refine callN (Copied c (Sm.of hs)) ?_
  refine callN (gLength c hc) ?_
  refine callN (rCheck c hc) ?_
  refine callN (Copied c (Sm.of hs)) ?_
  refine callN (gCheck c hc) ?_
  repeat first | refine sk ?_ | refine st ?_ | refine sg ?_ | refine sh ?_ | refine su ?_ | refine sn1 ?_ | refine sn0 ?_
  have e2 : (lengthR c).2 = errC c := by
    unfold lengthR
    cases h : errC c != 0 with
    | true => rfl
    | false => simp at h; exact h.symm
  refine And.intro (fun h => ?_) (fun _ => ?_)
  · exfalso
    have h : (errC c != errC c || (lengthR c).2 != errC c) = true := h
    rw [e2] at h
    simp at h
  repeat first | refine sk ?_ | refine st ?_ | refine sg ?_ | refine sh ?_ | refine su ?_ | refine sn1 ?_ | refine sn0 ?_
  refine callG (Legs c) ?_
  repeat first | refine sk ?_ | refine st ?_ | refine sg ?_ | refine sh ?_ | refine su ?_ | refine sn1 ?_ | refine sn0 ?_
  refine callGo (r := vI (lenF c (c.axis.length - 1))) (fun hb => ?_) ?_
  · have hb : (!(errC c != 0 && (lengthR c).1 == 0) && errC c == 0) = true := hb
    simp only [Bool.and_eq_true, beq_iff_eq] at hb
    have hv := val_of c hb.2
    have h2 := hv.n2
    show CallP Try.prog 13 [chan c, vI (w64 ((c.axis.length : Int) - 1))] _
    rw [last_eq hv]; exact rLength c (c.axis.length - 1) hv (by omega)
  repeat first | refine sk ?_ | refine st ?_ | refine sg ?_ | refine sh ?_ | refine su ?_ | refine sn1 ?_ | refine sn0 ?_
  refine And.intro (by kernel_rfl) ?_
  refine SubR.of_eq ?_
  show vB ((errC c != 0 && (lengthR c).1 == 0) || (errC c == 0 && (lengthR c).1 == lenF c (c.axis.length - 1))) = vB true
  unfold lengthR
  cases h : errC c != 0 with
  | true => rfl
  | false =>
    have h0 : errC c = 0 := by simpa using h
    rw [h0]; simp
end Go.Ch

namespace Go.Ch
open Go Go.Ax Go.Proofs Go.Proofs.Try
set_option maxRecDepth 100000
set_option pp.maxSteps 400
set_option maxHeartbeats 1000000

structure Sta where
  at_ : Int
  step : Int
  count : Int
abbrev sta (q : Sta) : AV := .g [.d (dI q.at_), .d (dI q.step), .d (dI q.count)]
abbrev staB (q : Sta) : Box := .cells [.d (dI q.at_), .d (dI q.step), .d (dI q.count)]
def staErr (c : Chan) (q : Sta) : Int := bif (!within q.at_ 0 (lenF c (c.axis.length - 1)) || !within q.step 1 100000) || !within q.count 0 100 then 2 else 0
theorem rStationErr (c : Chan) (q : Sta) (hv : Val c) : CallP Try.prog 16 [chan c, sta q] (vI (staErr c q)) := by
  have h2 := hv.n2
  have cl : CallP Try.prog 13 [chan c, vI (w64 ((c.axis.length : Int) - 1))] (vI (lenF c (c.axis.length - 1))) := by
    rw [last_eq hv]; exact rLength c (c.axis.length - 1) hv (by omega)
  refine callP_of_ex (rc := []) (N := 25) Try.func16 rfl rfl Try.call16 tab_ok mix rfl rfl (fun cx href => ?_)
  refine callN (Legs c) ?_
  refine callN cl ?_
  refine callN (Within q.at_ 0 (lenF c (c.axis.length - 1))) ?_
  repeat first | refine sk ?_ | refine st ?_ | refine sg ?_ | refine sh ?_ | refine su ?_ | refine sn1 ?_ | refine sn0 ?_
  refine callG (Within q.step 1 100000) ?_
  repeat first | refine sk ?_ | refine st ?_ | refine sg ?_ | refine sh ?_ | refine su ?_ | refine sn1 ?_ | refine sn0 ?_
  refine callG (Within q.count 0 100) ?_
  repeat first | refine sk ?_ | refine st ?_ | refine sg ?_ | refine sh ?_ | refine su ?_ | refine sn1 ?_ | refine sn0 ?_
  refine And.intro (by kernel_rfl) ?_
  refine And.intro (fun h => ?_) (fun h => ?_)
  · exact SubR.of_eq (by unfold staErr; rw [show ((!within q.at_ 0 (lenF c (c.axis.length - 1)) || !within q.step 1 100000) || !within q.count 0 100) = true from h]; rfl)
  · exact SubR.of_eq (by unfold staErr; rw [show ((!within q.at_ 0 (lenF c (c.axis.length - 1)) || !within q.step 1 100000) || !within q.count 0 100) = false from h]; rfl)
/-- The leg on which a chainage lies. -/
def lk (c : Chan) (at_ : Int) : Nat → Nat → Nat
  | 0, k => k
  | f + 1, k => bif decide (at_ > lenF c (k + 1)) then lk c at_ f (k + 1) else k
def legK (c : Chan) (at_ : Int) : Nat := lk c at_ (c.axis.length - 2) 0
structure OnK (c : Chan) (at_ : Int) (k : Nat) : Prop where
  le : k ≤ c.axis.length - 2
  eq : lk c at_ (c.axis.length - 2 - k) k = legK c at_
  lo : lenF c k ≤ at_
theorem OnK.zero {c : Chan} {at_ : Int} (h : 0 ≤ at_) : OnK c at_ 0 := ⟨Nat.zero_le _, rfl, h⟩
theorem OnK.more {c : Chan} {at_ : Int} (h2 : 2 ≤ c.axis.length) {k : Nat} (h : OnK c at_ k) (hat : at_ ≤ lenF c (c.axis.length - 1)) (hc : at_ > lenF c (k + 1)) : OnK c at_ (k + 1) := by
  obtain ⟨h1, h3, h4⟩ := h
  have hk : k ≠ c.axis.length - 2 := by
    rintro rfl
    rw [show c.axis.length - 2 + 1 = c.axis.length - 1 by omega] at hc
    omega
  refine ⟨by omega, ?_, by omega⟩
  rw [← h3, show c.axis.length - 2 - k = c.axis.length - 2 - (k + 1) + 1 by omega, lk, decide_eq_true hc]; rfl
theorem OnK.done {c : Chan} {at_ : Int} {k : Nat} (h : OnK c at_ k) (hc : ¬ at_ > lenF c (k + 1)) : legK c at_ = k := by
  obtain ⟨h1, h3, h4⟩ := h
  rw [← h3]
  cases c.axis.length - 2 - k with
  | zero => rfl
  | succ f => rw [lk, decide_eq_false hc]; rfl
structure Mid (c : Chan) (at_ : Int) : Prop where
  k : legK c at_ + 1 < c.axis.length
  lo : lenF c (legK c at_) ≤ at_
  hi : at_ ≤ lenF c (legK c at_ + 1)
def secHalf (c : Chan) (at_ : Int) : Int := mixE (axis c (legK c at_)).half (axis c (legK c at_ + 1)).half (spanC c (legK c at_)) (at_ - lenF c (legK c at_))
def secLev (c : Chan) (at_ : Int) : Int := mixE (axis c (legK c at_)).level (axis c (legK c at_ + 1)).level (spanC c (legK c at_)) (at_ - lenF c (legK c at_))
def secItem (c : Chan) (q : Sta) (i : Nat) : Int :=
  bif (lvl (w64 (i * q.step)) (secHalf c q.at_) (secLev c q.at_) (axis c (legK c q.at_)).run).2 then (lvl (w64 (i * q.step)) (secHalf c q.at_) (secLev c q.at_) (axis c (legK c q.at_)).run).1 else 30000
def secL (c : Chan) (q : Sta) (i : Nat) : List Int := (List.range i).map (secItem c q)
theorem secL_succ (c : Chan) (q : Sta) (i : Nat) : secL c q (i + 1) = secL c q i ++ [secItem c q i] := by
  unfold secL; rw [List.range_succ, List.map_append]; rfl
theorem secL_len (c : Chan) (q : Sta) (i : Nat) : (secL c q i).length = i := by simp [secL]

theorem OnK.mid {c : Chan} {at_ : Int} (h2 : 2 ≤ c.axis.length) {k : Nat} (h : OnK c at_ k) (hc : ¬ at_ > lenF c (k + 1)) : Mid c at_ := by
  have e := h.done hc
  have h1 := h.le
  have h4 := h.lo
  exact ⟨by rw [e]; omega, by rw [e]; exact h4, by rw [e]; omega⟩
def prevO (q : Sta) : Nat → Int
  | 0 => 0
  | i + 1 => w64 (i * q.step)
abbrev prtB (o h l r : Int) : Box := .cells [.d (dI o), .d (dI h), .d (dI l), .d (dI r)]
theorem staErr_zero {c : Chan} {q : Sta} (h : staErr c q = 0) : (0 ≤ q.at_ ∧ q.at_ ≤ lenF c (c.axis.length - 1)) ∧ (1 ≤ q.step ∧ q.step ≤ 100000) ∧ 0 ≤ q.count ∧ q.count ≤ 100 := by
  unfold staErr at h
  cases h1 : (!within q.at_ 0 (lenF c (c.axis.length - 1)) || !within q.step 1 100000) || !within q.count 0 100 with
  | true => rw [h1] at h; cases h
  | false =>
    simp [within] at h1
    exact ⟨by omega, by omega, by omega⟩
theorem rSection (c : Chan) (q : Sta) (hv : Val c) (hq : staErr c q = 0) : CallP Try.prog 18 [chan c, sta q] (vInts (secL c q (q.count + 1).toNat)) := by
  have h2 := hv.n2
  have h20 := hv.n20
  have ho := hv.over
  obtain ⟨hat, hst, hct⟩ := staErr_zero hq
  refine callP_of_ex (rc := []) (N := 96) Try.func18 rfl rfl Try.call18 tab_ok mix rfl rfl (fun cx href => ?_)
  refine AW.loopI (fun k : Nat => ⟨[(2, .s (.ptr 2 0)), (3, .s (.ptr 3 0)), (5, vI k)], [(2, some (chanB c)), (3, some (staB q))]⟩) (fun k => OnK c q.at_ k) (fun k => c.axis.length - k) 0 (OnK.zero hat.1) ?_ ?_
  · exact SubI.of0 href [] rfl ⟨⟨rfl, LeBx.rfl⟩, ⟨rfl, LeBx.rfl⟩, trivial⟩ ⟨⟨rfl, LeQ.rfl⟩, ⟨rfl, LeQ.rfl⟩, ⟨rfl, LeQ.rfl⟩, trivial⟩
  · intro k hk
    have hkl := hk.le
    have ek : w64 ((k : Int) + 1) = ((k + 1 : Nat) : Int) := w64_of (by omega) (by omega)
    have eup : up k = k + 1 := up_eq (by omega)
    have eu : (w64 ((k : Int) + 1)).toNat = k + 1 := eup
    have cl : CallP Try.prog 13 [chan c, vI (w64 ((k : Int) + 1))] (vI (lenF c (k + 1))) := by rw [ek]; exact rLength c (k + 1) hv (by omega)
    refine ex.sound (rc := []) tab_ok mix href _ ?_
    refine callN cl ?_
    refine And.intro (by kernel_rfl) ?_
    refine And.intro (fun h => ?_) (fun h => ?_)
    · have h : decide (q.at_ > lenF c (k + 1)) = true := h
      have h := of_decide_eq_true h
      have hk' := hk.more h2 hat.2 h
      refine ⟨k + 1, hk', by have := hk'.le; omega, ?_⟩
      exact SubI.of0 href [] rfl ⟨⟨rfl, LeBx.rfl⟩, ⟨rfl, LeBx.rfl⟩, trivial⟩ ⟨⟨rfl, LeQ.rfl⟩, ⟨rfl, LeQ.rfl⟩, ⟨rfl, LeQ.int ek⟩, trivial⟩
    · have h : decide (q.at_ > lenF c (k + 1)) = false := h
      have h := of_decide_eq_false h
      have el := hk.done h
      have hlo := hk.lo
      have hk1 : k + 1 < c.axis.length := by omega
      have ha := hv.pts k (by omega)
      have hb := hv.pts (k + 1) hk1
      have hs0 : 0 < spanC c k := span_pos ha hb (hv.apart k hk1)
      have hs1 : spanC c k ≤ 3000000 := (span_bound ha hb).2
      have hb0 := lenF_le hv k (by omega)
      have hhi : q.at_ ≤ lenF c k + spanC c k := by have : lenF c (k + 1) = lenF c k + spanC c k := rfl; omega
      have hh := hv.half k (by omega)
      have hh' := hv.half (k + 1) hk1
      have hl := hv.level k (by omega)
      have hl' := hv.level (k + 1) hk1
      have ed : w64 (q.at_ - lenF c k) = q.at_ - lenF c k := w64_of (by omega) (by omega)
      refine callN (rLength c k hv (by omega)) ?_
      refine callN (rspan c k hv hk1) ?_
      refine And.intro (by kernel_rfl) ?_
      refine oi ⟨by omega, by omega⟩ ?_
      refine oi (by show 0 ≤ w64 ((k : Int) + 1) ∧ w64 ((k : Int) + 1) < _; rw [ek]; exact ⟨by omega, by omega⟩) ?_
      refine And.intro (by kernel_rfl) ?_
      refine callN (Floor0 _ _ (by omega)) ?_
      refine callN (Floor0 _ _ (by omega)) ?_
      refine And.intro (by kernel_rfl) ?_
      refine AW.loopI (fun i : Nat => ⟨[(3, .s (.ptr 3 0)), (10, .s (.ptr 10 0)), (11, .s (.mo (secL c q i).isEmpty 100)), (12, vI i)],
          [(3, some (staB q)), (10, some (prtB (prevO q i) (secHalf c q.at_) (secLev c q.at_) (axis c (legK c q.at_)).run)), (100, some (.mrow 3 (secL c q i).length 1 (intEl (secL c q i))))]⟩)
        (fun i => i ≤ (q.count + 1).toNat) (fun i => (q.count + 1).toNat - i) 0 (Nat.zero_le _) ?_ ?_
      · refine SubI.of0 href [(100, 1000)] rfl ⟨⟨rfl, LeBx.rfl⟩, ⟨rfl, LeBx.cells ⟨LeQ.rfl, LeQ.int ?_, LeQ.int ?_, LeQ.int ?_, trivial⟩⟩, ⟨rfl, rfl⟩, trivial⟩ ⟨⟨rfl, LeQ.rfl⟩, ⟨rfl, LeQ.rfl⟩, ⟨rfl, LeQ.nil rfl⟩, ⟨rfl, LeQ.rfl⟩, trivial⟩
        · unfold secHalf
          rw [el]
          simp only [eu, Int.toNat_natCast, ed]
          exact floor_mix (U := 100000) hs0 (by omega) (by omega) (by omega) (by omega) (by omega) (by omega) (by omega) (by omega) (by omega)
        · unfold secLev
          rw [el]
          simp only [eu, Int.toNat_natCast, ed]
          exact floor_mix (U := 20000) hs0 (by omega) (by omega) (by omega) (by omega) (by omega) (by omega) (by omega) (by omega) (by omega)
        · rw [el]; rfl
      · intro i hi
        refine ex.sound (rc := []) tab_ok mix href _ ?_
        refine And.intro (fun h3 => ?_) (fun h3 => ?_)
        · have h3 : decide ((i : Int) ≤ q.count) = true := h3
          have h3 := of_decide_eq_true h3
          have hlen := secL_len c q i
          have hsucc := secL_succ c q i
          refine callN (Level (w64 (i * q.step)) (secHalf c q.at_) (secLev c q.at_) (axis c (legK c q.at_)).run) ?_
          refine And.intro (fun h4 => ?_) (fun h4 => ?_)
          · have h4 : (!(lvl (w64 (i * q.step)) (secHalf c q.at_) (secLev c q.at_) (axis c (legK c q.at_)).run).2) = true := h4
            have e : secItem c q i = 30000 := by
              unfold secItem
              rw [show (lvl (w64 (i * q.step)) (secHalf c q.at_) (secLev c q.at_) (axis c (legK c q.at_)).run).2 = false by simpa using h4]; rfl
            rw [e] at hsucc
            refine ob (by decide) ?_
            refine ob (by rw [bif_len]; show _ * 8 ≤ _; omega) ?_
            refine ob (fit1 (lt1 rfl)) ?_
            refine ⟨i + 1, by omega, by omega, ?_⟩
            refine SubI.of0 href [(100, 94)] rfl ⟨⟨rfl, LeBx.rfl⟩, ⟨rfl, LeBx.rfl⟩, ⟨rfl, ?_⟩, trivial⟩ ⟨⟨rfl, LeQ.rfl⟩, ⟨rfl, LeQ.rfl⟩, ⟨rfl, LeQ.mo ?_⟩, ⟨rfl, LeQ.int (w64_of (by omega) (by omega))⟩, trivial⟩
            · show LeBx _ (.mrow 3 (secL c q (i + 1)).length 1 (intEl (secL c q (i + 1))))
              rw [hsucc]
              exact RowIs.mrow (el := fun x _ => dI x) (RowIs.snoc intRow (lt1 rfl))
            · rw [hsucc]; exact isEmpty_snoc _ _
          · have h4 : (!(lvl (w64 (i * q.step)) (secHalf c q.at_) (secLev c q.at_) (axis c (legK c q.at_)).run).2) = false := h4
            have e : secItem c q i = (lvl (w64 (i * q.step)) (secHalf c q.at_) (secLev c q.at_) (axis c (legK c q.at_)).run).1 := by
              unfold secItem
              rw [show (lvl (w64 (i * q.step)) (secHalf c q.at_) (secLev c q.at_) (axis c (legK c q.at_)).run).2 = true by simpa using h4]; rfl
            rw [e] at hsucc
            refine ob (by decide) ?_
            refine ob (by rw [bif_len]; show _ * 8 ≤ _; omega) ?_
            refine ob (fit1 (lt1 rfl)) ?_
            refine ⟨i + 1, by omega, by omega, ?_⟩
            refine SubI.of0 href [(100, 94)] rfl ⟨⟨rfl, LeBx.rfl⟩, ⟨rfl, LeBx.rfl⟩, ⟨rfl, ?_⟩, trivial⟩ ⟨⟨rfl, LeQ.rfl⟩, ⟨rfl, LeQ.rfl⟩, ⟨rfl, LeQ.mo ?_⟩, ⟨rfl, LeQ.int (w64_of (by omega) (by omega))⟩, trivial⟩
            · show LeBx _ (.mrow 3 (secL c q (i + 1)).length 1 (intEl (secL c q (i + 1))))
              rw [hsucc]
              exact RowIs.mrow (el := fun x _ => dI x) (RowIs.snoc intRow (lt1 rfl))
            · rw [hsucc]; exact isEmpty_snoc _ _
        · have h3 : decide ((i : Int) ≤ q.count) = false := h3
          have h3 := of_decide_eq_false h3
          obtain rfl : i = (q.count + 1).toNat := by omega
          exact SubR.mo
end Go.Ch

namespace Go.Ch
open Go Go.Ax Go.Proofs Go.Proofs.Try
set_option maxRecDepth 100000
set_option pp.maxSteps 400
set_option maxHeartbeats 1000000

theorem rIntsEq (a : List Int) (ha : a.length ≤ 1000000) : CallP Try.prog 17 [vInts a, vInts a] (vB true) := by
  refine callP_of_ex (rc := []) (N := 26) Try.func17 rfl rfl Try.call17 tab_ok mix rfl rfl (fun cx href => ?_)
  refine And.intro (fun h => ?_) (fun _ => ?_)
  · exfalso
    have h : ((a.length : Int) != (a.length : Int)) = true := h
    simp at h
  refine AW.loopI (fun i : Nat => ⟨[(0, vInts a), (1, vInts a), (5, vI i)], []⟩) (fun i => i ≤ a.length) (fun i => a.length - i) 0 (Nat.zero_le _) ?_ ?_
  · exact SubI.of0 href [] rfl trivial ⟨⟨rfl, LeQ.rfl⟩, ⟨rfl, LeQ.rfl⟩, ⟨rfl, LeQ.rfl⟩, trivial⟩
  · intro i hi
    refine ex.sound (rc := []) tab_ok mix href _ ?_
    refine And.intro (fun h => ?_) (fun h => ?_)
    · have h : decide ((i : Int) < a.length) = true := h
      have h := of_decide_eq_true h
      refine oi ⟨by omega, by omega⟩ ?_
      refine oi ⟨by omega, by omega⟩ ?_
      refine And.intro (by kernel_rfl) ?_
      refine And.intro (fun h2 => ?_) (fun _ => ?_)
      · exfalso
        have h2 : (a.getD i 0 != a.getD i 0) = true := h2
        simp at h2
      · refine ⟨i + 1, by omega, by omega, ?_⟩
        exact SubI.of0 href [] rfl trivial ⟨⟨rfl, LeQ.rfl⟩, ⟨rfl, LeQ.rfl⟩, ⟨rfl, LeQ.int (w64_of (by omega) (by omega))⟩, trivial⟩
    · exact SubR.lit rfl
def secR (c : Chan) (q : Sta) : List Int × Int := bif errC c != 0 then ([], errC c) else bif staErr c q != 0 then ([], 2) else (secL c q (q.count + 1).toNat, 0)
abbrev rIntsE (l : List Int) (e : Int) : AV := .t [.s (.d (dInts l)), .s (.d (dI e))]
theorem staErr_bad {c : Chan} {q : Sta} (h : ((!within q.at_ 0 (lenF c (c.axis.length - 1)) || !within q.step 1 100000) || !within q.count 0 100) = true) : staErr c q = 2 := by unfold staErr; rw [h]; rfl
theorem staErr_ok {c : Chan} {q : Sta} (h : ((!within q.at_ 0 (lenF c (c.axis.length - 1)) || !within q.step 1 100000) || !within q.count 0 100) = false) : staErr c q = 0 := by unfold staErr; rw [h]; rfl
attribute [local irreducible] errC in
theorem Section (c : Chan) (q : Sta) (hc : c.ok) : CallP Try.prog 15 [chan c, sta q] (rIntsE (secR c q).1 (secR c q).2) := by
  refine callP_of_ex (rc := []) (N := 122) Try.func15 rfl rfl Try.call15 tab_ok mix rfl rfl (fun cx href => ?_)
  refine callN (gCheck c hc) ?_
  refine And.intro (fun h1 => ?_) (fun h1 => ?_)
  · have h1 : (errC c != 0) = true := h1
    have e : secR c q = ([], errC c) := by unfold secR; rw [h1]; rfl
    rw [e]
    exact SubR.t ⟨LeD.nil, LeD.refl _, trivial⟩
  have h1 : (errC c != 0) = false := h1
  have hv := val_of c (by simpa using h1)
  have h2 := hv.n2
  have h20 := hv.n20
  have ho := hv.over
  have cl : CallP Try.prog 35 [chan c, vI (w64 ((c.axis.length : Int) - 1))] (vI (lenF c (c.axis.length - 1))) := by
    rw [last_eq hv]; exact clength c (c.axis.length - 1) hv (by omega)
  refine callN cl ?_
  refine callN (outside q.at_ 0 (lenF c (c.axis.length - 1))) ?_
  repeat first | refine sk ?_ | refine st ?_ | refine sg ?_ | refine sh ?_ | refine su ?_ | refine sn1 ?_ | refine sn0 ?_
  refine callG (outside q.step 1 100000) ?_
  repeat first | refine sk ?_ | refine st ?_ | refine sg ?_ | refine sh ?_ | refine su ?_ | refine sn1 ?_ | refine sn0 ?_
  refine callG (outside q.count 0 100) ?_
  repeat first | refine sk ?_ | refine st ?_ | refine sg ?_ | refine sh ?_ | refine su ?_ | refine sn1 ?_ | refine sn0 ?_
  refine And.intro (by kernel_rfl) ?_
  refine And.intro (fun h0 => ?_) (fun h0 => ?_)
  · have hq := staErr_bad (c := c) (q := q) h0
    have e : secR c q = ([], 2) := by unfold secR; rw [h1, hq]; rfl
    rw [e]
    exact SubR.t ⟨LeD.nil, fun _ _ r => r, trivial⟩
  have hq := staErr_ok (c := c) (q := q) h0
  have e : secR c q = (secL c q (q.count + 1).toNat, 0) := by unfold secR; rw [h1, hq]; rfl
  rw [e]
  obtain ⟨hat, hst, hct⟩ := staErr_zero hq
  have hb1 := lenF_le hv (c.axis.length - 1) (by omega)
  refine And.intro (by kernel_rfl) ?_
  refine AW.loopI (fun k : Nat => ⟨[(2, .s (.ptr 2 0)), (3, .s (.ptr 3 0)), (7, vI k), (8, vI (q.at_ - lenF c k))], [(2, some (chanB c)), (3, some (staB q))]⟩) (fun k => OnK c q.at_ k) (fun k => c.axis.length - k) 0 (OnK.zero hat.1) ?_ ?_
  · exact SubI.of0 href [] rfl ⟨⟨rfl, LeBx.rfl⟩, ⟨rfl, LeBx.rfl⟩, trivial⟩ ⟨⟨rfl, LeQ.rfl⟩, ⟨rfl, LeQ.rfl⟩, ⟨rfl, LeQ.rfl⟩, ⟨rfl, LeQ.int (by show q.at_ = q.at_ - 0; omega)⟩, trivial⟩
  · intro k hk
    have hkl := hk.le
    have hlo := hk.lo
    have ek : w64 ((k : Int) + 1) = ((k + 1 : Nat) : Int) := w64_of (by omega) (by omega)
    have eup : up k = k + 1 := up_eq (by omega)
    have eu : (w64 ((k : Int) + 1)).toNat = k + 1 := eup
    have hk1 : k + 1 < c.axis.length := by omega
    have ha := hv.pts k (by omega)
    have hb := hv.pts (k + 1) hk1
    have hs0 : 0 < spanC c k := span_pos ha hb (hv.apart k hk1)
    have hs1 : spanC c k ≤ 3000000 := (span_bound ha hb).2
    have hb0 := lenF_le hv k (by omega)
    have el1 : lenF c (k + 1) = lenF c k + spanC c k := rfl
    refine ex.sound (rc := []) tab_ok mix href _ ?_
    refine callN (cspan c k hv hk1) ?_
    refine And.intro (fun h => ?_) (fun h => ?_)
    · have h : decide (q.at_ - lenF c k > spanC c k) = true := h
      have h := of_decide_eq_true h
      have hk' := hk.more h2 hat.2 (by omega)
      refine callN (cspan c k hv hk1) ?_
      refine ⟨k + 1, hk', by have := hk'.le; omega, ?_⟩
      exact SubI.of0 href [] rfl ⟨⟨rfl, LeBx.rfl⟩, ⟨rfl, LeBx.rfl⟩, trivial⟩ ⟨⟨rfl, LeQ.rfl⟩, ⟨rfl, LeQ.rfl⟩, ⟨rfl, LeQ.int ek⟩, ⟨rfl, LeQ.int ((w64_of (by omega) (by omega)).trans (by rw [el1]; omega))⟩, trivial⟩
    · have h : decide (q.at_ - lenF c k > spanC c k) = false := h
      have h := of_decide_eq_false h
      have el := hk.done (by omega)
      have hh := hv.half k (by omega)
      have hh' := hv.half (k + 1) hk1
      have hl := hv.level k (by omega)
      have hl' := hv.level (k + 1) hk1
      refine oi ⟨by omega, by omega⟩ ?_
      refine oi (by show 0 ≤ w64 ((k : Int) + 1) ∧ w64 ((k : Int) + 1) < _; rw [ek]; exact ⟨by omega, by omega⟩) ?_
      refine callN (cspan c k hv hk1) ?_
      refine And.intro (by kernel_rfl) ?_
      refine callN (down _ _ (by omega)) ?_
      refine callN (down _ _ (by omega)) ?_
      refine And.intro (by kernel_rfl) ?_
      have ec : w64 (q.count + 1) = (((q.count + 1).toNat : Nat) : Int) := by rw [w64_of (by omega) (by omega)]; omega
      refine AW.loopI (fun i : Nat => ⟨[(3, .s (.ptr 3 0)), (12, .s (.ptr 12 0)), (13, .s (.mo (secL c q i).isEmpty 100)), (100, vI (w64 (q.count + 1))), (101, vI i)],
          [(3, some (staB q)), (12, some (prtB (prevO q i) (secHalf c q.at_) (secLev c q.at_) (axis c (legK c q.at_)).run)), (100, some (.mrow 3 (secL c q i).length 1 (intEl (secL c q i))))]⟩)
        (fun i => i ≤ (q.count + 1).toNat) (fun i => (q.count + 1).toNat - i) 0 (Nat.zero_le _) ?_ ?_
      · refine SubI.of0 href [(100, 1000)] rfl ⟨⟨rfl, LeBx.rfl⟩, ⟨rfl, LeBx.cells ⟨LeQ.rfl, LeQ.int ?_, LeQ.int ?_, LeQ.int ?_, trivial⟩⟩, ⟨rfl, rfl⟩, trivial⟩ ⟨⟨rfl, LeQ.rfl⟩, ⟨rfl, LeQ.rfl⟩, ⟨rfl, LeQ.nil rfl⟩, ⟨rfl, LeQ.rfl⟩, ⟨rfl, LeQ.rfl⟩, trivial⟩
        · unfold secHalf
          rw [el]
          simp only [eu, Int.toNat_natCast]
          exact down_mix (U := 100000) hs0 (by omega) (by omega) (by omega) (by omega) (by omega) (by omega) (by omega) (by omega) (by omega)
        · unfold secLev
          rw [el]
          simp only [eu, Int.toNat_natCast]
          exact down_mix (U := 20000) hs0 (by omega) (by omega) (by omega) (by omega) (by omega) (by omega) (by omega) (by omega) (by omega)
        · rw [el]; rfl
      · intro i hi
        refine ex.sound (rc := []) tab_ok mix href _ ?_
        refine And.intro (fun h3 => ?_) (fun h3 => ?_)
        · have h3 : (i : Int) < w64 (q.count + 1) := decT h3
          rw [ec] at h3
          have hlen := secL_len c q i
          have hsucc := secL_succ c q i
          refine callN (level (w64 (i * q.step)) (secHalf c q.at_) (secLev c q.at_) (axis c (legK c q.at_)).run) ?_
          refine And.intro (fun h4 => ?_) (fun h4 => ?_)
          · have h4 : (!(lvl (w64 (i * q.step)) (secHalf c q.at_) (secLev c q.at_) (axis c (legK c q.at_)).run).2) = true := h4
            have e : secItem c q i = 30000 := by
              unfold secItem
              rw [show (lvl (w64 (i * q.step)) (secHalf c q.at_) (secLev c q.at_) (axis c (legK c q.at_)).run).2 = false by simpa using h4]; rfl
            rw [e] at hsucc
            refine ob (by decide) ?_
            refine ob (by rw [bif_len]; show _ * 8 ≤ _; omega) ?_
            refine ob (fit1 (lt1 rfl)) ?_
            refine ⟨i + 1, by omega, by omega, ?_⟩
            refine SubI.of0 href [(100, 119)] rfl ⟨⟨rfl, LeBx.rfl⟩, ⟨rfl, LeBx.rfl⟩, ⟨rfl, ?_⟩, trivial⟩ ⟨⟨rfl, LeQ.rfl⟩, ⟨rfl, LeQ.rfl⟩, ⟨rfl, LeQ.mo ?_⟩, ⟨rfl, LeQ.rfl⟩, ⟨rfl, LeQ.int (w64_of (by omega) (by omega))⟩, trivial⟩
            · show LeBx _ (.mrow 3 (secL c q (i + 1)).length 1 (intEl (secL c q (i + 1))))
              rw [hsucc]
              exact RowIs.mrow (el := fun x _ => dI x) (RowIs.snoc intRow (lt1 rfl))
            · rw [hsucc]; exact isEmpty_snoc _ _
          · have h4 : (!(lvl (w64 (i * q.step)) (secHalf c q.at_) (secLev c q.at_) (axis c (legK c q.at_)).run).2) = false := h4
            have e : secItem c q i = (lvl (w64 (i * q.step)) (secHalf c q.at_) (secLev c q.at_) (axis c (legK c q.at_)).run).1 := by
              unfold secItem
              rw [show (lvl (w64 (i * q.step)) (secHalf c q.at_) (secLev c q.at_) (axis c (legK c q.at_)).run).2 = true by simpa using h4]; rfl
            rw [e] at hsucc
            refine ob (by decide) ?_
            refine ob (by rw [bif_len]; show _ * 8 ≤ _; omega) ?_
            refine ob (fit1 (lt1 rfl)) ?_
            refine ⟨i + 1, by omega, by omega, ?_⟩
            refine SubI.of0 href [(100, 119)] rfl ⟨⟨rfl, LeBx.rfl⟩, ⟨rfl, LeBx.rfl⟩, ⟨rfl, ?_⟩, trivial⟩ ⟨⟨rfl, LeQ.rfl⟩, ⟨rfl, LeQ.rfl⟩, ⟨rfl, LeQ.mo ?_⟩, ⟨rfl, LeQ.rfl⟩, ⟨rfl, LeQ.int (w64_of (by omega) (by omega))⟩, trivial⟩
            · show LeBx _ (.mrow 3 (secL c q (i + 1)).length 1 (intEl (secL c q (i + 1))))
              rw [hsucc]
              exact RowIs.mrow (el := fun x _ => dI x) (RowIs.snoc intRow (lt1 rfl))
            · rw [hsucc]; exact isEmpty_snoc _ _
        · have h3 : ¬ (i : Int) < w64 (q.count + 1) := decF h3
          rw [ec] at h3
          obtain rfl : i = (q.count + 1).toNat := by omega
          exact SubR.t ⟨LeD.slc' (bif_len _) fun _ _ _ _ => LeD.refl _, fun _ _ r => r, trivial⟩
attribute [local irreducible] errC small secL staErr in
theorem Sections (c : Chan) (q : Sta) (hc : c.ok) : CallP Try.prog 4 [chan c, sta q] (vB true) := by
  refine callP_of_ex (rc := []) (N := 46) Try.func4 rfl rfl Try.call4 tab_ok mix rfl rfl (fun cx href => ?_)
  refine callN awake ?_
  refine And.intro (fun h => by cases h) (fun _ => ?_)
  refine callN (Small c hc) ?_
  refine And.intro (fun _ => SubR.lit rfl) (fun h1 => ?_)
  have h1 : (!small c) = false := h1
  have hs : small c = true := by simpa using h1
  refine callN (Copied c (Sm.of hs)) ?_
  refine callN (Section c q hc) ?_
  refine And.intro (by kernel_rfl) ?_
  refine callN (rCheck c hc) ?_
  refine And.intro (fun h2 => ?_) (fun h2 => ?_)
  · have h2 : (errC c == 0) = true := h2
    have h0 : errC c = 0 := by simpa using h2
    have hv := val_of c h0
    refine callN (rStationErr c q hv) ?_
    refine And.intro (fun h3 => ?_) (fun h3 => ?_)
    · have h3 : (staErr c q != 0) = true := h3
      have e : secR c q = ([], 2) := by unfold secR; rw [h0, h3]; rfl
      have e2 : staErr c q = 2 := by
        cases hx : (!within q.at_ 0 (lenF c (c.axis.length - 1)) || !within q.step 1 100000) || !within q.count 0 100 with
        | true => exact staErr_bad hx
        | false => rw [staErr_ok hx] at h3; cases h3
      rw [e, e2]
      repeat first | refine sk ?_ | refine st ?_ | refine sg ?_ | refine sh ?_ | refine su ?_ | refine sn1 ?_ | refine sn0 ?_
      exact SubR.of_eq rfl
    · have h3 : (staErr c q != 0) = false := h3
      have hq : staErr c q = 0 := by simpa using h3
      have e : secR c q = (secL c q (q.count + 1).toNat, 0) := by unfold secR; rw [h0, h3]; rfl
      have hz := (staErr_zero hq).2.2
      rw [e]
      repeat first | refine sk ?_ | refine st ?_ | refine sg ?_ | refine sh ?_ | refine su ?_ | refine sn1 ?_ | refine sn0 ?_
      refine callG (rSection c q hv hq) ?_
      repeat first | refine sk ?_ | refine st ?_ | refine sg ?_ | refine sh ?_ | refine su ?_ | refine sn1 ?_ | refine sn0 ?_
      refine callG (rIntsEq (secL c q (q.count + 1).toNat) (by rw [secL_len]; omega)) ?_
      repeat first | refine sk ?_ | refine st ?_ | refine sg ?_ | refine sh ?_ | refine su ?_ | refine sn1 ?_ | refine sn0 ?_
      exact SubR.of_eq rfl
  · have h2 : (errC c == 0) = false := h2
    have h2' : (errC c != 0) = true := by simpa using h2
    have e : secR c q = ([], errC c) := by unfold secR; rw [h2']; rfl
    rw [e]
    refine And.intro (fun _ => ?_) (fun h3 => ?_)
    · repeat first | refine sk ?_ | refine st ?_ | refine sg ?_ | refine sh ?_ | refine su ?_ | refine sn1 ?_ | refine sn0 ?_
      refine SubR.of_eq ?_
      show vB (errC c == errC c && (0 : Int) == 0) = vB true
      simp
    · have h3 : (errC c != 0) = false := h3
      rw [h2'] at h3; cases h3
def Sta.ok (q : Sta) : Prop := i64ok q.at_ ∧ i64ok q.step ∧ i64ok q.count
theorem rSta : RdA Try.prog 36 sta Sta.ok :=
  rda_agg (k := 3) Try.underlying36 ((rd_struct Try.underlying36 rfl (by kernel_rfl) (rdf_cons rfl rI (rdf_cons rfl rI (rdf_cons rfl rI rdf_nil)))).to (fun a => ⟨a.1, a.2.1, a.2.2.1⟩) (fun _ => rfl) (fun _ h => ⟨h.1, h.2.1, h.2.2.1⟩))
end Go.Ch

namespace Go.Ch
open Go Go.Ax Go.Proofs Go.Proofs.Try
set_option maxRecDepth 100000
set_option pp.maxSteps 400
set_option maxHeartbeats 1000000

def deepA (m : Int) (a : Ap) : Ap := { a with level := w64 (a.level - m) }
def deepC (c : Chan) (m : Int) : Chan := { c with axis := c.axis.map (deepA m) }
def deepF (c : Chan) (m : Int) (i : Nat) : Nat → Nat → DV := fun k => apD (if k < i then deepA m (c.axis.getD k default) else c.axis.getD k default)
theorem rDeepen (c : Chan) (m : Int) (hn : c.axis.length ≤ 1000) : CallP Try.prog 24 [chan c, vI m] (chan (deepC c m)) := by
  refine callP_of_ex (rc := []) (N := 29) Try.func24 rfl rfl Try.call24 tab_ok mix rfl rfl (fun cx href => ?_)
  refine ob (show (0 + c.axis.length) * 40 ≤ _ by omega) ?_
  refine ob (fun k j hk hj => by
    have hj : j < 5 := hj
    match j, hj with
    | 0, _ => rfl
    | 1, _ => rfl
    | 2, _ => rfl
    | 3, _ => rfl
    | 4, _ => rfl) ?_
  refine AW.loopI (fun i : Nat => ⟨[(1, vI m), (2, .s (.ptr 2 0)), (4, .s (.ptr 4 0)), (5, vI i)],
      [(2, some (.cells [.d (dS c.name), .own 9, .d (dI c.over), .d (dI c.buffer), .d (dRegs c.regions)])), (4, some (.cells (zvs ty25.zero))), (9, some (.row 58 c.axis.length 5 (deepF c m i)))]⟩)
    (fun i => i ≤ c.axis.length) (fun i => c.axis.length - i) 0 (Nat.zero_le _) ?_ ?_
  · exact SubI.of0 href [] rfl ⟨⟨rfl, LeBx.rfl⟩, ⟨rfl, LeBx.rfl⟩, ⟨rfl, LeBx.row (Nat.zero_add _) fun k j _ _ => LeD.refl _⟩, trivial⟩ ⟨⟨rfl, LeQ.rfl⟩, ⟨rfl, LeQ.rfl⟩, ⟨rfl, LeQ.rfl⟩, ⟨rfl, LeQ.rfl⟩, trivial⟩
  · intro i hi
    refine ex.sound (rc := []) tab_ok mix href _ ?_
    refine And.intro (fun h => ?_) (fun h => ?_)
    · have h : (i : Int) < c.axis.length := decT h
      have hi' : i < c.axis.length := by omega
      refine oi ⟨by omega, by omega⟩ ?_
      refine ob hi' ?_
      refine oi ⟨by omega, by omega⟩ ?_
      refine ob hi' ?_
      refine ⟨i + 1, by omega, by omega, ?_⟩
      refine SubI.of0 href [] rfl ⟨⟨rfl, LeBx.rfl⟩, ⟨rfl, LeBx.rfl⟩, ⟨rfl, LeBx.row rfl fun k j hk hj => LeD.of_eq ?_⟩, trivial⟩ ⟨⟨rfl, LeQ.rfl⟩, ⟨rfl, LeQ.rfl⟩, ⟨rfl, LeQ.rfl⟩, ⟨rfl, LeQ.int (w64_of (by omega) (by omega))⟩, trivial⟩
      have hj : j < 5 := hj
      by_cases hki : k = i
      · subst hki
        show (if k = k then _ else _) = _
        rw [if_pos rfl]
        unfold deepF
        rw [if_pos (Nat.lt_succ_self k)]
        match j, hj with
        | 0, _ => show apD (if k < k then _ else _) 0 = _; rw [if_neg (Nat.lt_irrefl k)]; rfl
        | 1, _ => show apD (if k < k then _ else _) 1 = _; rw [if_neg (Nat.lt_irrefl k)]; rfl
        | 2, _ => show apD (if k < k then _ else _) 2 = _; rw [if_neg (Nat.lt_irrefl k)]; rfl
        | 3, _ => show dI (w64 ((if k < k then _ else _ : Ap).level - m)) = _; rw [if_neg (Nat.lt_irrefl k)]; rfl
        | 4, _ => show apD (if k < k then _ else _) 4 = _; rw [if_neg (Nat.lt_irrefl k)]; rfl
      · show (if k = i then _ else _) = _
        rw [if_neg hki]
        unfold deepF
        by_cases hlt : k < i
        · rw [if_pos hlt, if_pos (by omega)]
        · rw [if_neg hlt, if_neg (by omega)]
    · have h : ¬ (i : Int) < c.axis.length := decF h
      obtain rfl : i = c.axis.length := by omega
      refine SubR.le ⟨LeD.refl _, LeD.slc' (by simp [deepC]) fun k j hk hj => LeD.of_eq ?_, LeD.refl _, LeD.refl _, LeD.refl _, trivial⟩
      unfold deepF apEl
      rw [if_pos hk]
      congr 1
      simp [deepC, hk]
def boxA (m : Int) (a : Ap) : Ap := { a with half := w64 (a.half + m), run := 0 }
def boxC (c : Chan) (m : Int) : Chan := { c with axis := c.axis.map (boxA m) }
def boxF (c : Chan) (m : Int) (i : Nat) : Nat → Nat → DV := fun k => apD (if k < i then boxA m (c.axis.getD k default) else c.axis.getD k default)
theorem rBox (c : Chan) (m : Int) (hn : c.axis.length ≤ 1000) : CallP Try.prog 23 [chan c, vI m] (chan (boxC c m)) := by
  refine callP_of_ex (rc := []) (N := 34) Try.func23 rfl rfl Try.call23 tab_ok mix rfl rfl (fun cx href => ?_)
  refine ob (show (0 + c.axis.length) * 40 ≤ _ by omega) ?_
  refine ob (fun k j hk hj => by
    have hj : j < 5 := hj
    match j, hj with
    | 0, _ => rfl
    | 1, _ => rfl
    | 2, _ => rfl
    | 3, _ => rfl
    | 4, _ => rfl) ?_
  refine AW.loopI (fun i : Nat => ⟨[(1, vI m), (2, .s (.ptr 2 0)), (4, .s (.ptr 4 0)), (5, vI i)],
      [(2, some (.cells [.d (dS c.name), .own 9, .d (dI c.over), .d (dI c.buffer), .d (dRegs c.regions)])), (4, some (.cells (zvs ty25.zero))), (9, some (.row 58 c.axis.length 5 (boxF c m i)))]⟩)
    (fun i => i ≤ c.axis.length) (fun i => c.axis.length - i) 0 (Nat.zero_le _) ?_ ?_
  · exact SubI.of0 href [] rfl ⟨⟨rfl, LeBx.rfl⟩, ⟨rfl, LeBx.rfl⟩, ⟨rfl, LeBx.row (Nat.zero_add _) fun k j _ _ => LeD.refl _⟩, trivial⟩ ⟨⟨rfl, LeQ.rfl⟩, ⟨rfl, LeQ.rfl⟩, ⟨rfl, LeQ.rfl⟩, ⟨rfl, LeQ.rfl⟩, trivial⟩
  · intro i hi
    refine ex.sound (rc := []) tab_ok mix href _ ?_
    refine And.intro (fun h => ?_) (fun h => ?_)
    · have h : (i : Int) < c.axis.length := decT h
      have hi' : i < c.axis.length := by omega
      refine oi ⟨by omega, by omega⟩ ?_
      refine ob hi' ?_
      refine oi ⟨by omega, by omega⟩ ?_
      refine ob hi' ?_
      refine oi ⟨by omega, by omega⟩ ?_
      refine ob hi' ?_
      refine ⟨i + 1, by omega, by omega, ?_⟩
      refine SubI.of0 href [] rfl ⟨⟨rfl, LeBx.rfl⟩, ⟨rfl, LeBx.rfl⟩, ⟨rfl, LeBx.row rfl fun k j hk hj => LeD.of_eq ?_⟩, trivial⟩ ⟨⟨rfl, LeQ.rfl⟩, ⟨rfl, LeQ.rfl⟩, ⟨rfl, LeQ.rfl⟩, ⟨rfl, LeQ.int (w64_of (by omega) (by omega))⟩, trivial⟩
      have hj : j < 5 := hj
      by_cases hki : k = i
      · subst hki
        unfold boxF
        rw [if_pos (Nat.lt_succ_self k)]
        match j, hj with
        | 0, _ => simp [rowSet, apD, boxA]; rfl
        | 1, _ => simp [rowSet, apD, boxA]; rfl
        | 2, _ => simp [rowSet, apD, boxA]; rfl
        | 3, _ => simp [rowSet, apD, boxA]; rfl
        | 4, _ => simp [rowSet, apD, boxA]; rfl
      · refine (show (if k = i then _ else _) = _ from if_neg hki).trans ((show (if k = i then _ else _) = _ from if_neg hki).trans ?_)
        unfold boxF
        by_cases hlt : k < i
        · rw [if_pos hlt, if_pos (by omega)]
        · rw [if_neg hlt, if_neg (by omega)]
    · have h : ¬ (i : Int) < c.axis.length := decF h
      obtain rfl : i = c.axis.length := by omega
      refine SubR.le ⟨LeD.refl _, LeD.slc' (by simp [boxC]) fun k j hk hj => LeD.of_eq ?_, LeD.refl _, LeD.refl _, LeD.refl _, trivial⟩
      unfold boxF apEl
      rw [if_pos hk]
      congr 1
      simp [boxC, hk]
end Go.Ch

namespace Go.Ch
open Go Go.Ax Go.Proofs Go.Proofs.Try
set_option maxRecDepth 100000
set_option pp.maxSteps 400
set_option maxHeartbeats 1000000

theorem rPointsEq (a : List Pt) (ha : a.length ≤ 1000000) : CallP Try.prog 53 [pts a, pts a] (vB true) := by
  refine callP_of_ex (rc := []) (N := 26) Try.func53 rfl rfl Try.call53 tab_ok mix rfl rfl (fun cx href => ?_)
  refine And.intro (fun h => ?_) (fun _ => ?_)
  · exfalso
    have h : ((a.length : Int) != (a.length : Int)) = true := h
    simp at h
  refine AW.loopI (fun i : Nat => ⟨[(0, pts a), (1, pts a), (5, vI i)], []⟩) (fun i => i ≤ a.length) (fun i => a.length - i) 0 (Nat.zero_le _) ?_ ?_
  · exact SubI.of0 href [] rfl trivial ⟨⟨rfl, LeQ.rfl⟩, ⟨rfl, LeQ.rfl⟩, ⟨rfl, LeQ.rfl⟩, trivial⟩
  · intro i hi
    refine ex.sound (rc := []) tab_ok mix href _ ?_
    refine And.intro (fun h => ?_) (fun h => ?_)
    · have h : decide ((i : Int) < a.length) = true := h
      have h := of_decide_eq_true h
      refine oi ⟨by omega, by omega⟩ ?_
      refine oi ⟨by omega, by omega⟩ ?_
      refine And.intro (by kernel_rfl) ?_
      refine And.intro (fun h2 => ?_) (fun _ => ?_)
      · exfalso
        have h2 : (!samePt (a.getD i default) (a.getD i default)) = true := h2
        rw [samePt_iff.2 rfl] at h2
        cases h2
      · refine ⟨i + 1, by omega, by omega, ?_⟩
        exact SubI.of0 href [] rfl trivial ⟨⟨rfl, LeQ.rfl⟩, ⟨rfl, LeQ.rfl⟩, ⟨rfl, LeQ.int (w64_of (by omega) (by omega))⟩, trivial⟩
    · exact SubR.lit rfl
end Go.Ch

namespace Go.Ch
open Go Go.Ax Go.Proofs Go.Proofs.Try
set_option maxRecDepth 100000
set_option pp.maxSteps 400
set_option maxHeartbeats 1000000

def sameAp (a b : Ap) : Bool := a.x == b.x && (a.y == b.y && (a.half == b.half && (a.level == b.level && (a.run == b.run && true))))
theorem rSameEq (c : Chan) (h1 : c.axis.length ≤ 1000000) (h2 : c.regions.length ≤ 1000000) (h3 : ∀ i, i < c.regions.length → (c.regions.getD i default).corners.length ≤ 1000000) : CallP Try.prog 21 [chan c, chan c] (vB true) := by
  refine callP_of_ex (rc := []) (N := 113) Try.func21 rfl rfl Try.call21 tab_ok mix rfl rfl (fun cx href => ?_)
  repeat first | refine sk ?_ | refine st ?_ | refine sg ?_ | refine sh ?_ | refine su ?_ | refine sn1 ?_ | refine sn0 ?_
  refine And.intro (fun h => ?_) (fun _ => ?_)
  · exfalso
    have h : ((((!(c.name.toList == c.name.toList)) || c.over != c.over) || c.buffer != c.buffer) || ((c.axis.length : Int) != (c.axis.length : Int)) || ((c.regions.length : Int) != (c.regions.length : Int))) = true := h
    simp at h
  refine AW.loopI (fun i : Nat => ⟨[(2, .s (.ptr 2 0)), (3, .s (.ptr 3 0)), (5, vI i)], [(2, some (chanB c)), (3, some (chanB c))]⟩) (fun i => i ≤ c.axis.length) (fun i => c.axis.length - i) 0 (Nat.zero_le _) ?_ ?_
  · exact SubI.of0 href [] rfl ⟨⟨rfl, LeBx.rfl⟩, ⟨rfl, LeBx.rfl⟩, trivial⟩ ⟨⟨rfl, LeQ.rfl⟩, ⟨rfl, LeQ.rfl⟩, ⟨rfl, LeQ.rfl⟩, trivial⟩
  · intro i hi
    refine ex.sound (rc := []) tab_ok mix href _ ?_
    refine And.intro (fun h => ?_) (fun h => ?_)
    · have h : (i : Int) < c.axis.length := decT h
      refine oi ⟨by omega, by omega⟩ ?_
      refine oi ⟨by omega, by omega⟩ ?_
      refine And.intro (by kernel_rfl) ?_
      refine And.intro (fun h' => ?_) (fun _ => ?_)
      · exfalso
        have h' : (!sameAp (c.axis.getD i default) (c.axis.getD i default)) = true := h'
        unfold sameAp at h'
        simp at h'
      · refine ⟨i + 1, by omega, by omega, ?_⟩
        exact SubI.of0 href [] rfl ⟨⟨rfl, LeBx.rfl⟩, ⟨rfl, LeBx.rfl⟩, trivial⟩ ⟨⟨rfl, LeQ.rfl⟩, ⟨rfl, LeQ.rfl⟩, ⟨rfl, LeQ.int (w64_of (by omega) (by omega))⟩, trivial⟩
    · refine AW.loopI (fun i : Nat => ⟨[(2, .s (.ptr 2 0)), (3, .s (.ptr 3 0)), (6, vI i)], [(2, some (chanB c)), (3, some (chanB c))]⟩) (fun i => i ≤ c.regions.length) (fun i => c.regions.length - i) 0 (Nat.zero_le _) ?_ ?_
      · exact SubI.of0 href [] rfl ⟨⟨rfl, LeBx.rfl⟩, ⟨rfl, LeBx.rfl⟩, trivial⟩ ⟨⟨rfl, LeQ.rfl⟩, ⟨rfl, LeQ.rfl⟩, ⟨rfl, LeQ.rfl⟩, trivial⟩
      · intro i hi
        refine ex.sound (rc := []) tab_ok mix href _ ?_
        refine And.intro (fun h => ?_) (fun h => ?_)
        · have h : (i : Int) < c.regions.length := decT h
          have hi' : i < c.regions.length := by omega
          refine oi ⟨by omega, by omega⟩ ?_
          refine oi ⟨by omega, by omega⟩ ?_
          repeat first | refine sk ?_ | refine st ?_ | refine sg ?_ | refine sh ?_ | refine su ?_ | refine sn1 ?_ | refine sn0 ?_
          refine og (fun _ => ⟨by omega, by omega⟩) ?_
          repeat first | refine sk ?_ | refine st ?_ | refine sg ?_ | refine sh ?_ | refine su ?_ | refine sn1 ?_ | refine sn0 ?_
          refine og (fun _ => ⟨by omega, by omega⟩) ?_
          repeat first | refine sk ?_ | refine st ?_ | refine sg ?_ | refine sh ?_ | refine su ?_ | refine sn1 ?_ | refine sn0 ?_
          refine og (fun _ => ⟨by omega, by omega⟩) ?_
          repeat first | refine sk ?_ | refine st ?_ | refine sg ?_ | refine sh ?_ | refine su ?_ | refine sn1 ?_ | refine sn0 ?_
          refine og (fun _ => ⟨by omega, by omega⟩) ?_
          repeat first | refine sk ?_ | refine st ?_ | refine sg ?_ | refine sh ?_ | refine su ?_ | refine sn1 ?_ | refine sn0 ?_
          refine callG (rPointsEq (c.regions.getD i default).corners (h3 i hi')) ?_
          repeat first | refine sk ?_ | refine st ?_ | refine sg ?_ | refine sh ?_ | refine su ?_ | refine sn1 ?_ | refine sn0 ?_
          refine And.intro (by kernel_rfl) ?_
          refine And.intro (fun h' => ?_) (fun _ => ?_)
          · exfalso
            have h' : (((!((c.regions.getD i default).name.toList == (c.regions.getD i default).name.toList)) || (c.regions.getD i default).kind != (c.regions.getD i default).kind) || !true) = true := h'
            simp at h'
          · refine ⟨i + 1, by omega, by omega, ?_⟩
            exact SubI.of0 href [] rfl ⟨⟨rfl, LeBx.rfl⟩, ⟨rfl, LeBx.rfl⟩, trivial⟩ ⟨⟨rfl, LeQ.rfl⟩, ⟨rfl, LeQ.rfl⟩, ⟨rfl, LeQ.int (w64_of (by omega) (by omega))⟩, trivial⟩
        · exact SubR.lit rfl
end Go.Ch

namespace Go.Ch
open Go Go.Ax Go.Proofs Go.Proofs.Try
set_option maxRecDepth 100000
set_option pp.maxSteps 400
set_option maxHeartbeats 1000000

theorem CloneAx (l : List Ap) (h0 : 0 < l.length) (hl : l.length ≤ 1000) : CallR Try.prog 87 [vAps l] [] (.s (.own 7)) [(7, .row 58 l.length 5 (apEl l))] := by
  refine callO_of_ex (rc := []) (N := 8) Try.func87 rfl rfl Try.call87 tab_ok mix rfl rfl rfl rfl (fun cx _ => ?_)
  intro b hb
  refine And.intro (fun h => ?_) (fun _ => ?_)
  · exact absurd (hb h) (by omega)
  refine ob (show (0 + l.length) * 40 ≤ _ by omega) ?_
  refine ob (fun k j hk hj => by
    have hj : j < 5 := hj
    match j, hj with
    | 0, _ => rfl
    | 1, _ => rfl
    | 2, _ => rfl
    | 3, _ => rfl
    | 4, _ => rfl) ?_
  refine ⟨LeQ.rfl, ?_, trivial⟩
  show some (some (Box.row 58 (0 + l.length) 5 (catF 0 _ (apEl l)))) = _
  rw [Nat.zero_add, catF0]
theorem CloneRegs (l : List Reg) (h0 : 0 < l.length) (hl : l.length ≤ 1000) : CallR Try.prog 88 [vRegs l] [] (.s (.own 7)) [(7, .row 61 l.length 3 (regEl l))] := by
  refine callO_of_ex (rc := []) (N := 8) Try.func88 rfl rfl Try.call88 tab_ok mix rfl rfl rfl rfl (fun cx _ => ?_)
  intro b hb
  refine And.intro (fun h => ?_) (fun _ => ?_)
  · exact absurd (hb h) (by omega)
  refine ob (show (0 + l.length) * 48 ≤ _ by omega) ?_
  refine ob (fun k j hk hj => by
    have hj : j < 3 := hj
    match j, hj with
    | 0, _ => rfl
    | 1, _ => rfl
    | 2, _ => rfl) ?_
  refine ⟨LeQ.rfl, ?_, trivial⟩
  show some (some (Box.row 61 (0 + l.length) 3 (catF 0 _ (regEl l)))) = _
  rw [Nat.zero_add, catF0]
theorem CloneRegs0 : CallP Try.prog 88 [vRegs []] (vRegs []) := by
  refine callP_of_ex (rc := []) (N := 8) Try.func88 rfl rfl Try.call88 tab_ok mix rfl rfl (fun cx _ => ?_)
  intro b hb
  refine And.intro (fun h => ?_) (fun _ => ?_)
  · exact SubR.le LeD.nil
  refine ob (by decide) ?_
  refine ob (fun k j hk hj => absurd hk (Nat.not_lt_zero k)) ?_
  exact SubR.le LeD.empty
theorem ClonePts (l : List Pt) (hl : l.length ≤ 1000000) : CallP Try.prog 89 [pts l] (pts l) := by
  refine callP_of_ex (rc := []) (N := 8) Try.func89 rfl rfl Try.call89 tab_ok mix rfl rfl (fun cx _ => ?_)
  intro b hb
  refine And.intro (fun h => ?_) (fun _ => ?_)
  · have h0 : l = [] := List.length_eq_zero_iff.1 (hb h)
    subst h0
    exact SubR.le LeD.nil
  refine ob (show (0 + l.length) * 16 ≤ _ by omega) ?_
  refine ob (fun k j hk hj => by
    have hj : j < 2 := hj
    match j, hj with
    | 0, _ => rfl
    | 1, _ => rfl) ?_
  exact SubR.le (RowIs.slc el_sub)

theorem copiedO (c : Chan) (h0 : 0 < c.axis.length) (h1 : c.axis.length ≤ 1000) (hr : c.regions.length ≤ 1000) (hc : ∀ i, i < c.regions.length → (c.regions.getD i default).corners.length ≤ 1000000) :
    CallR Try.prog 70 [chan c] [] (.g [.d (dS c.name), .own 501, .d (dI c.over), .d (dI c.buffer), .d (dRegs c.regions)]) [(501, .row 58 c.axis.length 5 (apEl c.axis))] := by
  by_cases hz : c.regions = []
  · obtain ⟨nm, ax, ov, bu, rg⟩ := c
    simp only at hz h0 h1
    subst hz
    refine callO_of_ex (rc := [87]) (N := 32) Try.func70 rfl rfl Try.call70 tab_ok mix rfl rfl rfl rfl (fun cx href => ?_)
    refine ⟨[(7, 501)], _, _, _, _, CloneAx ax h0 h1, rfl, trivial, rfl, ?_⟩
    refine callN CloneRegs0 ?_
    refine AW.loopI (fun _ : Unit => ⟨[(1, .s (.ptr 1 0)), (2, .s (.ptr 2 0)), (14, vI 0), (15, vI 0)],
        [(1, some (.cells [.d (dS nm), .own 501, .d (dI ov), .d (dI bu), .d (dRegs [])])), (2, some (.cells (zvs ty25.zero))), (501, some (.row 58 ax.length 5 (apEl ax)))]⟩)
      (fun _ => True) (fun _ => 0) () trivial ?_ ?_
    · exact SubI.of0 href [] rfl ⟨⟨rfl, LeBx.rfl⟩, ⟨rfl, LeBx.rfl⟩, ⟨rfl, LeBx.rfl⟩, trivial⟩ ⟨⟨rfl, LeQ.rfl⟩, ⟨rfl, LeQ.rfl⟩, ⟨rfl, LeQ.rfl⟩, ⟨rfl, LeQ.rfl⟩, trivial⟩
    · intro _ _
      refine ex.sound (rc := [87]) tab_ok mix href _ ?_
      refine And.intro (fun h => ?_) (fun _ => ?_)
      · exact absurd (decT h) (by decide)
      · exact ⟨LeQ.rfl, rfl, trivial⟩
  · have hp : 0 < c.regions.length := List.length_pos_iff.2 hz
    refine callO_of_ex (rc := [87, 88]) (N := 32) Try.func70 rfl rfl Try.call70 tab_ok mix rfl rfl rfl rfl (fun cx href => ?_)
    refine ⟨[(7, 501)], _, _, _, _, CloneAx c.axis h0 h1, rfl, trivial, rfl, ?_⟩
    refine ⟨[(7, 502)], _, _, _, _, CloneRegs c.regions hp hr, rfl, trivial, rfl, ?_⟩
    refine AW.loopI (fun i : Nat => ⟨[(1, .s (.ptr 1 0)), (2, .s (.ptr 2 0)), (14, vI c.regions.length), (15, vI i)],
        [(1, some (.cells [.d (dS c.name), .own 501, .d (dI c.over), .d (dI c.buffer), .own 502])), (2, some (.cells (zvs ty25.zero))), (501, some (.row 58 c.axis.length 5 (apEl c.axis))), (502, some (.row 61 c.regions.length 3 (regEl c.regions)))]⟩)
      (fun i => i ≤ c.regions.length) (fun i => c.regions.length - i) 0 (Nat.zero_le _) ?_ ?_
    · exact SubI.of0 href [] rfl ⟨⟨rfl, LeBx.rfl⟩, ⟨rfl, LeBx.rfl⟩, ⟨rfl, LeBx.rfl⟩, ⟨rfl, LeBx.rfl⟩, trivial⟩ ⟨⟨rfl, LeQ.rfl⟩, ⟨rfl, LeQ.rfl⟩, ⟨rfl, LeQ.rfl⟩, ⟨rfl, LeQ.rfl⟩, trivial⟩
    · intro i hi
      refine ex.sound (rc := [87, 88]) tab_ok mix href _ ?_
      refine And.intro (fun h => ?_) (fun h => ?_)
      · have h : (i : Int) < c.regions.length := decT h
        have hi' : i < c.regions.length := by omega
        refine oi ⟨by omega, by omega⟩ ?_
        refine ob hi' ?_
        refine callN (ClonePts _ (hc i hi')) ?_
        refine oi ⟨by omega, by omega⟩ ?_
        refine ob hi' ?_
        refine And.intro (by kernel_rfl) ?_
        refine ⟨i + 1, by omega, by omega, ?_⟩
        refine SubI.of0 href [] rfl ⟨⟨rfl, LeBx.rfl⟩, ⟨rfl, LeBx.rfl⟩, ⟨rfl, LeBx.rfl⟩, ⟨rfl, LeBx.row rfl fun k j hk hj => LeD.of_eq ?_⟩, trivial⟩ ⟨⟨rfl, LeQ.rfl⟩, ⟨rfl, LeQ.rfl⟩, ⟨rfl, LeQ.rfl⟩, ⟨rfl, LeQ.int (w64_of (by omega) (by omega))⟩, trivial⟩
        have hj : j < 3 := hj
        by_cases hki : k = i
        · subst hki
          match j, hj with
          | 0, _ => simp [rowSet]; rfl
          | 1, _ => simp [rowSet]; rfl
          | 2, _ => simp [rowSet, dOf]; rfl
        · exact if_neg hki
      · have h : ¬ (i : Int) < c.regions.length := decF h
        exact ⟨LeQ.rfl, rfl, trivial⟩
end Go.Ch
