/- Part Ch7: lemmas that the proofs of this seat share; by itself it claims nothing. -/
import Derived.Test.YtlnfjlaiclgjjaaCh6
namespace Go.Ch
open Go Go.Ax Go.Proofs Go.Proofs.Try
set_option maxRecDepth 100000
set_option pp.maxSteps 400
set_option maxHeartbeats 1000000

abbrev rCE (c : Chan) (e : Int) : AV := .t [.g [.d (dS c.name), .d (dAps c.axis), .d (dI c.over), .d (dI c.buffer), .d (dRegs c.regions)], .s (.d (dI e))]
def zeroC : Chan := ⟨⟨#[]⟩, [], 0, 0, []⟩
theorem zero_rCE {e e' : Int} (h : e = e') : SubR (.t [.g (zvs ty25.zero), .s (.d (dI e))]) (rCE zeroC e') := by
  subst h
  exact SubR.t ⟨⟨LeD.refl _, LeD.nil, LeD.refl _, LeD.refl _, LeD.nil, trivial⟩, LeD.refl _, trivial⟩

theorem box1 (c : Chan) (m : Int) (i : Nat) (hi : i < c.axis.length) :
    CallR Try.prog 51 [.s (.rw 1002 i 5 0), .s (.ptr 1001 0)] [(1001, .cells [.d (dI m)]), (1002, .row 58 c.axis.length 5 (boxF c m i))] (.t [])
      [(1001, .cells [.d (dI m)]), (1002, .row 58 c.axis.length 5 (rowSet (rowSet (boxF c m i) i 4 [.d (dI 0)]) i 2 [.d (dI (w64 ((if i < i then boxA m (c.axis.getD i default) else c.axis.getD i default).half + m)))]))] := by
  refine callR_of_ex (rc := []) (N := 15) Try.func51 rfl rfl Try.call51 tab_ok mix rfl rfl rfl rfl (fun cx href => ?_)
  refine oi hi ?_
  refine ob hi ?_
  refine ob hi ?_
  refine And.intro (by kernel_rfl) ?_
  exact ⟨SubR.refl _, rfl, rfl, trivial⟩
theorem deep1 (c : Chan) (m : Int) (i : Nat) (hi : i < c.axis.length) :
    CallR Try.prog 52 [.s (.rw 1002 i 5 0), .s (.ptr 1001 0)] [(1001, .cells [.d (dI m)]), (1002, .row 58 c.axis.length 5 (deepF c m i))] (.t [])
      [(1001, .cells [.d (dI m)]), (1002, .row 58 c.axis.length 5 (rowSet (deepF c m i) i 3 [.d (dI (w64 ((if i < i then deepA m (c.axis.getD i default) else c.axis.getD i default).level - m)))]))] := by
  refine callR_of_ex (rc := []) (N := 11) Try.func52 rfl rfl Try.call52 tab_ok mix rfl rfl rfl rfl (fun cx href => ?_)
  refine oi hi ?_
  refine ob hi ?_
  refine And.intro (by kernel_rfl) ?_
  exact ⟨SubR.refl _, rfl, rfl, trivial⟩

theorem w64_ok (n : Int) : i64ok (w64 n) := by
  have h1 : IntKind.i64.min = -9223372036854775808 := by decide
  have h2 : IntKind.i64.max = 9223372036854775807 := by decide
  unfold i64ok w64
  simp only [Lit.wf, h1, h2, Bool.and_eq_true, decide_eq_true_eq]
  rw [IntKind.wrap_i64]
  omega
theorem boxC_ok {c : Chan} (h : c.ok) (m : Int) : (boxC c m).ok := by
  refine ⟨h.name, by simp only [boxC, List.length_map]; exact h.axis, fun a ha => ?_, h.over, h.buffer, h.regions, h.regs⟩
  simp only [boxC, List.mem_map] at ha
  obtain ⟨b, hb, rfl⟩ := ha
  have := h.aps b hb
  exact ⟨this.1, this.2.1, w64_ok _, this.2.2.2.1, show i64ok 0 by decide⟩
theorem deepC_ok {c : Chan} (h : c.ok) (m : Int) : (deepC c m).ok := by
  refine ⟨h.name, by simp only [deepC, List.length_map]; exact h.axis, fun a ha => ?_, h.over, h.buffer, h.regions, h.regs⟩
  simp only [deepC, List.mem_map] at ha
  obtain ⟨b, hb, rfl⟩ := ha
  have := h.aps b hb
  exact ⟨this.1, this.2.1, this.2.2.1, w64_ok _, this.2.2.2.2⟩
theorem boxF_all {c : Chan} {m : Int} {k j : Nat} (hk : k < c.axis.length) : boxF c m c.axis.length k j = apEl (boxC c m).axis k j := by
  unfold boxF apEl
  rw [if_pos hk]
  congr 1
  simp [boxC, hk]
theorem deepF_all {c : Chan} {m : Int} {k j : Nat} (hk : k < c.axis.length) : deepF c m c.axis.length k j = apEl (deepC c m).axis k j := by
  unfold deepF apEl
  rw [if_pos hk]
  congr 1
  simp [deepC, hk]
/-- The changed channel, or the error. -/
def chgR (d : Chan) : Chan × Int := bif errC d != 0 then (zeroC, errC d) else (d, 0)
theorem box_step {c : Chan} {m : Int} {i k j : Nat} (hi : i < c.axis.length) (_ : k < c.axis.length) (hj : j < 5) :
    rowSet (rowSet (boxF c m i) i 4 [.d (dI 0)]) i 2 [.d (dI (w64 ((if i < i then boxA m (c.axis.getD i default) else c.axis.getD i default).half + m)))] k j = boxF c m (i + 1) k j := by
  by_cases hki : k = i
  · subst hki
    unfold boxF
    rw [if_pos (Nat.lt_succ_self k)]
    match j, hj with
    | 0, _ => simp [rowSet, apD, boxA]; rfl
    | 1, _ => simp [rowSet, apD, boxA]; rfl
    | 2, _ => simp [rowSet, apD, boxA]; rfl
    | 3, _ => simp [rowSet, apD, boxA]; rfl
    | 4, _ => simp [rowSet, apD, boxA]; rfl
  · refine (show (if k = i then _ else _) = _ from if_neg hki).trans ((show (if k = i then _ else _) = _ from if_neg hki).trans ?_)
    unfold boxF
    by_cases hlt : k < i
    · rw [if_pos hlt, if_pos (by omega)]
    · rw [if_neg hlt, if_neg (by omega)]
theorem deep_step {c : Chan} {m : Int} {i k j : Nat} (hi : i < c.axis.length) (_ : k < c.axis.length) (hj : j < 5) :
    rowSet (deepF c m i) i 3 [.d (dI (w64 ((if i < i then deepA m (c.axis.getD i default) else c.axis.getD i default).level - m)))] k j = deepF c m (i + 1) k j := by
  by_cases hki : k = i
  · subst hki
    unfold deepF
    rw [if_pos (Nat.lt_succ_self k)]
    match j, hj with
    | 0, _ => simp [rowSet, apD, deepA]; rfl
    | 1, _ => simp [rowSet, apD, deepA]; rfl
    | 2, _ => simp [rowSet, apD, deepA]; rfl
    | 3, _ => simp [rowSet, apD, deepA]; rfl
    | 4, _ => simp [rowSet, apD, deepA]; rfl
  · refine (show (if k = i then _ else _) = _ from if_neg hki).trans ?_
    unfold deepF
    by_cases hlt : k < i
    · rw [if_pos hlt, if_pos (by omega)]
    · rw [if_neg hlt, if_neg (by omega)]

theorem changedBox (c : Chan) (m : Int) (hc : c.ok) (hv : Val c) (hr : c.regions.length ≤ 1000) (hcr : ∀ i, i < c.regions.length → (c.regions.getD i default).corners.length ≤ 1000000) :
    CallR Try.prog 50 [chan c, .s (.clo 51 [.ptr 1001 0])] [(1001, .cells [.d (dI m)])] (rCE (chgR (boxC c m)).1 (chgR (boxC c m)).2) [(1001, .cells [.d (dI m)])] := by
  have n2 := hv.n2
  have n20 := hv.n20
  refine callR_of_ex (rc := [51, 70]) (N := 31) Try.func50 rfl rfl Try.call50 tab_ok mix rfl rfl rfl rfl (fun cx href => ?_)
  refine ⟨[(501, 601)], _, _, _, _, copiedO c (by omega) (by omega) hr hcr, rfl, trivial, rfl, ?_⟩
  refine AW.loopI (fun i : Nat => ⟨[(1, .s (.clo 51 [.ptr 1001 0])), (2, .s (.ptr 2 0)), (4, .s (.ptr 4 0)), (5, vI 0), (6, .s (.ptr 6 0)), (13, vI c.axis.length), (14, vI i)],
      [(2, some (chanB c)), (4, some (.cells (zvs ty25.zero))), (6, some (.cells [.d (dS c.name), .own 601, .d (dI c.over), .d (dI c.buffer), .d (dRegs c.regions)])), (601, some (.row 58 c.axis.length 5 (boxF c m i))), (1001, some (.cells [.d (dI m)]))]⟩)
    (fun i => i ≤ c.axis.length) (fun i => c.axis.length - i) 0 (Nat.zero_le _) ?_ ?_
  · exact SubI.of [] (by rw [href]; rfl) rfl ⟨⟨rfl, LeBx.rfl⟩, ⟨rfl, LeBx.rfl⟩, ⟨rfl, LeBx.rfl⟩, ⟨rfl, LeBx.row rfl fun k j _ _ => LeD.refl _⟩, ⟨rfl, LeBx.rfl⟩, trivial⟩ ⟨⟨rfl, LeQ.rfl⟩, ⟨rfl, LeQ.rfl⟩, ⟨rfl, LeQ.rfl⟩, ⟨rfl, LeQ.rfl⟩, ⟨rfl, LeQ.rfl⟩, ⟨rfl, LeQ.rfl⟩, ⟨rfl, LeQ.rfl⟩, trivial⟩
  · intro i hi
    refine ex.sound (rc := [51, 70]) tab_ok mix href _ ?_
    refine And.intro (fun h1 => ?_) (fun h1 => ?_)
    · have h1 : (i : Int) < c.axis.length := decT h1
      have hi' : i < c.axis.length := by omega
      refine oi ⟨by omega, by omega⟩ ?_
      refine ⟨[(1002, 601)], _, _, _, _, box1 c m i hi', rfl, ⟨rfl, rfl, trivial⟩, rfl, ?_⟩
      refine ⟨i + 1, by omega, by omega, ?_⟩
      exact SubI.of [] (by rw [href]; rfl) rfl ⟨⟨rfl, LeBx.rfl⟩, ⟨rfl, LeBx.rfl⟩, ⟨rfl, LeBx.rfl⟩, ⟨rfl, LeBx.row rfl fun k j hk hj => LeD.of_eq (box_step hi' hk hj)⟩, ⟨rfl, LeBx.rfl⟩, trivial⟩ ⟨⟨rfl, LeQ.rfl⟩, ⟨rfl, LeQ.rfl⟩, ⟨rfl, LeQ.rfl⟩, ⟨rfl, LeQ.rfl⟩, ⟨rfl, LeQ.rfl⟩, ⟨rfl, LeQ.rfl⟩, ⟨rfl, LeQ.int (w64_of (by omega) (by omega))⟩, trivial⟩
    · have h1 : ¬ (i : Int) < c.axis.length := decF h1
      obtain rfl : i = c.axis.length := by omega
      have hle : LeD (.slc c.axis.length 5 (boxF c m c.axis.length)) (dAps (boxC c m).axis) := LeD.slc' (by simp [boxC]) fun k j hk hj => LeD.of_eq (boxF_all hk)
      refine callN ((gCheck (boxC c m) (boxC_ok hc m)).conv (args' := _) ⟨⟨LeD.refl _, hle, LeD.refl _, LeD.refl _, LeD.refl _, trivial⟩, trivial⟩) ?_
      refine And.intro (fun h2 => ?_) (fun h2 => ?_)
      · have h2 : (errC (boxC c m) != 0) = true := h2
        refine ⟨?_, rfl, trivial⟩
        have e : chgR (boxC c m) = (zeroC, errC (boxC c m)) := by unfold chgR; rw [h2]; rfl
        rw [e]
        exact zero_rCE rfl
      · have h2 : (errC (boxC c m) != 0) = false := h2
        refine ⟨?_, rfl, trivial⟩
        have e : chgR (boxC c m) = (boxC c m, 0) := by unfold chgR; rw [h2]; rfl
        rw [e]
        exact SubR.t ⟨⟨LeD.refl _, hle, LeD.refl _, LeD.refl _, LeD.refl _, trivial⟩, LeD.refl _, trivial⟩
theorem changedDeep (c : Chan) (m : Int) (hc : c.ok) (hv : Val c) (hr : c.regions.length ≤ 1000) (hcr : ∀ i, i < c.regions.length → (c.regions.getD i default).corners.length ≤ 1000000) :
    CallR Try.prog 50 [chan c, .s (.clo 52 [.ptr 1001 0])] [(1001, .cells [.d (dI m)])] (rCE (chgR (deepC c m)).1 (chgR (deepC c m)).2) [(1001, .cells [.d (dI m)])] := by
  have n2 := hv.n2
  have n20 := hv.n20
  refine callR_of_ex (rc := [52, 70]) (N := 31) Try.func50 rfl rfl Try.call50 tab_ok mix rfl rfl rfl rfl (fun cx href => ?_)
  refine ⟨[(501, 601)], _, _, _, _, copiedO c (by omega) (by omega) hr hcr, rfl, trivial, rfl, ?_⟩
  refine AW.loopI (fun i : Nat => ⟨[(1, .s (.clo 52 [.ptr 1001 0])), (2, .s (.ptr 2 0)), (4, .s (.ptr 4 0)), (5, vI 0), (6, .s (.ptr 6 0)), (13, vI c.axis.length), (14, vI i)],
      [(2, some (chanB c)), (4, some (.cells (zvs ty25.zero))), (6, some (.cells [.d (dS c.name), .own 601, .d (dI c.over), .d (dI c.buffer), .d (dRegs c.regions)])), (601, some (.row 58 c.axis.length 5 (deepF c m i))), (1001, some (.cells [.d (dI m)]))]⟩)
    (fun i => i ≤ c.axis.length) (fun i => c.axis.length - i) 0 (Nat.zero_le _) ?_ ?_
  · exact SubI.of [] (by rw [href]; rfl) rfl ⟨⟨rfl, LeBx.rfl⟩, ⟨rfl, LeBx.rfl⟩, ⟨rfl, LeBx.rfl⟩, ⟨rfl, LeBx.row rfl fun k j _ _ => LeD.refl _⟩, ⟨rfl, LeBx.rfl⟩, trivial⟩ ⟨⟨rfl, LeQ.rfl⟩, ⟨rfl, LeQ.rfl⟩, ⟨rfl, LeQ.rfl⟩, ⟨rfl, LeQ.rfl⟩, ⟨rfl, LeQ.rfl⟩, ⟨rfl, LeQ.rfl⟩, ⟨rfl, LeQ.rfl⟩, trivial⟩
  · intro i hi
    refine ex.sound (rc := [52, 70]) tab_ok mix href _ ?_
    refine And.intro (fun h1 => ?_) (fun h1 => ?_)
    · have h1 : (i : Int) < c.axis.length := decT h1
      have hi' : i < c.axis.length := by omega
      refine oi ⟨by omega, by omega⟩ ?_
      refine ⟨[(1002, 601)], _, _, _, _, deep1 c m i hi', rfl, ⟨rfl, rfl, trivial⟩, rfl, ?_⟩
      refine ⟨i + 1, by omega, by omega, ?_⟩
      exact SubI.of [] (by rw [href]; rfl) rfl ⟨⟨rfl, LeBx.rfl⟩, ⟨rfl, LeBx.rfl⟩, ⟨rfl, LeBx.rfl⟩, ⟨rfl, LeBx.row rfl fun k j hk hj => LeD.of_eq (deep_step hi' hk hj)⟩, ⟨rfl, LeBx.rfl⟩, trivial⟩ ⟨⟨rfl, LeQ.rfl⟩, ⟨rfl, LeQ.rfl⟩, ⟨rfl, LeQ.rfl⟩, ⟨rfl, LeQ.rfl⟩, ⟨rfl, LeQ.rfl⟩, ⟨rfl, LeQ.rfl⟩, ⟨rfl, LeQ.int (w64_of (by omega) (by omega))⟩, trivial⟩
    · have h1 : ¬ (i : Int) < c.axis.length := decF h1
      obtain rfl : i = c.axis.length := by omega
      have hle : LeD (.slc c.axis.length 5 (deepF c m c.axis.length)) (dAps (deepC c m).axis) := LeD.slc' (by simp [deepC]) fun k j hk hj => LeD.of_eq (deepF_all hk)
      refine callN ((gCheck (deepC c m) (deepC_ok hc m)).conv (args' := _) ⟨⟨LeD.refl _, hle, LeD.refl _, LeD.refl _, LeD.refl _, trivial⟩, trivial⟩) ?_
      refine And.intro (fun h2 => ?_) (fun h2 => ?_)
      · have h2 : (errC (deepC c m) != 0) = true := h2
        refine ⟨?_, rfl, trivial⟩
        have e : chgR (deepC c m) = (zeroC, errC (deepC c m)) := by unfold chgR; rw [h2]; rfl
        rw [e]
        exact zero_rCE rfl
      · have h2 : (errC (deepC c m) != 0) = false := h2
        refine ⟨?_, rfl, trivial⟩
        have e : chgR (deepC c m) = (deepC c m, 0) := by unfold chgR; rw [h2]; rfl
        rw [e]
        exact SubR.t ⟨⟨LeD.refl _, hle, LeD.refl _, LeD.refl _, LeD.refl _, trivial⟩, LeD.refl _, trivial⟩

def boxR (c : Chan) (m : Int) : Chan × Int := bif errC c != 0 then (zeroC, errC c) else bif !within m 0 100000 then (zeroC, 2) else chgR (boxC c m)
def deepR (c : Chan) (m : Int) : Chan × Int := bif errC c != 0 then (zeroC, errC c) else bif !within m (-20000) 20000 then (zeroC, 2) else chgR (deepC c m)
attribute [local irreducible] errC in
theorem gBox (c : Chan) (m : Int) (hc : c.ok) (hr : c.regions.length ≤ 1000) (hcr : ∀ i, i < c.regions.length → (c.regions.getD i default).corners.length ≤ 1000000) :
    CallP Try.prog 19 [chan c, vI m] (rCE (boxR c m).1 (boxR c m).2) := by
  refine callP_of_ex (rc := [50]) (N := 21) Try.func19 rfl rfl Try.call19 tab_ok mix rfl rfl (fun cx href => ?_)
  refine callN (gCheck c hc) ?_
  refine And.intro (fun h1 => ?_) (fun h1 => ?_)
  · have h1 : (errC c != 0) = true := h1
    rw [show boxR c m = (zeroC, errC c) by unfold boxR; rw [h1]; rfl]
    exact zero_rCE rfl
  have h1 : (errC c != 0) = false := h1
  refine callN (outside _ _ _) ?_
  refine And.intro (fun h2 => ?_) (fun h2 => ?_)
  · have h2 : (!within m 0 100000) = true := h2
    rw [show boxR c m = (zeroC, 2) by unfold boxR; rw [h1, h2]; rfl]
    exact zero_rCE rfl
  have h2 : (!within m 0 100000) = false := h2
  rw [show boxR c m = chgR (boxC c m) by unfold boxR; rw [h1, h2]; rfl]
  refine ⟨[(1001, 3)], _, _, _, _, changedBox c m hc (val_of c (by simpa using h1)) hr hcr, rfl, ⟨rfl, trivial⟩, rfl, ?_⟩
  exact SubR.refl _
attribute [local irreducible] errC in
theorem gDeepen (c : Chan) (m : Int) (hc : c.ok) (hr : c.regions.length ≤ 1000) (hcr : ∀ i, i < c.regions.length → (c.regions.getD i default).corners.length ≤ 1000000) :
    CallP Try.prog 20 [chan c, vI m] (rCE (deepR c m).1 (deepR c m).2) := by
  refine callP_of_ex (rc := [50]) (N := 21) Try.func20 rfl rfl Try.call20 tab_ok mix rfl rfl (fun cx href => ?_)
  refine callN (gCheck c hc) ?_
  refine And.intro (fun h1 => ?_) (fun h1 => ?_)
  · have h1 : (errC c != 0) = true := h1
    rw [show deepR c m = (zeroC, errC c) by unfold deepR; rw [h1]; rfl]
    exact zero_rCE rfl
  have h1 : (errC c != 0) = false := h1
  refine callN (outside _ _ _) ?_
  refine And.intro (fun h2 => ?_) (fun h2 => ?_)
  · have h2 : (!within m (-20000) 20000) = true := h2
    rw [show deepR c m = (zeroC, 2) by unfold deepR; rw [h1, h2]; rfl]
    exact zero_rCE rfl
  have h2 : (!within m (-20000) 20000) = false := h2
  rw [show deepR c m = chgR (deepC c m) by unfold deepR; rw [h1, h2]; rfl]
  refine ⟨[(1001, 3)], _, _, _, _, changedDeep c m hc (val_of c (by simpa using h1)) hr hcr, rfl, ⟨rfl, trivial⟩, rfl, ?_⟩
  exact SubR.refl _
end Go.Ch

namespace Go.Ch
open Go Go.Ax Go.Proofs Go.Proofs.Try
set_option maxRecDepth 100000
set_option pp.maxSteps 400
set_option maxHeartbeats 1000000

theorem callF {P : Program} {f : FuncId} {args : List AV} (r : AV) {K : AV → Prop} {b : Bool} (h : b = false) (k : K r) : ∃ r, (b = true → CallP P f args r) ∧ K r := ⟨r, fun h' => by rw [h] at h'; (cases h'), k⟩
theorem sameZero : CallP Try.prog 21 [.g [.d (dS ⟨#[]⟩), .d (dAps []), .d (dI 0), .d (dI 0), .d (dRegs [])], .g (zvs ty25.zero)] (vB true) :=
  (rSameEq zeroC (by decide) (by decide) (fun i h => absurd h (Nat.not_lt_zero i))).conv (args' := _) ⟨⟨LeD.refl _, LeD.refl _, LeD.refl _, LeD.refl _, LeD.refl _, trivial⟩, ⟨LeD.refl _, LeD.nil, LeD.refl _, LeD.refl _, LeD.nil, trivial⟩, trivial⟩
theorem chgR_bad {d : Chan} (h : (errC d != 0) = true) : chgR d = (zeroC, errC d) := by unfold chgR; rw [h]; rfl
theorem chgR_ok {d : Chan} (h : (errC d != 0) = false) : chgR d = (d, 0) := by unfold chgR; rw [h]; rfl
theorem boxR_err {c : Chan} {m : Int} (h : (errC c != 0) = true) : boxR c m = (zeroC, errC c) := by unfold boxR; rw [h]; rfl
theorem boxR_rng {c : Chan} {m : Int} (h : (errC c != 0) = false) (h2 : within m 0 100000 = false) : boxR c m = (zeroC, 2) := by unfold boxR; rw [h, h2]; rfl
theorem boxR_chg {c : Chan} {m : Int} (h : (errC c != 0) = false) (h2 : within m 0 100000 = true) : boxR c m = chgR (boxC c m) := by unfold boxR; rw [h, h2]; rfl
theorem deepR_err {c : Chan} {m : Int} (h : (errC c != 0) = true) : deepR c m = (zeroC, errC c) := by unfold deepR; rw [h]; rfl
theorem deepR_rng {c : Chan} {m : Int} (h : (errC c != 0) = false) (h2 : within m (-20000) 20000 = false) : deepR c m = (zeroC, 2) := by unfold deepR; rw [h, h2]; rfl
theorem deepR_chg {c : Chan} {m : Int} (h : (errC c != 0) = false) (h2 : within m (-20000) 20000 = true) : deepR c m = chgR (deepC c m) := by unfold deepR; rw [h, h2]; rfl

theorem boxC_len {c : Chan} {m : Int} : (boxC c m).axis.length = c.axis.length := by simp [boxC]
theorem boxC_regs {c : Chan} {m : Int} : (boxC c m).regions = c.regions := rfl
theorem deepC_len {c : Chan} {m : Int} : (deepC c m).axis.length = c.axis.length := by simp [deepC]
theorem deepC_regs {c : Chan} {m : Int} : (deepC c m).regions = c.regions := rfl
attribute [local irreducible] errC small boxR deepR boxC deepC in
theorem Variants (c : Chan) (m : Int) (hc : c.ok) : CallP Try.prog 5 [chan c, vI m] (vB true) := by
  refine callP_of_ex (rc := []) (N := 122) Try.func5 rfl rfl Try.call5 tab_ok mix rfl rfl (fun cx href => ?_)
  refine callN awake ?_
  refine And.intro (fun h => by cases h) (fun _ => ?_)
  refine callN (Small c hc) ?_
  refine And.intro (fun _ => SubR.lit rfl) (fun h1 => ?_)
  have h1 : (!small c) = false := h1
  have hs : Sm c := Sm.of (by simpa using h1)
  have hr : c.regions.length ≤ 1000 := by have := hs.regions; omega
  have hcr : ∀ i, i < c.regions.length → (c.regions.getD i default).corners.length ≤ 1000000 := fun i hi => by have := hs.corners i hi; omega
  refine callN (Copied c hs) ?_
  refine callN (gBox c m hc hr hcr) ?_
  refine callN (Copied c hs) ?_
  refine callN (gDeepen c m hc hr hcr) ?_
  refine callN (rCheck c hc) ?_
  refine And.intro (fun h2 => ?_) (fun h2 => ?_)
  · have h2 : (errC c != 0) = true := h2
    rw [boxR_err h2, deepR_err h2]
    repeat first | refine sk ?_ | refine st ?_ | refine sg ?_ | refine sh ?_ | refine su ?_ | refine sn1 ?_ | refine sn0 ?_
    refine callG sameZero ?_
    repeat first | refine sk ?_ | refine st ?_ | refine sg ?_ | refine sh ?_ | refine su ?_ | refine sn1 ?_ | refine sn0 ?_
    refine callG sameZero ?_
    repeat first | refine sk ?_ | refine st ?_ | refine sg ?_ | refine sh ?_ | refine su ?_ | refine sn1 ?_ | refine sn0 ?_
    refine SubR.of_eq ?_
    show vB ((errC c == errC c && errC c == errC c && true) && true) = vB true
    simp
  have h2 : (errC c != 0) = false := h2
  have hv := val_of c (by simpa using h2)
  have n20 := hv.n20
  have hbox : ∀ n, CallP Try.prog 21 [chan (boxC c n), chan (boxC c n)] (vB true) := fun n => rSameEq _ (by rw [boxC_len]; omega) (by rw [boxC_regs]; omega) (by rw [boxC_regs]; exact hcr)
  have hdeep : ∀ n, CallP Try.prog 21 [chan (deepC c n), chan (deepC c n)] (vB true) := fun n => rSameEq _ (by rw [deepC_len]; omega) (by rw [deepC_regs]; omega) (by rw [deepC_regs]; exact hcr)
  refine callN (Within _ _ _) ?_
  refine And.intro (fun h3 => ?_) (fun h3 => ?_)
  · have h3 : (!within m 0 100000) = true := h3
    rw [boxR_rng h2 (by simpa using h3)]
    repeat first | refine sk ?_ | refine st ?_ | refine sg ?_ | refine sh ?_ | refine su ?_ | refine sn1 ?_ | refine sn0 ?_
    refine callG sameZero ?_
    repeat first | refine sk ?_ | refine st ?_ | refine sg ?_ | refine sh ?_ | refine su ?_ | refine sn1 ?_ | refine sn0 ?_
    refine callG (rBox c m (by omega)) ?_
    repeat first | refine sk ?_ | refine st ?_ | refine sg ?_ | refine sh ?_ | refine su ?_ | refine sn1 ?_ | refine sn0 ?_
    refine callF (vB true) (by simp [gpol]) ?_
    repeat first | refine sk ?_ | refine st ?_ | refine sg ?_ | refine sh ?_ | refine su ?_ | refine sn1 ?_ | refine sn0 ?_
    refine And.intro (by kernel_rfl) ?_
    refine And.intro (fun h4 => ?_) (fun _ => ?_)
    · exfalso
      revert h4
      simp
    refine callN (Within _ _ _) ?_
    refine And.intro (fun g1 => ?_) (fun g1 => ?_)
    · have g1 : (!within m (-20000) 20000) = true := g1
      rw [deepR_rng h2 (by simpa using g1)]
      repeat first | refine sk ?_ | refine st ?_ | refine sg ?_ | refine sh ?_ | refine su ?_ | refine sn1 ?_ | refine sn0 ?_
      refine callG sameZero ?_
      repeat first | refine sk ?_ | refine st ?_ | refine sg ?_ | refine sh ?_ | refine su ?_ | refine sn1 ?_ | refine sn0 ?_
      exact SubR.of_eq rfl
    have g1 : (!within m (-20000) 20000) = false := g1
    have g1' : within m (-20000) 20000 = true := by simpa using g1
    refine callN (rDeepen c m (by omega)) ?_
    refine callN (rCheck (deepC c m) (deepC_ok hc m)) ?_
    refine And.intro (fun g2 => ?_) (fun g2 => ?_)
    · have g2 : (errC (deepC c m) != 0) = true := g2
      rw [deepR_chg h2 g1', chgR_bad g2]
      repeat first | refine sk ?_ | refine st ?_ | refine sg ?_ | refine sh ?_ | refine su ?_ | refine sn1 ?_ | refine sn0 ?_
      refine callG sameZero ?_
      repeat first | refine sk ?_ | refine st ?_ | refine sg ?_ | refine sh ?_ | refine su ?_ | refine sn1 ?_ | refine sn0 ?_
      refine SubR.of_eq ?_
      show vB (errC (deepC c m) == errC (deepC c m) && true) = vB true
      simp
    have g2 : (errC (deepC c m) != 0) = false := g2
    rw [deepR_chg h2 g1', chgR_ok g2]
    repeat first | refine sk ?_ | refine st ?_ | refine sg ?_ | refine sh ?_ | refine su ?_ | refine sn1 ?_ | refine sn0 ?_
    refine callG (rDeepen c m (by omega)) ?_
    repeat first | refine sk ?_ | refine st ?_ | refine sg ?_ | refine sh ?_ | refine su ?_ | refine sn1 ?_ | refine sn0 ?_
    refine callG (hdeep m) ?_
    repeat first | refine sk ?_ | refine st ?_ | refine sg ?_ | refine sh ?_ | refine su ?_ | refine sn1 ?_ | refine sn0 ?_
    refine And.intro (by kernel_rfl) ?_
    exact SubR.of_eq rfl
  have h3 : (!within m 0 100000) = false := h3
  have h3' : within m 0 100000 = true := by simpa using h3
  refine callN (rBox c m (by omega)) ?_
  refine callN (rCheck (boxC c m) (boxC_ok hc m)) ?_
  cases h4 : errC (boxC c m) != 0 with
  | true =>
    rw [boxR_chg h2 h3', chgR_bad h4]
    repeat first | refine sk ?_ | refine st ?_ | refine sg ?_ | refine sh ?_ | refine su ?_ | refine sn1 ?_ | refine sn0 ?_
    refine callG sameZero ?_
    repeat first | refine sk ?_ | refine st ?_ | refine sg ?_ | refine sh ?_ | refine su ?_ | refine sn1 ?_ | refine sn0 ?_
    refine callG (rBox c m (by omega)) ?_
    repeat first | refine sk ?_ | refine st ?_ | refine sg ?_ | refine sh ?_ | refine su ?_ | refine sn1 ?_ | refine sn0 ?_
    refine callF (vB true) (by show (gpol false ((errC (boxC c m) != 0) && _) && gpol true (errC (boxC c m) == 0) && _) = false; have h5 : (errC (boxC c m) == 0) = false := (by simpa using h4); rw [h5]; simp [gpol]) ?_
    repeat first | refine sk ?_ | refine st ?_ | refine sg ?_ | refine sh ?_ | refine su ?_ | refine sn1 ?_ | refine sn0 ?_
    refine And.intro (by kernel_rfl) ?_
    refine And.intro (fun h6 => ?_) (fun _ => ?_)
    · exfalso
      have h6 : ((errC (boxC c m) != 0) && ((errC (boxC c m) != errC (boxC c m)) || !true) || (errC (boxC c m) == 0) && (errC (boxC c m) != 0 || !true)) = true := h6
      simp at h6
    refine callN (Within _ _ _) ?_
    refine And.intro (fun g1 => ?_) (fun g1 => ?_)
    · have g1 : (!within m (-20000) 20000) = true := g1
      rw [deepR_rng h2 (by simpa using g1)]
      repeat first | refine sk ?_ | refine st ?_ | refine sg ?_ | refine sh ?_ | refine su ?_ | refine sn1 ?_ | refine sn0 ?_
      refine callG sameZero ?_
      repeat first | refine sk ?_ | refine st ?_ | refine sg ?_ | refine sh ?_ | refine su ?_ | refine sn1 ?_ | refine sn0 ?_
      exact SubR.of_eq rfl
    have g1 : (!within m (-20000) 20000) = false := g1
    have g1' : within m (-20000) 20000 = true := by simpa using g1
    refine callN (rDeepen c m (by omega)) ?_
    refine callN (rCheck (deepC c m) (deepC_ok hc m)) ?_
    refine And.intro (fun g2 => ?_) (fun g2 => ?_)
    · have g2 : (errC (deepC c m) != 0) = true := g2
      rw [deepR_chg h2 g1', chgR_bad g2]
      repeat first | refine sk ?_ | refine st ?_ | refine sg ?_ | refine sh ?_ | refine su ?_ | refine sn1 ?_ | refine sn0 ?_
      refine callG sameZero ?_
      repeat first | refine sk ?_ | refine st ?_ | refine sg ?_ | refine sh ?_ | refine su ?_ | refine sn1 ?_ | refine sn0 ?_
      refine SubR.of_eq ?_
      show vB (errC (deepC c m) == errC (deepC c m) && true) = vB true
      simp
    have g2 : (errC (deepC c m) != 0) = false := g2
    rw [deepR_chg h2 g1', chgR_ok g2]
    repeat first | refine sk ?_ | refine st ?_ | refine sg ?_ | refine sh ?_ | refine su ?_ | refine sn1 ?_ | refine sn0 ?_
    refine callG (rDeepen c m (by omega)) ?_
    repeat first | refine sk ?_ | refine st ?_ | refine sg ?_ | refine sh ?_ | refine su ?_ | refine sn1 ?_ | refine sn0 ?_
    refine callG (hdeep m) ?_
    repeat first | refine sk ?_ | refine st ?_ | refine sg ?_ | refine sh ?_ | refine su ?_ | refine sn1 ?_ | refine sn0 ?_
    refine And.intro (by kernel_rfl) ?_
    exact SubR.of_eq rfl
  | false =>
    rw [boxR_chg h2 h3', chgR_ok h4]
    have h5 : errC (boxC c m) = 0 := by simpa using h4
    rw [h5]
    repeat first | refine sk ?_ | refine st ?_ | refine sg ?_ | refine sh ?_ | refine su ?_ | refine sn1 ?_ | refine sn0 ?_
    refine callF (vB true) (by simp [gpol]) ?_
    repeat first | refine sk ?_ | refine st ?_ | refine sg ?_ | refine sh ?_ | refine su ?_ | refine sn1 ?_ | refine sn0 ?_
    refine callG (rBox c m (by omega)) ?_
    repeat first | refine sk ?_ | refine st ?_ | refine sg ?_ | refine sh ?_ | refine su ?_ | refine sn1 ?_ | refine sn0 ?_
    refine callG (hbox m) ?_
    repeat first | refine sk ?_ | refine st ?_ | refine sg ?_ | refine sh ?_ | refine su ?_ | refine sn1 ?_ | refine sn0 ?_
    refine And.intro (by kernel_rfl) ?_
    refine And.intro (fun h6 => ?_) (fun _ => ?_)
    · exfalso
      revert h6
      simp
    refine callN (Within _ _ _) ?_
    refine And.intro (fun g1 => ?_) (fun g1 => ?_)
    · have g1 : (!within m (-20000) 20000) = true := g1
      rw [deepR_rng h2 (by simpa using g1)]
      repeat first | refine sk ?_ | refine st ?_ | refine sg ?_ | refine sh ?_ | refine su ?_ | refine sn1 ?_ | refine sn0 ?_
      refine callG sameZero ?_
      repeat first | refine sk ?_ | refine st ?_ | refine sg ?_ | refine sh ?_ | refine su ?_ | refine sn1 ?_ | refine sn0 ?_
      exact SubR.of_eq rfl
    have g1 : (!within m (-20000) 20000) = false := g1
    have g1' : within m (-20000) 20000 = true := by simpa using g1
    refine callN (rDeepen c m (by omega)) ?_
    refine callN (rCheck (deepC c m) (deepC_ok hc m)) ?_
    refine And.intro (fun g2 => ?_) (fun g2 => ?_)
    · have g2 : (errC (deepC c m) != 0) = true := g2
      rw [deepR_chg h2 g1', chgR_bad g2]
      repeat first | refine sk ?_ | refine st ?_ | refine sg ?_ | refine sh ?_ | refine su ?_ | refine sn1 ?_ | refine sn0 ?_
      refine callG sameZero ?_
      repeat first | refine sk ?_ | refine st ?_ | refine sg ?_ | refine sh ?_ | refine su ?_ | refine sn1 ?_ | refine sn0 ?_
      refine SubR.of_eq ?_
      show vB (errC (deepC c m) == errC (deepC c m) && true) = vB true
      simp
    have g2 : (errC (deepC c m) != 0) = false := g2
    rw [deepR_chg h2 g1', chgR_ok g2]
    repeat first | refine sk ?_ | refine st ?_ | refine sg ?_ | refine sh ?_ | refine su ?_ | refine sn1 ?_ | refine sn0 ?_
    refine callG (rDeepen c m (by omega)) ?_
    repeat first | refine sk ?_ | refine st ?_ | refine sg ?_ | refine sh ?_ | refine su ?_ | refine sn1 ?_ | refine sn0 ?_
    refine callG (hdeep m) ?_
    repeat first | refine sk ?_ | refine st ?_ | refine sg ?_ | refine sh ?_ | refine su ?_ | refine sn1 ?_ | refine sn0 ?_
    refine And.intro (by kernel_rfl) ?_
    exact SubR.of_eq rfl
end Go.Ch
