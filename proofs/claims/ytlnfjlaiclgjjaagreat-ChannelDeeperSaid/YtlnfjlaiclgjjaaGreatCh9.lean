/- Part Ch9: lemmas that the proofs of this seat share; by itself it claims nothing. -/
import Derived.Test.YtlnfjlaiclgjjaaGreatCh8
namespace Go.Ch
open Go Go.Ax Go.Proofs Go.Proofs.Tryz
set_option maxRecDepth 100000
set_option pp.maxSteps 400
set_option maxHeartbeats 1000000

def deepA (m : Int) (a : Ap) : Ap := { a with level := w64 (a.level - m) }
def deepC (c : Chan) (m : Int) : Chan := { c with axis := c.axis.map (deepA m) }
def deepF (c : Chan) (m : Int) (i : Nat) : Nat → Nat → DV := fun k => apD (if k < i then deepA m (c.axis.getD k default) else c.axis.getD k default)
def boxA (m : Int) (a : Ap) : Ap := { a with half := w64 (a.half + m), run := 0 }
def boxC (c : Chan) (m : Int) : Chan := { c with axis := c.axis.map (boxA m) }
def boxF (c : Chan) (m : Int) (i : Nat) : Nat → Nat → DV := fun k => apD (if k < i then boxA m (c.axis.getD k default) else c.axis.getD k default)
end Go.Ch

namespace Go.Ch
open Go Go.Ax Go.Proofs Go.Proofs.Tryz
set_option maxRecDepth 100000
set_option pp.maxSteps 400
set_option maxHeartbeats 1000000

theorem CloneAx (l : List Ap) (h0 : 0 < l.length) (hl : l.length ≤ 1000) : CallR Tryz.prog 171 [vAps l] [] (.s (.own 7)) [(7, .row 115 l.length 5 (apEl l))] := by
  refine callO_of_ex (rc := []) (N := 8) Tryz.func171 rfl rfl Tryz.call171 tab_ok mix rfl rfl rfl rfl (fun cx _ => ?_)
  intro b hb
  refine And.intro (fun h => ?_) (fun _ => ?_)
  · exact absurd (hb h) (by omega)
  refine ob (show (0 + l.length) * 40 ≤ _ by omega) ?_
  refine ob (fun k j hk hj => by
    have hj : j < 5 := hj
    match j, hj with
    | 0, _ => rfl
    | 1, _ => rfl
    | 2, _ => rfl
    | 3, _ => rfl
    | 4, _ => rfl) ?_
  refine ⟨LeQ.rfl, ?_, trivial⟩
  show some (some (Box.row 115 (0 + l.length) 5 (catF 0 _ (apEl l)))) = _
  rw [Nat.zero_add, catF0]
theorem CloneRegs (l : List Reg) (h0 : 0 < l.length) (hl : l.length ≤ 1000) : CallR Tryz.prog 172 [vRegs l] [] (.s (.own 7)) [(7, .row 74 l.length 3 (regEl l))] := by
  refine callO_of_ex (rc := []) (N := 8) Tryz.func172 rfl rfl Tryz.call172 tab_ok mix rfl rfl rfl rfl (fun cx _ => ?_)
  intro b hb
  refine And.intro (fun h => ?_) (fun _ => ?_)
  · exact absurd (hb h) (by omega)
  refine ob (show (0 + l.length) * 48 ≤ _ by omega) ?_
  refine ob (fun k j hk hj => by
    have hj : j < 3 := hj
    match j, hj with
    | 0, _ => rfl
    | 1, _ => rfl
    | 2, _ => rfl) ?_
  refine ⟨LeQ.rfl, ?_, trivial⟩
  show some (some (Box.row 74 (0 + l.length) 3 (catF 0 _ (regEl l)))) = _
  rw [Nat.zero_add, catF0]
theorem CloneRegs0 : CallP Tryz.prog 172 [vRegs []] (vRegs []) := by
  refine callP_of_ex (rc := []) (N := 8) Tryz.func172 rfl rfl Tryz.call172 tab_ok mix rfl rfl (fun cx _ => ?_)
  intro b hb
  refine And.intro (fun h => ?_) (fun _ => ?_)
  · exact SubR.le LeD.nil
  refine ob (by decide) ?_
  refine ob (fun k j hk hj => absurd hk (Nat.not_lt_zero k)) ?_
  exact SubR.le LeD.empty
theorem ClonePts (l : List Pt) (hl : l.length ≤ 1000000) : CallP Tryz.prog 173 [pts l] (pts l) := by
  refine callP_of_ex (rc := []) (N := 8) Tryz.func173 rfl rfl Tryz.call173 tab_ok mix rfl rfl (fun cx _ => ?_)
  intro b hb
  refine And.intro (fun h => ?_) (fun _ => ?_)
  · have h0 : l = [] := List.length_eq_zero_iff.1 (hb h)
    subst h0
    exact SubR.le LeD.nil
  refine ob (show (0 + l.length) * 16 ≤ _ by omega) ?_
  refine ob (fun k j hk hj => by
    have hj : j < 2 := hj
    match j, hj with
    | 0, _ => rfl
    | 1, _ => rfl) ?_
  exact SubR.le (RowIs.slc el_sub)

theorem copiedO (c : Chan) (h0 : 0 < c.axis.length) (h1 : c.axis.length ≤ 1000) (hr : c.regions.length ≤ 1000) (hc : ∀ i, i < c.regions.length → (c.regions.getD i default).corners.length ≤ 1000000) :
    CallR Tryz.prog 156 [chan c] [] (.g [.d (dS c.name), .own 501, .d (dI c.over), .d (dI c.buffer), .d (dRegs c.regions)]) [(501, .row 115 c.axis.length 5 (apEl c.axis))] := by
  by_cases hz : c.regions = []
  · obtain ⟨nm, ax, ov, bu, rg⟩ := c
    simp only at hz h0 h1
    subst hz
    refine callO_of_ex (rc := [171]) (N := 32) Tryz.func156 rfl rfl Tryz.call156 tab_ok mix rfl rfl rfl rfl (fun cx href => ?_)
    refine ⟨[(7, 501)], _, _, _, _, CloneAx ax h0 h1, rfl, trivial, rfl, ?_⟩
    refine callN CloneRegs0 ?_
    refine AW.loopI (fun _ : Unit => ⟨[(1, .s (.ptr 1 0)), (2, .s (.ptr 2 0)), (14, vI 0), (15, vI 0)],
        [(1, some (.cells [.d (dS nm), .own 501, .d (dI ov), .d (dI bu), .d (dRegs [])])), (2, some (.cells (zvs ty25.zero))), (501, some (.row 115 ax.length 5 (apEl ax)))]⟩)
      (fun _ => True) (fun _ => 0) () trivial ?_ ?_
    · exact SubI.of0 href [] rfl ⟨⟨rfl, LeBx.rfl⟩, ⟨rfl, LeBx.rfl⟩, ⟨rfl, LeBx.rfl⟩, trivial⟩ ⟨⟨rfl, LeQ.rfl⟩, ⟨rfl, LeQ.rfl⟩, ⟨rfl, LeQ.rfl⟩, ⟨rfl, LeQ.rfl⟩, trivial⟩
    · intro _ _
      refine ex.sound (rc := [171]) tab_ok mix href _ ?_
      refine And.intro (fun h => ?_) (fun _ => ?_)
      · exact absurd (decT h) (by decide)
      · exact ⟨LeQ.rfl, rfl, trivial⟩
  · have hp : 0 < c.regions.length := List.length_pos_iff.2 hz
    refine callO_of_ex (rc := [171, 172]) (N := 32) Tryz.func156 rfl rfl Tryz.call156 tab_ok mix rfl rfl rfl rfl (fun cx href => ?_)
    refine ⟨[(7, 501)], _, _, _, _, CloneAx c.axis h0 h1, rfl, trivial, rfl, ?_⟩
    refine ⟨[(7, 502)], _, _, _, _, CloneRegs c.regions hp hr, rfl, trivial, rfl, ?_⟩
    refine AW.loopI (fun i : Nat => ⟨[(1, .s (.ptr 1 0)), (2, .s (.ptr 2 0)), (14, vI c.regions.length), (15, vI i)],
        [(1, some (.cells [.d (dS c.name), .own 501, .d (dI c.over), .d (dI c.buffer), .own 502])), (2, some (.cells (zvs ty25.zero))), (501, some (.row 115 c.axis.length 5 (apEl c.axis))), (502, some (.row 74 c.regions.length 3 (regEl c.regions)))]⟩)
      (fun i => i ≤ c.regions.length) (fun i => c.regions.length - i) 0 (Nat.zero_le _) ?_ ?_
    · exact SubI.of0 href [] rfl ⟨⟨rfl, LeBx.rfl⟩, ⟨rfl, LeBx.rfl⟩, ⟨rfl, LeBx.rfl⟩, ⟨rfl, LeBx.rfl⟩, trivial⟩ ⟨⟨rfl, LeQ.rfl⟩, ⟨rfl, LeQ.rfl⟩, ⟨rfl, LeQ.rfl⟩, ⟨rfl, LeQ.rfl⟩, trivial⟩
    · intro i hi
      refine ex.sound (rc := [171, 172]) tab_ok mix href _ ?_
      refine And.intro (fun h => ?_) (fun h => ?_)
      · have h : (i : Int) < c.regions.length := decT h
        have hi' : i < c.regions.length := by omega
        refine oi ⟨by omega, by omega⟩ ?_
        refine ob hi' ?_
        refine callN (ClonePts _ (hc i hi')) ?_
        refine oi ⟨by omega, by omega⟩ ?_
        refine ob hi' ?_
        refine And.intro (by kernel_rfl) ?_
        refine ⟨i + 1, by omega, by omega, ?_⟩
        refine SubI.of0 href [] rfl ⟨⟨rfl, LeBx.rfl⟩, ⟨rfl, LeBx.rfl⟩, ⟨rfl, LeBx.rfl⟩, ⟨rfl, LeBx.row rfl fun k j hk hj => LeD.of_eq ?_⟩, trivial⟩ ⟨⟨rfl, LeQ.rfl⟩, ⟨rfl, LeQ.rfl⟩, ⟨rfl, LeQ.rfl⟩, ⟨rfl, LeQ.int (w64_of (by omega) (by omega))⟩, trivial⟩
        have hj : j < 3 := hj
        by_cases hki : k = i
        · subst hki
          match j, hj with
          | 0, _ => simp [rowSet]; rfl
          | 1, _ => simp [rowSet]; rfl
          | 2, _ => simp [rowSet, dOf]; rfl
        · exact if_neg hki
      · have h : ¬ (i : Int) < c.regions.length := decF h
        exact ⟨LeQ.rfl, rfl, trivial⟩
end Go.Ch

namespace Go.Ch
open Go Go.Ax Go.Proofs Go.Proofs.Tryz
set_option maxRecDepth 100000
set_option pp.maxSteps 400
set_option maxHeartbeats 1000000

abbrev rCE (c : Chan) (e : Int) : AV := .t [.g [.d (dS c.name), .d (dAps c.axis), .d (dI c.over), .d (dI c.buffer), .d (dRegs c.regions)], .s (.d (dI e))]
def zeroC : Chan := ⟨⟨#[]⟩, [], 0, 0, []⟩
theorem zero_rCE {e e' : Int} (h : e = e') : SubR (.t [.g (zvs ty25.zero), .s (.d (dI e))]) (rCE zeroC e') := by
  subst h
  exact SubR.t ⟨⟨LeD.refl _, LeD.nil, LeD.refl _, LeD.refl _, LeD.nil, trivial⟩, LeD.refl _, trivial⟩

theorem box1 (c : Chan) (m : Int) (i : Nat) (hi : i < c.axis.length) :
    CallR Tryz.prog 113 [.s (.rw 1002 i 5 0), .s (.ptr 1001 0)] [(1001, .cells [.d (dI m)]), (1002, .row 115 c.axis.length 5 (boxF c m i))] (.t [])
      [(1001, .cells [.d (dI m)]), (1002, .row 115 c.axis.length 5 (rowSet (rowSet (boxF c m i) i 4 [.d (dI 0)]) i 2 [.d (dI (w64 ((if i < i then boxA m (c.axis.getD i default) else c.axis.getD i default).half + m)))]))] := by
  refine callR_of_ex (rc := []) (N := 15) Tryz.func113 rfl rfl Tryz.call113 tab_ok mix rfl rfl rfl rfl (fun cx href => ?_)
  refine oi hi ?_
  refine ob hi ?_
  refine ob hi ?_
  refine And.intro (by kernel_rfl) ?_
  exact ⟨SubR.refl _, rfl, rfl, trivial⟩
theorem deep1 (c : Chan) (m : Int) (i : Nat) (hi : i < c.axis.length) :
    CallR Tryz.prog 112 [.s (.rw 1002 i 5 0), .s (.ptr 1001 0)] [(1001, .cells [.d (dI m)]), (1002, .row 115 c.axis.length 5 (deepF c m i))] (.t [])
      [(1001, .cells [.d (dI m)]), (1002, .row 115 c.axis.length 5 (rowSet (deepF c m i) i 3 [.d (dI (w64 ((if i < i then deepA m (c.axis.getD i default) else c.axis.getD i default).level - m)))]))] := by
  refine callR_of_ex (rc := []) (N := 11) Tryz.func112 rfl rfl Tryz.call112 tab_ok mix rfl rfl rfl rfl (fun cx href => ?_)
  refine oi hi ?_
  refine ob hi ?_
  refine And.intro (by kernel_rfl) ?_
  exact ⟨SubR.refl _, rfl, rfl, trivial⟩

theorem w64_ok (n : Int) : i64ok (w64 n) := by
  have h1 : IntKind.i64.min = -9223372036854775808 := by decide
  have h2 : IntKind.i64.max = 9223372036854775807 := by decide
  unfold i64ok w64
  simp only [Lit.wf, h1, h2, Bool.and_eq_true, decide_eq_true_eq]
  rw [IntKind.wrap_i64]
  omega
theorem boxC_ok {c : Chan} (h : c.ok) (m : Int) : (boxC c m).ok := by
  refine ⟨h.name, by simp only [boxC, List.length_map]; exact h.axis, fun a ha => ?_, h.over, h.buffer, h.regions, h.regs⟩
  simp only [boxC, List.mem_map] at ha
  obtain ⟨b, hb, rfl⟩ := ha
  have := h.aps b hb
  exact ⟨this.1, this.2.1, w64_ok _, this.2.2.2.1, show i64ok 0 by decide⟩
theorem deepC_ok {c : Chan} (h : c.ok) (m : Int) : (deepC c m).ok := by
  refine ⟨h.name, by simp only [deepC, List.length_map]; exact h.axis, fun a ha => ?_, h.over, h.buffer, h.regions, h.regs⟩
  simp only [deepC, List.mem_map] at ha
  obtain ⟨b, hb, rfl⟩ := ha
  have := h.aps b hb
  exact ⟨this.1, this.2.1, this.2.2.1, w64_ok _, this.2.2.2.2⟩
theorem boxF_all {c : Chan} {m : Int} {k j : Nat} (hk : k < c.axis.length) : boxF c m c.axis.length k j = apEl (boxC c m).axis k j := by
  unfold boxF apEl
  rw [if_pos hk]
  congr 1
  simp [boxC, hk]
theorem deepF_all {c : Chan} {m : Int} {k j : Nat} (hk : k < c.axis.length) : deepF c m c.axis.length k j = apEl (deepC c m).axis k j := by
  unfold deepF apEl
  rw [if_pos hk]
  congr 1
  simp [deepC, hk]
/-- The changed channel, or the error. -/
def chgR (d : Chan) : Chan × Int := bif errC d != 0 then (zeroC, errC d) else (d, 0)
theorem box_step {c : Chan} {m : Int} {i k j : Nat} (hi : i < c.axis.length) (_ : k < c.axis.length) (hj : j < 5) :
    rowSet (rowSet (boxF c m i) i 4 [.d (dI 0)]) i 2 [.d (dI (w64 ((if i < i then boxA m (c.axis.getD i default) else c.axis.getD i default).half + m)))] k j = boxF c m (i + 1) k j := by
  by_cases hki : k = i
  · subst hki
    unfold boxF
    rw [if_pos (Nat.lt_succ_self k)]
    match j, hj with
    | 0, _ => simp [rowSet, apD, boxA]; rfl
    | 1, _ => simp [rowSet, apD, boxA]; rfl
    | 2, _ => simp [rowSet, apD, boxA]; rfl
    | 3, _ => simp [rowSet, apD, boxA]; rfl
    | 4, _ => simp [rowSet, apD, boxA]; rfl
  · refine (show (if k = i then _ else _) = _ from if_neg hki).trans ((show (if k = i then _ else _) = _ from if_neg hki).trans ?_)
    unfold boxF
    by_cases hlt : k < i
    · rw [if_pos hlt, if_pos (by omega)]
    · rw [if_neg hlt, if_neg (by omega)]
theorem deep_step {c : Chan} {m : Int} {i k j : Nat} (hi : i < c.axis.length) (_ : k < c.axis.length) (hj : j < 5) :
    rowSet (deepF c m i) i 3 [.d (dI (w64 ((if i < i then deepA m (c.axis.getD i default) else c.axis.getD i default).level - m)))] k j = deepF c m (i + 1) k j := by
  by_cases hki : k = i
  · subst hki
    unfold deepF
    rw [if_pos (Nat.lt_succ_self k)]
    match j, hj with
    | 0, _ => simp [rowSet, apD, deepA]; rfl
    | 1, _ => simp [rowSet, apD, deepA]; rfl
    | 2, _ => simp [rowSet, apD, deepA]; rfl
    | 3, _ => simp [rowSet, apD, deepA]; rfl
    | 4, _ => simp [rowSet, apD, deepA]; rfl
  · refine (show (if k = i then _ else _) = _ from if_neg hki).trans ?_
    unfold deepF
    by_cases hlt : k < i
    · rw [if_pos hlt, if_pos (by omega)]
    · rw [if_neg hlt, if_neg (by omega)]

theorem changedBox (c : Chan) (m : Int) (hc : c.ok) (hv : Val c) (hr : c.regions.length ≤ 1000) (hcr : ∀ i, i < c.regions.length → (c.regions.getD i default).corners.length ≤ 1000000) :
    CallR Tryz.prog 111 [chan c, .s (.clo 113 [.ptr 1001 0])] [(1001, .cells [.d (dI m)])] (rCE (chgR (boxC c m)).1 (chgR (boxC c m)).2) [(1001, .cells [.d (dI m)])] := by
  have n2 := hv.n2
  have n20 := hv.n20
  refine callR_of_ex (rc := [113, 156]) (N := 31) Tryz.func111 rfl rfl Tryz.call111 tab_ok mix rfl rfl rfl rfl (fun cx href => ?_)
  refine ⟨[(501, 601)], _, _, _, _, copiedO c (by omega) (by omega) hr hcr, rfl, trivial, rfl, ?_⟩
  refine AW.loopI (fun i : Nat => ⟨[(1, .s (.clo 113 [.ptr 1001 0])), (2, .s (.ptr 2 0)), (4, .s (.ptr 4 0)), (5, vI 0), (6, .s (.ptr 6 0)), (13, vI c.axis.length), (14, vI i)],
      [(2, some (chanB c)), (4, some (.cells (zvs ty25.zero))), (6, some (.cells [.d (dS c.name), .own 601, .d (dI c.over), .d (dI c.buffer), .d (dRegs c.regions)])), (601, some (.row 115 c.axis.length 5 (boxF c m i))), (1001, some (.cells [.d (dI m)]))]⟩)
    (fun i => i ≤ c.axis.length) (fun i => c.axis.length - i) 0 (Nat.zero_le _) ?_ ?_
  · exact SubI.of [] (by rw [href]; rfl) rfl ⟨⟨rfl, LeBx.rfl⟩, ⟨rfl, LeBx.rfl⟩, ⟨rfl, LeBx.rfl⟩, ⟨rfl, LeBx.row rfl fun k j _ _ => LeD.refl _⟩, ⟨rfl, LeBx.rfl⟩, trivial⟩ ⟨⟨rfl, LeQ.rfl⟩, ⟨rfl, LeQ.rfl⟩, ⟨rfl, LeQ.rfl⟩, ⟨rfl, LeQ.rfl⟩, ⟨rfl, LeQ.rfl⟩, ⟨rfl, LeQ.rfl⟩, ⟨rfl, LeQ.rfl⟩, trivial⟩
  · intro i hi
    refine ex.sound (rc := [113, 156]) tab_ok mix href _ ?_
    refine And.intro (fun h1 => ?_) (fun h1 => ?_)
    · have h1 : (i : Int) < c.axis.length := decT h1
      have hi' : i < c.axis.length := by omega
      refine oi ⟨by omega, by omega⟩ ?_
      refine ⟨[(1002, 601)], _, _, _, _, box1 c m i hi', rfl, ⟨rfl, rfl, trivial⟩, rfl, ?_⟩
      refine ⟨i + 1, by omega, by omega, ?_⟩
      exact SubI.of [] (by rw [href]; rfl) rfl ⟨⟨rfl, LeBx.rfl⟩, ⟨rfl, LeBx.rfl⟩, ⟨rfl, LeBx.rfl⟩, ⟨rfl, LeBx.row rfl fun k j hk hj => LeD.of_eq (box_step hi' hk hj)⟩, ⟨rfl, LeBx.rfl⟩, trivial⟩ ⟨⟨rfl, LeQ.rfl⟩, ⟨rfl, LeQ.rfl⟩, ⟨rfl, LeQ.rfl⟩, ⟨rfl, LeQ.rfl⟩, ⟨rfl, LeQ.rfl⟩, ⟨rfl, LeQ.rfl⟩, ⟨rfl, LeQ.int (w64_of (by omega) (by omega))⟩, trivial⟩
    · have h1 : ¬ (i : Int) < c.axis.length := decF h1
      obtain rfl : i = c.axis.length := by omega
      have hle : LeD (.slc c.axis.length 5 (boxF c m c.axis.length)) (dAps (boxC c m).axis) := LeD.slc' (by simp [boxC]) fun k j hk hj => LeD.of_eq (boxF_all hk)
      refine callN ((gCheck (boxC c m) (boxC_ok hc m)).conv (args' := _) ⟨⟨LeD.refl _, hle, LeD.refl _, LeD.refl _, LeD.refl _, trivial⟩, trivial⟩) ?_
      refine And.intro (fun h2 => ?_) (fun h2 => ?_)
      · have h2 : (errC (boxC c m) != 0) = true := h2
        refine ⟨?_, rfl, trivial⟩
        have e : chgR (boxC c m) = (zeroC, errC (boxC c m)) := by unfold chgR; rw [h2]; rfl
        rw [e]
        exact zero_rCE rfl
      · have h2 : (errC (boxC c m) != 0) = false := h2
        refine ⟨?_, rfl, trivial⟩
        have e : chgR (boxC c m) = (boxC c m, 0) := by unfold chgR; rw [h2]; rfl
        rw [e]
        exact SubR.t ⟨⟨LeD.refl _, hle, LeD.refl _, LeD.refl _, LeD.refl _, trivial⟩, LeD.refl _, trivial⟩
theorem changedDeep (c : Chan) (m : Int) (hc : c.ok) (hv : Val c) (hr : c.regions.length ≤ 1000) (hcr : ∀ i, i < c.regions.length → (c.regions.getD i default).corners.length ≤ 1000000) :
    CallR Tryz.prog 111 [chan c, .s (.clo 112 [.ptr 1001 0])] [(1001, .cells [.d (dI m)])] (rCE (chgR (deepC c m)).1 (chgR (deepC c m)).2) [(1001, .cells [.d (dI m)])] := by
  have n2 := hv.n2
  have n20 := hv.n20
  refine callR_of_ex (rc := [112, 156]) (N := 31) Tryz.func111 rfl rfl Tryz.call111 tab_ok mix rfl rfl rfl rfl (fun cx href => ?_)
  refine ⟨[(501, 601)], _, _, _, _, copiedO c (by omega) (by omega) hr hcr, rfl, trivial, rfl, ?_⟩
  refine AW.loopI (fun i : Nat => ⟨[(1, .s (.clo 112 [.ptr 1001 0])), (2, .s (.ptr 2 0)), (4, .s (.ptr 4 0)), (5, vI 0), (6, .s (.ptr 6 0)), (13, vI c.axis.length), (14, vI i)],
      [(2, some (chanB c)), (4, some (.cells (zvs ty25.zero))), (6, some (.cells [.d (dS c.name), .own 601, .d (dI c.over), .d (dI c.buffer), .d (dRegs c.regions)])), (601, some (.row 115 c.axis.length 5 (deepF c m i))), (1001, some (.cells [.d (dI m)]))]⟩)
    (fun i => i ≤ c.axis.length) (fun i => c.axis.length - i) 0 (Nat.zero_le _) ?_ ?_
  · exact SubI.of [] (by rw [href]; rfl) rfl ⟨⟨rfl, LeBx.rfl⟩, ⟨rfl, LeBx.rfl⟩, ⟨rfl, LeBx.rfl⟩, ⟨rfl, LeBx.row rfl fun k j _ _ => LeD.refl _⟩, ⟨rfl, LeBx.rfl⟩, trivial⟩ ⟨⟨rfl, LeQ.rfl⟩, ⟨rfl, LeQ.rfl⟩, ⟨rfl, LeQ.rfl⟩, ⟨rfl, LeQ.rfl⟩, ⟨rfl, LeQ.rfl⟩, ⟨rfl, LeQ.rfl⟩, ⟨rfl, LeQ.rfl⟩, trivial⟩
  · intro i hi
    refine ex.sound (rc := [112, 156]) tab_ok mix href _ ?_
    refine And.intro (fun h1 => ?_) (fun h1 => ?_)
    · have h1 : (i : Int) < c.axis.length := decT h1
      have hi' : i < c.axis.length := by omega
      refine oi ⟨by omega, by omega⟩ ?_
      refine ⟨[(1002, 601)], _, _, _, _, deep1 c m i hi', rfl, ⟨rfl, rfl, trivial⟩, rfl, ?_⟩
      refine ⟨i + 1, by omega, by omega, ?_⟩
      exact SubI.of [] (by rw [href]; rfl) rfl ⟨⟨rfl, LeBx.rfl⟩, ⟨rfl, LeBx.rfl⟩, ⟨rfl, LeBx.rfl⟩, ⟨rfl, LeBx.row rfl fun k j hk hj => LeD.of_eq (deep_step hi' hk hj)⟩, ⟨rfl, LeBx.rfl⟩, trivial⟩ ⟨⟨rfl, LeQ.rfl⟩, ⟨rfl, LeQ.rfl⟩, ⟨rfl, LeQ.rfl⟩, ⟨rfl, LeQ.rfl⟩, ⟨rfl, LeQ.rfl⟩, ⟨rfl, LeQ.rfl⟩, ⟨rfl, LeQ.int (w64_of (by omega) (by omega))⟩, trivial⟩
    · have h1 : ¬ (i : Int) < c.axis.length := decF h1
      obtain rfl : i = c.axis.length := by omega
      have hle : LeD (.slc c.axis.length 5 (deepF c m c.axis.length)) (dAps (deepC c m).axis) := LeD.slc' (by simp [deepC]) fun k j hk hj => LeD.of_eq (deepF_all hk)
      refine callN ((gCheck (deepC c m) (deepC_ok hc m)).conv (args' := _) ⟨⟨LeD.refl _, hle, LeD.refl _, LeD.refl _, LeD.refl _, trivial⟩, trivial⟩) ?_
      refine And.intro (fun h2 => ?_) (fun h2 => ?_)
      · have h2 : (errC (deepC c m) != 0) = true := h2
        refine ⟨?_, rfl, trivial⟩
        have e : chgR (deepC c m) = (zeroC, errC (deepC c m)) := by unfold chgR; rw [h2]; rfl
        rw [e]
        exact zero_rCE rfl
      · have h2 : (errC (deepC c m) != 0) = false := h2
        refine ⟨?_, rfl, trivial⟩
        have e : chgR (deepC c m) = (deepC c m, 0) := by unfold chgR; rw [h2]; rfl
        rw [e]
        exact SubR.t ⟨⟨LeD.refl _, hle, LeD.refl _, LeD.refl _, LeD.refl _, trivial⟩, LeD.refl _, trivial⟩

def boxR (c : Chan) (m : Int) : Chan × Int := bif errC c != 0 then (zeroC, errC c) else bif !within m 0 100000 then (zeroC, 2) else chgR (boxC c m)
def deepR (c : Chan) (m : Int) : Chan × Int := bif errC c != 0 then (zeroC, errC c) else bif !within m (-20000) 20000 then (zeroC, 2) else chgR (deepC c m)
attribute [local irreducible] errC in
theorem gBox (c : Chan) (m : Int) (hc : c.ok) (hr : c.regions.length ≤ 1000) (hcr : ∀ i, i < c.regions.length → (c.regions.getD i default).corners.length ≤ 1000000) :
    CallP Tryz.prog 49 [chan c, vI m] (rCE (boxR c m).1 (boxR c m).2) := by
  refine callP_of_ex (rc := [111]) (N := 21) Tryz.func49 rfl rfl Tryz.call49 tab_ok mix rfl rfl (fun cx href => ?_)
  refine callN (gCheck c hc) ?_
  refine And.intro (fun h1 => ?_) (fun h1 => ?_)
  · have h1 : (errC c != 0) = true := h1
    rw [show boxR c m = (zeroC, errC c) by unfold boxR; rw [h1]; rfl]
    exact zero_rCE rfl
  have h1 : (errC c != 0) = false := h1
  refine callN (outside _ _ _) ?_
  refine And.intro (fun h2 => ?_) (fun h2 => ?_)
  · have h2 : (!within m 0 100000) = true := h2
    rw [show boxR c m = (zeroC, 2) by unfold boxR; rw [h1, h2]; rfl]
    exact zero_rCE rfl
  have h2 : (!within m 0 100000) = false := h2
  rw [show boxR c m = chgR (boxC c m) by unfold boxR; rw [h1, h2]; rfl]
  refine ⟨[(1001, 3)], _, _, _, _, changedBox c m hc (val_of c (by simpa using h1)) hr hcr, rfl, ⟨rfl, trivial⟩, rfl, ?_⟩
  exact SubR.refl _
attribute [local irreducible] errC in
theorem gDeepen (c : Chan) (m : Int) (hc : c.ok) (hr : c.regions.length ≤ 1000) (hcr : ∀ i, i < c.regions.length → (c.regions.getD i default).corners.length ≤ 1000000) :
    CallP Tryz.prog 48 [chan c, vI m] (rCE (deepR c m).1 (deepR c m).2) := by
  refine callP_of_ex (rc := [111]) (N := 21) Tryz.func48 rfl rfl Tryz.call48 tab_ok mix rfl rfl (fun cx href => ?_)
  refine callN (gCheck c hc) ?_
  refine And.intro (fun h1 => ?_) (fun h1 => ?_)
  · have h1 : (errC c != 0) = true := h1
    rw [show deepR c m = (zeroC, errC c) by unfold deepR; rw [h1]; rfl]
    exact zero_rCE rfl
  have h1 : (errC c != 0) = false := h1
  refine callN (outside _ _ _) ?_
  refine And.intro (fun h2 => ?_) (fun h2 => ?_)
  · have h2 : (!within m (-20000) 20000) = true := h2
    rw [show deepR c m = (zeroC, 2) by unfold deepR; rw [h1, h2]; rfl]
    exact zero_rCE rfl
  have h2 : (!within m (-20000) 20000) = false := h2
  rw [show deepR c m = chgR (deepC c m) by unfold deepR; rw [h1, h2]; rfl]
  refine ⟨[(1001, 3)], _, _, _, _, changedDeep c m hc (val_of c (by simpa using h1)) hr hcr, rfl, ⟨rfl, trivial⟩, rfl, ?_⟩
  exact SubR.refl _
end Go.Ch

namespace Go.Ch
open Go Go.Ax Go.Proofs Go.Proofs.Tryz
set_option maxRecDepth 100000
set_option pp.maxSteps 400
set_option maxHeartbeats 1000000

theorem desV_mono {l m : List Prt} (h : ∀ x ∈ l, (lvlP x).2 = true → ∃ y ∈ m, (lvlP y).2 = true ∧ (lvlP y).1 ≤ (lvlP x).1) (hl : (desV l).2 = true) : (desV m).2 = true ∧ (desV m).1 ≤ (desV l).1 := by
  rcases desV_is l with ⟨e, _⟩ | ⟨_, ⟨x, hx, ex⟩, _⟩
  · rw [e] at hl; cases hl
  obtain ⟨y, hy, y1, y2⟩ := h x hx (by rw [ex]; exact hl)
  rw [ex] at y2
  rcases desV_is m with ⟨_, k⟩ | ⟨k1, _, k3⟩
  · rw [k y hy] at y1; cases y1
  · exact ⟨k1, Int.le_trans (k3 y hy y1) y2⟩
theorem mixE_sub {u v s d m : Int} (hs : 0 < s) : mixE (u - m) (v - m) s d = mixE u v s d - m := by
  unfold mixE
  have e : (u - m) * (s - d) + (v - m) * d = u * (s - d) + v * d + (-m) * s := by
    rw [Int.sub_mul, Int.sub_mul, Int.mul_sub m, Int.neg_mul]; omega
  rw [e, Int.add_mul_ediv_right _ _ (by omega)]; omega
theorem map_at {c : Chan} {f : Ap → Ap} {k : Nat} (hk : k < c.axis.length) : (c.axis.map f).getD k default = f (axis c k) := by
  unfold axis; simp [hk]
section
variable {c : Chan} {p : Pt} {m : Int}
theorem deep_at (hv : Val c) (hm : 0 ≤ m ∧ m ≤ 20000) {k : Nat} (hk : k < c.axis.length) : axis (deepC c m) k = { axis c k with level := (axis c k).level - m } := by
  have l1 : c.over - 20000 ≤ (axis c k).level ∧ (axis c k).level ≤ 20000 := hv.level k hk
  have ho := hv.over
  refine (map_at (f := deepA m) hk).trans ?_
  unfold deepA
  rw [w64_of (by omega) (by omega)]
theorem box_at (hv : Val c) {k : Nat} (hk : k < c.axis.length) : axis (boxC c 0) k = { axis c k with run := 0 } := by
  have l1 : 1 ≤ (axis c k).half ∧ (axis c k).half ≤ 100000 := hv.half k hk
  refine (map_at (f := boxA 0) hk).trans ?_
  unfold boxA
  rw [w64_of (by omega) (by omega), Int.add_zero]
abbrev lowP (m : Int) (x : Prt) : Prt := { x with bottom := x.bottom - m }
theorem deep_leg (hv : Val c) (hm : 0 ≤ m ∧ m ≤ 20000) {k : Nat} (hk : k + 1 < c.axis.length) : legF (deepC c m) k p = (legF c k p).map (lowP m) := by
  have hs : 0 < dotE (axis c k).pt (axis c (k + 1)).pt (axis c (k + 1)).pt := sq_pos (hv.apart k (by omega))
  have e1 : legF (deepC c m) k p = legP (axis (deepC c m) k) (axis (deepC c m) (k + 1)) p := rfl
  have e2 : legF c k p = legP (axis c k) (axis c (k + 1)) p := rfl
  rw [e1, e2, deep_at hv hm (by omega), deep_at hv hm hk]
  generalize axis c k = a at *
  generalize axis c (k + 1) = b at *
  unfold legP
  show (bif decide (dotE a.pt b.pt p < 0) || decide (dotE a.pt b.pt p > dotE a.pt b.pt b.pt) then none else some (⟨offs a.pt b.pt p, mixE a.half b.half (dotE a.pt b.pt b.pt) (dotE a.pt b.pt p), mixE (a.level - m) (b.level - m) (dotE a.pt b.pt b.pt) (dotE a.pt b.pt p), a.run⟩ : Prt)) = _
  rw [mixE_sub hs]
  cases (decide (dotE a.pt b.pt p < 0) || decide (dotE a.pt b.pt p > dotE a.pt b.pt b.pt)) <;> rfl
theorem deep_bend (hv : Val c) (hm : 0 ≤ m ∧ m ≤ 20000) {j : Nat} (hj : j + 2 < c.axis.length) : bendN (deepC c m) j p = (bendN c j p).map (lowP m) := by
  unfold bendN
  rw [deep_at hv hm (by omega), deep_at hv hm (by omega), deep_at hv hm hj]
  generalize axis c j = a at *
  generalize axis c (j + 1) = q at *
  generalize axis c (j + 2) = b at *
  unfold bendP
  show (bif decide (dotE a.pt q.pt p ≤ dotE a.pt q.pt q.pt) || decide (dotE q.pt b.pt p ≥ 0) then none else some (⟨span q.pt p, q.half, q.level - m, q.run⟩ : Prt)) = _
  cases (decide (dotE a.pt q.pt p ≤ dotE a.pt q.pt q.pt) || decide (dotE q.pt b.pt p ≥ 0)) <;> rfl
abbrev boxP (x : Prt) : Prt := { x with run := 0 }
theorem box_leg (hv : Val c) {k : Nat} (hk : k + 1 < c.axis.length) : legF (boxC c 0) k p = (legF c k p).map boxP := by
  have e1 : legF (boxC c 0) k p = legP (axis (boxC c 0) k) (axis (boxC c 0) (k + 1)) p := rfl
  have e2 : legF c k p = legP (axis c k) (axis c (k + 1)) p := rfl
  rw [e1, e2, box_at hv (by omega), box_at hv hk]
  generalize axis c k = a at *
  generalize axis c (k + 1) = b at *
  unfold legP
  show (bif decide (dotE a.pt b.pt p < 0) || decide (dotE a.pt b.pt p > dotE a.pt b.pt b.pt) then none else some (⟨offs a.pt b.pt p, mixE a.half b.half (dotE a.pt b.pt b.pt) (dotE a.pt b.pt p), mixE a.level b.level (dotE a.pt b.pt b.pt) (dotE a.pt b.pt p), 0⟩ : Prt)) = _
  cases (decide (dotE a.pt b.pt p < 0) || decide (dotE a.pt b.pt p > dotE a.pt b.pt b.pt)) <;> rfl
theorem box_bend (hv : Val c) {j : Nat} (hj : j + 2 < c.axis.length) : bendN (boxC c 0) j p = (bendN c j p).map boxP := by
  unfold bendN
  rw [box_at hv (by omega), box_at hv (by omega), box_at hv hj]
  generalize axis c j = a at *
  generalize axis c (j + 1) = q at *
  generalize axis c (j + 2) = b at *
  unfold bendP
  show (bif decide (dotE a.pt q.pt p ≤ dotE a.pt q.pt q.pt) || decide (dotE q.pt b.pt p ≥ 0) then none else some (⟨span q.pt p, q.half, q.level, 0⟩ : Prt)) = _
  cases (decide (dotE a.pt q.pt p ≤ dotE a.pt q.pt q.pt) || decide (dotE q.pt b.pt p ≥ 0)) <;> rfl
theorem fm_map {α : Type} {n : Nat} {f g : Nat → Option α} {t : α → α} (h : ∀ k, k < n → g k = (f k).map t) : (List.range n).filterMap g = ((List.range n).filterMap f).map t := by
  induction n with
  | zero => rfl
  | succ n ih =>
    rw [List.range_succ, List.filterMap_append, List.filterMap_append, List.map_append, ih fun k hk => h k (by omega)]
    congr 1
    simp only [List.filterMap_cons, List.filterMap_nil, h n (Nat.lt_succ_self n)]
    cases f n <;> rfl
theorem deep_parts (hv : Val c) (hm : 0 ≤ m ∧ m ≤ 20000) : partsL (deepC c m) p = (partsL c p).map (lowP m) := by
  have h2 := hv.n2
  have hl : (deepC c m).axis.length = c.axis.length := by simp [deepC]
  unfold partsL legsL bendsL
  rw [hl, List.map_append, fm_map (f := fun k => legF c k p) (t := lowP m) fun k hk => deep_leg hv hm (by omega), fm_map (f := fun j => bendN c j p) (t := lowP m) fun j hj => deep_bend hv hm (by omega)]
theorem box_parts (hv : Val c) : partsL (boxC c 0) p = (partsL c p).map boxP := by
  have h2 := hv.n2
  have hl : (boxC c 0).axis.length = c.axis.length := by simp [boxC]
  unfold partsL legsL bendsL
  rw [hl, List.map_append, fm_map (f := fun k => legF c k p) (t := boxP) fun k hk => box_leg hv (by omega), fm_map (f := fun j => bendN c j p) (t := boxP) fun j hj => box_bend hv (by omega)]
theorem lvl_low {x : Prt} (hx : PrtOk c x) (hv : Val c) (hm : 0 ≤ m ∧ m ≤ 20000) (h : (lvlP x).2 = true) : (lvlP (lowP m x)).2 = true ∧ (lvlP (lowP m x)).1 ≤ (lvlP x).1 := by
  obtain ⟨h1, h2, h3, h4⟩ := hx
  have ho := hv.over
  unfold lvlP lvl at h ⊢
  cases c1 : decide (x.offset ≤ x.half) with
  | true => simp only [cond_true]; exact ⟨trivial, by omega⟩
  | false =>
    rw [c1] at h
    have c1 := decF c1
    cases c2 : (x.run == 0) with
    | true => rw [c2] at h; cases h
    | false =>
      rw [c2] at h
      have c2 : x.run ≠ 0 := by simpa using c2
      have hq : 0 ≤ (x.offset - x.half).tdiv x.run ∧ (x.offset - x.half).tdiv x.run ≤ 8000000000000 := by
        rw [Int.tdiv_eq_ediv_of_nonneg (by omega)]
        exact ⟨Int.ediv_nonneg (by omega) (by omega), Int.le_trans (Int.ediv_le_self _ (by omega)) (by omega)⟩
      have e : w64 (x.bottom + w64 ((w64 (x.offset - x.half)).tdiv x.run)) = x.bottom + (x.offset - x.half).tdiv x.run := by
        rw [w64_of (n := x.offset - x.half) (by omega) (by omega), w64_of (n := (x.offset - x.half).tdiv x.run) (by omega) (by omega), w64_of (by omega) (by omega)]
      have e' : w64 (x.bottom - m + w64 ((w64 (x.offset - x.half)).tdiv x.run)) = x.bottom - m + (x.offset - x.half).tdiv x.run := by
        rw [w64_of (n := x.offset - x.half) (by omega) (by omega), w64_of (n := (x.offset - x.half).tdiv x.run) (by omega) (by omega), w64_of (by omega) (by omega)]
      simp only [cond_false] at h ⊢
      have h := decT h
      rw [e] at h ⊢
      rw [e']
      exact ⟨decide_eq_true (by omega), by omega⟩
theorem lvl_box {x : Prt} (h : (lvlP (boxP x)).2 = true) : (lvlP x).2 = true ∧ (lvlP x).1 ≤ (lvlP (boxP x)).1 := by
  unfold lvlP lvl at h ⊢
  cases c1 : decide (x.offset ≤ x.half) with
  | true => simp only [cond_true]; exact ⟨trivial, Int.le_refl _⟩
  | false =>
    rw [c1] at h
    simp at h
theorem desF_deep (hv : Val c) (hm : 0 ≤ m ∧ m ≤ 20000) (hp : good p = true) (h : (desF c p).2 = true) : (desF (deepC c m) p).2 = true ∧ (desF (deepC c m) p).1 ≤ (desF c p).1 := by
  unfold desF at h ⊢
  refine desV_mono (fun x hx h2 => ?_) h
  rw [deep_parts hv hm]
  obtain ⟨a, b⟩ := lvl_low (parts_ok hv hp hx) hv hm h2
  exact ⟨_, List.mem_map_of_mem hx, a, b⟩
theorem desF_box (hv : Val c) (h : (desF (boxC c 0) p).2 = true) : (desF c p).2 = true ∧ (desF c p).1 ≤ (desF (boxC c 0) p).1 := by
  unfold desF at h ⊢
  refine desV_mono (fun x hx h2 => ?_) h
  rw [box_parts hv] at hx
  obtain ⟨y, hy, rfl⟩ := List.mem_map.1 hx
  obtain ⟨a, b⟩ := lvl_box h2
  exact ⟨y, hy, a, b⟩
end
end Go.Ch

namespace Go.Ch
open Go Go.Ax Go.Proofs Go.Proofs.Tryz
set_option maxRecDepth 100000
set_option pp.maxSteps 400
set_option maxHeartbeats 1000000

theorem map_pt {l : List Ap} {f : Ap → Ap} (hf : ∀ a, (f a).pt = a.pt) (j : Nat) : ((l.map f).getD j default).pt = (l.getD j default).pt := by
  by_cases h : j < l.length
  · simp [h, hf]
  · simp [h]
theorem sameA_map {l : List Ap} {f : Ap → Ap} (hf : ∀ a, (f a).pt = a.pt) (i : Nat) : sameA (l.map f) i = sameA l i := by
  unfold sameA; rw [map_pt hf, map_pt hf]
theorem axErrF_ok {over : Int} {l : List Ap} : ∀ n i, (∀ j, i ≤ j → j < i + n → badA over (l.getD j default) = false ∧ sameA l j = false) → axErrF over l n i = 0
  | 0, _, _ => rfl
  | n + 1, i, h => by
    obtain ⟨h1, h2⟩ := h i (Nat.le_refl _) (by omega)
    rw [axErrF, h1, h2]
    exact axErrF_ok n (i + 1) fun j h1 h2 => h j (by omega) (by omega)
/-- The parts of a channel's error. -/
theorem errC_parts {c : Chan} (h : errC c = 0) : isName c.name = true ∧ (!within c.over 0 1000 || !within c.buffer 0 100000) = false ∧ axErr c = 0 ∧ decide ((c.regions.length : Int) > 20) = false ∧ regErrF c.regions c.regions.length 0 = 0 := by
  unfold errC at h
  cases h1 : isName c.name with
  | false => rw [h1] at h; cases h
  | true =>
    rw [h1] at h
    cases h2 : (!within c.over 0 1000 || !within c.buffer 0 100000) with
    | true => rw [h2] at h; cases h
    | false =>
      rw [h2] at h
      cases h3 : axErr c != 0 with
      | true =>
        rw [h3] at h
        have h : axErr c = 0 := h
        rw [h] at h3; cases h3
      | false =>
        rw [h3] at h
        cases h4 : decide ((c.regions.length : Int) > 20) with
        | true => rw [h4] at h; cases h
        | false => rw [h4] at h; exact ⟨rfl, rfl, by simpa using h3, rfl, h⟩
theorem errC_axis {c : Chan} {f : Ap → Ap} (h : errC c = 0) : errC { c with axis := c.axis.map f } = axErr { c with axis := c.axis.map f } := by
  obtain ⟨h1, h2, _, h4, h5⟩ := errC_parts h
  unfold errC
  simp only [h1, h2, h4, h5]
  cases h6 : axErr { c with axis := c.axis.map f } != 0 with
  | true => rfl
  | false =>
    have : axErr { c with axis := c.axis.map f } = 0 := by simpa using h6
    rw [this]; rfl
theorem axErr_parts {c : Chan} (h : axErr c = 0) : decide ((c.axis.length : Int) < 2) = false ∧ decide ((c.axis.length : Int) > 20) = false ∧ axErrF c.over c.axis c.axis.length 0 = 0 := by
  unfold axErr at h
  cases a1 : decide ((c.axis.length : Int) < 2) with
  | true => rw [a1] at h; cases h
  | false =>
    cases a2 : decide ((c.axis.length : Int) > 20) with
    | true => rw [a1, a2] at h; cases h
    | false => rw [a1, a2] at h; exact ⟨rfl, rfl, h⟩
theorem errC_deep {c : Chan} {m : Int} (h : errC c = 0) : errC (deepC c m) = 0 ∨ errC (deepC c m) = 2 := by
  have e : errC (deepC c m) = axErr (deepC c m) := errC_axis h
  obtain ⟨_, _, h3, _, _⟩ := errC_parts h
  obtain ⟨a1, a2, a3⟩ := axErr_parts h3
  have hA : ∀ i, i < c.axis.length → sameA c.axis i = false := fun i hi => (axErrF_zero a3 i (Nat.zero_le _) (by omega)).2
  rw [e]
  unfold axErr deepC
  simp only [List.length_map, a1, a2, cond_false]
  have key : ∀ n i, i + n ≤ c.axis.length → axErrF c.over (c.axis.map (deepA m)) n i = 0 ∨ axErrF c.over (c.axis.map (deepA m)) n i = 2 := by
    intro n
    induction n with
    | zero => intro i _; exact .inl rfl
    | succ n ih =>
      intro i hi
      rw [axErrF, sameA_map (f := deepA m) (fun _ => rfl), hA i (by omega)]
      cases badA c.over ((c.axis.map (deepA m)).getD i default) with
      | true => exact .inr rfl
      | false => exact ih (i + 1) (by omega)
  exact key _ 0 (by omega)
theorem errC_box {c : Chan} (h : errC c = 0) : errC (boxC c 0) = 0 := by
  have e : errC (boxC c 0) = axErr (boxC c 0) := errC_axis h
  obtain ⟨_, _, h3, _, _⟩ := errC_parts h
  obtain ⟨a1, a2, a3⟩ := axErr_parts h3
  have hA : ∀ i, i < c.axis.length → badA c.over (c.axis.getD i default) = false ∧ sameA c.axis i = false := fun i hi => axErrF_zero a3 i (Nat.zero_le _) (by omega)
  have hv := val_of c h
  rw [e]
  unfold axErr boxC
  simp only [List.length_map, a1, a2, cond_false]
  refine axErrF_ok _ 0 fun j _ hj => ⟨?_, by rw [sameA_map (f := boxA 0) (fun _ => rfl)]; exact (hA j (by omega)).2⟩
  have hj : j < c.axis.length := by omega
  have hb := (hA j hj).1
  have hh := hv.half j hj
  have e2 : (c.axis.map (boxA 0)).getD j default = { c.axis.getD j default with run := 0 } := box_at hv hj
  rw [e2]
  generalize c.axis.getD j default = a at *
  unfold badA at hb ⊢
  simp only [Bool.or_eq_false_iff] at hb ⊢
  exact ⟨⟨⟨hb.1.1.1, hb.1.1.2⟩, hb.1.2⟩, rfl⟩
section
variable {c d : Chan} {g : Grid}
/-- d has a design where c has, not higher. -/
def Under (c d : Chan) (g : Grid) : Prop := ∀ i, i < g.levels.length → (desF c (centreG g i)).2 = true → (desF d (centreG g i)).2 = true ∧ (desF d (centreG g i)).1 ≤ (desF c (centreG g i)).1
theorem needS_in {sum level : Int} {i : Nat} (gv : GVal g) (hi : i < g.levels.length) (hl : -20000 ≤ level ∧ level ≤ 20000) (h0 : 0 ≤ sum) (h1 : sum ≤ i * 10000000000000) :
    ∃ x, needS g sum i level = sum + x ∧ 0 ≤ x ∧ x ≤ 10000000000000 ∧ x = (bif g.levels.getD i 0 == 30000 then 0 else areaG g * max 0 (g.levels.getD i 0 - level)) := by
  have hn := gv.n
  unfold needS
  cases hL : g.levels.getD i 0 == 30000 with
  | true =>
    have hL' : (g.levels.getD i 0 != 30000) = false := by simpa using hL
    rw [hL']
    exact ⟨0, by simp, by omega, by omega, rfl⟩
  | false =>
    have hL' : (g.levels.getD i 0 != 30000) = true := by simpa using hL
    have hb := lev_in gv hi hL
    rw [hL']
    obtain ⟨_, hA⟩ := area_in gv
    obtain ⟨v1, v2, v3⟩ := vol_in (x := g.levels.getD i 0 - level) hA (by omega)
    simp only [cond_true, cond_false]
    rw [w64_of (n := g.levels.getD i 0 - level) (by omega) (by omega), v1, w64_of (by omega) (by omega)]
    exact ⟨_, rfl, v2, v3, rfl⟩
theorem need_le (hc : Val c) (hd : Val d) (gv : GVal g) (hu : Under c d g) : ∀ i, i ≤ g.levels.length → 0 ≤ needL c g i ∧ needL c g i ≤ needL d g i ∧ needL d g i ≤ i * 10000000000000
  | 0, _ => ⟨Int.le_refl _, Int.le_refl _, Int.le_refl _⟩
  | i + 1, hi => by
    have hn := gv.n
    have hi' : i < g.levels.length := by omega
    have ih := need_le hc hd gv hu i (by omega)
    obtain ⟨_, hA⟩ := area_in gv
    have oc := hc.over
    have od := hd.over
    rw [needL, needL]
    cases h1 : (desF c (centreG g i)).2 with
    | true =>
      obtain ⟨h2, h3⟩ := hu i hi' h1
      have b1 := desF_ok hc (centre_good gv hi').1 h1
      have b2 := desF_ok hd (centre_good gv hi').1 h2
      rw [h2]
      simp only [cond_true]
      obtain ⟨x, e1, x0, x1, ex⟩ := needS_in (sum := needL c g i) gv hi' (level := (desF c (centreG g i)).1) (by omega) (by omega) (by omega)
      obtain ⟨y, e2, y0, y1, ey⟩ := needS_in (sum := needL d g i) gv hi' (level := (desF d (centreG g i)).1) (by omega) (by omega) (by omega)
      have hxy : x ≤ y := by
        rw [ex, ey]
        cases g.levels.getD i 0 == 30000 with
        | true => exact Int.le_refl _
        | false => exact Int.mul_le_mul_of_nonneg_left (by omega) hA.1
      rw [e1, e2]; omega
    | false =>
      cases h2 : (desF d (centreG g i)).2 with
      | false => simp only [cond_false]; omega
      | true =>
        have b2 := desF_ok hd (centre_good gv hi').1 h2
        obtain ⟨y, e2, y0, y1, ey⟩ := needS_in (sum := needL d g i) gv hi' (level := (desF d (centreG g i)).1) (by omega) (by omega) (by omega)
        simp only [cond_true, cond_false]
        rw [e2]; omega
theorem open_le (hu : Under c d g) : ∀ i, i ≤ g.levels.length → (openL c g i).length ≤ (openL d g i).length
  | 0, _ => Nat.le_refl _
  | i + 1, hi => by
    have ih := open_le hu i (by omega)
    rw [openL_succ, openL_succ]
    cases h1 : openC c g i with
    | true =>
      have h2 : openC d g i = true := by
        unfold openC at h1 ⊢
        simp only [Bool.and_eq_true, decide_eq_true_eq] at h1 ⊢
        obtain ⟨a, b⟩ := hu i (by omega) h1.1
        exact ⟨a, h1.2.1, by omega⟩
      rw [h2]; simp; omega
    | false =>
      cases openC d g i with
      | true => simp; omega
      | false => exact ih
end
end Go.Ch

namespace Go.Ch
open Go Go.Ax Go.Proofs Go.Proofs.Tryz
set_option maxRecDepth 100000
set_option pp.maxSteps 400
set_option maxHeartbeats 1000000

theorem rU16 : Rd Tryz.prog 83 1 (fun n : Int => [.d (u16D n)]) u16ok :=
  (rd_int Tryz.underlying83 (by kernel_rfl)).to (ok' := u16ok) id (fun _ => rfl) (fun n h => by
    have h : (Lit.int .u16 n).wf = true := h
    simp [Lit.wf, IntKind.min, IntKind.max, IntKind.signed, IntKind.bits] at h
    exact ⟨by show 0 ≤ n; omega, by show n ≤ 65535; omega⟩)
theorem withErr1_of {c : Chan} {g : Grid} (h1 : errC c = 0) (h2 : errG g = 0) : withErr c [g] = 0 := by rw [withErr1, h1, h2]; rfl
theorem box_law {c : Chan} {g : Grid} (he : errC c = 0) (gv : GVal g) (i : Nat) (hi : i < g.levels.length) :
    ((designG (boxC c 0) g 0).levels.getD i 0 != 30000 && ((designG c g 0).levels.getD i 0 == 30000 || decide ((designG c g 0).levels.getD i 0 > (designG (boxC c 0) g 0).levels.getD i 0))) = false := by
  have hv := val_of c he
  have hb := val_of (boxC c 0) (errC_box he)
  have n1 := cellT0_ne hv gv hi
  have n2 := cellT0_ne hb gv hi
  have v1 := cellT0 hv gv hi
  have v2 := cellT0 hb gv hi
  rw [designG_at _ _ _ hi, designG_at _ _ _ hi, n2]
  cases h : (desF (boxC c 0) (centreG g i)).2 with
  | false => rfl
  | true =>
    obtain ⟨k1, k2⟩ := desF_box hv h
    rw [k1] at n1 v1
    rw [h] at v2
    simp only [cond_true] at v1 v2
    have e : (cellT c g 0 i == 30000) = false := by simpa using n1
    rw [e, v1, v2]
    simp only [Bool.false_or, Bool.true_and, decide_eq_false_iff_not]
    omega
attribute [local irreducible] withErr few small designG errG errC needL openL in
theorem Deeper (c : Chan) (g : Grid) (b : Int) (hc : c.ok) (hg : g.ok) (hb : u16ok b) : CallP Tryz.prog 11 [chan c, grid g, .s (.d (u16D b))] (vB true) := by
  refine callP_of_ex (rc := []) (N := 171) Tryz.func11 rfl rfl Tryz.call11 tab_ok mix rfl rfl (fun cx href => ?_)
  refine callN awake ?_
  refine And.intro (fun h => by cases h) (fun _ => ?_)
  refine callN (Small c hc) ?_
  repeat first | refine sk ?_ | refine st ?_ | refine sg ?_ | refine sh ?_ | refine su ?_ | refine sn1 ?_ | refine sn0 ?_
  refine callG (Few g hg.levels) ?_
  repeat first | refine sk ?_ | refine st ?_ | refine sg ?_ | refine sh ?_ | refine su ?_ | refine sn1 ?_ | refine sn0 ?_
  refine And.intro (fun h1 => ?_) (fun _ => SubR.lit rfl)
  refine ob (congrArg (gpol false) h1) ?_
  refine ob (congrArg (gpol false) h1) ?_
  have h1 : (!small c || !few g) = false := h1
  have hs : small c = true := by
    cases h : small c
    · rw [h] at h1; cases h1
    · rfl
  have hsm := Sm.of hs
  have hsr := hsm.regions
  refine callN ((rWith c [g] hc (by intro x hx; simp at hx; subst hx; exact hg) (by simp)).conv (args' := _) ⟨⟨LeD.refl _, LeD.refl _, LeD.refl _, LeD.refl _, LeD.refl _, trivial⟩, LeD.slc' rfl fun i j hi hj => LeD.of_eq ?_, trivial⟩) ?_
  · match i, j, hi, hj with
    | 0, 0, _, _ => rfl
    | 0, 1, _, _ => rfl
    | 0, 2, _, _ => rfl
    | 0, 3, _, _ => rfl
    | 0, 4, _, _ => rfl
    | 0, 5, _, _ => rfl
  refine And.intro (fun _ => SubR.lit rfl) (fun h2 => ?_)
  have h2 : (withErr c [g] != 0) = false := h2
  have h0 : withErr c [g] = 0 := by simpa using h2
  obtain ⟨g1, g2⟩ := withErr1_zero h0
  have hv := val_of c g1
  have gv := GVal.of g2
  have hn := gv.n
  obtain ⟨b0, b1⟩ := hb
  have em : ∃ m, m = (w64 b).tmod 2000 ∧ 0 ≤ m ∧ m < 2000 := by
    refine ⟨_, rfl, ?_⟩
    rw [w64_of (n := b) (by omega) (by omega), Int.tmod_eq_emod_of_nonneg b0]
    exact ⟨Int.emod_nonneg _ (by decide), Int.emod_lt_of_pos _ (by decide)⟩
  obtain ⟨m, em, m0, m1⟩ := em
  have hcr : ∀ i, i < c.regions.length → (c.regions.getD i default).corners.length ≤ 1000000 := fun i hi => by have := hsm.corners i hi; omega
  have hDp := gDeepen c m hc (by omega) hcr
  have hBx := gBox c 0 hc (by omega) hcr
  have hN := Needed c g hc hg
  have hO := Open c g hc hg
  have wb := withErr1_of (errC_box g1) g2
  have hX := gDesignGrid (boxC c 0) g (boxC_ok hc 0) hg
  have hY := gDesignGrid c g hc hg
  rw [show boxR c 0 = (boxC c 0, 0) by unfold boxR chgR; rw [g1, errC_box g1]; rfl] at hBx
  rw [show gridR (boxC c 0) g 0 = (designG (boxC c 0) g 0, 0) by unfold gridR; rw [wb]; rfl] at hX
  rw [show gridR c g 0 = (designG c g 0, 0) by unfold gridR; rw [h0]; rfl] at hY
  rw [show needF c g = needL c g g.levels.length by unfold needF; rw [h0]; rfl, h0] at hN
  rw [show openF c g = openL c g g.levels.length by unfold openF; rw [h0]; rfl, h0] at hO
  have hwm : within m (-20000) 20000 = true := by simp [within]; omega
  have eD : deepR c m = chgR (deepC c m) := by unfold deepR; rw [g1, hwm]; rfl
  rw [eD] at hDp
  have hbox := fun i hi => box_law (g := g) g1 gv i hi
  have hlx : (designG (boxC c 0) g 0).levels.length = g.levels.length := designG_len _ _ _
  have hly : (designG c g 0).levels.length = g.levels.length := designG_len _ _ _
  have hol := openL_len c g g.levels.length
  refine oi (by decide) ?_
  have hDp' : CallP Tryz.prog 48 [chan c, vI ((w64 b).tmod 2000)] (rCE (chgR (deepC c m)).1 (chgR (deepC c m)).2) := by rw [← em]; exact hDp
  rcases errC_deep (m := m) g1 with hd | hd
  · have hvd := val_of (deepC c m) hd
    have hu : Under c (deepC c m) g := fun i hi h => desF_deep hv (by omega) (centre_good gv hi).1 h
    have hnl := need_le hv hvd gv hu g.levels.length (Nat.le_refl _)
    have hop := open_le hu g.levels.length (Nat.le_refl _)
    have wd := withErr1_of hd g2
    have hold := openL_len (deepC c m) g g.levels.length
    have hN2 := Needed (deepC c m) g (deepC_ok hc m) hg
    have hO2 := Open (deepC c m) g (deepC_ok hc m) hg
    rw [show needF (deepC c m) g = needL (deepC c m) g g.levels.length by unfold needF; rw [wd]; rfl, wd] at hN2
    rw [show openF (deepC c m) g = openL (deepC c m) g g.levels.length by unfold openF; rw [wd]; rfl, wd] at hO2
    rw [show chgR (deepC c m) = (deepC c m, 0) by unfold chgR; rw [hd]; rfl] at hDp'
    refine callN hDp' ?_
    refine callN hN ?_
    refine callN hO ?_
    refine callN hBx ?_
    repeat first | refine sk ?_ | refine st ?_ | refine sg ?_ | refine sh ?_ | refine su ?_ | refine sn1 ?_ | refine sn0 ?_
    refine And.intro (fun h3 => by cases h3) (fun _ => ?_)
    refine And.intro (fun _ => ?_) (fun h3 => by cases h3)
    refine callN hN2 ?_
    refine callN hO2 ?_
    repeat first | refine sk ?_ | refine st ?_ | refine sg ?_ | refine sh ?_ | refine su ?_ | refine sn1 ?_ | refine sn0 ?_
    refine And.intro (fun h3 => ?_) (fun _ => ?_)
    · exfalso
      have h3 : ((((0 : Int) != 0 || (0 : Int) != 0) || decide (needL (deepC c m) g g.levels.length < needL c g g.levels.length)) || decide (((openL (deepC c m) g g.levels.length).length : Int) < ((openL c g g.levels.length).length : Int))) = true := h3
      simp at h3
      omega
    refine callN hX ?_
    refine callN hY ?_
    repeat first | refine sk ?_ | refine st ?_ | refine sg ?_ | refine sh ?_ | refine su ?_ | refine sn1 ?_ | refine sn0 ?_
    refine And.intro (fun h3 => ?_) (fun _ => ?_)
    · exfalso
      have h3 : (((0 : Int) != 0 || (0 : Int) != 0) || ((designG (boxC c 0) g 0).levels.length : Int) != ((designG c g 0).levels.length : Int)) = true := h3
      rw [hlx, hly] at h3
      simp at h3
    refine AW.loopI (fun i : Nat => ⟨[(19, .s (.ptr 19 0)), (21, .s (.ptr 21 0)), (23, vI i)], [(19, some (gridB (designG (boxC c 0) g 0))), (21, some (gridB (designG c g 0)))]⟩)
      (fun i => i ≤ g.levels.length) (fun i => g.levels.length - i) 0 (Nat.zero_le _) ?_ ?_
    · exact SubI.of0 href [] rfl ⟨⟨rfl, LeBx.rfl⟩, ⟨rfl, LeBx.rfl⟩, trivial⟩ ⟨⟨rfl, LeQ.rfl⟩, ⟨rfl, LeQ.rfl⟩, ⟨rfl, LeQ.rfl⟩, trivial⟩
    · intro i hi
      refine ex.sound (rc := []) tab_ok mix href _ ?_
      refine And.intro (fun h => ?_) (fun h => ?_)
      · have h : (i : Int) < (designG (boxC c 0) g 0).levels.length := decT h
        have hi' : i < g.levels.length := by omega
        have hlaw := hbox i hi'
        refine oi ⟨by omega, by omega⟩ ?_
        repeat first | refine sk ?_ | refine st ?_ | refine sg ?_ | refine sh ?_ | refine su ?_ | refine sn1 ?_ | refine sn0 ?_
        refine og (fun _ => ⟨by omega, by omega⟩) ?_
        repeat first | refine sk ?_ | refine st ?_ | refine sg ?_ | refine sh ?_ | refine su ?_ | refine sn1 ?_ | refine sn0 ?_
        refine og (fun _ => ⟨by omega, by omega⟩) ?_
        repeat first | refine sk ?_ | refine st ?_ | refine sg ?_ | refine sh ?_ | refine su ?_ | refine sn1 ?_ | refine sn0 ?_
        refine og (fun _ => ⟨by omega, by omega⟩) ?_
        repeat first | refine sk ?_ | refine st ?_ | refine sg ?_ | refine sh ?_ | refine su ?_ | refine sn1 ?_ | refine sn0 ?_
        refine And.intro (by kernel_rfl) ?_
        refine And.intro (fun h5 => ?_) (fun _ => ?_)
        · exfalso
          have h5 : ((designG (boxC c 0) g 0).levels.getD i 0 != 30000 && ((designG c g 0).levels.getD i 0 == 30000 || decide ((designG c g 0).levels.getD i 0 > (designG (boxC c 0) g 0).levels.getD i 0))) = true := h5
          rw [hlaw] at h5; cases h5
        · refine ⟨i + 1, by omega, by omega, ?_⟩
          exact SubI.of0 href [] rfl ⟨⟨rfl, LeBx.rfl⟩, ⟨rfl, LeBx.rfl⟩, trivial⟩ ⟨⟨rfl, LeQ.rfl⟩, ⟨rfl, LeQ.rfl⟩, ⟨rfl, LeQ.int (w64_of (by omega) (by omega))⟩, trivial⟩
      · exact SubR.lit rfl
  · rw [show chgR (deepC c m) = (zeroC, 2) by unfold chgR; rw [hd]; rfl] at hDp'
    refine callN hDp' ?_
    refine callN hN ?_
    refine callN hO ?_
    refine callN hBx ?_
    repeat first | refine sk ?_ | refine st ?_ | refine sg ?_ | refine sh ?_ | refine su ?_ | refine sn1 ?_ | refine sn0 ?_
    refine And.intro (fun h3 => by cases h3) (fun _ => ?_)
    refine And.intro (fun h3 => by cases h3) (fun _ => ?_)
    refine And.intro (fun h3 => by cases h3) (fun _ => ?_)
    refine callN hX ?_
    refine callN hY ?_
    repeat first | refine sk ?_ | refine st ?_ | refine sg ?_ | refine sh ?_ | refine su ?_ | refine sn1 ?_ | refine sn0 ?_
    refine And.intro (fun h3 => ?_) (fun _ => ?_)
    · exfalso
      have h3 : (((0 : Int) != 0 || (0 : Int) != 0) || ((designG (boxC c 0) g 0).levels.length : Int) != ((designG c g 0).levels.length : Int)) = true := h3
      rw [hlx, hly] at h3
      simp at h3
    refine AW.loopI (fun i : Nat => ⟨[(19, .s (.ptr 19 0)), (21, .s (.ptr 21 0)), (23, vI i)], [(19, some (gridB (designG (boxC c 0) g 0))), (21, some (gridB (designG c g 0)))]⟩)
      (fun i => i ≤ g.levels.length) (fun i => g.levels.length - i) 0 (Nat.zero_le _) ?_ ?_
    · exact SubI.of0 href [] rfl ⟨⟨rfl, LeBx.rfl⟩, ⟨rfl, LeBx.rfl⟩, trivial⟩ ⟨⟨rfl, LeQ.rfl⟩, ⟨rfl, LeQ.rfl⟩, ⟨rfl, LeQ.rfl⟩, trivial⟩
    · intro i hi
      refine ex.sound (rc := []) tab_ok mix href _ ?_
      refine And.intro (fun h => ?_) (fun h => ?_)
      · have h : (i : Int) < (designG (boxC c 0) g 0).levels.length := decT h
        have hi' : i < g.levels.length := by omega
        have hlaw := hbox i hi'
        refine oi ⟨by omega, by omega⟩ ?_
        repeat first | refine sk ?_ | refine st ?_ | refine sg ?_ | refine sh ?_ | refine su ?_ | refine sn1 ?_ | refine sn0 ?_
        refine og (fun _ => ⟨by omega, by omega⟩) ?_
        repeat first | refine sk ?_ | refine st ?_ | refine sg ?_ | refine sh ?_ | refine su ?_ | refine sn1 ?_ | refine sn0 ?_
        refine og (fun _ => ⟨by omega, by omega⟩) ?_
        repeat first | refine sk ?_ | refine st ?_ | refine sg ?_ | refine sh ?_ | refine su ?_ | refine sn1 ?_ | refine sn0 ?_
        refine og (fun _ => ⟨by omega, by omega⟩) ?_
        repeat first | refine sk ?_ | refine st ?_ | refine sg ?_ | refine sh ?_ | refine su ?_ | refine sn1 ?_ | refine sn0 ?_
        refine And.intro (by kernel_rfl) ?_
        refine And.intro (fun h5 => ?_) (fun _ => ?_)
        · exfalso
          have h5 : ((designG (boxC c 0) g 0).levels.getD i 0 != 30000 && ((designG c g 0).levels.getD i 0 == 30000 || decide ((designG c g 0).levels.getD i 0 > (designG (boxC c 0) g 0).levels.getD i 0))) = true := h5
          rw [hlaw] at h5; cases h5
        · refine ⟨i + 1, by omega, by omega, ?_⟩
          exact SubI.of0 href [] rfl ⟨⟨rfl, LeBx.rfl⟩, ⟨rfl, LeBx.rfl⟩, trivial⟩ ⟨⟨rfl, LeQ.rfl⟩, ⟨rfl, LeQ.rfl⟩, ⟨rfl, LeQ.int (w64_of (by omega) (by omega))⟩, trivial⟩
      · exact SubR.lit rfl
end Go.Ch
