/- Part Ch6: lemmas that the proofs of this seat share; by itself it claims nothing. -/
import Derived.Test.YtlnfjlaiclgjjaaCh3
namespace Go.Ch
open Go Go.Ax Go.Proofs Go.Proofs.Try
set_option maxRecDepth 100000
set_option pp.maxSteps 400
set_option maxHeartbeats 1000000

def lengthR (c : Chan) : Int × Int := bif errC c != 0 then (0, errC c) else (lenF c (c.axis.length - 1), 0)
theorem last_eq {c : Chan} (hv : Val c) : w64 ((c.axis.length : Int) - 1) = ((c.axis.length - 1 : Nat) : Int) := by
  have h2 := hv.n2
  have h20 := hv.n20
  rw [w64_of (by omega) (by omega)]; omega
attribute [local irreducible] errC in
theorem gLength (c : Chan) (hc : c.ok) : CallP Try.prog 9 [chan c] (rIE (lengthR c).1 (lengthR c).2) := by
  refine callP_of_ex (rc := []) (N := 16) Try.func9 rfl rfl Try.call9 tab_ok mix rfl rfl (fun cx href => ?_)
  refine callN (gCheck c hc) ?_
  refine And.intro (fun h => ?_) (fun h => ?_)
  · have h : (errC c != 0) = true := h
    have e : lengthR c = (0, errC c) := by unfold lengthR; rw [h]; rfl
    rw [e]
    exact SubR.t ⟨fun _ _ r => r, LeD.refl _, trivial⟩
  have h : (errC c != 0) = false := h
  have hv := val_of c (by simpa using h)
  have h2 := hv.n2
  have e : lengthR c = (lenF c (c.axis.length - 1), 0) := by unfold lengthR; rw [h]; rfl
  have cl : CallP Try.prog 35 [chan c, vI (w64 ((c.axis.length : Int) - 1))] (vI (lenF c (c.axis.length - 1))) := by
    rw [last_eq hv]; exact clength c (c.axis.length - 1) hv (by omega)
  refine callN cl ?_
  rw [e]
  exact SubR.t ⟨LeD.refl _, fun _ _ r => r, trivial⟩
attribute [local irreducible] errC small lenF in
theorem Checks (c : Chan) (hc : c.ok) : CallP Try.prog 3 [chan c] (vB true) := by
  refine callP_of_ex (rc := []) (N := 47) Try.func3 rfl rfl Try.call3 tab_ok mix rfl rfl (fun cx href => ?_)
  refine callN awake ?_
  refine And.intro (fun h => by cases h) (fun _ => ?_)
  refine callN (Small c hc) ?_
  refine And.intro (fun _ => SubR.lit rfl) (fun h1 => ?_)
  have h1 : (!small c) = false := h1
  have hs : small c = true := by simpa using h1
  refine callN (Copied c (Sm.of hs)) ?_
  refine callN (gLength c hc) ?_
  refine callN (rCheck c hc) ?_
  refine callN (Copied c (Sm.of hs)) ?_
  refine callN (gCheck c hc) ?_
  repeat first | refine sk ?_ | refine st ?_ | refine sg ?_ | refine sh ?_ | refine su ?_ | refine sn1 ?_ | refine sn0 ?_
  have e2 : (lengthR c).2 = errC c := by
    unfold lengthR
    cases h : errC c != 0 with
    | true => rfl
    | false => simp at h; exact h.symm
  refine And.intro (fun h => ?_) (fun _ => ?_)
  · exfalso
    have h : (errC c != errC c || (lengthR c).2 != errC c) = true := h
    rw [e2] at h
    simp at h
  repeat first | refine sk ?_ | refine st ?_ | refine sg ?_ | refine sh ?_ | refine su ?_ | refine sn1 ?_ | refine sn0 ?_
  refine callG (Legs c) ?_
  repeat first | refine sk ?_ | refine st ?_ | refine sg ?_ | refine sh ?_ | refine su ?_ | refine sn1 ?_ | refine sn0 ?_
  refine callGo (r := vI (lenF c (c.axis.length - 1))) (fun hb => ?_) ?_
  · have hb : (!(errC c != 0 && (lengthR c).1 == 0) && errC c == 0) = true := hb
    simp only [Bool.and_eq_true, beq_iff_eq] at hb
    have hv := val_of c hb.2
    have h2 := hv.n2
    show CallP Try.prog 13 [chan c, vI (w64 ((c.axis.length : Int) - 1))] _
    rw [last_eq hv]; exact rLength c (c.axis.length - 1) hv (by omega)
  repeat first | refine sk ?_ | refine st ?_ | refine sg ?_ | refine sh ?_ | refine su ?_ | refine sn1 ?_ | refine sn0 ?_
  refine And.intro (by kernel_rfl) ?_
  refine SubR.of_eq ?_
  show vB ((errC c != 0 && (lengthR c).1 == 0) || (errC c == 0 && (lengthR c).1 == lenF c (c.axis.length - 1))) = vB true
  unfold lengthR
  cases h : errC c != 0 with
  | true => rfl
  | false =>
    have h0 : errC c = 0 := by simpa using h
    rw [h0]; simp
end Go.Ch
