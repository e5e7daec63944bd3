/- Part Ch28: lemmas that the proofs of this seat share; by itself it claims nothing. -/
import Derived.Test.YtfdgbddmggoilaaCh27
namespace Go.Ch
open Go Go.Ax Go.Proofs Go.Proofs.Try
set_option maxRecDepth 100000
set_option pp.maxSteps 400
set_option maxHeartbeats 2000000

def slight (m : Mesh) : Bool := (decide ((m.nodes.length : Int) ≤ 20) && decide ((m.tris.length : Int) ≤ 20)) || ((decide ((m.nodes.length : Int) > 1024) && decide ((m.nodes.length : Int) ≤ 1029)) && decide ((m.tris.length : Int) ≤ 20))
theorem Slight (m : Mesh) : CallP Try.prog 63 [mesh m] (vB (slight m)) := by
  refine callP_of_ex (rc := []) (N := 31) Try.func63 rfl rfl Try.call63 tab_ok mix rfl rfl (fun cx href => ?_)
  repeat first | refine sk ?_ | refine st ?_ | refine sg ?_ | refine sh ?_ | refine su ?_ | refine sn1 ?_ | refine sn0 ?_
  exact SubR.refl _
attribute [local irreducible] errM slight volF levT in
theorem Meshes (m : Mesh) (p : Pt) (lv : Int) (hm : m.ok) : CallP Try.prog 14 [mesh m, pt p, vI lv] (vB true) := by
  refine callP_of_ex (rc := []) (N := 100) Try.func14 rfl rfl Try.call14 tab_ok mix rfl rfl (fun cx href => ?_)
  refine callN bawake ?_
  refine And.intro (fun h => by cases h) (fun _ => ?_)
  refine callN (Slight m) ?_
  refine And.intro (fun _ => SubR.lit rfl) (fun h1 => ?_)
  refine callN (bMeshLevel m p hm) ?_
  refine callN (bMeshVolume m lv hm) ?_
  refine callN (rCheckMesh m hm) ?_
  refine callN (bCheckMesh m hm) ?_
  refine And.intro (fun h2 => ?_) (fun _ => ?_)
  · have h2 : (errM m != errM m) = true := h2
    simp at h2
  refine And.intro (fun h2 => ?_) (fun h2 => ?_)
  · have h2 : (errM m != 0) = true := h2
    have e1 : mlevG m p = ((0, 0), errM m) := by unfold mlevG; rw [h2]; rfl
    have e2 : mvolG m lv = (0, errM m) := by unfold mvolG; rw [h2]; rfl
    rw [e1, e2]
    repeat first | refine sk ?_ | refine st ?_ | refine sg ?_ | refine sh ?_ | refine su ?_ | refine sn1 ?_ | refine sn0 ?_
    refine SubR.of_eq ?_
    show vB ((((errM m == errM m) && (errM m == errM m)) && ((0 : Int) == 0 && ((0 : Int) == 0 && true))) && ((0 : Int) == 0)) = vB true
    simp
  have h2 : (errM m != 0) = false := h2
  have mv := MVal.of (show errM m = 0 by simpa using h2)
  have last : ∀ σ : AV, σ = σ := fun _ => rfl
  clear last
  have e2 : mvolG m lv = bif !within lv (-20000) 20000 then (0, 2) else (volF m lv m.tris.length, 0) := by unfold mvolG; rw [h2]; rfl
  refine callN (rFar p) ?_
  cases hp : good p with
  | false =>
    have e1 : mlevG m p = ((0, 0), 11) := by unfold mlevG; rw [h2, hp]; rfl
    rw [e1]
    refine And.intro (fun h => by cases h) (fun _ => ?_)
    repeat first | refine sk ?_ | refine st ?_ | refine sg ?_ | refine sh ?_ | refine su ?_ | refine sn1 ?_ | refine sn0 ?_
    refine And.intro (fun h => by cases h) (fun _ => ?_)
    refine callN (Leveled lv) ?_
    cases hw : within lv (-20000) 20000 with
    | false =>
      have e4 : mvolG m lv = (0, 2) := by rw [e2, hw]; rfl
      rw [e4]
      refine And.intro (fun _ => ?_) (fun h => by cases h)
      repeat first | refine sk ?_ | refine st ?_ | refine sg ?_ | refine sh ?_ | refine su ?_ | refine sn1 ?_ | refine sn0 ?_
      exact SubR.of_eq rfl
    | true =>
      have e4 : mvolG m lv = (volF m lv m.tris.length, 0) := by rw [e2, hw]; rfl
      rw [e4]
      refine And.intro (fun h => by cases h) (fun _ => ?_)
      repeat first | refine sk ?_ | refine st ?_ | refine sg ?_ | refine sh ?_ | refine su ?_ | refine sn1 ?_ | refine sn0 ?_
      refine callG (rMeshVolume m lv mv) ?_
      repeat first | refine sk ?_ | refine st ?_ | refine sg ?_ | refine sh ?_ | refine su ?_ | refine sn1 ?_ | refine sn0 ?_
      refine SubR.of_eq ?_
      show vB (((0 : Int) == 0) && (volF m lv m.tris.length == volF m lv m.tris.length)) = vB true
      simp
  | true =>
    refine And.intro (fun _ => ?_) (fun h => by cases h)
    refine callN (rMeshLevel m p mv hp) ?_
    cases hl : levT m p m.tris with
    | none =>
      have e1 : mlevG m p = ((0, 0), 11) := by unfold mlevG; rw [h2, hp, hl]; rfl
      have e3 : rlevG m p = ((0, 0), false) := by unfold rlevG; rw [hl]
      rw [e1, e3]
      refine And.intro (fun _ => ?_) (fun h => by cases h)
      repeat first | refine sk ?_ | refine st ?_ | refine sg ?_ | refine sh ?_ | refine su ?_ | refine sn1 ?_ | refine sn0 ?_
      refine And.intro (fun h => by cases h) (fun _ => ?_)
      refine callN (Leveled lv) ?_
      cases hw : within lv (-20000) 20000 with
      | false =>
        have e4 : mvolG m lv = (0, 2) := by rw [e2, hw]; rfl
        rw [e4]
        refine And.intro (fun _ => ?_) (fun h => by cases h)
        repeat first | refine sk ?_ | refine st ?_ | refine sg ?_ | refine sh ?_ | refine su ?_ | refine sn1 ?_ | refine sn0 ?_
        exact SubR.of_eq rfl
      | true =>
        have e4 : mvolG m lv = (volF m lv m.tris.length, 0) := by rw [e2, hw]; rfl
        rw [e4]
        refine And.intro (fun h => by cases h) (fun _ => ?_)
        repeat first | refine sk ?_ | refine st ?_ | refine sg ?_ | refine sh ?_ | refine su ?_ | refine sn1 ?_ | refine sn0 ?_
        refine callG (rMeshVolume m lv mv) ?_
        repeat first | refine sk ?_ | refine st ?_ | refine sg ?_ | refine sh ?_ | refine su ?_ | refine sn1 ?_ | refine sn0 ?_
        refine SubR.of_eq ?_
        show vB (((0 : Int) == 0) && (volF m lv m.tris.length == volF m lv m.tris.length)) = vB true
        simp
    | some f =>
      have e1 : mlevG m p = (f, 0) := by unfold mlevG; rw [h2, hp, hl]; rfl
      have e3 : rlevG m p = (f, true) := by unfold rlevG; rw [hl]
      rw [e1, e3]
      refine And.intro (fun h => by cases h) (fun _ => ?_)
      repeat first | refine sk ?_ | refine st ?_ | refine sg ?_ | refine sh ?_ | refine su ?_ | refine sn1 ?_ | refine sn0 ?_
      refine And.intro (fun h => by simp at h) (fun _ => ?_)
      refine callN (Leveled lv) ?_
      cases hw : within lv (-20000) 20000 with
      | false =>
        have e4 : mvolG m lv = (0, 2) := by rw [e2, hw]; rfl
        rw [e4]
        refine And.intro (fun _ => ?_) (fun h => by cases h)
        repeat first | refine sk ?_ | refine st ?_ | refine sg ?_ | refine sh ?_ | refine su ?_ | refine sn1 ?_ | refine sn0 ?_
        exact SubR.of_eq rfl
      | true =>
        have e4 : mvolG m lv = (volF m lv m.tris.length, 0) := by rw [e2, hw]; rfl
        rw [e4]
        refine And.intro (fun h => by cases h) (fun _ => ?_)
        repeat first | refine sk ?_ | refine st ?_ | refine sg ?_ | refine sh ?_ | refine su ?_ | refine sn1 ?_ | refine sn0 ?_
        refine callG (rMeshVolume m lv mv) ?_
        repeat first | refine sk ?_ | refine st ?_ | refine sg ?_ | refine sh ?_ | refine su ?_ | refine sn1 ?_ | refine sn0 ?_
        refine SubR.of_eq ?_
        show vB (((0 : Int) == 0) && (volF m lv m.tris.length == volF m lv m.tris.length)) = vB true
        simp

def okI3 (a b c : Int) : Prop := i64ok a ∧ i64ok b ∧ i64ok c
theorem rNd : Rd Try.prog 157 3 (fun p : Nd => [.d (dI p.x), .d (dI p.y), .d (dI p.lv)]) (fun p => okI3 p.x p.y p.lv) :=
  (rd_struct Try.underlying157 rfl (by kernel_rfl) (rdf_cons rfl rI (rdf_cons rfl rI (rdf_cons rfl rI rdf_nil)))).to (fun a => ⟨a.1, a.2.1, a.2.2.1⟩) (fun _ => rfl) (fun _ h => ⟨h.1, h.2.1, h.2.2.1⟩)
theorem rTr : Rd Try.prog 155 3 (fun p : Tr => [.d (dI p.a), .d (dI p.b), .d (dI p.c)]) (fun p => okI3 p.a p.b p.c) :=
  (rd_struct Try.underlying155 rfl (by kernel_rfl) (rdf_cons rfl rI (rdf_cons rfl rI (rdf_cons rfl rI rdf_nil)))).to (fun a => ⟨a.1, a.2.1, a.2.2.1⟩) (fun _ => rfl) (fun _ h => ⟨h.1, h.2.1, h.2.2.1⟩)
theorem rNds : Rd Try.prog 98 1 (fun l : List Nd => [.d (dNds l)]) (fun l => l.length ≤ 9223372036854775807 ∧ ∀ a ∈ l, okI3 a.x a.y a.lv) :=
  rd_slice Try.underlying98 (by kernel_rfl) rNd (by decide) ndD (fun _ => rfl) (fun a j hj => by match j, hj with | 0, _ => rfl | 1, _ => rfl | 2, _ => rfl)
theorem rTrs : Rd Try.prog 99 1 (fun l : List Tr => [.d (dTrs l)]) (fun l => l.length ≤ 9223372036854775807 ∧ ∀ a ∈ l, okI3 a.a a.b a.c) :=
  rd_slice Try.underlying99 (by kernel_rfl) rTr (by decide) trD (fun _ => rfl) (fun a j hj => by match j, hj with | 0, _ => rfl | 1, _ => rfl | 2, _ => rfl)
theorem rMesh : RdA Try.prog 101 mesh Mesh.ok :=
  rda_agg (k := 2) Try.underlying101 ((rd_struct Try.underlying101 rfl (by kernel_rfl) (rdf_cons rfl rNds (rdf_cons rfl rTrs rdf_nil))).to (fun a => ⟨a.1, a.2.1⟩) (fun _ => rfl) (fun _ h => ⟨h.1.1, h.2.1.1⟩))
end Go.Ch
