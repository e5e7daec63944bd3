/- Part Ch25: lemmas that the proofs of this seat share; by itself it claims nothing. -/
import Derived.Test.YtfdgbddmggoilaaCh24
namespace Go.Ch
open Go Go.Ax Go.Proofs Go.Proofs.Try
set_option maxRecDepth 100000
set_option pp.maxSteps 400
set_option maxHeartbeats 1000000

structure RouV where
  level : Int
  path : List Int
  bar : List Int
  deriving Inhabited
abbrev intsOk (l : List Int) : Prop := l.length ≤ 9223372036854775807 ∧ ∀ a ∈ l, i64ok a
theorem rRou : Rd Try.prog 94 3 (fun r : RouV => [.d (dI r.level), .d (dInts r.path), .d (dInts r.bar)]) (fun r => i64ok r.level ∧ intsOk r.path ∧ intsOk r.bar) :=
  (rd_struct Try.underlying94 rfl (by kernel_rfl) (rdf_cons rfl rI (rdf_cons rfl rInts (rdf_cons rfl rInts rdf_nil)))).to (fun a => ⟨a.1, a.2.1, a.2.2.1⟩) (fun _ => rfl) (fun _ h => ⟨h.1, h.2.1, h.2.2.1⟩)
def WayV.ok (q : WayV) : Prop := intsOk q.fr ∧ intsOk q.to ∧ i64ok q.level ∧ intsOk q.path ∧ intsOk q.bar
theorem rWay : RdA Try.prog 116 wayA WayV.ok :=
  rda_agg (k := 5) Try.underlying116 ((rd_struct Try.underlying116 rfl (by kernel_rfl) (rdf_cons rfl rInts (rdf_cons rfl rInts (rdf_cons rfl rRou rdf_nil)))).to (fun a => ⟨a.1, a.2.1, a.2.2.1.level, a.2.2.1.path, a.2.2.1.bar⟩) (fun _ => rfl) (fun _ h => ⟨h.1, h.2.1, h.2.2.1.1, h.2.2.1.2.1, h.2.2.1.2.2⟩))
theorem endsG_R (g : Grid) (fr to : List Int) : endsG g fr to = bif errG g != 0 then errG g else endsR g fr to := rfl
attribute [local irreducible] errG few endsR in
theorem Proofs (g : Grid) (q : WayV) (hg : g.ok) (hq : q.ok) : CallP Try.prog 16 [grid g, wayA q] (vB true) := by
  refine callP_of_ex (rc := []) (N := 87) Try.func16 rfl rfl Try.call16 tab_ok mix rfl rfl (fun cx href => ?_)
  refine callN bawake ?_
  refine And.intro (fun h => by cases h) (fun _ => ?_)
  refine callN (Few g hg.levels) ?_
  repeat first | refine sk ?_ | refine st ?_ | refine sg ?_ | refine sh ?_ | refine su ?_ | refine sn1 ?_ | refine sn0 ?_
  refine And.intro (fun _ => SubR.lit rfl) (fun h1 => ?_)
  have h1 : ((((!few g || decide ((q.fr.length : Int) > 8)) || decide ((q.to.length : Int) > 8)) || decide ((q.path.length : Int) > 40)) || decide ((q.bar.length : Int) > 40)) = false := h1
  simp only [Bool.or_eq_false_iff, decide_eq_false_iff_not] at h1
  have hs : q.sm := ⟨by omega, by omega, by omega, by omega⟩
  refine callN (gCheckClear g q hg hs) ?_
  refine callN (RCheck g hg.levels) ?_
  refine And.intro (fun h2 => ?_) (fun h2 => ?_)
  · have h2 : (errG g == 0) = true := h2
    have e0 : errG g = 0 := by simpa using h2
    have hv := GVal.of e0
    have ee : endsG g q.fr q.to = endsR g q.fr q.to := by rw [endsG_R, e0]; rfl
    refine callN (rEnds g q.fr q.to hs.fr hs.to) ?_
    refine And.intro (fun h3 => ?_) (fun h3 => ?_)
    · have h3 : (endsR g q.fr q.to != 0) = true := h3
      have : checkG g q = endsR g q.fr q.to := by unfold checkG; rw [ee, h3]; rfl
      rw [this]
      refine SubR.of_eq ?_
      show vB (endsR g q.fr q.to == endsR g q.fr q.to) = vB true
      simp
    · have h3 : (endsR g q.fr q.to != 0) = false := h3
      have z : endsG g q.fr q.to = 0 := by rw [ee]; simpa using h3
      have hth := (endsG_zero z).2.2.2
      refine callN (rProved g q hv hs (fun t ht => hth t (List.mem_append_right _ ht))) ?_
      rcases check_iff hv z with ⟨c1, c2⟩ | ⟨c1, c2⟩
      · have hp : provedB g q = true := (provedB_iff hv).2 c2
        rw [hp, c1]
        refine And.intro (fun h => by cases h) (fun _ => ?_)
        refine callN (gClear g q.fr q.to hg hs.fr hs.to) ?_
        repeat first | refine sk ?_ | refine st ?_ | refine sg ?_ | refine sh ?_ | refine su ?_ | refine sn1 ?_ | refine sn0 ?_
        obtain ⟨l1, l2⟩ := c2.level hv z
        refine SubR.of_eq ?_
        show vB ((((0 : Int) == 0) && ((clearG g q.fr q.to).2.2.2 == 0)) && ((clearG g q.fr q.to).1 == q.level)) = vB true
        rw [l1, l2]; simp
      · have hp : provedB g q = false := by
          cases hx : provedB g q with
          | false => rfl
          | true => exact absurd ((provedB_iff hv).1 hx) c2
        rw [hp, c1]
        refine And.intro (fun _ => ?_) (fun h => by cases h)
        exact SubR.lit rfl
  · have h2 : (errG g == 0) = false := h2
    have hne : (errG g != 0) = true := by rw [bne, h2]; rfl
    refine And.intro (fun h3 => ?_) (fun h3 => ?_)
    · have e1 : endsG g q.fr q.to = errG g := by rw [endsG_R, hne]; rfl
      have : checkG g q = errG g := by unfold checkG; rw [e1, hne]; rfl
      rw [this]
      refine SubR.of_eq ?_
      show vB (errG g == errG g) = vB true
      simp
    · exfalso
      have h3 : (errG g != 0) = false := h3
      rw [hne] at h3; cases h3
end Go.Ch
