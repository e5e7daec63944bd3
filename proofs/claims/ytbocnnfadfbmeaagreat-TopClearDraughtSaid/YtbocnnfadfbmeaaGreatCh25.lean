/- Part Ch25: lemmas that the proofs of this seat share; by itself it claims nothing. -/
import Derived.Test.YtbocnnfadfbmeaaGreatCh24
namespace Go.Ch
open Go Go.Ax Go.Proofs Go.Proofs.Tryz
set_option maxRecDepth 100000
set_option pp.maxSteps 400
set_option maxHeartbeats 1000000

structure RouV where
  level : Int
  path : List Int
  bar : List Int
  deriving Inhabited
abbrev intsOk (l : List Int) : Prop := l.length ≤ 9223372036854775807 ∧ ∀ a ∈ l, i64ok a
theorem rRou : Rd Tryz.prog 33 3 (fun r : RouV => [.d (dI r.level), .d (dInts r.path), .d (dInts r.bar)]) (fun r => i64ok r.level ∧ intsOk r.path ∧ intsOk r.bar) :=
  (rd_struct Tryz.underlying33 rfl (by kernel_rfl) (rdf_cons rfl rI (rdf_cons rfl rInts (rdf_cons rfl rInts rdf_nil)))).to (fun a => ⟨a.1, a.2.1, a.2.2.1⟩) (fun _ => rfl) (fun _ h => ⟨h.1, h.2.1, h.2.2.1⟩)
def WayV.ok (q : WayV) : Prop := intsOk q.fr ∧ intsOk q.to ∧ i64ok q.level ∧ intsOk q.path ∧ intsOk q.bar
theorem rWay : RdA Tryz.prog 40 wayA WayV.ok :=
  rda_agg (k := 5) Tryz.underlying40 ((rd_struct Tryz.underlying40 rfl (by kernel_rfl) (rdf_cons rfl rInts (rdf_cons rfl rInts (rdf_cons rfl rRou rdf_nil)))).to (fun a => ⟨a.1, a.2.1, a.2.2.1.level, a.2.2.1.path, a.2.2.1.bar⟩) (fun _ => rfl) (fun _ h => ⟨h.1, h.2.1, h.2.2.1.1, h.2.2.1.2.1, h.2.2.1.2.2⟩))
theorem endsG_R (g : Grid) (fr to : List Int) : endsG g fr to = bif errG g != 0 then errG g else endsR g fr to := rfl
end Go.Ch

namespace Go.Ch
open Go Go.Ax Go.Proofs Go.Proofs.Tryz
set_option maxRecDepth 100000
set_option pp.maxSteps 400
set_option maxHeartbeats 1000000

def routeW (g : Grid) (fr to : List Int) : WayV := ⟨fr, to, (clearG g fr to).1, (clearG g fr to).2.1, (clearG g fr to).2.2.1⟩
theorem endsG_swap {g : Grid} {fr to : List Int} (h : endsG g fr to = 0) : endsG g to fr = 0 := by
  obtain ⟨h1, h2, h3, h4⟩ := endsG_zero h
  unfold endsG endsErr
  rw [h1, h2, h3]
  have : (to ++ fr).all (there g) = true := by
    rw [List.all_eq_true]
    intro x hx
    refine h4 x ?_
    rcases List.mem_append.1 hx with h | h
    · exact List.mem_append_right _ h
    · exact List.mem_append_left _ h
  rw [this]; rfl
theorem clearG_zero {g : Grid} {fr to : List Int} (h : endsG g fr to = 0) : clearG g fr to = clearL g fr to (levelsL g.levels) := by
  unfold clearG; rw [h]; rfl
theorem lsGood_iff {g : Grid} {q : WayV} {i : Nat} : lsGood g q i = true ↔ knownG g i = true ∧ canGo (okMost g (levelAt g i)) (nearL g) q.fr q.to := by
  unfold lsGood lsReach
  rw [Bool.and_eq_true, goB_iff, uOk_most]
theorem level_cell {g : Grid} {m : Int} (h : m ∈ levelsL g.levels) : ∃ j : Nat, j < g.levels.length ∧ knownG g j = true ∧ levelAt g j = m := by
  obtain ⟨h1, h2⟩ := levelsL_mem.1 h
  obtain ⟨j, hj, e⟩ := List.mem_iff_getElem.1 h2
  have e2 : levelAt g j = m := by
    unfold levelAt
    rw [List.getD_eq_getElem?_getD, natOf, List.getElem?_eq_getElem hj]; exact e
  refine ⟨j, hj, ?_, e2⟩
  unfold knownG
  rw [there_iff.2 ⟨by omega, by omega⟩, e2, Bool.true_and]
  simpa using h1
theorem route_all {g : Grid} (hg : GVal g) {fr to : List Int} (h0 : endsG g fr to = 0) :
    ((lsF g (routeW g fr to) g.levels.length).2 = false ∧ clearG g fr to = (0, [], [], 11)) ∨
    ((lsF g (routeW g fr to) g.levels.length).2 = true ∧ (lsF g (routeW g fr to) g.levels.length).1 = (clearG g fr to).1 ∧ (clearG g fr to).2.2.2 = 0 ∧ Pr g (routeW g fr to) ∧ (clearG g to fr).1 = (clearG g fr to).1 ∧ (clearG g to fr).2.2.2 = 0) := by
  have hsp := lsF_spec g (routeW g fr to) g.levels.length
  have hsy : ∀ m, canGo (okMost g m) (nearL g) fr to ↔ canGo (okMost g m) (nearL g) to fr := fun m =>
    ⟨fun h => h.symm (near_symm hg (fun i h => okMost_known h)), fun h => h.symm (near_symm hg (fun i h => okMost_known h))⟩
  rcases clearL_spec g fr to (levelsL g.levels) with ⟨pre, m, suf, e1, e2, e3, e4⟩ | ⟨e1, e2⟩
  · right
    have hm : m ∈ levelsL g.levels := by rw [e1]; simp
    have hgo := (wayM_go hg m fr to).1 e3
    obtain ⟨j, hj, hk, he⟩ := level_cell hm
    have hgd : lsGood g (routeW g fr to) j = true := (lsGood_iff).2 ⟨hk, by rw [he]; exact hgo⟩
    have hr : clearG g fr to = (m, wayM g m fr to, barL g m g.levels.length, 0) := by rw [clearG_zero h0, e4]
    have hW : routeW g fr to = ⟨fr, to, m, wayM g m fr to, barL g m g.levels.length⟩ := by unfold routeW; rw [hr]
    rcases hsp with ⟨_, h2⟩ | ⟨h1, ⟨i, hi, hig, hie⟩, h3⟩
    · rw [h2 j hj] at hgd; cases hgd
    have hbest : (lsF g (routeW g fr to) g.levels.length).1 = m := by
      have b1 := h3 j hj hgd
      rw [he] at b1
      obtain ⟨k1, k2⟩ := (lsGood_iff).1 hig
      have b2 := first_level hg e1 e2 (level_in k1) k2
      rw [hie] at b2
      omega
    refine ⟨h1, by rw [hbest, hr], by rw [hr], ?_, ?_⟩
    · rw [hW]
      obtain ⟨w1, w2, ⟨a, ha, ha'⟩, z, hz, hz'⟩ := wayL_some (n := g.levels.length) (fun i h => there_iff.1 (okMost_known h)) (near_not g hg) e3
      have hne : 0 < (wayM g m fr to).length := List.length_pos_iff.2 e3
      have hall : ∀ k, k < (wayM g m fr to).length → okMost g m ((wayM g m fr to).getD k 0) = true := by
        intro k hk
        refine w2 _ ?_
        show _ ∈ wayM g m fr to
        rw [List.getD_eq_getElem?_getD, List.getElem?_eq_getElem hk]
        exact List.getElem_mem hk
      have hkn : ∀ k, k < (wayM g m fr to).length → knownG g ((wayM g m fr to).getD k 0) = true ∧ levelAt g ((wayM g m fr to).getD k 0) ≤ m := by
        intro k hk
        have := hall k hk
        unfold okMost at this
        simp only [Bool.and_eq_true, decide_eq_true_eq] at this
        exact this
      have hf : (wayM g m fr to).getD 0 0 ∈ fr := by
        have ha : (wayM g m fr to).head? = some a := ha
        rw [List.head?_eq_getElem?] at ha
        rw [List.getD_eq_getElem?_getD, ha]; exact ha'
      have hl : (wayM g m fr to).getD ((wayM g m fr to).length - 1) 0 ∈ to := by
        have hz : (wayM g m fr to).getLast? = some z := hz
        rw [List.getLast?_eq_getElem?] at hz
        rw [List.getD_eq_getElem?_getD, hz]; exact hz'
      refine ⟨prEnds_iff.2 ⟨hne, hf, hl⟩, fun k hk => ⟨(hkn k hk).1, (hkn k hk).2, fun hk0 => ?_⟩, ?_, ?_, ?_⟩
      · have hk : k < (wayM g m fr to).length := hk
        have := w1 (k - 1) (by show k - 1 + 1 < (wayM g m fr to).length; omega)
        rw [show k - 1 + 1 = k by omega] at this
        have := (near_mem hg (there_iff.2 (known_there (hkn (k - 1) (by omega)).1))).1 this
        rw [neigh_symm]; exact this.2
      · refine Classical.byContradiction fun hno => ?_
        have hlow : canGo (fun i => knownG g i && decide (levelAt g i < m)) (nearL g) fr to := by
          refine path_go (p := wayM g m fr to) e3 hf hl (fun k hk => ?_) w1
          have h1 := hkn k hk
          have h2 : levelAt g ((wayM g m fr to).getD k 0) ≠ m := fun e => hno ⟨k, hk, e⟩
          rw [h1.1, decide_eq_true (by omega)]; rfl
        obtain ⟨x, hx, hxm, hxg⟩ := lower_way (m := m) (fun i hi => by simpa using hi) hlow
        have := first_level hg e1 e2 hx hxg
        omega
      · intro i hi
        have := (barL_mem (Nat.le_refl _)).1 hi
        exact ⟨this.2.2.1, this.2.2.2⟩
      · intro hgo2
        obtain ⟨x, hx, hxm, hxg⟩ := lower_way (g := g) (m := m) (fun i hi => by
          unfold okFree at hi
          rw [Bool.and_eq_true, Bool.not_eq_true', ← Bool.not_eq_true, List.contains_iff_mem] at hi
          refine ⟨hi.1, ?_⟩
          have ht := known_there hi.1
          have : ¬ (levelAt g i ≥ m) := fun hge => hi.2 ((barL_mem (Nat.le_refl _)).2 ⟨ht.1, ht.2, hi.1, hge⟩)
          omega) hgo2
        have := first_level hg e1 e2 hx hxg
        omega
    · rw [hr, clearG_zero (endsG_swap h0)]
      rcases clearL_spec g to fr (levelsL g.levels) with ⟨pre', m', suf', f1, f2, f3, f4⟩ | ⟨f1, _⟩
      · rw [f4]
        refine ⟨?_, rfl⟩
        show m' = m
        have hm' : m' ∈ levelsL g.levels := by rw [f1]; simp
        have g1 := first_level hg e1 e2 hm' ((hsy m').2 ((wayM_go hg m' to fr).1 f3))
        have g2 := first_level hg f1 f2 hm ((hsy m).1 hgo)
        omega
      · exact absurd (f1 m hm) ((wayM_go hg m to fr).2 ((hsy m).1 hgo))
  · left
    refine ⟨?_, by rw [clearG_zero h0, e2]⟩
    rcases hsp with ⟨h1, _⟩ | ⟨_, ⟨i, hi, hig, hie⟩, _⟩
    · exact h1
    · obtain ⟨k1, k2⟩ := (lsGood_iff).1 hig
      exact absurd (e1 _ (level_in k1)) ((wayM_go hg _ fr to).2 k2)
theorem routeW_sm {g : Grid} (hg : GVal g) {fr to : List Int} (hf : fr.length ≤ 1000) (ht : to.length ≤ 1000) : (routeW g fr to).sm := by
  have hn := hg.n
  have h : (clearG g fr to).2.1.length ≤ 1025 ∧ (clearG g fr to).2.2.1.length ≤ 1024 := by
    unfold clearG
    cases endsG g fr to != 0 with
    | true => exact ⟨by simp, by simp⟩
    | false =>
      rw [cond_false]
      rcases clearL_spec g fr to (levelsL g.levels) with ⟨pre, m, suf, e1, e2, e3, e4⟩ | ⟨e1, e2⟩
      · rw [e4]
        have := wayM_len (g := g) m fr to
        have := barL_len g m g.levels.length
        exact ⟨by simp only; omega, by simp only; omega⟩
      · rw [e2]; exact ⟨by simp, by simp⟩
  exact ⟨hf, ht, by show (clearG g fr to).2.1.length ≤ _; omega, by show (clearG g fr to).2.2.1.length ≤ _; omega⟩
end Go.Ch
