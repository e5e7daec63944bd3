/- Part Ch24: lemmas that the proofs of this seat share; by itself it claims nothing. -/
import Derived.Test.YtfdgbddmggoilaaCh23
namespace Go.Ch
open Go Go.Ax Go.Proofs Go.Proofs.Try
set_option maxRecDepth 100000
set_option pp.maxSteps 400
set_option maxHeartbeats 1000000

structure LineV where
  fr : Pt
  to : Pt
  n : Int
abbrev lineA (x : LineV) : AV := .g [.d (dI x.fr.x), .d (dI x.fr.y), .d (dI x.to.x), .d (dI x.to.y), .d (dI x.n)]
abbrev lineB (x : LineV) : Box := .cells [.d (dI x.fr.x), .d (dI x.fr.y), .d (dI x.to.x), .d (dI x.to.y), .d (dI x.n)]
theorem cellI_known {g : Grid} (hg : GVal g) {p : Pt} (h : decide (cellI g p < 0) = false) : 0 ≤ cellI g p ∧ cellI g p < g.levels.length := by
  cases ho : outG g p with
  | false => have := cellI_in hg ho; exact ⟨this.1, this.2.1⟩
  | true =>
    have : cellI g p = -1 := by unfold cellI; rw [ho]; rfl
    rw [this] at h; cases h
theorem rProfile (g : Grid) (a b : Pt) (n : Int) (hg : GVal g) (ha : good a = true) (hb : good b = true) (hn : 1 ≤ n ∧ n ≤ 200) : CallP Try.prog 46 [grid g, pt a, pt b, vI n] (vInts (profL g a b n (n.toNat + 1))) := by
  refine callP_of_ex (rc := []) (N := 57) Try.func46 rfl rfl Try.call46 tab_ok mix rfl rfl (fun cx href => ?_)
  refine AW.loopI (fun k : Nat => ⟨[(3, vI n), (4, .s (.ptr 4 0)), (5, .s (.ptr 5 0)), (6, .s (.ptr 6 0)), (9, .s (.mo (profL g a b n k).isEmpty 100)), (10, vI k)], [(4, some (gridB g)), (5, some (.cells [.d (dI a.x), .d (dI a.y)])), (6, some (.cells [.d (dI b.x), .d (dI b.y)])), (100, some (.mrow 3 (profL g a b n k).length 1 (intEl (profL g a b n k))))]⟩)
    (fun k => k ≤ n.toNat + 1) (fun k => n.toNat + 1 - k) 0 (Nat.zero_le _) ?_ ?_
  · exact SubI.of0 href [(100, 1000)] rfl ⟨⟨rfl, LeBx.rfl⟩, ⟨rfl, LeBx.rfl⟩, ⟨rfl, LeBx.rfl⟩, ⟨rfl, rfl⟩, trivial⟩ ⟨⟨rfl, LeQ.rfl⟩, ⟨rfl, LeQ.rfl⟩, ⟨rfl, LeQ.rfl⟩, ⟨rfl, LeQ.rfl⟩, ⟨rfl, LeQ.nil rfl⟩, ⟨rfl, LeQ.rfl⟩, trivial⟩
  · intro k hk
    have hs := profL_succ g a b n k
    have hlen := profL_len (g := g) (a := a) (b := b) (n := n) (m := k)
    refine ex.sound (rc := []) tab_ok mix href _ ?_
    refine And.intro (fun h => ?_) (fun h => ?_)
    · have h : (k : Int) ≤ n := decT h
      obtain ⟨w1, w2, w3, w4, r1, r2, w5, w6⟩ := plK_w (k := k) ha hb hn h
      have c1 : CallP Try.prog 98 [vI (w64 (w64 (b.x - a.x) * k)), vI n] (vI ((b.x - a.x) * k / n)) := by rw [w1, w3]; exact rfloor _ n r1 ⟨by omega, by omega⟩
      have c2 : CallP Try.prog 98 [vI (w64 (w64 (b.y - a.y) * k)), vI n] (vI ((b.y - a.y) * k / n)) := by rw [w2, w4]; exact rfloor _ n r2 ⟨by omega, by omega⟩
      have c3 : CallP Try.prog 24 [grid g, pt ⟨w64 (a.x + (b.x - a.x) * k / n), w64 (a.y + (b.y - a.y) * k / n)⟩] (vI (cellI g (plK a b n k))) := by rw [w5, w6]; exact rCell g (plK a b n k) hg
      refine callN c1 ?_
      refine callN c2 ?_
      refine callN c3 ?_
      refine And.intro (by kernel_rfl) ?_
      refine And.intro (fun h2 => ?_) (fun h2 => ?_)
      · have h2 : decide (cellI g (plK a b n k) ≥ 0) = true := h2
        have h2' : decide (cellI g (plK a b n k) < 0) = false := by
          have := decT h2
          exact decide_eq_false (by omega)
        have hv : pvK g a b n k = levelAt g (cellI g (plK a b n k)) := by unfold pvK; rw [h2']; rfl
        have hc := cellI_known hg h2'
        refine oi ⟨hc.1, hc.2⟩ ?_
        refine ob (by decide) ?_
        refine ob (by rw [bif_len]; show _ * 8 ≤ _; omega) ?_
        refine ob (fit1 (lt1 rfl)) ?_
        refine ⟨k + 1, by omega, by omega, ?_⟩
        rw [hs, hv]
        exact SubI.of0 href [(100, 55)] rfl ⟨⟨rfl, LeBx.rfl⟩, ⟨rfl, LeBx.rfl⟩, ⟨rfl, LeBx.rfl⟩, ⟨rfl, nearRow intRow rfl⟩, trivial⟩ ⟨⟨rfl, LeQ.rfl⟩, ⟨rfl, LeQ.rfl⟩, ⟨rfl, LeQ.rfl⟩, ⟨rfl, LeQ.rfl⟩, ⟨rfl, LeQ.mo (isEmpty_snoc _ _)⟩, ⟨rfl, LeQ.int (w64_of (by omega) (by omega))⟩, trivial⟩
      · have h2 : decide (cellI g (plK a b n k) ≥ 0) = false := h2
        have h2' : decide (cellI g (plK a b n k) < 0) = true := by
          have := decF h2
          exact decide_eq_true (by omega)
        have hv : pvK g a b n k = 30000 := by unfold pvK; rw [h2']; rfl
        refine ob (by decide) ?_
        refine ob (by rw [bif_len]; show _ * 8 ≤ _; omega) ?_
        refine ob (fit1 (lt1 rfl)) ?_
        refine ⟨k + 1, by omega, by omega, ?_⟩
        rw [hs, hv]
        exact SubI.of0 href [(100, 55)] rfl ⟨⟨rfl, LeBx.rfl⟩, ⟨rfl, LeBx.rfl⟩, ⟨rfl, LeBx.rfl⟩, ⟨rfl, nearRow intRow rfl⟩, trivial⟩ ⟨⟨rfl, LeQ.rfl⟩, ⟨rfl, LeQ.rfl⟩, ⟨rfl, LeQ.rfl⟩, ⟨rfl, LeQ.rfl⟩, ⟨rfl, LeQ.mo (isEmpty_snoc _ _)⟩, ⟨rfl, LeQ.int (w64_of (by omega) (by omega))⟩, trivial⟩
    · have h : ¬ (k : Int) ≤ n := decF h
      obtain rfl : k = n.toNat + 1 := by omega
      exact SubR.mo
def badLine (a b : Pt) (n : Int) : Bool := (!(good a && good b)) || !within n 1 200
def profE (g : Grid) (a b : Pt) (n : Int) : List Int × Int := bif errG g != 0 then ([], errG g) else bif badLine a b n then ([], 2) else (profL g a b n (n.toNat + 1), 0)
theorem gProfile (g : Grid) (a b : Pt) (n : Int) (hg : g.ok) : CallP Try.prog 44 [grid g, pt a, pt b, vI n] (.t [.s (.d (dInts (profE g a b n).1)), .s (.d (dI (profE g a b n).2))]) := by
  refine callP_of_ex (rc := []) (N := 83) Try.func44 rfl rfl Try.call44 tab_ok mix rfl rfl (fun cx href => ?_)
  refine callN (bcheck g hg.levels) ?_
  unfold profE
  refine And.intro (fun h => ?_) (fun h => ?_)
  · have h : (errG g != 0) = true := h
    rw [h]; exact SubR.t ⟨LeD.nil, LeD.refl _, trivial⟩
  have h : (errG g != 0) = false := h
  rw [h, cond_false]
  have hv : GVal g := GVal.of (show errG g = 0 by simpa using h)
  have e4 : outL (-1000000) 1000000 [a.x, a.y, b.x, b.y] = !(good a && good b) := by
    unfold outL good
    simp only [List.any_cons, List.any_nil, Bool.or_false]
    cases within a.x (-1000000) 1000000 <;> cases within a.y (-1000000) 1000000 <;> cases within b.x (-1000000) 1000000 <;> cases within b.y (-1000000) 1000000 <;> rfl
  refine callN ((bbetween (-1000000) 1000000 [a.x, a.y, b.x, b.y] (by simp)).conv (args' := _) ⟨LeD.refl _, LeD.refl _, LeD.slc fun i j hi hj => ?_, trivial⟩) ?_
  · obtain rfl : j = 0 := by have : j < 1 := hj; omega
    have hi : i < 4 := hi
    match i, hi with
    | 0, _ => exact LeD.of_eq rfl
    | 1, _ => exact LeD.of_eq rfl
    | 2, _ => exact LeD.of_eq rfl
    | 3, _ => exact LeD.of_eq rfl
  rw [e4]
  have e1 : outL 1 200 [n] = !within n 1 200 := by simp [outL]
  refine And.intro (fun hb => ?_) (fun hb => ?_)
  · have hb : (!(!(!(good a && good b)))) = false := hb
    have hgd : (good a && good b) = true := by
      cases hx : (good a && good b) with
      | true => rfl
      | false => rw [hx] at hb; cases hb
    repeat first | refine sk ?_ | refine st ?_ | refine sg ?_ | refine sh ?_ | refine su ?_ | refine sn1 ?_ | refine sn0 ?_
    refine ob (congrArg (gpol false) hb) ?_
    refine callN (CallP.conv (bbetween 1 200 [n] (by simp)) ?_) ?_
    · exact ⟨LeD.refl _, LeD.refl _, one1, trivial⟩
    rw [e1]
    repeat first | refine sk ?_ | refine st ?_ | refine sg ?_ | refine sh ?_ | refine su ?_ | refine sn1 ?_ | refine sn0 ?_
    refine And.intro (fun h1 => ?_) (fun h1 => ?_)
    · have h1 : (!(!(!within n 1 200))) = true := h1
      have hbl : badLine a b n = true := by
        unfold badLine
        rw [Bool.not_not] at h1
        rw [h1, Bool.or_true]
      rw [hbl, cond_true]
      exact SubR.t ⟨LeD.nil, LeD.refl _, trivial⟩
    · have h1 : (!(!(!within n 1 200))) = false := h1
      rw [Bool.not_not] at h1
      have hbl : badLine a b n = false := by
        unfold badLine
        rw [hgd, h1]; rfl
      rw [hbl, cond_false]
      rw [Bool.and_eq_true] at hgd
      obtain ⟨ha, hb2⟩ := hgd
      have hn : 1 ≤ n ∧ n ≤ 200 := by
        have h1 : within n 1 200 = true := by simpa using h1
        unfold within at h1
        simp only [Bool.and_eq_true, decide_eq_true_eq] at h1
        omega
      have ew : w64 (n + 1) = n + 1 := w64_of (by omega) (by omega)
      refine AW.loopI (fun k : Nat => ⟨[(3, vI n), (4, .s (.ptr 4 0)), (5, .s (.ptr 5 0)), (6, .s (.ptr 6 0)), (11, .s (.mo (profL g a b n k).isEmpty 100)), (37, vI (n + 1)), (38, vI k)], [(4, some (gridB g)), (5, some (.cells [.d (dI a.x), .d (dI a.y)])), (6, some (.cells [.d (dI b.x), .d (dI b.y)])), (100, some (.mrow 3 (profL g a b n k).length 1 (intEl (profL g a b n k))))]⟩)
        (fun k => k ≤ n.toNat + 1) (fun k => n.toNat + 1 - k) 0 (Nat.zero_le _) ?_ ?_
      · exact SubI.of0 href [(100, 1000)] rfl ⟨⟨rfl, LeBx.rfl⟩, ⟨rfl, LeBx.rfl⟩, ⟨rfl, LeBx.rfl⟩, ⟨rfl, rfl⟩, trivial⟩ ⟨⟨rfl, LeQ.rfl⟩, ⟨rfl, LeQ.rfl⟩, ⟨rfl, LeQ.rfl⟩, ⟨rfl, LeQ.rfl⟩, ⟨rfl, LeQ.nil rfl⟩, ⟨rfl, LeQ.int ew⟩, ⟨rfl, LeQ.rfl⟩, trivial⟩
      · intro k hk
        have hs := profL_succ g a b n k
        have hlen := profL_len (g := g) (a := a) (b := b) (n := n) (m := k)
        refine ex.sound (rc := []) tab_ok mix href _ ?_
        refine And.intro (fun h => ?_) (fun h => ?_)
        · have h : (k : Int) < n + 1 := decT h
          obtain ⟨w1, w2, w3, w4, r1, r2, w5, w6⟩ := plK_w (k := k) ha hb2 hn (by omega)
          have c1 : CallP Try.prog 97 [vI (w64 (w64 (b.x - a.x) * k)), vI n] (vI ((b.x - a.x) * k / n)) := by rw [w1, w3]; exact bfloor _ n r1 ⟨by omega, by omega⟩
          have c2 : CallP Try.prog 97 [vI (w64 (w64 (b.y - a.y) * k)), vI n] (vI ((b.y - a.y) * k / n)) := by rw [w2, w4]; exact bfloor _ n r2 ⟨by omega, by omega⟩
          have c3 : CallP Try.prog 75 [grid g, pt ⟨w64 (a.x + (b.x - a.x) * k / n), w64 (a.y + (b.y - a.y) * k / n)⟩] (vI (cellI g (plK a b n k))) := by rw [w5, w6]; exact bcell g (plK a b n k) hv
          refine callN c1 ?_
          refine callN c2 ?_
          refine callN c3 ?_
          refine And.intro (by kernel_rfl) ?_
          refine And.intro (fun h2 => ?_) (fun h2 => ?_)
          · have h2 : decide (cellI g (plK a b n k) < 0) = true := h2
            have hv : pvK g a b n k = 30000 := by unfold pvK; rw [h2]; rfl
            refine ob (by decide) ?_
            refine ob (by rw [bif_len]; show _ * 8 ≤ _; omega) ?_
            refine ob (fit1 (lt1 rfl)) ?_
            refine ⟨k + 1, by omega, by omega, ?_⟩
            rw [hs, hv]
            exact SubI.of0 href [(100, 72)] rfl ⟨⟨rfl, LeBx.rfl⟩, ⟨rfl, LeBx.rfl⟩, ⟨rfl, LeBx.rfl⟩, ⟨rfl, nearRow intRow rfl⟩, trivial⟩ ⟨⟨rfl, LeQ.rfl⟩, ⟨rfl, LeQ.rfl⟩, ⟨rfl, LeQ.rfl⟩, ⟨rfl, LeQ.rfl⟩, ⟨rfl, LeQ.mo (isEmpty_snoc _ _)⟩, ⟨rfl, LeQ.rfl⟩, ⟨rfl, LeQ.int (w64_of (by omega) (by omega))⟩, trivial⟩
          · have h2 : decide (cellI g (plK a b n k) < 0) = false := h2
            have hv2 : pvK g a b n k = levelAt g (cellI g (plK a b n k)) := by unfold pvK; rw [h2]; rfl
            have hc := cellI_known hv h2
            refine oi ⟨hc.1, hc.2⟩ ?_
            refine ob (by decide) ?_
            refine ob (by rw [bif_len]; show _ * 8 ≤ _; omega) ?_
            refine ob (fit1 (lt1 rfl)) ?_
            refine ⟨k + 1, by omega, by omega, ?_⟩
            rw [hs, hv2]
            exact SubI.of0 href [(100, 80)] rfl ⟨⟨rfl, LeBx.rfl⟩, ⟨rfl, LeBx.rfl⟩, ⟨rfl, LeBx.rfl⟩, ⟨rfl, nearRow intRow rfl⟩, trivial⟩ ⟨⟨rfl, LeQ.rfl⟩, ⟨rfl, LeQ.rfl⟩, ⟨rfl, LeQ.rfl⟩, ⟨rfl, LeQ.rfl⟩, ⟨rfl, LeQ.mo (isEmpty_snoc _ _)⟩, ⟨rfl, LeQ.rfl⟩, ⟨rfl, LeQ.int (w64_of (by omega) (by omega))⟩, trivial⟩
        · have h : ¬ (k : Int) < n + 1 := decF h
          obtain rfl : k = n.toNat + 1 := by omega
          exact SubR.t ⟨LeD.slc' (bif_len _) fun _ _ _ _ => LeD.refl _, LeD.refl _, trivial⟩
  · have hb : (!(!(!(good a && good b)))) = true := hb
    have hbl : badLine a b n = true := by
      unfold badLine
      rw [Bool.not_not] at hb
      rw [hb]; rfl
    repeat first | refine sk ?_ | refine st ?_ | refine sg ?_ | refine sh ?_ | refine su ?_ | refine sn1 ?_ | refine sn0 ?_
    rw [hbl, cond_true]
    exact SubR.t ⟨LeD.nil, LeD.refl _, trivial⟩
attribute [local irreducible] errG few in
theorem Profiles (g : Grid) (x : LineV) (hg : g.ok) : CallP Try.prog 8 [grid g, lineA x] (vB true) := by
  refine callP_of_ex (rc := []) (N := 75) Try.func8 rfl rfl Try.call8 tab_ok mix rfl rfl (fun cx href => ?_)
  refine callN bawake ?_
  refine And.intro (fun h => by cases h) (fun _ => ?_)
  refine callN (Few g hg.levels) ?_
  refine And.intro (fun _ => SubR.lit rfl) (fun h1 => ?_)
  refine callN (gProfile g x.fr x.to x.n hg) ?_
  refine callN (RCheck g hg.levels) ?_
  refine And.intro (fun h2 => ?_) (fun h2 => ?_)
  · have h2 : (errG g != 0) = true := h2
    have q : profE g x.fr x.to x.n = ([], errG g) := by unfold profE; rw [h2]; rfl
    rw [q]
    repeat first | refine sk ?_ | refine st ?_ | refine sg ?_ | refine sh ?_ | refine su ?_ | refine sn1 ?_ | refine sn0 ?_
    refine SubR.of_eq ?_
    show vB ((errG g == errG g) && ((0 : Int) == 0)) = vB true
    simp
  have h2 : (errG g != 0) = false := h2
  have hv : GVal g := GVal.of (show errG g = 0 by simpa using h2)
  refine callN (rFar x.fr) ?_
  repeat first | refine sk ?_ | refine st ?_ | refine sg ?_ | refine sh ?_ | refine su ?_ | refine sn1 ?_ | refine sn0 ?_
  refine callG (rFar x.to) ?_
  repeat first | refine sk ?_ | refine st ?_ | refine sg ?_ | refine sh ?_ | refine su ?_ | refine sn1 ?_ | refine sn0 ?_
  have hbl : badLine x.fr x.to x.n = (((!good x.fr || !good x.to) || decide (x.n < 1)) || decide (x.n > 200)) := by
    unfold badLine within
    rw [Bool.not_and, Bool.not_and, Bool.or_assoc, Bool.or_assoc, Bool.or_assoc]
    congr 2
    rw [← decide_not, ← decide_not]
    congr 1
    · exact decide_eq_decide.2 (by omega)
    · exact decide_eq_decide.2 (by omega)
  refine And.intro (fun h3 => ?_) (fun h3 => ?_)
  · have h3 : (((!good x.fr || !good x.to) || decide (x.n < 1)) || decide (x.n > 200)) = true := h3
    have q : profE g x.fr x.to x.n = ([], 2) := by unfold profE; rw [h2, hbl, h3]; rfl
    rw [q]
    repeat first | refine sk ?_ | refine st ?_ | refine sg ?_ | refine sh ?_ | refine su ?_ | refine sn1 ?_ | refine sn0 ?_
    exact SubR.lit rfl
  · have h3 : (((!good x.fr || !good x.to) || decide (x.n < 1)) || decide (x.n > 200)) = false := h3
    have q : profE g x.fr x.to x.n = (profL g x.fr x.to x.n (x.n.toNat + 1), 0) := by unfold profE; rw [h2, hbl, h3]; rfl
    rw [q]
    simp only [Bool.or_eq_false_iff, decide_eq_false_iff_not, Bool.not_eq_false'] at h3
    repeat first | refine sk ?_ | refine st ?_ | refine sg ?_ | refine sh ?_ | refine su ?_ | refine sn1 ?_ | refine sn0 ?_
    refine callG (rProfile g x.fr x.to x.n hv h3.1.1.1 h3.1.1.2 ⟨by omega, by omega⟩) ?_
    repeat first | refine sk ?_ | refine st ?_ | refine sg ?_ | refine sh ?_ | refine su ?_ | refine sn1 ?_ | refine sn0 ?_
    refine callG (rIntsEq (profL g x.fr x.to x.n (x.n.toNat + 1)) (by rw [profL_len]; omega)) ?_
    repeat first | refine sk ?_ | refine st ?_ | refine sg ?_ | refine sh ?_ | refine su ?_ | refine sn1 ?_ | refine sn0 ?_
    exact SubR.of_eq rfl
end Go.Ch

namespace Go.Ch
open Go Go.Ax Go.Proofs Go.Proofs.Try
set_option maxRecDepth 100000

def LineV.ok (x : LineV) : Prop := x.fr.ok ∧ x.to.ok ∧ i64ok x.n
theorem rLine : RdA Try.prog 68 lineA LineV.ok :=
  rda_agg (k := 5) Try.underlying68 ((rd_struct Try.underlying68 rfl (by kernel_rfl) (rdf_cons rfl rPt (rdf_cons rfl rPt (rdf_cons rfl rI rdf_nil)))).to (fun a => ⟨a.1, a.2.1, a.2.2.1⟩) (fun _ => rfl) (fun _ h => ⟨h.1, h.2.1, h.2.2.1⟩))
end Go.Ch
