/- Part Ch7: lemmas that the proofs of this seat share; by itself it claims nothing. -/
import Derived.Test.YtlnfjlaiclgjjaaGreatCh5
namespace Go.Ch
open Go Go.Ax Go.Proofs Go.Proofs.Tryz
set_option maxRecDepth 100000
set_option pp.maxSteps 400
set_option maxHeartbeats 1000000

/-- What a sound polygon is. -/
structure Poly (l : List Pt) : Prop where
  n3 : 3 ≤ l.length
  n40 : l.length ≤ 40
  pts : ∀ i, i < l.length → good (l.getD i default) = true
  edge : ∀ i, i < l.length → pAt l i ≠ cor l (i + 1)
theorem Poly.of {l : List Pt} (h : errPoly l = 0) : Poly l := by
  obtain ⟨h3, h40, hg⟩ := errPoly_zero h
  refine ⟨h3, h40, hg, fun i hi e => ?_⟩
  have hb : formBad l = true := by
    refine anyB_true hi ?_
    unfold badG
    rw [samePt_iff.2 e]; rfl
  unfold errPoly at h
  rw [hb] at h
  have d1 : decide ((l.length : Int) < 3) = false := decide_eq_false (by omega)
  have d2 : decide ((l.length : Int) > 40) = false := decide_eq_false (by omega)
  have d3 : (l.any fun p => !good p) = false := any_drop _ l fun i hi => by rw [hg i hi]; rfl
  rw [d1, d2, d3] at h
  cases h
theorem Poly.cor {l : List Pt} (h : Poly l) (i : Nat) : good (cor l i) = true := h.pts _ (Nat.mod_lt _ (by have := h.n3; omega))
theorem Poly.ne {l : List Pt} (h : Poly l) : l ≠ [] := by rintro rfl; cases h.n3
/-- A place is near to an edge. -/
def nearE (l : List Pt) (p : Pt) (d : Int) (i : Nat) : Bool :=
  (decide (dot (pAt l i) p p ≤ w64 (d * d)) || decide (dot (cor l (i + 1)) p p ≤ w64 (d * d))) || ((decide (dot (pAt l i) (cor l (i + 1)) p ≥ 0) && decide (dot (pAt l i) (cor l (i + 1)) p ≤ dot (pAt l i) (cor l (i + 1)) (cor l (i + 1)))) && decide (offs (pAt l i) (cor l (i + 1)) p ≤ d))
def nearF (l : List Pt) (p : Pt) (d : Int) : Bool := decide (insV l p ≥ 0) || anyB l.length (nearE l p d)
def nearR (l : List Pt) (p : Pt) (d : Int) : Bool × Int := bif decide (d < 0) || decide (d > 1000000) then (false, 2) else (nearF l p d, 0)
abbrev rBE (b : Bool) (e : Int) : AV := .t [.s (.d (.val (.bool b))), .s (.d (dI e))]
theorem rBE_lit {a b : Bool} {e : Int} (h : a = b) : SubR (.t [.s (.d (.lit a)), .s (.d (dI e))]) (rBE b e) := by subst h; exact SubR.t ⟨fun _ _ r => r, LeD.refl _, trivial⟩
attribute [local irreducible] insV dot offs in
theorem gNear (l : List Pt) (p : Pt) (d : Int) (he : errPoly l = 0) (hp : good p = true) : CallP Tryz.prog 95 [pts l, pt p, vI d] (rBE (nearR l p d).1 (nearR l p d).2) := by
  have hl := Poly.of he
  have h3 := hl.n3
  have h40 := hl.n40
  refine callP_of_ex (rc := []) (N := 85) Tryz.func95 rfl rfl Tryz.call95 tab_ok mix rfl rfl (fun cx href => ?_)
  refine callN (gInside l p he hp) ?_
  repeat first | refine sk ?_ | refine st ?_ | refine sg ?_ | refine sh ?_ | refine su ?_ | refine sn1 ?_ | refine sn0 ?_
  refine And.intro (fun h => by cases h) (fun _ => ?_)
  repeat first | refine sk ?_ | refine st ?_ | refine sg ?_ | refine sh ?_ | refine su ?_ | refine sn1 ?_ | refine sn0 ?_
  refine And.intro (fun h1 => ?_) (fun h1 => ?_)
  · have h1 : (decide (d < 0) || decide (d > 1000000)) = true := h1
    rw [show nearR l p d = (false, 2) by unfold nearR; rw [h1]; rfl]
    exact rBE_lit rfl
  have h1 : (decide (d < 0) || decide (d > 1000000)) = false := h1
  rw [show nearR l p d = (nearF l p d, 0) by unfold nearR; rw [h1]; rfl]
  refine And.intro (fun h2 => ?_) (fun h2 => ?_)
  · have h2 : decide (insV l p ≥ 0) = true := h2
    exact rBE_lit (by unfold nearF; rw [h2]; rfl)
  have h2 : decide (insV l p ≥ 0) = false := h2
  refine AW.loopI (fun i : Nat => ⟨[(0, pts l), (2, vI d), (4, .s (.ptr 4 0)), (31, pts l), (32, vI l.length), (33, vI i)], [(4, some (ptB p))]⟩) (fun i => i ≤ l.length ∧ ∀ j, j < i → nearE l p d j = false) (fun i => l.length - i) 0 ⟨Nat.zero_le _, fun j hj => absurd hj (Nat.not_lt_zero j)⟩ ?_ ?_
  · exact SubI.of0 href [] rfl ⟨⟨rfl, LeBx.rfl⟩, trivial⟩ ⟨⟨rfl, LeQ.rfl⟩, ⟨rfl, LeQ.rfl⟩, ⟨rfl, LeQ.rfl⟩, ⟨rfl, LeQ.rfl⟩, ⟨rfl, LeQ.rfl⟩, ⟨rfl, LeQ.rfl⟩, trivial⟩
  · rintro i ⟨hi, hj⟩
    refine ex.sound (rc := []) tab_ok mix href _ ?_
    refine And.intro (fun h => ?_) (fun h => ?_)
    · have h : (i : Int) < l.length := decT h
      have hi' : i < l.length := by omega
      have e1 : w64 ((i : Int) + 1) = ((i + 1 : Nat) : Int) := w64_of (by omega) (by omega)
      have c2 : CallP Tryz.prog 144 [pts l, vI (w64 ((i : Int) + 1))] (pt (cor l (i + 1))) := by rw [e1]; exact gcorner l (i + 1) hl.ne
      refine oi ⟨by omega, by omega⟩ ?_
      refine callN c2 ?_
      refine callN (gdot (pAt l i) (cor l (i + 1)) p) ?_
      refine callN (gdot (pAt l i) p p) ?_
      repeat first | refine sk ?_ | refine st ?_ | refine sg ?_ | refine sh ?_ | refine su ?_ | refine sn1 ?_ | refine sn0 ?_
      refine callG (gdot (cor l (i + 1)) p p) ?_
      repeat first | refine sk ?_ | refine st ?_ | refine sg ?_ | refine sh ?_ | refine su ?_ | refine sn1 ?_ | refine sn0 ?_
      refine callG (gdot (pAt l i) (cor l (i + 1)) (cor l (i + 1))) ?_
      repeat first | refine sk ?_ | refine st ?_ | refine sg ?_ | refine sh ?_ | refine su ?_ | refine sn1 ?_ | refine sn0 ?_
      refine callG (goffset (pAt l i) (cor l (i + 1)) p (hl.pts i hi') (hl.cor _) hp (hl.edge i hi')) ?_
      repeat first | refine sk ?_ | refine st ?_ | refine sg ?_ | refine sh ?_ | refine su ?_ | refine sn1 ?_ | refine sn0 ?_
      refine And.intro (fun h4 => ?_) (fun h4 => ?_)
      · have h4 : nearE l p d i = true := h4
        exact rBE_lit (by unfold nearF; rw [anyB_true hi' h4]; simp)
      · have h4 : nearE l p d i = false := h4
        refine ⟨i + 1, ⟨by omega, fun j hj' => ?_⟩, by omega, ?_⟩
        · by_cases hji : j = i
          · rw [hji]; exact h4
          · exact hj j (by omega)
        · exact SubI.of0 href [] rfl ⟨⟨rfl, LeBx.rfl⟩, trivial⟩ ⟨⟨rfl, LeQ.rfl⟩, ⟨rfl, LeQ.rfl⟩, ⟨rfl, LeQ.rfl⟩, ⟨rfl, LeQ.rfl⟩, ⟨rfl, LeQ.rfl⟩, ⟨rfl, LeQ.int e1⟩, trivial⟩
    · have h : ¬ (i : Int) < l.length := decF h
      obtain rfl : i = l.length := by omega
      exact rBE_lit (by unfold nearF; rw [h2, anyB_false hj]; rfl)
theorem dot_sym {a p : Pt} (ha : good a = true) (hp : good p = true) : dot p a a = dot a p p := by
  rw [(dot_eq hp ha ha).1, (dot_eq ha hp hp).1]
  unfold dotE
  rw [show a.x - p.x = -(p.x - a.x) by omega, show a.y - p.y = -(p.y - a.y) by omega, Int.neg_mul_neg, Int.neg_mul_neg]
attribute [local irreducible] insV dot offs in
theorem rNear (l : List Pt) (p : Pt) (d : Int) (he : errPoly l = 0) (hp : good p = true) : CallP Tryz.prog 44 [pts l, pt p, vI d] (vB (nearF l p d)) := by
  have hl := Poly.of he
  have h3 := hl.n3
  have h40 := hl.n40
  have hpc : ∀ i, i < l.length → cor l i = pAt l i := fun i hi => by
    show l.getD (i % l.length) default = l.getD i default
    rw [Nat.mod_eq_of_lt hi]
  refine callP_of_ex (rc := []) (N := 59) Tryz.func44 rfl rfl Tryz.call44 tab_ok mix rfl rfl (fun cx href => ?_)
  refine callN (rInside l p h3 h40) ?_
  refine And.intro (fun h2 => ?_) (fun h2 => ?_)
  · have h2 : decide (insV l p ≥ 0) = true := h2
    exact SubR.lit (by unfold nearF; rw [h2]; rfl)
  have h2 : decide (insV l p ≥ 0) = false := h2
  refine AW.loopI (fun i : Nat => ⟨[(0, pts l), (2, vI d), (4, .s (.ptr 4 0)), (7, vI i)], [(4, some (ptB p))]⟩) (fun i => i ≤ l.length ∧ ∀ j, j < i → nearE l p d j = false) (fun i => l.length - i) 0 ⟨Nat.zero_le _, fun j hj => absurd hj (Nat.not_lt_zero j)⟩ ?_ ?_
  · exact SubI.of0 href [] rfl ⟨⟨rfl, LeBx.rfl⟩, trivial⟩ ⟨⟨rfl, LeQ.rfl⟩, ⟨rfl, LeQ.rfl⟩, ⟨rfl, LeQ.rfl⟩, ⟨rfl, LeQ.rfl⟩, trivial⟩
  · rintro i ⟨hi, hj⟩
    refine ex.sound (rc := []) tab_ok mix href _ ?_
    refine And.intro (fun h => ?_) (fun h => ?_)
    · have h : (i : Int) < l.length := decT h
      have hi' : i < l.length := by omega
      have e1 : w64 ((i : Int) + 1) = ((i + 1 : Nat) : Int) := w64_of (by omega) (by omega)
      have c1 : CallP Tryz.prog 98 [pts l, vI i] (pt (pAt l i)) := by rw [← hpc i hi']; exact corner l i hl.ne
      have c2 : CallP Tryz.prog 98 [pts l, vI (w64 ((i : Int) + 1))] (pt (cor l (i + 1))) := by rw [e1]; exact corner l (i + 1) hl.ne
      have s1 := dot_sym (hl.pts i hi') hp
      have s2 := dot_sym (hl.cor (i + 1)) hp
      refine callN c1 ?_
      refine callN c2 ?_
      refine callN (Square p (pAt l i)) ?_
      repeat first | refine sk ?_ | refine st ?_ | refine sg ?_ | refine sh ?_ | refine su ?_ | refine sn1 ?_ | refine sn0 ?_
      refine callG (Square p (cor l (i + 1))) ?_
      repeat first | refine sk ?_ | refine st ?_ | refine sg ?_ | refine sh ?_ | refine su ?_ | refine sn1 ?_ | refine sn0 ?_
      refine And.intro (fun h4 => ?_) (fun h4 => ?_)
      · have h4 : (decide (dot p (pAt l i) (pAt l i) ≤ w64 (d * d)) || decide (dot p (cor l (i + 1)) (cor l (i + 1)) ≤ w64 (d * d))) = true := h4
        rw [s1, s2] at h4
        have h5 : nearE l p d i = true := by unfold nearE; rw [h4]; rfl
        exact SubR.lit (by unfold nearF; rw [anyB_true hi' h5]; simp)
      have h4 : (decide (dot p (pAt l i) (pAt l i) ≤ w64 (d * d)) || decide (dot p (cor l (i + 1)) (cor l (i + 1)) ≤ w64 (d * d))) = false := h4
      rw [s1, s2] at h4
      refine callN (Dot (pAt l i) (cor l (i + 1)) p) ?_
      refine callN (Square (pAt l i) (cor l (i + 1))) ?_
      refine callN (Within _ _ _) ?_
      repeat first | refine sk ?_ | refine st ?_ | refine sg ?_ | refine sh ?_ | refine su ?_ | refine sn1 ?_ | refine sn0 ?_
      refine callG (rOffset (pAt l i) (cor l (i + 1)) p (hl.pts i hi') (hl.cor _) hp (hl.edge i hi')) ?_
      repeat first | refine sk ?_ | refine st ?_ | refine sg ?_ | refine sh ?_ | refine su ?_ | refine sn1 ?_ | refine sn0 ?_
      refine And.intro (by kernel_rfl) ?_
      have e5 : nearE l p d i = (within (dot (pAt l i) (cor l (i + 1)) p) 0 (dot (pAt l i) (cor l (i + 1)) (cor l (i + 1))) && decide (offs (pAt l i) (cor l (i + 1)) p ≤ d)) := by unfold nearE within; rw [h4]; rfl
      refine And.intro (fun h5 => ?_) (fun h5 => ?_)
      · have h5 := e5.trans h5
        exact SubR.lit (by unfold nearF; rw [anyB_true hi' h5]; simp)
      · have h5 := e5.trans h5
        refine ⟨i + 1, ⟨by omega, fun j hj' => ?_⟩, by omega, ?_⟩
        · by_cases hji : j = i
          · rw [hji]; exact h5
          · exact hj j (by omega)
        · exact SubI.of0 href [] rfl ⟨⟨rfl, LeBx.rfl⟩, trivial⟩ ⟨⟨rfl, LeQ.rfl⟩, ⟨rfl, LeQ.rfl⟩, ⟨rfl, LeQ.rfl⟩, ⟨rfl, LeQ.int e1⟩, trivial⟩
    · have h : ¬ (i : Int) < l.length := decF h
      obtain rfl : i = l.length := by omega
      exact SubR.lit (by unfold nearF; rw [h2, anyB_false hj]; rfl)
end Go.Ch

namespace Go.Ch
open Go Go.Ax Go.Proofs Go.Proofs.Tryz
set_option maxRecDepth 100000
set_option pp.maxSteps 400
set_option maxHeartbeats 1000000

/-- The corners of a rectangle. -/
def boxL (a b : Pt) : List Pt := [a, ⟨b.x, a.y⟩, b, ⟨a.x, b.y⟩]
abbrev boxP (a b : Pt) (k : Nat) : Pt := (boxL a b).getD k default
def inBox (a b p : Pt) : Bool := ((decide (a.x ≤ p.x) && decide (p.x ≤ b.x)) && decide (a.y ≤ p.y)) && decide (p.y ≤ b.y)
def hitE (l : List Pt) (a b : Pt) (i k : Nat) : Bool := meet (pAt l i) (cor l (i + 1)) (boxP a b k) (boxP a b ((k + 1) % 4))
def touchE (l : List Pt) (a b : Pt) (i : Nat) : Bool := inBox a b (pAt l i) || anyB 4 (hitE l a b i)
def boxIn (l : List Pt) (a b : Pt) (k : Nat) : Bool := decide (insV l (boxP a b k) ≥ 0)
def touchF (l : List Pt) (a b : Pt) : Bool := anyB 4 (boxIn l a b) || anyB l.length (touchE l a b)
theorem boxP_good {a b : Pt} (ha : good a = true) (hb : good b = true) {k : Nat} (hk : k < 4) : good (boxP a b k) = true := by
  have h1 := good_iff.1 ha
  have h2 := good_iff.1 hb
  match k, hk with
  | 0, _ => exact ha
  | 1, _ => rw [good_iff]; exact ⟨⟨by show _ ≤ b.x; omega, by show b.x ≤ _; omega⟩, by show _ ≤ a.y; omega, by show a.y ≤ _; omega⟩
  | 2, _ => exact hb
  | 3, _ => rw [good_iff]; exact ⟨⟨by show _ ≤ a.x; omega, by show a.x ≤ _; omega⟩, by show _ ≤ b.y; omega, by show b.y ≤ _; omega⟩
theorem prefixS {p : Nat → Bool} {i : Nat} (h : ∀ j, j < i → p j = false) (hi : p i = false) : ∀ j, j < i + 1 → p j = false := fun j hj => by
  by_cases hji : j = i
  · rw [hji]; exact hi
  · exact h j (by omega)
abbrev boxC8 (a b : Pt) : List SV := [.d (dI a.x), .d (dI a.y), .d (dI b.x), .d (dI a.y), .d (dI b.x), .d (dI b.y), .d (dI a.x), .d (dI b.y)]
attribute [local irreducible] insV meet errPoly in
theorem gTouches (l : List Pt) (a b : Pt) (he : errPoly l = 0) (ha : good a = true) (hb : good b = true) (hx : a.x ≤ b.x) (hy : a.y ≤ b.y) :
    CallP Tryz.prog 104 [pts l, pt a, pt b] (rBE (touchF l a b) 0) := by
  have hl := Poly.of he
  have h3 := hl.n3
  have h40 := hl.n40
  refine callP_of_ex (rc := []) (N := 110) Tryz.func104 rfl rfl Tryz.call104 tab_ok mix rfl rfl (fun cx href => ?_)
  refine callN (gCheckPolygon l (by omega)) ?_
  refine And.intro (fun h => ?_) (fun _ => ?_)
  · have h : (errPoly l != 0) = true := h
    rw [he] at h; cases h
  refine callN ((goutside [a, b] (by simp)).conv (args' := _) ⟨LeD.slc fun i j hi hj => LeD.of_eq ?_, trivial⟩) ?_
  · have hi : i < 2 := hi
    have hj : j < 2 := hj
    match i, j, hi, hj with
    | 0, 0, _, _ => rfl
    | 0, 1, _, _ => rfl
    | 1, 0, _, _ => rfl
    | 1, 1, _, _ => rfl
  refine And.intro (fun h => ?_) (fun _ => ?_)
  · simp [ha, hb] at h
  repeat first | refine sk ?_ | refine st ?_ | refine sg ?_ | refine sh ?_ | refine su ?_ | refine sn1 ?_ | refine sn0 ?_
  refine And.intro (fun h => ?_) (fun _ => ?_)
  · have h : (decide (a.x > b.x) || decide (a.y > b.y)) = true := h
    rw [decide_eq_false (by omega), decide_eq_false (by omega)] at h; cases h
  refine AW.loopI (fun k : Nat => ⟨[(0, pts l), (4, .s (.ptr 4 0)), (5, .s (.ptr 5 0)), (9, .s (.ptr 9 0)), (49, .g (boxC8 a b)), (50, vI k)], [(4, some (ptB a)), (5, some (ptB b)), (9, some (.cells (boxC8 a b)))]⟩) (fun k => k ≤ 4 ∧ ∀ j, j < k → boxIn l a b j = false) (fun k => 4 - k) 0 ⟨Nat.zero_le _, fun j hj => absurd hj (Nat.not_lt_zero j)⟩ ?_ ?_
  · exact SubI.of0 href [] rfl ⟨⟨rfl, LeBx.rfl⟩, ⟨rfl, LeBx.rfl⟩, ⟨rfl, LeBx.rfl⟩, trivial⟩ ⟨⟨rfl, LeQ.rfl⟩, ⟨rfl, LeQ.rfl⟩, ⟨rfl, LeQ.rfl⟩, ⟨rfl, LeQ.rfl⟩, ⟨rfl, LeQ.rfl⟩, ⟨rfl, LeQ.rfl⟩, trivial⟩
  · rintro k ⟨hk, hj⟩
    rcases (show k = 0 ∨ k = 1 ∨ k = 2 ∨ k = 3 ∨ k = 4 by omega) with rfl | rfl | rfl | rfl | rfl
    · refine ex.sound (rc := []) tab_ok mix href _ ?_
      refine And.intro (fun _ => ?_) (fun h => absurd (decF h) (by decide))
      refine oi ⟨by decide, by decide⟩ ?_
      refine callN (ginside l (boxP a b 0) h3 h40 hl.pts (boxP_good ha hb (by decide))) ?_
      refine And.intro (fun h2 => ?_) (fun h2 => ?_)
      · exact rBE_lit (by unfold touchF; rw [anyB_true (i := 0) (by decide) h2]; rfl)
      · refine ⟨1, ⟨by decide, prefixS hj h2⟩, by decide, ?_⟩
        exact SubI.of0 href [] rfl ⟨⟨rfl, LeBx.rfl⟩, ⟨rfl, LeBx.rfl⟩, ⟨rfl, LeBx.rfl⟩, trivial⟩ ⟨⟨rfl, LeQ.rfl⟩, ⟨rfl, LeQ.rfl⟩, ⟨rfl, LeQ.rfl⟩, ⟨rfl, LeQ.rfl⟩, ⟨rfl, LeQ.rfl⟩, ⟨rfl, LeQ.int rfl⟩, trivial⟩
    · refine ex.sound (rc := []) tab_ok mix href _ ?_
      refine And.intro (fun _ => ?_) (fun h => absurd (decF h) (by decide))
      refine oi ⟨by decide, by decide⟩ ?_
      refine callN (ginside l (boxP a b 1) h3 h40 hl.pts (boxP_good ha hb (by decide))) ?_
      refine And.intro (fun h2 => ?_) (fun h2 => ?_)
      · exact rBE_lit (by unfold touchF; rw [anyB_true (i := 1) (by decide) h2]; rfl)
      · refine ⟨2, ⟨by decide, prefixS hj h2⟩, by decide, ?_⟩
        exact SubI.of0 href [] rfl ⟨⟨rfl, LeBx.rfl⟩, ⟨rfl, LeBx.rfl⟩, ⟨rfl, LeBx.rfl⟩, trivial⟩ ⟨⟨rfl, LeQ.rfl⟩, ⟨rfl, LeQ.rfl⟩, ⟨rfl, LeQ.rfl⟩, ⟨rfl, LeQ.rfl⟩, ⟨rfl, LeQ.rfl⟩, ⟨rfl, LeQ.int rfl⟩, trivial⟩
    · refine ex.sound (rc := []) tab_ok mix href _ ?_
      refine And.intro (fun _ => ?_) (fun h => absurd (decF h) (by decide))
      refine oi ⟨by decide, by decide⟩ ?_
      refine callN (ginside l (boxP a b 2) h3 h40 hl.pts (boxP_good ha hb (by decide))) ?_
      refine And.intro (fun h2 => ?_) (fun h2 => ?_)
      · exact rBE_lit (by unfold touchF; rw [anyB_true (i := 2) (by decide) h2]; rfl)
      · refine ⟨3, ⟨by decide, prefixS hj h2⟩, by decide, ?_⟩
        exact SubI.of0 href [] rfl ⟨⟨rfl, LeBx.rfl⟩, ⟨rfl, LeBx.rfl⟩, ⟨rfl, LeBx.rfl⟩, trivial⟩ ⟨⟨rfl, LeQ.rfl⟩, ⟨rfl, LeQ.rfl⟩, ⟨rfl, LeQ.rfl⟩, ⟨rfl, LeQ.rfl⟩, ⟨rfl, LeQ.rfl⟩, ⟨rfl, LeQ.int rfl⟩, trivial⟩
    · refine ex.sound (rc := []) tab_ok mix href _ ?_
      refine And.intro (fun _ => ?_) (fun h => absurd (decF h) (by decide))
      refine oi ⟨by decide, by decide⟩ ?_
      refine callN (ginside l (boxP a b 3) h3 h40 hl.pts (boxP_good ha hb (by decide))) ?_
      refine And.intro (fun h2 => ?_) (fun h2 => ?_)
      · exact rBE_lit (by unfold touchF; rw [anyB_true (i := 3) (by decide) h2]; rfl)
      · refine ⟨4, ⟨by decide, prefixS hj h2⟩, by decide, ?_⟩
        exact SubI.of0 href [] rfl ⟨⟨rfl, LeBx.rfl⟩, ⟨rfl, LeBx.rfl⟩, ⟨rfl, LeBx.rfl⟩, trivial⟩ ⟨⟨rfl, LeQ.rfl⟩, ⟨rfl, LeQ.rfl⟩, ⟨rfl, LeQ.rfl⟩, ⟨rfl, LeQ.rfl⟩, ⟨rfl, LeQ.rfl⟩, ⟨rfl, LeQ.int rfl⟩, trivial⟩
    · refine ex.sound (rc := []) tab_ok mix href _ ?_
      refine And.intro (fun h => absurd (decT h) (by decide)) (fun _ => ?_)
      have hb0 : anyB 4 (boxIn l a b) = false := anyB_false hj
      refine AW.loopI (fun i : Nat => ⟨[(0, pts l), (4, .s (.ptr 4 0)), (5, .s (.ptr 5 0)), (9, .s (.ptr 9 0)), (58, pts l), (59, vI l.length), (60, vI i)], [(4, some (ptB a)), (5, some (ptB b)), (9, some (.cells (boxC8 a b)))]⟩) (fun i => i ≤ l.length ∧ ∀ j, j < i → touchE l a b j = false) (fun i => l.length - i) 0 ⟨Nat.zero_le _, fun j hj => absurd hj (Nat.not_lt_zero j)⟩ ?_ ?_
      · exact SubI.of0 href [] rfl ⟨⟨rfl, LeBx.rfl⟩, ⟨rfl, LeBx.rfl⟩, ⟨rfl, LeBx.rfl⟩, trivial⟩ ⟨⟨rfl, LeQ.rfl⟩, ⟨rfl, LeQ.rfl⟩, ⟨rfl, LeQ.rfl⟩, ⟨rfl, LeQ.rfl⟩, ⟨rfl, LeQ.rfl⟩, ⟨rfl, LeQ.rfl⟩, ⟨rfl, LeQ.rfl⟩, trivial⟩
      · rintro i ⟨hi, hti⟩
        refine ex.sound (rc := []) tab_ok mix href _ ?_
        refine And.intro (fun h => ?_) (fun h => ?_)
        · have h : (i : Int) < l.length := decT h
          have hi' : i < l.length := by omega
          have e1 : w64 ((i : Int) + 1) = ((i + 1 : Nat) : Int) := w64_of (by omega) (by omega)
          have c2 : CallP Tryz.prog 144 [pts l, vI (w64 ((i : Int) + 1))] (pt (cor l (i + 1))) := by rw [e1]; exact gcorner l (i + 1) hl.ne
          refine oi ⟨by omega, by omega⟩ ?_
          repeat first | refine sk ?_ | refine st ?_ | refine sg ?_ | refine sh ?_ | refine su ?_ | refine sn1 ?_ | refine sn0 ?_
          refine And.intro (fun h5 => ?_) (fun h5 => ?_)
          · have h5 : inBox a b (pAt l i) = true := h5
            have h6 : touchE l a b i = true := by unfold touchE; rw [h5]; rfl
            exact rBE_lit (by unfold touchF; rw [anyB_true hi' h6]; simp)
          have h5 : inBox a b (pAt l i) = false := h5
          refine AW.loopI (fun k : Nat => ⟨[(0, pts l), (4, .s (.ptr 4 0)), (5, .s (.ptr 5 0)), (9, .s (.ptr 9 0)), (12, vI i), (13, .s (.ptr 13 0)), (58, pts l), (59, vI l.length), (60, vI i), (91, vI k)], [(4, some (ptB a)), (5, some (ptB b)), (9, some (.cells (boxC8 a b))), (13, some (ptB (pAt l i)))]⟩) (fun k => k ≤ 4 ∧ ∀ j, j < k → hitE l a b i j = false) (fun k => 4 - k) 0 ⟨Nat.zero_le _, fun j hj => absurd hj (Nat.not_lt_zero j)⟩ ?_ ?_
          · exact SubI.of0 href [] rfl ⟨⟨rfl, LeBx.rfl⟩, ⟨rfl, LeBx.rfl⟩, ⟨rfl, LeBx.rfl⟩, ⟨rfl, LeBx.rfl⟩, trivial⟩ ⟨⟨rfl, LeQ.rfl⟩, ⟨rfl, LeQ.rfl⟩, ⟨rfl, LeQ.rfl⟩, ⟨rfl, LeQ.rfl⟩, ⟨rfl, LeQ.rfl⟩, ⟨rfl, LeQ.rfl⟩, ⟨rfl, LeQ.rfl⟩, ⟨rfl, LeQ.rfl⟩, ⟨rfl, LeQ.rfl⟩, ⟨rfl, LeQ.rfl⟩, trivial⟩
          · rintro k ⟨hk, hhk⟩
            rcases (show k = 0 ∨ k = 1 ∨ k = 2 ∨ k = 3 ∨ k = 4 by omega) with rfl | rfl | rfl | rfl | rfl
            · refine ex.sound (rc := []) tab_ok mix href _ ?_
              refine And.intro (fun _ => ?_) (fun h => absurd (decF h) (by decide))
              refine callN c2 ?_
              refine oi ⟨by decide, by decide⟩ ?_
              refine oi (by decide) ?_
              refine oi ⟨by decide, by decide⟩ ?_
              refine callN (gmeet (pAt l i) (cor l (i + 1)) (boxP a b 0) (boxP a b 1)) ?_
              refine And.intro (by kernel_rfl) ?_
              refine And.intro (fun h6 => ?_) (fun h6 => ?_)
              · have h6 : hitE l a b i 0 = true := h6
                have h7 : touchE l a b i = true := by unfold touchE; rw [anyB_true (i := 0) (by decide) h6]; simp
                exact rBE_lit (by unfold touchF; rw [anyB_true hi' h7]; simp)
              · have h6 : hitE l a b i 0 = false := h6
                refine ⟨1, ⟨by decide, prefixS hhk h6⟩, by decide, ?_⟩
                exact SubI.of0 href [] rfl ⟨⟨rfl, LeBx.rfl⟩, ⟨rfl, LeBx.rfl⟩, ⟨rfl, LeBx.rfl⟩, ⟨rfl, LeBx.rfl⟩, trivial⟩ ⟨⟨rfl, LeQ.rfl⟩, ⟨rfl, LeQ.rfl⟩, ⟨rfl, LeQ.rfl⟩, ⟨rfl, LeQ.rfl⟩, ⟨rfl, LeQ.rfl⟩, ⟨rfl, LeQ.rfl⟩, ⟨rfl, LeQ.rfl⟩, ⟨rfl, LeQ.rfl⟩, ⟨rfl, LeQ.rfl⟩, ⟨rfl, LeQ.int rfl⟩, trivial⟩
            · refine ex.sound (rc := []) tab_ok mix href _ ?_
              refine And.intro (fun _ => ?_) (fun h => absurd (decF h) (by decide))
              refine callN c2 ?_
              refine oi ⟨by decide, by decide⟩ ?_
              refine oi (by decide) ?_
              refine oi ⟨by decide, by decide⟩ ?_
              refine callN (gmeet (pAt l i) (cor l (i + 1)) (boxP a b 1) (boxP a b 2)) ?_
              refine And.intro (by kernel_rfl) ?_
              refine And.intro (fun h6 => ?_) (fun h6 => ?_)
              · have h6 : hitE l a b i 1 = true := h6
                have h7 : touchE l a b i = true := by unfold touchE; rw [anyB_true (i := 1) (by decide) h6]; simp
                exact rBE_lit (by unfold touchF; rw [anyB_true hi' h7]; simp)
              · have h6 : hitE l a b i 1 = false := h6
                refine ⟨2, ⟨by decide, prefixS hhk h6⟩, by decide, ?_⟩
                exact SubI.of0 href [] rfl ⟨⟨rfl, LeBx.rfl⟩, ⟨rfl, LeBx.rfl⟩, ⟨rfl, LeBx.rfl⟩, ⟨rfl, LeBx.rfl⟩, trivial⟩ ⟨⟨rfl, LeQ.rfl⟩, ⟨rfl, LeQ.rfl⟩, ⟨rfl, LeQ.rfl⟩, ⟨rfl, LeQ.rfl⟩, ⟨rfl, LeQ.rfl⟩, ⟨rfl, LeQ.rfl⟩, ⟨rfl, LeQ.rfl⟩, ⟨rfl, LeQ.rfl⟩, ⟨rfl, LeQ.rfl⟩, ⟨rfl, LeQ.int rfl⟩, trivial⟩
            · refine ex.sound (rc := []) tab_ok mix href _ ?_
              refine And.intro (fun _ => ?_) (fun h => absurd (decF h) (by decide))
              refine callN c2 ?_
              refine oi ⟨by decide, by decide⟩ ?_
              refine oi (by decide) ?_
              refine oi ⟨by decide, by decide⟩ ?_
              refine callN (gmeet (pAt l i) (cor l (i + 1)) (boxP a b 2) (boxP a b 3)) ?_
              refine And.intro (by kernel_rfl) ?_
              refine And.intro (fun h6 => ?_) (fun h6 => ?_)
              · have h6 : hitE l a b i 2 = true := h6
                have h7 : touchE l a b i = true := by unfold touchE; rw [anyB_true (i := 2) (by decide) h6]; simp
                exact rBE_lit (by unfold touchF; rw [anyB_true hi' h7]; simp)
              · have h6 : hitE l a b i 2 = false := h6
                refine ⟨3, ⟨by decide, prefixS hhk h6⟩, by decide, ?_⟩
                exact SubI.of0 href [] rfl ⟨⟨rfl, LeBx.rfl⟩, ⟨rfl, LeBx.rfl⟩, ⟨rfl, LeBx.rfl⟩, ⟨rfl, LeBx.rfl⟩, trivial⟩ ⟨⟨rfl, LeQ.rfl⟩, ⟨rfl, LeQ.rfl⟩, ⟨rfl, LeQ.rfl⟩, ⟨rfl, LeQ.rfl⟩, ⟨rfl, LeQ.rfl⟩, ⟨rfl, LeQ.rfl⟩, ⟨rfl, LeQ.rfl⟩, ⟨rfl, LeQ.rfl⟩, ⟨rfl, LeQ.rfl⟩, ⟨rfl, LeQ.int rfl⟩, trivial⟩
            · refine ex.sound (rc := []) tab_ok mix href _ ?_
              refine And.intro (fun _ => ?_) (fun h => absurd (decF h) (by decide))
              refine callN c2 ?_
              refine oi ⟨by decide, by decide⟩ ?_
              refine oi (by decide) ?_
              refine oi ⟨by decide, by decide⟩ ?_
              refine callN (gmeet (pAt l i) (cor l (i + 1)) (boxP a b 3) (boxP a b 0)) ?_
              refine And.intro (by kernel_rfl) ?_
              refine And.intro (fun h6 => ?_) (fun h6 => ?_)
              · have h6 : hitE l a b i 3 = true := h6
                have h7 : touchE l a b i = true := by unfold touchE; rw [anyB_true (i := 3) (by decide) h6]; simp
                exact rBE_lit (by unfold touchF; rw [anyB_true hi' h7]; simp)
              · have h6 : hitE l a b i 3 = false := h6
                refine ⟨4, ⟨by decide, prefixS hhk h6⟩, by decide, ?_⟩
                exact SubI.of0 href [] rfl ⟨⟨rfl, LeBx.rfl⟩, ⟨rfl, LeBx.rfl⟩, ⟨rfl, LeBx.rfl⟩, ⟨rfl, LeBx.rfl⟩, trivial⟩ ⟨⟨rfl, LeQ.rfl⟩, ⟨rfl, LeQ.rfl⟩, ⟨rfl, LeQ.rfl⟩, ⟨rfl, LeQ.rfl⟩, ⟨rfl, LeQ.rfl⟩, ⟨rfl, LeQ.rfl⟩, ⟨rfl, LeQ.rfl⟩, ⟨rfl, LeQ.rfl⟩, ⟨rfl, LeQ.rfl⟩, ⟨rfl, LeQ.int rfl⟩, trivial⟩
            · refine ex.sound (rc := []) tab_ok mix href _ ?_
              refine And.intro (fun h => absurd (decT h) (by decide)) (fun _ => ?_)
              have h7 : touchE l a b i = false := by unfold touchE; rw [h5, anyB_false hhk]; rfl
              refine ⟨i + 1, ⟨by omega, prefixS hti h7⟩, by omega, ?_⟩
              exact SubI.of0 href [] rfl ⟨⟨rfl, LeBx.rfl⟩, ⟨rfl, LeBx.rfl⟩, ⟨rfl, LeBx.rfl⟩, trivial⟩ ⟨⟨rfl, LeQ.rfl⟩, ⟨rfl, LeQ.rfl⟩, ⟨rfl, LeQ.rfl⟩, ⟨rfl, LeQ.rfl⟩, ⟨rfl, LeQ.rfl⟩, ⟨rfl, LeQ.rfl⟩, ⟨rfl, LeQ.int e1⟩, trivial⟩
        · have h : ¬ (i : Int) < l.length := decF h
          obtain rfl : i = l.length := by omega
          exact rBE_lit (by unfold touchF; rw [hb0, anyB_false hti]; rfl)
end Go.Ch

namespace Go.Ch
open Go Go.Ax Go.Proofs Go.Proofs.Tryz
set_option maxRecDepth 100000
set_option pp.maxSteps 400
set_option maxHeartbeats 1000000

theorem inBox_within (a b p : Pt) : inBox a b p = (within p.x a.x b.x && within p.y a.y b.y) := by
  unfold inBox within
  rw [Bool.and_assoc]
attribute [local irreducible] insV meet in
theorem rTouches (l : List Pt) (a b : Pt) (he : errPoly l = 0) : CallP Tryz.prog 105 [pts l, pt a, pt b] (vB (touchF l a b)) := by
  have hl := Poly.of he
  have h3 := hl.n3
  have h40 := hl.n40
  have hpc : ∀ i, i < l.length → cor l i = pAt l i := fun i hi => by
    show l.getD (i % l.length) default = l.getD i default
    rw [Nat.mod_eq_of_lt hi]
  refine callP_of_ex (rc := []) (N := 81) Tryz.func105 rfl rfl Tryz.call105 tab_ok mix rfl rfl (fun cx href => ?_)
  refine AW.loopI (fun k : Nat => ⟨[(0, pts l), (4, .s (.ptr 4 0)), (5, .s (.ptr 5 0)), (7, .s (.own 25)), (8, vI k)], [(4, some (ptB a)), (5, some (ptB b)), (25, some (.row 50 4 2 (ptEl (boxL a b))))]⟩) (fun k => k ≤ 4 ∧ ∀ j, j < k → boxIn l a b j = false) (fun k => 4 - k) 0 ⟨Nat.zero_le _, fun j hj => absurd hj (Nat.not_lt_zero j)⟩ ?_ ?_
  · refine SubI.of0 href [] rfl ⟨⟨rfl, LeBx.rfl⟩, ⟨rfl, LeBx.rfl⟩, ⟨rfl, LeBx.row rfl fun i j hi hj => LeD.of_eq ?_⟩, trivial⟩ ⟨⟨rfl, LeQ.rfl⟩, ⟨rfl, LeQ.rfl⟩, ⟨rfl, LeQ.rfl⟩, ⟨rfl, LeQ.rfl⟩, ⟨rfl, LeQ.rfl⟩, trivial⟩
    have hi : i < 4 := hi
    have hj : j < 2 := hj
    match i, j, hi, hj with
    | 0, 0, _, _ => rfl
    | 0, 1, _, _ => rfl
    | 1, 0, _, _ => rfl
    | 1, 1, _, _ => rfl
    | 2, 0, _, _ => rfl
    | 2, 1, _, _ => rfl
    | 3, 0, _, _ => rfl
    | 3, 1, _, _ => rfl
  · rintro k ⟨hk, hj⟩
    refine ex.sound (rc := []) tab_ok mix href _ ?_
    refine And.intro (fun h => ?_) (fun h => ?_)
    · have h : (k : Int) < 4 := decT h
      refine oi ⟨by omega, by show (k : Int) < 4; omega⟩ ?_
      refine oi (show k < 4 by omega) ?_
      refine callN (rInside l (boxP a b k) h3 h40) ?_
      refine And.intro (fun h2 => ?_) (fun h2 => ?_)
      · have h2 : boxIn l a b k = true := h2
        exact SubR.lit (by unfold touchF; rw [anyB_true (show k < 4 by omega) h2]; rfl)
      · have h2 : boxIn l a b k = false := h2
        refine ⟨k + 1, ⟨by omega, prefixS hj h2⟩, by omega, ?_⟩
        exact SubI.of0 href [] rfl ⟨⟨rfl, LeBx.rfl⟩, ⟨rfl, LeBx.rfl⟩, ⟨rfl, LeBx.rfl⟩, trivial⟩ ⟨⟨rfl, LeQ.rfl⟩, ⟨rfl, LeQ.rfl⟩, ⟨rfl, LeQ.rfl⟩, ⟨rfl, LeQ.rfl⟩, ⟨rfl, LeQ.int (w64_of (by omega) (by omega))⟩, trivial⟩
    · have h : ¬ (k : Int) < 4 := decF h
      obtain rfl : k = 4 := by omega
      have hb0 : anyB 4 (boxIn l a b) = false := anyB_false hj
      refine AW.loopI (fun i : Nat => ⟨[(0, pts l), (4, .s (.ptr 4 0)), (5, .s (.ptr 5 0)), (7, .s (.own 25)), (9, vI i)], [(4, some (ptB a)), (5, some (ptB b)), (25, some (.row 50 4 2 (ptEl (boxL a b))))]⟩) (fun i => i ≤ l.length ∧ ∀ j, j < i → touchE l a b j = false) (fun i => l.length - i) 0 ⟨Nat.zero_le _, fun j hj => absurd hj (Nat.not_lt_zero j)⟩ ?_ ?_
      · exact SubI.of0 href [] rfl ⟨⟨rfl, LeBx.rfl⟩, ⟨rfl, LeBx.rfl⟩, ⟨rfl, LeBx.rfl⟩, trivial⟩ ⟨⟨rfl, LeQ.rfl⟩, ⟨rfl, LeQ.rfl⟩, ⟨rfl, LeQ.rfl⟩, ⟨rfl, LeQ.rfl⟩, ⟨rfl, LeQ.rfl⟩, trivial⟩
      · rintro i ⟨hi, hti⟩
        refine ex.sound (rc := []) tab_ok mix href _ ?_
        refine And.intro (fun h => ?_) (fun h => ?_)
        · have h : (i : Int) < l.length := decT h
          have hi' : i < l.length := by omega
          have e1 : w64 ((i : Int) + 1) = ((i + 1 : Nat) : Int) := w64_of (by omega) (by omega)
          have c1 : CallP Tryz.prog 98 [pts l, vI i] (pt (pAt l i)) := by rw [← hpc i hi']; exact corner l i hl.ne
          have c2 : CallP Tryz.prog 98 [pts l, vI (w64 ((i : Int) + 1))] (pt (cor l (i + 1))) := by rw [e1]; exact corner l (i + 1) hl.ne
          refine callN c1 ?_
          refine callN c2 ?_
          refine callN (Within _ _ _) ?_
          repeat first | refine sk ?_ | refine st ?_ | refine sg ?_ | refine sh ?_ | refine su ?_ | refine sn1 ?_ | refine sn0 ?_
          refine callG (Within _ _ _) ?_
          repeat first | refine sk ?_ | refine st ?_ | refine sg ?_ | refine sh ?_ | refine su ?_ | refine sn1 ?_ | refine sn0 ?_
          have hib := inBox_within a b (pAt l i)
          refine And.intro (fun h5 => ?_) (fun h5 => ?_)
          · have h5 : inBox a b (pAt l i) = true := hib.trans h5
            have h6 : touchE l a b i = true := by unfold touchE; rw [h5]; rfl
            exact SubR.lit (by unfold touchF; rw [anyB_true hi' h6]; simp)
          have h5 : inBox a b (pAt l i) = false := hib.trans h5
          refine AW.loopI (fun k : Nat => ⟨[(0, pts l), (4, .s (.ptr 4 0)), (5, .s (.ptr 5 0)), (7, .s (.own 25)), (9, vI i), (10, .s (.ptr 10 0)), (11, .s (.ptr 11 0)), (12, vI k)], [(4, some (ptB a)), (5, some (ptB b)), (10, some (ptB (pAt l i))), (11, some (ptB (cor l (i + 1)))), (25, some (.row 50 4 2 (ptEl (boxL a b))))]⟩) (fun k => k ≤ 4 ∧ ∀ j, j < k → hitE l a b i j = false) (fun k => 4 - k) 0 ⟨Nat.zero_le _, fun j hj => absurd hj (Nat.not_lt_zero j)⟩ ?_ ?_
          · exact SubI.of0 href [] rfl ⟨⟨rfl, LeBx.rfl⟩, ⟨rfl, LeBx.rfl⟩, ⟨rfl, LeBx.rfl⟩, ⟨rfl, LeBx.rfl⟩, ⟨rfl, LeBx.rfl⟩, trivial⟩ ⟨⟨rfl, LeQ.rfl⟩, ⟨rfl, LeQ.rfl⟩, ⟨rfl, LeQ.rfl⟩, ⟨rfl, LeQ.rfl⟩, ⟨rfl, LeQ.rfl⟩, ⟨rfl, LeQ.rfl⟩, ⟨rfl, LeQ.rfl⟩, ⟨rfl, LeQ.rfl⟩, trivial⟩
          · rintro k ⟨hk, hhk⟩
            refine ex.sound (rc := []) tab_ok mix href _ ?_
            refine And.intro (fun h => ?_) (fun h => ?_)
            · have h : (k : Int) < 4 := decT h
              have e2 : w64 ((k : Int) + 1) = ((k + 1 : Nat) : Int) := w64_of (by omega) (by omega)
              have c3 : CallP Tryz.prog 98 [pts (boxL a b), vI (w64 ((k : Int) + 1))] (pt (boxP a b ((k + 1) % 4))) := by rw [e2]; exact corner (boxL a b) (k + 1) (by unfold boxL; simp)
              refine oi ⟨by omega, by show (k : Int) < 4; omega⟩ ?_
              refine oi (show k < 4 by omega) ?_
              refine callN c3 ?_
              refine callN (Meet (pAt l i) (cor l (i + 1)) (boxP a b k) (boxP a b ((k + 1) % 4))) ?_
              refine And.intro (by kernel_rfl) ?_
              refine And.intro (fun h6 => ?_) (fun h6 => ?_)
              · have h6 : hitE l a b i k = true := h6
                have h7 : touchE l a b i = true := by unfold touchE; rw [anyB_true (show k < 4 by omega) h6]; simp
                exact SubR.lit (by unfold touchF; rw [anyB_true hi' h7]; simp)
              · have h6 : hitE l a b i k = false := h6
                refine ⟨k + 1, ⟨by omega, prefixS hhk h6⟩, by omega, ?_⟩
                exact SubI.of0 href [] rfl ⟨⟨rfl, LeBx.rfl⟩, ⟨rfl, LeBx.rfl⟩, ⟨rfl, LeBx.rfl⟩, ⟨rfl, LeBx.rfl⟩, ⟨rfl, LeBx.rfl⟩, trivial⟩ ⟨⟨rfl, LeQ.rfl⟩, ⟨rfl, LeQ.rfl⟩, ⟨rfl, LeQ.rfl⟩, ⟨rfl, LeQ.rfl⟩, ⟨rfl, LeQ.rfl⟩, ⟨rfl, LeQ.rfl⟩, ⟨rfl, LeQ.rfl⟩, ⟨rfl, LeQ.int e2⟩, trivial⟩
            · have h : ¬ (k : Int) < 4 := decF h
              obtain rfl : k = 4 := by omega
              have h7 : touchE l a b i = false := by unfold touchE; rw [h5, anyB_false hhk]; rfl
              refine ⟨i + 1, ⟨by omega, prefixS hti h7⟩, by omega, ?_⟩
              exact SubI.of0 href [] rfl ⟨⟨rfl, LeBx.rfl⟩, ⟨rfl, LeBx.rfl⟩, ⟨rfl, LeBx.rfl⟩, trivial⟩ ⟨⟨rfl, LeQ.rfl⟩, ⟨rfl, LeQ.rfl⟩, ⟨rfl, LeQ.rfl⟩, ⟨rfl, LeQ.rfl⟩, ⟨rfl, LeQ.int e1⟩, trivial⟩
        · have h : ¬ (i : Int) < l.length := decF h
          obtain rfl : i = l.length := by omega
          exact SubR.lit (by unfold touchF; rw [hb0, anyB_false hti]; rfl)
end Go.Ch

namespace Go.Ch
open Go Go.Ax Go.Proofs Go.Proofs.Tryz
set_option maxRecDepth 100000
set_option pp.maxSteps 400
set_option maxHeartbeats 1000000

def highG (g : Grid) (i : Int) : Pt := ⟨w64 ((cornerG g i).x + g.side), w64 ((cornerG g i).y + g.side)⟩
theorem corner_good {g : Grid} (h : GVal g) {i : Nat} (hi : i < g.levels.length) : good (cornerG g i) = true ∧ good (highG g i) = true ∧ (cornerG g i).x ≤ (highG g i).x ∧ (cornerG g i).y ≤ (highG g i).y := by
  obtain ⟨hx, hy, hs, hc, hr, hm, hR, hT, hl, _⟩ := h
  have i0 : (0 : Int) ≤ (i : Int) := by omega
  have e1 : (i : Int).tmod g.cols = (i : Int) % g.cols := Int.tmod_eq_emod_of_nonneg i0
  have e2 : (i : Int).tdiv g.cols = (i : Int) / g.cols := Int.tdiv_eq_ediv_of_nonneg i0
  have m0 := Int.emod_nonneg (i : Int) (show g.cols ≠ 0 by omega)
  have m1 := Int.emod_lt_of_pos (i : Int) (show 0 < g.cols by omega)
  have d0 := Int.ediv_nonneg i0 (show 0 ≤ g.cols by omega)
  have d1 : (i : Int) / g.cols < g.rows := by
    apply Int.ediv_lt_of_lt_mul (by omega)
    rw [Int.mul_comm g.rows, ← hl]; omega
  have p1 : (i : Int) % g.cols * g.side ≤ (g.cols - 1) * g.side := Int.mul_le_mul_of_nonneg_right (by omega) (by omega)
  have p0 : 0 ≤ (i : Int) % g.cols * g.side := Int.mul_nonneg m0 (by omega)
  have p2 : (i : Int) / g.cols * g.side ≤ (g.rows - 1) * g.side := Int.mul_le_mul_of_nonneg_right (by omega) (by omega)
  have p3 : 0 ≤ (i : Int) / g.cols * g.side := Int.mul_nonneg d0 (by omega)
  rw [Int.sub_mul] at p1 p2
  have kx : cornerG g i = ⟨g.x + (i : Int) % g.cols * g.side, g.y + (i : Int) / g.cols * g.side⟩ := by
    unfold cornerG
    simp only [e1, e2]
    have lt : (i : Int) / g.cols ≤ 1024 := by omega
    rw [w64_of (n := (i : Int) % g.cols * g.side) (by omega) (by omega), w64_of (n := (i : Int) / g.cols) (by omega) (by omega), w64_of (n := (i : Int) / g.cols * g.side) (by omega) (by omega), w64_of (by omega) (by omega), w64_of (by omega) (by omega)]
  have kh : highG g i = ⟨g.x + (i : Int) % g.cols * g.side + g.side, g.y + (i : Int) / g.cols * g.side + g.side⟩ := by
    unfold highG
    rw [kx]
    simp only
    rw [w64_of (by omega) (by omega), w64_of (by omega) (by omega)]
  rw [good_iff, good_iff, kx, kh]
  simp only
  omega
def protR (c : Chan) (g : Grid) (i : Nat) (r : Reg) : Bool := bif r.kind == 0 then false else nearF r.corners (centreG g i) c.buffer || touchF r.corners (cornerG g i) (highG g i)
def chanD (c : Chan) : Nat → DV
  | 0 => dS c.name
  | 1 => dAps c.axis
  | 2 => dI c.over
  | 3 => dI c.buffer
  | 4 => dRegs c.regions
  | _ => .junk
def capP (c : Chan) (g : Grid) (i : Nat) : Nat → DV
  | 0 => .rp 6 (gridD g)
  | 1 => .rp 1 fun _ => dI i
  | 2 => .rp 5 (chanD c)
  | 3 => .rp 2 (ptD (cornerG g i))
  | 4 => .rp 2 (ptD (highG g i))
  | _ => .junk
attribute [local irreducible] nearF touchF cornerG highG in
theorem prot1 (c : Chan) (g : Grid) (i : Nat) (r : Reg) (hv : Val c) (eg : errG g = 0) (hi : i < g.levels.length) (ep : errPoly r.corners = 0) : CallP Tryz.prog 103 (reg r :: capD (capP c g i) 5 0) (vB (protR c g i r)) := by
  have gv := GVal.of eg
  have hn := gv.n
  have hb := hv.buffer
  have hcg := (centre_good gv hi).1
  obtain ⟨k1, k2, k3, k4⟩ := corner_good gv hi
  refine callP_of_ex (rc := []) (N := 38) Tryz.func103 rfl rfl Tryz.call103 tab_ok mix rfl rfl (fun cx href => ?_)
  refine And.intro (fun h => ?_) (fun h => ?_)
  · have h : (r.kind == 0) = true := h
    exact SubR.lit (by unfold protR; rw [h]; rfl)
  have h : (r.kind == 0) = false := h
  refine callN (ccentre g i eg (by omega) (by omega) (by omega)) ?_
  refine callN (gNear r.corners (centreG g i) c.buffer ep hcg) ?_
  rw [show nearR r.corners (centreG g i) c.buffer = (nearF r.corners (centreG g i) c.buffer, 0) by unfold nearR; rw [decide_eq_false (by omega), decide_eq_false (by omega)]; rfl]
  refine And.intro (by kernel_rfl) ?_
  refine callN (gTouches r.corners (cornerG g i) (highG g i) ep k1 k2 k3 k4) ?_
  repeat first | refine sk ?_ | refine st ?_ | refine sg ?_ | refine sh ?_ | refine su ?_ | refine sn1 ?_ | refine sn0 ?_
  exact SubR.of_eq (by unfold protR; rw [h]; rfl)
def prC (c : Chan) (g : Grid) (i : Nat) : Bool := c.regions.any (protR c g i)
def prL (c : Chan) (g : Grid) (i : Nat) : List Int := (List.range i).filterMap fun k => bif prC c g k then some (k : Int) else none
theorem prL_succ (c : Chan) (g : Grid) (i : Nat) : prL c g (i + 1) = bif prC c g i then prL c g i ++ [(i : Int)] else prL c g i := by
  unfold prL
  rw [filterMap_range_succ]
  cases prC c g i <;> simp
theorem prL_len (c : Chan) (g : Grid) (i : Nat) : (prL c g i).length ≤ i := by
  have := List.length_filterMap_le (fun k => bif prC c g k then some (k : Int) else none) (List.range i)
  rw [List.length_range] at this
  exact this
def prR (c : Chan) (g : Grid) : List Int × Int := bif withErr c [g] != 0 then ([], withErr c [g]) else (prL c g g.levels.length, 0)
abbrev rLE (l : List Int) (e : Int) : AV := .t [.s (.d (dInts l)), .s (.d (dI e))]
attribute [local irreducible] withErr protR in
theorem gProtected (c : Chan) (g : Grid) (hc : c.ok) (hg : g.ok) : CallP Tryz.prog 45 [chan c, grid g] (rLE (prR c g).1 (prR c g).2) := by
  refine callP_of_ex (rc := []) (N := 67) Tryz.func45 rfl rfl Tryz.call45 tab_ok mix rfl rfl (fun cx href => ?_)
  refine callN (cboth c g hc hg) ?_
  refine And.intro (fun h1 => ?_) (fun h1 => ?_)
  · have h1 : (withErr c [g] != 0) = true := h1
    rw [show prR c g = ([], withErr c [g]) by unfold prR; rw [h1]; rfl]
    exact SubR.t ⟨LeD.nil, LeD.refl _, trivial⟩
  have h1 : (withErr c [g] != 0) = false := h1
  rw [show prR c g = (prL c g g.levels.length, 0) by unfold prR; rw [h1]; rfl]
  have h0 : withErr c [g] = 0 := by simpa using h1
  obtain ⟨e1, e2⟩ := withErr1_zero h0
  have hv := val_of c e1
  have gv := GVal.of e2
  have hn := gv.n
  have hcol := gv.cols
  have hR := Regs.of e1
  have hRn := hR.n
  have hmem : ∀ r ∈ c.regions, errPoly r.corners = 0 := fun r hr => by
    obtain ⟨k, hk, e⟩ := List.getElem_of_mem hr
    have := hR.poly k hk
    rw [getD_of hk, e] at this; exact this
  refine AW.loopI (fun i : Nat => ⟨[(2, .s (.ptr 2 0)), (3, .s (.ptr 3 0)), (7, .s (.mo (prL c g i).isEmpty 100)), (20, vInts g.levels), (21, vI g.levels.length), (22, vI i)],
      [(2, some (chanB c)), (3, some (gridB g)), (100, some (.mrow 3 (prL c g i).length 1 (intEl (prL c g i))))]⟩)
    (fun i => i ≤ g.levels.length) (fun i => g.levels.length - i) 0 (Nat.zero_le _) ?_ ?_
  · exact SubI.of0 href [(100, 1000)] rfl ⟨⟨rfl, LeBx.rfl⟩, ⟨rfl, LeBx.rfl⟩, ⟨rfl, rfl⟩, trivial⟩ ⟨⟨rfl, LeQ.rfl⟩, ⟨rfl, LeQ.rfl⟩, ⟨rfl, LeQ.nil rfl⟩, ⟨rfl, LeQ.rfl⟩, ⟨rfl, LeQ.rfl⟩, ⟨rfl, LeQ.rfl⟩, trivial⟩
  · intro i hi
    have hlen := prL_len c g i
    refine ex.sound (rc := []) tab_ok mix href _ ?_
    refine And.intro (fun h => ?_) (fun h => ?_)
    · have h : (i : Int) < g.levels.length := decT h
      have hi' : i < g.levels.length := by omega
      refine oi (by omega) ?_
      refine oi (by omega) ?_
      refine And.intro (by kernel_rfl) ?_
      refine And.intro (by kernel_rfl) ?_
      refine callN ((containsR c.regions (by omega) 103 5 (capP c g i) (protR c g i) (fun r hr => prot1 c g i r hv e2 hi' (hmem r hr))).conv (args' := _) ⟨LeD.refl _, LeD.clo fun j hj => ?_, trivial⟩) ?_
      · have hj : j < 5 := hj
        match j, hj with
        | 0, _ => exact LeD.rp fun j hj => LeD.of_eq (by have hj : j < 6 := hj; match j, hj with | 0, _ => rfl | 1, _ => rfl | 2, _ => rfl | 3, _ => rfl | 4, _ => rfl | 5, _ => rfl)
        | 1, _ => exact LeD.rp fun j hj => LeD.of_eq (by have hj : j < 1 := hj; match j, hj with | 0, _ => rfl)
        | 2, _ => exact LeD.rp fun j hj => LeD.of_eq (by have hj : j < 5 := hj; match j, hj with | 0, _ => rfl | 1, _ => rfl | 2, _ => rfl | 3, _ => rfl | 4, _ => rfl)
        | 3, _ => exact LeD.rp fun j hj => LeD.of_eq (by have hj : j < 2 := hj; match j, hj with | 0, _ => rfl | 1, _ => rfl)
        | 4, _ => exact LeD.rp fun j hj => LeD.of_eq (by have hj : j < 2 := hj; match j, hj with | 0, _ => rfl | 1, _ => rfl)
      refine And.intro (fun h2 => ?_) (fun h2 => ?_)
      · have h2 : prC c g i = true := h2
        have e : prL c g (i + 1) = prL c g i ++ [(i : Int)] := by rw [prL_succ, h2]; rfl
        refine ob (by decide) ?_
        refine ob (by rw [bif_len]; show _ * 8 ≤ _; omega) ?_
        refine ob (fit1 (lt1 rfl)) ?_
        refine ⟨i + 1, by omega, by omega, ?_⟩
        refine SubI.of0 href [(100, 64)] rfl ⟨⟨rfl, LeBx.rfl⟩, ⟨rfl, LeBx.rfl⟩, ⟨rfl, ?_⟩, trivial⟩ ⟨⟨rfl, LeQ.rfl⟩, ⟨rfl, LeQ.rfl⟩, ⟨rfl, LeQ.mo ?_⟩, ⟨rfl, LeQ.rfl⟩, ⟨rfl, LeQ.rfl⟩, ⟨rfl, LeQ.int (w64_of (by omega) (by omega))⟩, trivial⟩
        · show LeBx _ (.mrow 3 (prL c g (i + 1)).length 1 (intEl (prL c g (i + 1))))
          rw [e]
          exact RowIs.mrow (el := fun x _ => dI x) (RowIs.snoc intRow (lt1 rfl))
        · rw [e]; exact isEmpty_snoc _ _
      · have h2 : prC c g i = false := h2
        have e : prL c g (i + 1) = prL c g i := by rw [prL_succ, h2]; rfl
        refine ⟨i + 1, by omega, by omega, ?_⟩
        exact SubI.of0 href [] rfl ⟨⟨rfl, LeBx.rfl⟩, ⟨rfl, LeBx.rfl⟩, ⟨rfl, LeBx.of_eq (by rw [e]; rfl)⟩, trivial⟩ ⟨⟨rfl, LeQ.rfl⟩, ⟨rfl, LeQ.rfl⟩, ⟨rfl, LeQ.of_eq (by rw [e]; rfl)⟩, ⟨rfl, LeQ.rfl⟩, ⟨rfl, LeQ.rfl⟩, ⟨rfl, LeQ.int (w64_of (by omega) (by omega))⟩, trivial⟩
    · have h : ¬ (i : Int) < g.levels.length := decF h
      obtain rfl : i = g.levels.length := by omega
      exact SubR.t ⟨LeD.slc' (bif_len _) fun _ _ _ _ => LeD.refl _, LeD.refl _, trivial⟩
end Go.Ch

namespace Go.Ch
open Go Go.Ax Go.Proofs Go.Proofs.Tryz
set_option maxRecDepth 100000
set_option pp.maxSteps 400
set_option maxHeartbeats 1000000

theorem anyB_succ (n : Nat) (p : Nat → Bool) : anyB (n + 1) p = (anyB n p || p n) := by
  unfold anyB
  rw [List.range_succ, List.any_append]; simp
def protK (c : Chan) (g : Grid) (i k : Nat) : Bool := protR c g i (c.regions.getD k default)
theorem prC_any (c : Chan) (g : Grid) (i : Nat) : anyB c.regions.length (protK c g i) = prC c g i := by
  rw [Bool.eq_iff_iff]
  unfold prC
  constructor
  · intro h
    obtain ⟨k, hk, h⟩ := anyB_ex h
    exact any_getD (protR c g i) c.regions k hk h
  · intro h
    rw [List.any_eq_true] at h
    obtain ⟨r, hr, h⟩ := h
    obtain ⟨k, hk, rfl⟩ := List.getElem_of_mem hr
    refine anyB_true hk ?_
    unfold protK
    rw [getD_of hk]; exact h
attribute [local irreducible] nearF touchF cornerG centreG in
theorem rProtected (c : Chan) (g : Grid) (gv : GVal g) (hR : Regs c) : CallP Tryz.prog 46 [chan c, grid g] (vInts (prL c g g.levels.length)) := by
  have hn := gv.n
  have hcol := gv.cols
  have hRn := hR.n
  refine callP_of_ex (rc := []) (N := 92) Tryz.func46 rfl rfl Tryz.call46 tab_ok mix rfl rfl (fun cx href => ?_)
  refine AW.loopI (fun i : Nat => ⟨[(2, .s (.ptr 2 0)), (3, .s (.ptr 3 0)), (5, .s (.mo (prL c g i).isEmpty 100)), (6, vI i)],
      [(2, some (chanB c)), (3, some (gridB g)), (100, some (.mrow 3 (prL c g i).length 1 (intEl (prL c g i))))]⟩)
    (fun i => i ≤ g.levels.length) (fun i => g.levels.length - i) 0 (Nat.zero_le _) ?_ ?_
  · exact SubI.of0 href [(100, 1000)] rfl ⟨⟨rfl, LeBx.rfl⟩, ⟨rfl, LeBx.rfl⟩, ⟨rfl, rfl⟩, trivial⟩ ⟨⟨rfl, LeQ.rfl⟩, ⟨rfl, LeQ.rfl⟩, ⟨rfl, LeQ.nil rfl⟩, ⟨rfl, LeQ.rfl⟩, trivial⟩
  · intro i hi
    have hlen := prL_len c g i
    refine ex.sound (rc := []) tab_ok mix href _ ?_
    refine And.intro (fun h => ?_) (fun h => ?_)
    · have h : (i : Int) < g.levels.length := decT h
      have hi' : i < g.levels.length := by omega
      have hcg := (centre_good gv hi').1
      refine oi (by omega) ?_
      refine oi (by omega) ?_
      refine And.intro (by kernel_rfl) ?_
      refine AW.loopI (fun k : Nat => ⟨[(2, .s (.ptr 2 0)), (3, .s (.ptr 3 0)), (5, .s (.mo (prL c g i).isEmpty 100)), (6, vI i), (7, .s (.ptr 7 0)), (8, .s (.ptr 8 0)), (9, vB (anyB k (protK c g i))), (10, vI k)],
          [(2, some (chanB c)), (3, some (gridB g)), (7, some (ptB (cornerG g i))), (8, some (ptB (highG g i))), (100, some (.mrow 3 (prL c g i).length 1 (intEl (prL c g i))))]⟩)
        (fun k => k ≤ c.regions.length) (fun k => c.regions.length - k) 0 (Nat.zero_le _) ?_ ?_
      · exact SubI.of0 href [] rfl ⟨⟨rfl, LeBx.rfl⟩, ⟨rfl, LeBx.rfl⟩, ⟨rfl, LeBx.cells ⟨LeQ.int (by unfold cornerG; rfl), LeQ.int (by unfold cornerG; rfl), trivial⟩⟩, ⟨rfl, LeBx.cells ⟨LeQ.int (by unfold highG cornerG; rfl), LeQ.int (by unfold highG cornerG; rfl), trivial⟩⟩, ⟨rfl, LeBx.rfl⟩, trivial⟩ ⟨⟨rfl, LeQ.rfl⟩, ⟨rfl, LeQ.rfl⟩, ⟨rfl, LeQ.rfl⟩, ⟨rfl, LeQ.rfl⟩, ⟨rfl, LeQ.rfl⟩, ⟨rfl, LeQ.rfl⟩, ⟨rfl, LeQ.lit rfl⟩, ⟨rfl, LeQ.rfl⟩, trivial⟩
      · intro k hk
        refine ex.sound (rc := []) tab_ok mix href _ ?_
        refine And.intro (fun h2 => ?_) (fun h2 => ?_)
        · have h2 : (k : Int) < c.regions.length := decT h2
          have hk' : k < c.regions.length := by omega
          have ep := hR.poly k hk'
          refine oi ⟨by omega, by omega⟩ ?_
          repeat first | refine sk ?_ | refine st ?_ | refine sg ?_ | refine sh ?_ | refine su ?_ | refine sn1 ?_ | refine sn0 ?_
          refine callG (Centre g i (by omega)) ?_
          repeat first | refine sk ?_ | refine st ?_ | refine sg ?_ | refine sh ?_ | refine su ?_ | refine sn1 ?_ | refine sn0 ?_
          refine callG (rNear (c.regions.getD k default).corners (centreG g i) c.buffer ep hcg) ?_
          repeat first | refine sk ?_ | refine st ?_ | refine sg ?_ | refine sh ?_ | refine su ?_ | refine sn1 ?_ | refine sn0 ?_
          refine callG (rTouches (c.regions.getD k default).corners (cornerG g i) (highG g i) ep) ?_
          repeat first | refine sk ?_ | refine st ?_ | refine sg ?_ | refine sh ?_ | refine su ?_ | refine sn1 ?_ | refine sn0 ?_
          refine And.intro (by kernel_rfl) ?_
          refine ⟨k + 1, by omega, by omega, ?_⟩
          refine SubI.of0 href [] rfl ⟨⟨rfl, LeBx.rfl⟩, ⟨rfl, LeBx.rfl⟩, ⟨rfl, LeBx.rfl⟩, ⟨rfl, LeBx.rfl⟩, ⟨rfl, LeBx.rfl⟩, trivial⟩ ⟨⟨rfl, LeQ.rfl⟩, ⟨rfl, LeQ.rfl⟩, ⟨rfl, LeQ.rfl⟩, ⟨rfl, LeQ.rfl⟩, ⟨rfl, LeQ.rfl⟩, ⟨rfl, LeQ.rfl⟩, ⟨rfl, LeQ.bool ?_⟩, ⟨rfl, LeQ.int (w64_of (by omega) (by omega))⟩, trivial⟩
          rw [anyB_succ]
          show (anyB k (protK c g i) || (((c.regions.getD k default).kind != 0) && (nearF (c.regions.getD k default).corners (centreG g i) c.buffer || touchF (c.regions.getD k default).corners (cornerG g i) (highG g i)))) = _
          congr 1
          unfold protK protR
          cases h3 : (c.regions.getD k default).kind == 0 with
          | true => rw [show ((c.regions.getD k default).kind != 0) = false by simpa using h3]; rfl
          | false => rw [show ((c.regions.getD k default).kind != 0) = true by simpa using h3]; rfl
        · have h2 : ¬ (k : Int) < c.regions.length := decF h2
          obtain rfl : k = c.regions.length := by omega
          rw [prC_any]
          refine And.intro (fun h3 => ?_) (fun h3 => ?_)
          · have h3 : prC c g i = true := h3
            have e : prL c g (i + 1) = prL c g i ++ [(i : Int)] := by rw [prL_succ, h3]; rfl
            refine ob (by decide) ?_
            refine ob (by rw [bif_len]; show _ * 8 ≤ _; omega) ?_
            refine ob (fit1 (lt1 rfl)) ?_
            refine ⟨i + 1, by omega, by omega, ?_⟩
            refine SubI.of0 href [(100, 90)] rfl ⟨⟨rfl, LeBx.rfl⟩, ⟨rfl, LeBx.rfl⟩, ⟨rfl, ?_⟩, trivial⟩ ⟨⟨rfl, LeQ.rfl⟩, ⟨rfl, LeQ.rfl⟩, ⟨rfl, LeQ.mo ?_⟩, ⟨rfl, LeQ.int (w64_of (by omega) (by omega))⟩, trivial⟩
            · show LeBx _ (.mrow 3 (prL c g (i + 1)).length 1 (intEl (prL c g (i + 1))))
              rw [e]
              exact RowIs.mrow (el := fun x _ => dI x) (RowIs.snoc intRow (lt1 rfl))
            · rw [e]; exact isEmpty_snoc _ _
          · have h3 : prC c g i = false := h3
            have e : prL c g (i + 1) = prL c g i := by rw [prL_succ, h3]; rfl
            refine ⟨i + 1, by omega, by omega, ?_⟩
            exact SubI.of0 href [] rfl ⟨⟨rfl, LeBx.rfl⟩, ⟨rfl, LeBx.rfl⟩, ⟨rfl, LeBx.of_eq (by rw [e]; rfl)⟩, trivial⟩ ⟨⟨rfl, LeQ.rfl⟩, ⟨rfl, LeQ.rfl⟩, ⟨rfl, LeQ.of_eq (by rw [e]; rfl)⟩, ⟨rfl, LeQ.int (w64_of (by omega) (by omega))⟩, trivial⟩
    · have h : ¬ (i : Int) < g.levels.length := decF h
      obtain rfl : i = g.levels.length := by omega
      exact SubR.mo
end Go.Ch

namespace Go.Ch
open Go Go.Ax Go.Proofs Go.Proofs.Tryz
set_option maxRecDepth 100000
set_option pp.maxSteps 400
set_option maxHeartbeats 1000000

def bufR (r : Reg) (d : Int) (p : Pt) : Bool × Int := bif regErr r [] != 0 then (false, regErr r []) else bif !good p then (false, 2) else nearR r.corners p d
attribute [local irreducible] errPoly in
theorem gInsideBad (l : List Pt) (p : Pt) (he : errPoly l = 0) (hp : good p = false) : CallP Tryz.prog 86 [pts l, pt p] (rIE 0 2) := by
  obtain ⟨h3, h40, hg⟩ := errPoly_zero he
  refine callP_of_ex (rc := []) (N := 18) Tryz.func86 rfl rfl Tryz.call86 tab_ok mix rfl rfl (fun cx href => ?_)
  refine callN (gCheckPolygon l (by omega)) ?_
  refine And.intro (fun h => ?_) (fun _ => ?_)
  · have h : (errPoly l != 0) = true := h
    rw [he] at h; cases h
  refine callN ((goutside [p] (by simp)).conv (args' := _) ⟨LeD.slc fun i j hi hj => LeD.of_eq ?_, trivial⟩) ?_
  · have hi : i < 1 := hi
    have hj : j < 2 := hj
    match i, j, hi, hj with
    | 0, 0, _, _ => rfl
    | 0, 1, _, _ => rfl
  refine And.intro (fun _ => ?_) (fun h => ?_)
  · exact SubR.t ⟨LeD.refl _, LeD.refl _, trivial⟩
  · simp [hp] at h
theorem gNearBad (l : List Pt) (p : Pt) (d : Int) (he : errPoly l = 0) (hp : good p = false) : CallP Tryz.prog 95 [pts l, pt p, vI d] (rBE false 2) := by
  refine callP_of_ex (rc := []) (N := 85) Tryz.func95 rfl rfl Tryz.call95 tab_ok mix rfl rfl (fun cx href => ?_)
  refine callN (gInsideBad l p he hp) ?_
  refine And.intro (fun _ => ?_) (fun h => by cases h)
  exact rBE_lit rfl
attribute [local irreducible] regErr nearR in
theorem gBuffer (r : Reg) (d : Int) (p : Pt) (hr : r.ok) : CallP Tryz.prog 41 [reg r, vI d, pt p] (rBE (bufR r d p).1 (bufR r d p).2) := by
  refine callP_of_ex (rc := []) (N := 21) Tryz.func41 rfl rfl Tryz.call41 tab_ok mix rfl rfl (fun cx href => ?_)
  refine callN ((checkRegion r [] hr.1 hr.2.2.1 (by simp)).conv (args' := _) ⟨⟨LeD.refl _, LeD.refl _, LeD.refl _, trivial⟩, LeD.nil, trivial⟩) ?_
  refine And.intro (fun h => ?_) (fun h => ?_)
  · have h : (regErr r [] != 0) = true := h
    rw [show bufR r d p = (false, regErr r []) by unfold bufR; rw [h]; rfl]
    exact rBE_lit rfl
  have h : (regErr r [] != 0) = false := h
  have ep := (regErr_zero (show regErr r [] = 0 by simpa using h)).2
  cases hp : good p with
  | false =>
    rw [show bufR r d p = (false, 2) by unfold bufR; rw [h, hp]; rfl]
    refine callN (gNearBad r.corners p d ep hp) ?_
    exact SubR.refl _
  | true =>
    rw [show bufR r d p = nearR r.corners p d by unfold bufR; rw [h, hp]; rfl]
    refine callN (gNear r.corners p d ep hp) ?_
    exact SubR.refl _
structure Spot where
  region : Reg
  dist : Int
  pos : Pt
abbrev spot (x : Spot) : AV := .g [.d (dS x.region.name), .d (dI x.region.kind), .d (dPts x.region.corners), .d (dI x.dist), .d (dI x.pos.x), .d (dI x.pos.y)]
def Spot.ok (x : Spot) : Prop := x.region.ok ∧ i64ok x.dist ∧ x.pos.ok
theorem rSpot : RdA Tryz.prog 76 spot Spot.ok :=
  rda_agg (k := 6) Tryz.underlying76 ((rd_struct Tryz.underlying76 rfl (by kernel_rfl) (rdf_cons rfl rReg (rdf_cons rfl rI (rdf_cons rfl rPt rdf_nil)))).to (fun a => ⟨a.1, a.2.1, a.2.2.1⟩) (fun _ => rfl) (fun _ h => ⟨h.1, h.2.1, h.2.2.1⟩))
/-- The error of a place near a region. -/
def spE (x : Spot) : Int := bif regErr x.region [] == 0 && (!good x.pos || !within x.dist 0 1000000) then 2 else regErr x.region []
theorem buf_bad {x : Spot} (h : (spE x != 0) = true) : bufR x.region x.dist x.pos = (false, spE x) := by
  unfold spE at h ⊢
  unfold bufR
  cases h1 : regErr x.region [] == 0 with
  | false =>
    have h2 : (regErr x.region [] != 0) = true := by simpa using h1
    rw [h2]; rfl
  | true =>
    have h2 : (regErr x.region [] != 0) = false := by simpa using h1
    rw [h2]
    cases hp : good x.pos with
    | false => rfl
    | true =>
      cases hd : within x.dist 0 1000000 with
      | true =>
        rw [h1, hp, hd] at h
        simp only [Bool.not_true, Bool.or_self, Bool.and_false, cond_false] at h
        rw [h2] at h; cases h
      | false =>
        have : (decide (x.dist < 0) || decide (x.dist > 1000000)) = true := by
          unfold within at hd
          rw [Bool.and_eq_false_iff] at hd
          rw [Bool.or_eq_true]
          rcases hd with hd | hd
          · have := decF hd; exact .inl (decide_eq_true (by omega))
          · have := decF hd; exact .inr (decide_eq_true (by omega))
        unfold nearR
        rw [this]; rfl
theorem buf_ok {x : Spot} (h : (spE x != 0) = false) : bufR x.region x.dist x.pos = (nearF x.region.corners x.pos x.dist, 0) ∧ errPoly x.region.corners = 0 ∧ good x.pos = true := by
  unfold spE at h
  unfold bufR
  cases h1 : regErr x.region [] == 0 with
  | false =>
    rw [h1] at h
    have h2 : (regErr x.region [] != 0) = true := by simpa using h1
    simp only [Bool.false_and, cond_false] at h
    rw [h2] at h; cases h
  | true =>
    have h2 : (regErr x.region [] != 0) = false := by simpa using h1
    rw [h1] at h
    cases hp : good x.pos with
    | false => rw [hp] at h; cases h
    | true =>
      cases hd : within x.dist 0 1000000 with
      | false => rw [hp, hd] at h; cases h
      | true =>
        refine ⟨?_, (regErr_zero (show regErr x.region [] = 0 by simpa using h1)).2, rfl⟩
        have : (decide (x.dist < 0) || decide (x.dist > 1000000)) = false := by
          unfold within at hd
          rw [Bool.and_eq_true] at hd
          have a := decT hd.1
          have b := decT hd.2
          rw [decide_eq_false (by omega), decide_eq_false (by omega)]; rfl
        rw [h2]
        show nearR _ _ _ = _
        unfold nearR
        rw [this]; rfl
theorem grid1 (g : Grid) : ∀ i j, i < 1 → j < 6 → (rowF 6 [.d (dI g.x), .d (dI g.y), .d (dI g.side), .d (dI g.cols), .d (dI g.rows), .d (dInts g.levels)]) i j = gridEl [g] i j
  | 0, 0, _, _ => rfl
  | 0, 1, _, _ => rfl
  | 0, 2, _, _ => rfl
  | 0, 3, _, _ => rfl
  | 0, 4, _, _ => rfl
  | 0, 5, _, _ => rfl
attribute [local irreducible] withErr few small prL regErr nearF bufR in
theorem Buffers (c : Chan) (g : Grid) (x : Spot) (hc : c.ok) (hg : g.ok) (hx : x.ok) : CallP Tryz.prog 9 [chan c, grid g, spot x] (vB true) := by
  refine callP_of_ex (rc := []) (N := 137) Tryz.func9 rfl rfl Tryz.call9 tab_ok mix rfl rfl (fun cx href => ?_)
  refine callN awake ?_
  refine And.intro (fun h => by cases h) (fun _ => ?_)
  refine callN (Small c hc) ?_
  repeat first | refine sk ?_ | refine st ?_ | refine sg ?_ | refine sh ?_ | refine su ?_ | refine sn1 ?_ | refine sn0 ?_
  refine callG (Few g hg.levels) ?_
  repeat first | refine sk ?_ | refine st ?_ | refine sg ?_ | refine sh ?_ | refine su ?_ | refine sn1 ?_ | refine sn0 ?_
  refine And.intro (fun _ => SubR.lit rfl) (fun h1 => ?_)
  have hs : small c = true := by
    revert h1
    cases small c
    · intro h1; cases h1
    · intro _; rfl
  refine callN (gBuffer x.region x.dist x.pos hx.1) ?_
  refine callN ((rRegionErr x.region [] hx.1.1 hx.1.2.2.1 (by simp)).conv (args' := _) ⟨⟨LeD.refl _, LeD.refl _, LeD.refl _, trivial⟩, LeD.nil, trivial⟩) ?_
  repeat first | refine sk ?_ | refine st ?_ | refine sg ?_ | refine sh ?_ | refine su ?_ | refine sn1 ?_ | refine sn0 ?_
  refine callG (far x.pos) ?_
  repeat first | refine sk ?_ | refine st ?_ | refine sg ?_ | refine sh ?_ | refine su ?_ | refine sn1 ?_ | refine sn0 ?_
  refine callG (Within _ _ _) ?_
  repeat first | refine sk ?_ | refine st ?_ | refine sg ?_ | refine sh ?_ | refine su ?_ | refine sn1 ?_ | refine sn0 ?_
  refine And.intro (fun h2 => ?_) (fun h2 => ?_)
  · have h2 : (regErr x.region [] == 0 && (!good x.pos || !within x.dist 0 1000000)) = true := h2
    have e : spE x = 2 := by unfold spE; rw [h2]; rfl
    rw [buf_bad (x := x) (by rw [e]; rfl), e]
    repeat first | refine sk ?_ | refine st ?_ | refine sg ?_ | refine sh ?_ | refine su ?_ | refine sn1 ?_ | refine sn0 ?_
    refine callF (vB true) (by simp [gpol]) ?_
    repeat first | refine sk ?_ | refine st ?_ | refine sg ?_ | refine sh ?_ | refine su ?_ | refine sn1 ?_ | refine sn0 ?_
    refine And.intro (fun h3 => ?_) (fun _ => ?_)
    · exfalso
      revert h3
      simp
    refine callN (Copied c (Sm.of hs)) ?_
    refine callN (gProtected c g hc hg) ?_
    refine And.intro (by kernel_rfl) ?_
    refine callN ((rWith c [g] hc (by intro x hx; simp at hx; subst hx; exact hg) (by simp)).conv (args' := _) ⟨⟨LeD.refl _, LeD.refl _, LeD.refl _, LeD.refl _, LeD.refl _, trivial⟩, LeD.slc' rfl fun i j hi hj => LeD.of_eq (grid1 g i j hi hj), trivial⟩) ?_
    refine And.intro (fun g1 => ?_) (fun g1 => ?_)
    · have g1 : (withErr c [g] != 0) = true := g1
      rw [show prR c g = ([], withErr c [g]) by unfold prR; rw [g1]; rfl]
      repeat first | refine sk ?_ | refine st ?_ | refine sg ?_ | refine sh ?_ | refine su ?_ | refine sn1 ?_ | refine sn0 ?_
      refine SubR.of_eq ?_
      show vB (withErr c [g] == withErr c [g] && (0 : Int) == 0) = vB true
      simp
    · have g1 : (withErr c [g] != 0) = false := g1
      have h0 : withErr c [g] = 0 := by simpa using g1
      obtain ⟨g3, g2⟩ := withErr1_zero h0
      have gv := GVal.of g2
      have hR := Regs.of g3
      have hn := gv.n
      have hpl := prL_len c g g.levels.length
      rw [show prR c g = (prL c g g.levels.length, 0) by unfold prR; rw [g1]; rfl]
      repeat first | refine sk ?_ | refine st ?_ | refine sg ?_ | refine sh ?_ | refine su ?_ | refine sn1 ?_ | refine sn0 ?_
      refine callG (rProtected c g gv hR) ?_
      repeat first | refine sk ?_ | refine st ?_ | refine sg ?_ | refine sh ?_ | refine su ?_ | refine sn1 ?_ | refine sn0 ?_
      refine callG (rIntsEq (prL c g g.levels.length) (by omega)) ?_
      repeat first | refine sk ?_ | refine st ?_ | refine sg ?_ | refine sh ?_ | refine su ?_ | refine sn1 ?_ | refine sn0 ?_
      exact SubR.of_eq rfl
  have h2 : (regErr x.region [] == 0 && (!good x.pos || !within x.dist 0 1000000)) = false := h2
  have e : spE x = regErr x.region [] := by unfold spE; rw [h2]; rfl
  cases h3 : regErr x.region [] != 0 with
  | true =>
    rw [buf_bad (x := x) (by rw [e]; exact h3), e]
    have h4 : (regErr x.region [] == 0) = false := by simpa using h3
    repeat first | refine sk ?_ | refine st ?_ | refine sg ?_ | refine sh ?_ | refine su ?_ | refine sn1 ?_ | refine sn0 ?_
    refine callF (vB true) (by rw [h4]; simp [gpol]) ?_
    repeat first | refine sk ?_ | refine st ?_ | refine sg ?_ | refine sh ?_ | refine su ?_ | refine sn1 ?_ | refine sn0 ?_
    refine And.intro (fun h5 => ?_) (fun _ => ?_)
    · exfalso
      revert h5
      show ((regErr x.region [] != 0 && (regErr x.region [] != regErr x.region [] || false)) || (regErr x.region [] == 0 && _)) = true → False
      rw [h4]; simp
    refine callN (Copied c (Sm.of hs)) ?_
    refine callN (gProtected c g hc hg) ?_
    refine And.intro (by kernel_rfl) ?_
    refine callN ((rWith c [g] hc (by intro x hx; simp at hx; subst hx; exact hg) (by simp)).conv (args' := _) ⟨⟨LeD.refl _, LeD.refl _, LeD.refl _, LeD.refl _, LeD.refl _, trivial⟩, LeD.slc' rfl fun i j hi hj => LeD.of_eq (grid1 g i j hi hj), trivial⟩) ?_
    refine And.intro (fun g1 => ?_) (fun g1 => ?_)
    · have g1 : (withErr c [g] != 0) = true := g1
      rw [show prR c g = ([], withErr c [g]) by unfold prR; rw [g1]; rfl]
      repeat first | refine sk ?_ | refine st ?_ | refine sg ?_ | refine sh ?_ | refine su ?_ | refine sn1 ?_ | refine sn0 ?_
      refine SubR.of_eq ?_
      show vB (withErr c [g] == withErr c [g] && (0 : Int) == 0) = vB true
      simp
    · have g1 : (withErr c [g] != 0) = false := g1
      have h0 : withErr c [g] = 0 := by simpa using g1
      obtain ⟨g3, g2⟩ := withErr1_zero h0
      have gv := GVal.of g2
      have hR := Regs.of g3
      have hn := gv.n
      have hpl := prL_len c g g.levels.length
      rw [show prR c g = (prL c g g.levels.length, 0) by unfold prR; rw [g1]; rfl]
      repeat first | refine sk ?_ | refine st ?_ | refine sg ?_ | refine sh ?_ | refine su ?_ | refine sn1 ?_ | refine sn0 ?_
      refine callG (rProtected c g gv hR) ?_
      repeat first | refine sk ?_ | refine st ?_ | refine sg ?_ | refine sh ?_ | refine su ?_ | refine sn1 ?_ | refine sn0 ?_
      refine callG (rIntsEq (prL c g g.levels.length) (by omega)) ?_
      repeat first | refine sk ?_ | refine st ?_ | refine sg ?_ | refine sh ?_ | refine su ?_ | refine sn1 ?_ | refine sn0 ?_
      exact SubR.of_eq rfl
  | false =>
    obtain ⟨b1, b2, b3⟩ := buf_ok (x := x) (by rw [e]; exact h3)
    have h4 : regErr x.region [] = 0 := by simpa using h3
    rw [b1, h4]
    repeat first | refine sk ?_ | refine st ?_ | refine sg ?_ | refine sh ?_ | refine su ?_ | refine sn1 ?_ | refine sn0 ?_
    refine callG (rNear x.region.corners x.pos x.dist b2 b3) ?_
    repeat first | refine sk ?_ | refine st ?_ | refine sg ?_ | refine sh ?_ | refine su ?_ | refine sn1 ?_ | refine sn0 ?_
    refine And.intro (fun h5 => ?_) (fun _ => ?_)
    · exfalso
      revert h5
      simp
    refine callN (Copied c (Sm.of hs)) ?_
    refine callN (gProtected c g hc hg) ?_
    refine And.intro (by kernel_rfl) ?_
    refine callN ((rWith c [g] hc (by intro x hx; simp at hx; subst hx; exact hg) (by simp)).conv (args' := _) ⟨⟨LeD.refl _, LeD.refl _, LeD.refl _, LeD.refl _, LeD.refl _, trivial⟩, LeD.slc' rfl fun i j hi hj => LeD.of_eq (grid1 g i j hi hj), trivial⟩) ?_
    refine And.intro (fun g1 => ?_) (fun g1 => ?_)
    · have g1 : (withErr c [g] != 0) = true := g1
      rw [show prR c g = ([], withErr c [g]) by unfold prR; rw [g1]; rfl]
      repeat first | refine sk ?_ | refine st ?_ | refine sg ?_ | refine sh ?_ | refine su ?_ | refine sn1 ?_ | refine sn0 ?_
      refine SubR.of_eq ?_
      show vB (withErr c [g] == withErr c [g] && (0 : Int) == 0) = vB true
      simp
    · have g1 : (withErr c [g] != 0) = false := g1
      have h0 : withErr c [g] = 0 := by simpa using g1
      obtain ⟨g3, g2⟩ := withErr1_zero h0
      have gv := GVal.of g2
      have hR := Regs.of g3
      have hn := gv.n
      have hpl := prL_len c g g.levels.length
      rw [show prR c g = (prL c g g.levels.length, 0) by unfold prR; rw [g1]; rfl]
      repeat first | refine sk ?_ | refine st ?_ | refine sg ?_ | refine sh ?_ | refine su ?_ | refine sn1 ?_ | refine sn0 ?_
      refine callG (rProtected c g gv hR) ?_
      repeat first | refine sk ?_ | refine st ?_ | refine sg ?_ | refine sh ?_ | refine su ?_ | refine sn1 ?_ | refine sn0 ?_
      refine callG (rIntsEq (prL c g g.levels.length) (by omega)) ?_
      repeat first | refine sk ?_ | refine st ?_ | refine sg ?_ | refine sh ?_ | refine su ?_ | refine sn1 ?_ | refine sn0 ?_
      exact SubR.of_eq rfl
end Go.Ch
