/- Part 7: lemmas that the proofs of this seat share; by itself it claims nothing. -/
import Derived.Test.YtgkghihpebdpgaaPt6
/- The reference's Hull. -/
namespace Go.Ch
open Go Go.Ax Go.Proofs Go.Proofs.Try Go.Hull
set_option maxRecDepth 100000
set_option pp.maxSteps 400
set_option maxHeartbeats 1000000

theorem ptSnoc {o : List Pt} {n : Pt} {g : Nat → Nat → DV} {i j : Nat} (hg : g 0 j = ptD n j) (hi : i < o.length + 1) : catF o.length (ptEl o) g i j = ptEl (o ++ [n]) i j := by
  show (if i < o.length then ptD (o.getD i default) j else g (i - o.length) j) = ptD ((o ++ [n]).getD i default) j
  rw [List.getD_eq_getElem?_getD, List.getD_eq_getElem?_getD]
  split
  · rename_i h
    rw [List.getElem?_append_left (by omega)]
  · rename_i h
    obtain rfl : i = o.length := by omega
    rw [List.getElem?_append_right (by omega), Nat.sub_self, hg]
    rfl
theorem dot_sqr {a b : Pt} (ha : okP a) (hb : okP b) : dot a b b = sqr a b := (dot_eq (good_of ha) (good_of hb) (good_of hb)).1
theorem sgn_lt (n : Int) : decide (sgn n < 0) = decide (n < 0) := by
  rw [Bool.eq_iff_iff]; unfold sgn; simp only [decide_eq_true_eq]; split
  · constructor <;> intro <;> omega
  · split
    · constructor <;> intro <;> omega
    · constructor <;> intro <;> omega
/-- The test in the inner loop. -/
theorem wrap_test {a n q : Pt} (ha : okP a) (hn : okP n) (hq : okP q) {b : Bool} (h : ((((n.x == a.x) && ((n.y == a.y) && true)) || decide (sgn (cross a n q) < 0)) || (sgn (cross a n q) == 0 && decide (dot a q q > dot a n n))) = b) :
    wrapStep a n q = bif b then q else n := by
  rw [pt_beq, sgn_lt, sgn_beq0, cross_crs ha hn hq, dot_sqr ha hq, dot_sqr ha hn] at h
  unfold wrapStep
  cases b with
  | true =>
    rw [if_pos]; rfl
    simp only [Bool.or_eq_true, Bool.and_eq_true, beq_iff_eq, decide_eq_true_eq] at h
    rcases h with (h | h) | h
    · exact .inl h
    · exact .inr (.inl h)
    · exact .inr (.inr h)
  | false =>
    rw [if_neg]; rfl
    simp only [Bool.or_eq_false_iff, Bool.and_eq_false_iff, beq_eq_false_iff_ne, decide_eq_false_iff_not] at h
    rintro (h1 | h1 | h1)
    · exact h.1.1 h1
    · exact h.1.2 h1
    · rcases h.2 with h2 | h2
      · exact h2 h1.1
      · exact h2 h1.2
abbrev wS1 (l : List Pt) (i : Nat) (f : Pt) : St := ⟨[(0, pts l), (3, .s (.ptr 3 0)), (4, vI i)], [(3, some (ptB f))]⟩
abbrev wS2 (l : List Pt) (f : Pt) (o : List Pt) : St := ⟨[(0, pts l), (3, .s (.ptr 3 0)), (5, .s (.own 100))], [(3, some (ptB f)), (100, some (.row 44 o.length 2 (ptEl o)))]⟩
abbrev wS3 (l : List Pt) (f : Pt) (o : List Pt) (a : Pt) (i : Nat) (n : Pt) : St := ⟨[(0, pts l), (3, .s (.ptr 3 0)), (5, .s (.own 100)), (6, .s (.ptr 6 0)), (7, .s (.ptr 7 0)), (8, vI i)], [(3, some (ptB f)), (6, some (ptB a)), (7, some (ptB n)), (100, some (.row 44 o.length 2 (ptEl o)))]⟩
end Go.Ch

/- The reference's CheckPatch. -/
namespace Go.Ch
open Go Go.Ax Go.Proofs Go.Proofs.Try Go.Hull
set_option maxRecDepth 100000
set_option pp.maxSteps 400
set_option maxHeartbeats 1000000

end Go.Ch

/- The reference's Belongs. -/
namespace Go.Ch
open Go Go.Ax Go.Proofs Go.Proofs.Try Go.Hull
set_option maxRecDepth 100000
set_option pp.maxSteps 400
set_option maxHeartbeats 1000000

theorem inc_det {a b c d : Pt} (ha : Near a d) (hb : Near b d) (hc : Near c d) (oa : okP a) (ob : okP b) (oc' : okP c) (hp : 0 < crs a b c) : incI a b c d = sgn (det3 a b c d) := by
  obtain ⟨a1, a2, a3⟩ := os_eq ha
  obtain ⟨b1, b2, b3⟩ := os_eq hb
  obtain ⟨c1, c2, c3⟩ := os_eq hc
  obtain ⟨x1, x2, x3⟩ := oc_eq hb hc
  obtain ⟨y1, y2, y3⟩ := oc_eq ha hc
  obtain ⟨z1, z2, z3⟩ := oc_eq ha hb
  have m1 := mul_le_of (a := sqr d a) (b := crs d b c) (A := 800000000) (B := 800000000) (by omega) (by omega) (by omega) (by omega)
  have m2 := mul_le_of (a := sqr d b) (b := crs d a c) (A := 800000000) (B := 800000000) (by omega) (by omega) (by omega) (by omega)
  have m3 := mul_le_of (a := sqr d c) (b := crs d a b) (A := 800000000) (B := 800000000) (by omega) (by omega) (by omega) (by omega)
  have e : ∀ p q : Pt, w64 (w64 (ox p d * oy q d) - w64 (oy p d * ox q d)) = oc d p q := fun p q => by unfold oc; rw [Int.mul_comm (oy p d)]
  have hs : sgn (cross a b c) = 1 := by
    rw [cross_crs oa ob oc']; unfold sgn; rw [if_neg (by omega), if_pos (by omega)]
  have hd : dcI a b c d = det3 a b c d := by
    have hca : crs d c a = - crs d a c := by unfold crs; grind
    unfold dcI det3
    rw [e, e, e, a1, b1, c1, x1, y1, z1, w64_of (n := sqr d a * crs d b c) (by omega) (by omega), w64_of (n := sqr d b * crs d a c) (by omega) (by omega), w64_of (n := sqr d c * crs d a b) (by omega) (by omega),
      w64_of (n := sqr d a * crs d b c - sqr d b * crs d a c) (by omega) (by omega), w64_of (by omega) (by omega), hca, Int.mul_neg]
    omega
  unfold incI
  rw [hs, hd, Int.mul_one]
  unfold sgn
  split
  · rfl
  · split <;> rfl
theorem ref_test {x y z d : Pt} {n : Int} (hn : n = sgn (det3 x y z d)) (ox' : okP x) (oy' : okP y) (oz' : okP z) (od : okP d) (hp : 0 < crs x y z) {b : Bool}
    (h : (decide (n > 0) || (n == 0 && (bef d x || (sgn (cross y z d) != sgn (cross y z x))))) = b) : okRef x y z d = !b := by
  subst h hn
  have e : crs y z x = crs x y z := (crs_cyc x y z).symm
  have h1 : sgn (cross y z x) = 1 := by rw [cross_crs oy' oz' ox', e]; unfold sgn; rw [if_neg (by omega), if_pos (by omega)]
  have h2 : (sgn (cross y z d) != 1) = !(decide (crs y z d > 0)) := by
    rw [cross_crs oy' oz' od, ← sgn_one]; rfl
  have h3 : decide (sgn (det3 x y z d) > 0) = decide (det3 x y z d > 0) := by
    rw [Bool.eq_iff_iff]; unfold sgn; simp only [decide_eq_true_eq]; split
    · constructor <;> intro <;> omega
    · split
      · constructor <;> intro <;> omega
      · constructor <;> intro <;> omega
  rw [h1, h2, h3, sgn_beq0]
  unfold okRef
  cases decide (det3 x y z d > 0) <;> cases (det3 x y z d == 0) <;> cases bef d x <;> cases decide (crs y z d > 0) <;> rfl
theorem nat_beq (i k : Nat) : ((i : Int) == (k : Int)) = (i == k) := by
  rw [Bool.eq_iff_iff, beq_iff_eq, beq_iff_eq]; omega
def RotI (p q r : Pt) (F : Nat) : Prop := (F = 0 ∧ rotR p q r = (p, q, r)) ∨ (F = 1 ∧ rotR p q r = (q, r, p)) ∨ (F = 2 ∧ rotR p q r = (r, p, q))
def FrJ (p q r : Pt) (i F : Nat) : Prop := (i = 1 ∧ F = 0) ∨ (i = 2 ∧ bef q p = true ∧ F = 1) ∨ (i = 2 ∧ bef q p = false ∧ F = 0) ∨ (i = 3 ∧ RotI p q r F)
abbrev beS1 (l : List Pt) (t : Tri) (p q r : Pt) (i F : Nat) : St := ⟨[(0, pts l), (3, .s (.ptr 3 0)), (5, .s (.ptr 5 0)), (6, vI F), (7, vI i)], [(3, some (.cells [.d (dI t.A), .d (dI t.B), .d (dI t.C)])), (5, some (tri3B p q r))]⟩
abbrev beS2 (l : List Pt) (t : Tri) (p q r : Pt) (F : Nat) (y z : Pt) (i : Nat) : St := ⟨[(0, pts l), (3, .s (.ptr 3 0)), (5, .s (.ptr 5 0)), (6, vI F), (8, .s (.ptr 8 0)), (9, .s (.ptr 9 0)), (10, vI i)], [(3, some (.cells [.d (dI t.A), .d (dI t.B), .d (dI t.C)])), (5, some (tri3B p q r)), (8, some (ptB y)), (9, some (ptB z))]⟩
abbrev beS3 (l : List Pt) (t : Tri) (p q r : Pt) (F : Nat) (y z : Pt) : St := ⟨[(0, pts l), (3, .s (.ptr 3 0)), (5, .s (.ptr 5 0)), (6, vI F), (8, .s (.ptr 8 0)), (9, .s (.ptr 9 0))], [(3, some (.cells [.d (dI t.A), .d (dI t.B), .d (dI t.C)])), (5, some (tri3B p q r)), (8, some (ptB y)), (9, some (ptB z))]⟩
end Go.Ch

/- The reference's Triangulate. -/
namespace Go.Ch
open Go Go.Ax Go.Proofs Go.Proofs.Try Go.Hull
set_option maxRecDepth 100000
set_option pp.maxSteps 400
set_option maxHeartbeats 1000000

theorem rC_succ (l : List Pt) (a b k : Nat) : rC l a b (k + 1) = rC l a b k ++ (refC l a b (a + 1 + k)).toList := by
  unfold rC
  rw [List.range_succ, List.filterMap_append]
  congr 1
theorem rB_succ (l : List Pt) (a k : Nat) : rB l a (k + 1) = rB l a k ++ rC l a (a + 1 + k) (l.length - (a + 1)) := by
  unfold rB
  rw [List.range_succ, List.flatMap_append, List.flatMap_cons, List.flatMap_nil, List.append_nil]
theorem rA_succ (l : List Pt) (k : Nat) : rA l (k + 1) = rA l k ++ rB l k (l.length - (k + 1)) := by
  unfold rA
  rw [List.range_succ, List.flatMap_append, List.flatMap_cons, List.flatMap_nil, List.append_nil]
theorem rC_len (l : List Pt) (a b : Nat) : ∀ k, (rC l a b k).length ≤ k
  | 0 => by simp [rC]
  | k + 1 => by
    rw [rC_succ, List.length_append]
    have := rC_len l a b k
    have : (refC l a b (a + 1 + k)).toList.length ≤ 1 := by cases refC l a b (a + 1 + k) <;> simp
    omega
theorem rB_len (l : List Pt) (a : Nat) : ∀ k, (rB l a k).length ≤ k * l.length
  | 0 => by simp [rB]
  | k + 1 => by
    rw [rB_succ, List.length_append, Nat.add_mul]
    have := rB_len l a k
    have := rC_len l a (a + 1 + k) (l.length - (a + 1))
    omega
theorem rA_len (l : List Pt) : ∀ k, (rA l k).length ≤ k * (l.length * l.length)
  | 0 => by simp [rA]
  | k + 1 => by
    rw [rA_succ, List.length_append, Nat.add_mul]
    have := rA_len l k
    have := rB_len l k (l.length - (k + 1))
    have : (l.length - (k + 1)) * l.length ≤ l.length * l.length := Nat.mul_le_mul_right _ (by omega)
    omega
abbrev uS0 (l : List Pt) (a : Nat) (o : List Tri) : St := ⟨[(0, pts l), (3, .s (.mo o.isEmpty 100)), (4, vI a)], [(100, some (.mrow 55 o.length 3 (trEl (trTs o))))]⟩
abbrev uS1 (l : List Pt) (a b : Nat) (o : List Tri) : St := ⟨[(0, pts l), (3, .s (.mo o.isEmpty 100)), (4, vI a), (5, vI b)], [(100, some (.mrow 55 o.length 3 (trEl (trTs o))))]⟩
abbrev uS2 (l : List Pt) (a b c : Nat) (o : List Tri) : St := ⟨[(0, pts l), (3, .s (.mo o.isEmpty 100)), (4, vI a), (5, vI b), (6, vI c)], [(100, some (.mrow 55 o.length 3 (trEl (trTs o))))]⟩
/-- What a patch without error says. -/
theorem patch_ok {l : List Pt} (h : patchE l = 0) : l.length ≤ 64 ∧ (∀ p ∈ l, okP p) ∧ Dist l ∧ apartB l = false := by
  unfold patchE at h
  cases h1 : errPts l != 0 with
  | true => rw [h1] at h; exact absurd h (by simpa using h1)
  | false =>
    rw [h1] at h
    have he : errPts l = 0 := by simpa using h1
    obtain ⟨a, b⟩ := errPts_ok he
    cases h2 : dupP l with
    | true => rw [h2] at h; cases h
    | false =>
      rw [h2] at h
      cases h3 : apartB l with
      | true => rw [h3] at h; cases h
      | false => exact ⟨a, b, dist_of (by rw [← dup_eq]; exact h2), rfl⟩
/-- geometry.Triangulate -/
theorem gTriangErr (l : List Pt) (hl : l.length ≤ 1000000) (h0 : patchE l ≠ 0) : CallP Try.prog 26 [pts l] (.t [.s (.d (.val (.slice none 0 0))), .s (.d (dI (patchE l)))]) := by
  refine callP_of_ex (rc := []) (N := 12) Try.func26 rfl rfl Try.call26 tab_ok mix rfl rfl (fun cx href => ?_)
  refine callN (gPatchErr l hl) ?_
  refine And.intro (fun h => ?_) (fun h => ?_)
  · exact SubR.refl _
  · have h : (patchE l != 0) = false := h
    exact absurd (by simpa using h) h0
theorem gTriangOk (l : List Pt) (h0 : patchE l = 0) : CallP Try.prog 26 [pts l] (.t [.s (.d (dTrs (trTs (triR l)))), .s (.d (dI 0))]) := by
  obtain ⟨hl, ho, hd, hap⟩ := patch_ok h0
  refine callP_of_ex (rc := []) (N := 12) Try.func26 rfl rfl Try.call26 tab_ok mix rfl rfl (fun cx href => ?_)
  refine callN (gPatchErr l (by omega)) ?_
  rw [h0]
  refine And.intro (fun h => ?_) (fun h => ?_)
  · exact absurd h (by decide)
  have ht := gTriangulate l hap ho hl
  rw [tri_sorted hd] at ht
  refine callN ht ?_
  exact SubR.refl _
end Go.Ch

/- bed.Triangulate. -/
namespace Go.Ch
open Go Go.Ax Go.Proofs Go.Proofs.Try Go.Hull
set_option maxRecDepth 100000
set_option pp.maxSteps 400
set_option maxHeartbeats 1000000

theorem CloneN (l : List Nd) (hl : l.length ≤ 1000000) : CallP Try.prog 27 [vNds l] (vNds l) := by
  refine callP_of_ex (rc := []) (N := 8) Try.func27 rfl rfl Try.call27 tab_ok mix rfl rfl (fun cx href => ?_)
  intro b hb
  refine And.intro (fun h => ?_) (fun h => ?_)
  · obtain rfl : l = [] := List.length_eq_zero_iff.1 (hb h)
    exact SubR.le LeD.nil
  · refine ob (show (0 + l.length) * 24 ≤ 140737488355328 by omega) ?_
    refine ob (fun k j hk hj => match j, hj with
      | 0, _ => rfl
      | 1, _ => rfl
      | 2, _ => rfl) ?_
    refine SubR.le (LeD.slc' (Nat.zero_add _) fun i j hi hj => LeD.of_eq ?_)
    show catF 0 _ (ndEl l) i j = _
    rw [catF0]
def badLv (n : Nd) : Bool := !within n.lv (-20000) 20000
theorem tri1 (n : Nd) : CallP Try.prog 23 [nd n] (vB (badLv n)) := by
  refine callP_of_ex (rc := []) (N := 7) Try.func23 rfl rfl Try.call23 tab_ok mix rfl rfl (fun cx href => ?_)
  refine callN (isLevel n.lv) ?_
  exact SubR.refl _
def ptsN (l : List Nd) : List Pt := l.map Nd.pt
abbrev rME (m : Mesh) (e : Int) : AV := .t [.g [.d (dNds m.nodes), .d (dTrs m.tris)], .s (.d (dI e))]
def triB (l : List Nd) : Mesh × Int := bif l.any badLv then (⟨[], []⟩, 2) else if patchE (ptsN l) = 0 then (⟨l, trTs (triR (ptsN l))⟩, 0) else (⟨[], []⟩, patchE (ptsN l))
theorem ptsN_take {l : List Nd} {i : Nat} (h : i < l.length) : ptsN (l.take (i + 1)) = ptsN (l.take i) ++ [(l.getD i default).pt] := by
  unfold ptsN
  rw [List.take_add_one, List.map_append, List.getElem?_eq_getElem h, List.getD_eq_getElem?_getD, List.getElem?_eq_getElem h]
  rfl
theorem ptsN_len {l : List Nd} {i : Nat} (h : i ≤ l.length) : (ptsN (l.take i)).length = i := by
  unfold ptsN; rw [List.length_map, List.length_take]; omega
abbrev bT (l : List Nd) (i : Nat) (o : List Pt) : St := ⟨[(0, vNds l), (2, .s (.ptr 2 0)), (4, .s (.mo o.isEmpty 100)), (12, vNds l), (13, vI l.length), (14, vI i)], [(2, some (.cells (zvs ty38.zero))), (100, some (.mrow 44 o.length 2 (ptEl o)))]⟩
theorem bTriangulate (l : List Nd) (hl : l.length ≤ 1000) : CallP Try.prog 12 [vNds l] (rME (triB l).1 (triB l).2) := by
  refine callP_of_aw Try.func12 rfl rfl Try.call12 tab_ok rfl rfl (fun cx href => ?_)
  refine AW.seq (ex.sound (rc := []) tab_ok mix href _ ?_)
  refine AW.seq (ex.sound (rc := []) tab_ok mix href _ ?_)
  refine callN (containsN l (by omega) 23 0 _ badLv (fun x _ => tri1 x)) ?_
  unfold triB
  refine And.intro (fun h => ?_) (fun h => ?_)
  · have h : (l.any badLv) = true := h
    rw [h]
    exact SubR.t ⟨⟨LeD.nil, LeD.nil, trivial⟩, LeD.refl _, trivial⟩
  have h : (l.any badLv) = false := h
  rw [h]
  refine AW.seq (ex.sound (rc := []) tab_ok mix href _ ?_)
  refine AW.cut (σ' := bT l l.length (ptsN l)) (ex.sound (rc := []) tab_ok mix href _ ?_) ?_
  · refine AW.loopI (fun i : Nat => bT l i (ptsN (l.take i))) (fun i => i ≤ l.length) (fun i => l.length - i) 0 (Nat.zero_le _) ?_ ?_
    · exact SubI.of0 href [(100, 1000)] rfl ⟨⟨rfl, LeBx.rfl⟩, ⟨rfl, rfl⟩, trivial⟩ ⟨⟨rfl, LeQ.rfl⟩, ⟨rfl, LeQ.rfl⟩, ⟨rfl, LeQ.nil rfl⟩, ⟨rfl, LeQ.rfl⟩, ⟨rfl, LeQ.rfl⟩, ⟨rfl, LeQ.rfl⟩, trivial⟩
    · intro i hi
      have hlen := ptsN_len hi
      refine ex.sound (rc := []) tab_ok mix href _ ?_
      refine And.intro (fun h => ?_) (fun h => ?_)
      · have h : (i : Int) < l.length := decT h
        have hi' : i < l.length := by omega
        refine oi ⟨by omega, by omega⟩ ?_
        refine callN (bplace (l.getD i default)) ?_
        refine ob (by decide) ?_
        refine ob (by rw [bif_len]; show ((ptsN (l.take i)).length + 1) * 16 ≤ 140737488355328; omega) ?_
        refine ob (fun k j hk hj => ?_) ?_
        · obtain rfl : k = 0 := by omega
          match j, hj with
          | 0, _ => rfl
          | 1, _ => rfl
        refine ⟨i + 1, by omega, by omega, ?_⟩
        show SubI cx _ _ (bT l (i + 1) (ptsN (l.take (i + 1))))
        rw [ptsN_take hi']
        exact SubI.of0 href [(100, 22)] rfl ⟨⟨rfl, LeBx.rfl⟩, ⟨rfl, LeBx.snoc (el := ptD) fun j hj => match j, hj with
          | 0, _ => rfl
          | 1, _ => rfl⟩, trivial⟩ ⟨⟨rfl, LeQ.rfl⟩, ⟨rfl, LeQ.rfl⟩, ⟨rfl, LeQ.mo (isEmpty_snoc _ _)⟩, ⟨rfl, LeQ.rfl⟩, ⟨rfl, LeQ.rfl⟩, ⟨rfl, LeQ.int (w64_of (by omega) (by omega))⟩, trivial⟩
      · have h : ¬ (i : Int) < l.length := decF h
        obtain rfl : i = l.length := by omega
        rw [List.take_length]
        exact ⟨rfl, SubI.of0 href [] rfl ⟨⟨rfl, LeBx.rfl⟩, ⟨rfl, LeBx.rfl⟩, trivial⟩ ⟨⟨rfl, LeQ.rfl⟩, ⟨rfl, LeQ.rfl⟩, ⟨rfl, LeQ.rfl⟩, ⟨rfl, LeQ.rfl⟩, ⟨rfl, LeQ.rfl⟩, ⟨rfl, LeQ.rfl⟩, trivial⟩⟩
  · have hlen : (ptsN l).length = l.length := by unfold ptsN; rw [List.length_map]
    cases hz : (ptsN l).isEmpty with
    | true =>
      have e0 : ptsN l = [] := List.isEmpty_iff.1 hz
      refine AW.subI (σ' := ⟨[(0, vNds l), (2, .s (.ptr 2 0)), (4, pts (ptsN l))], [(2, some (.cells (zvs ty38.zero)))]⟩) (SubI.of0 href [] rfl ⟨⟨rfl, LeBx.rfl⟩, trivial⟩ ⟨⟨rfl, LeQ.rfl⟩, ⟨rfl, LeQ.rfl⟩, ⟨rfl, ?_⟩, trivial⟩) ?_
      · show LeQ (.s (.mo (ptsN l).isEmpty 100)) (pts (ptsN l))
        rw [e0]
        exact fun M β v r => LeQ.d LeD.nil M β v (LeQ.toNil (z := true) rfl M β v r)
      refine ex.sound (rc := []) tab_ok mix href _ ?_
      by_cases h0 : patchE (ptsN l) = 0
      · rw [if_pos h0]
        refine callN (gTriangOk (ptsN l) h0) ?_
        refine And.intro (fun h2 => absurd h2 (show ¬ (false = true) by decide)) (fun _ => ?_)
        refine callN (CloneN l (by omega)) ?_
        exact SubR.refl _
      · rw [if_neg h0]
        refine callN (gTriangErr (ptsN l) (by omega) h0) ?_
        refine And.intro (fun h2 => ?_) (fun h2 => ?_)
        · exact SubR.t ⟨⟨LeD.nil, LeD.nil, trivial⟩, LeD.refl _, trivial⟩
        · have h2 : (patchE (ptsN l) != 0) = false := h2
          exact absurd (by simpa using h2) h0
    | false =>
      refine AW.subI (SubI.own (e := 44) (n := (ptsN l).length) (s := 2) (f := ptEl (ptsN l)) (z := false) 4 100 ?_ rfl ?_) ?_
      · show AV.s (.mo (ptsN l).isEmpty 100) = _
        rw [hz]
      · rfl
      refine AW.subM (σ' := ⟨[(0, vNds l), (2, .s (.ptr 2 0)), (4, pts (ptsN l))], [(2, some (.cells (zvs ty38.zero)))]⟩) (SubM.of href [] [100] rfl rfl rfl ⟨⟨rfl, LeBxf.rfl⟩, trivial⟩ ⟨⟨rfl, LeQf.rfl⟩, ⟨rfl, LeQf.rfl⟩, ⟨rfl, LeQf.own (by simp) rfl⟩, trivial⟩) ?_
      refine ex.sound (rc := []) tab_ok mix href _ ?_
      by_cases h0 : patchE (ptsN l) = 0
      · rw [if_pos h0]
        refine callN (gTriangOk (ptsN l) h0) ?_
        refine And.intro (fun h2 => absurd h2 (show ¬ (false = true) by decide)) (fun _ => ?_)
        refine callN (CloneN l (by omega)) ?_
        exact SubR.refl _
      · rw [if_neg h0]
        refine callN (gTriangErr (ptsN l) (by omega) h0) ?_
        refine And.intro (fun h2 => ?_) (fun h2 => ?_)
        · exact SubR.t ⟨⟨LeD.nil, LeD.nil, trivial⟩, LeD.refl _, trivial⟩
        · have h2 : (patchE (ptsN l) != 0) = false := h2
          exact absurd (by simpa using h2) h0
end Go.Ch

/- A mesh is the same as itself. -/
namespace Go.Ch
open Go Go.Ax Go.Proofs Go.Proofs.Try Go.Hull
set_option maxRecDepth 100000
set_option pp.maxSteps 400
set_option maxHeartbeats 1000000

end Go.Ch

/- Squares: the plain function; the reference's numbers. -/
namespace Go.Ch
open Go Go.Ax Go.Proofs Go.Proofs.Try Go.Hull
set_option maxRecDepth 100000
set_option pp.maxSteps 400
set_option maxHeartbeats 1000000

def kn (g : Grid) (k : Nat) : Bool := g.levels.getD k 0 != 30000
def ndAt (g : Grid) (k : Nat) : Nd := ⟨(centreG g k).x, (centreG g k).y, g.levels.getD k 0⟩
def nds (g : Grid) (i : Nat) : List Nd := (List.range i).filterMap fun k => bif kn g k then some (ndAt g k) else none
def numI (g : Grid) (k : Nat) : Int := bif kn g k then ((nds g k).length : Int) else -1
theorem nds_succ (g : Grid) (i : Nat) : nds g (i + 1) = bif kn g i then nds g i ++ [ndAt g i] else nds g i := by
  unfold nds
  rw [List.range_succ, List.filterMap_append]
  cases h : kn g i <;> simp [h]
theorem nds_len (g : Grid) (i : Nat) : (nds g i).length ≤ i := by
  have := List.length_filterMap_le (fun k => bif kn g k then some (ndAt g k) else none) (List.range i)
  rw [List.length_range] at this
  exact this
theorem knownF_kn {g : Grid} {i : Nat} (h : i < g.levels.length) : knownF g i = kn g i := by
  unfold knownF kn lv
  rw [decide_eq_true (show (i : Int) ≥ 0 by omega), decide_eq_true (show (i : Int) < g.levels.length by omega)]
  simp
theorem LeBx.snocN {o : List Nd} {n : Nd} {g : Nat → Nat → DV} (hg : ∀ j, j < 3 → g 0 j = ndD n j) :
    LeBx (.row 60 ((bif o.isEmpty then 0 else o.length) + 1) 3 (catF (bif o.isEmpty then 0 else o.length) (ndEl o) g)) (.mrow 60 (o ++ [n]).length 3 (ndEl (o ++ [n]))) := LeBx.snoc (el := ndD) hg
abbrev qS1 (g : Grid) (i : Nat) (o : List Nd) (f : Nat → Int) : St := ⟨[(1, .s (.ptr 1 0)), (2, .s (.ptr 2 0)), (3, .s (.ptr 3 0)), (4, .s (.own 15)), (5, vI i)],
  [(1, some (gridB g)), (2, some (.cells (zvs ty38.zero))), (3, some (.cells [.mo o.isEmpty 100, .d (.val (.slice none 0 0))])), (15, some (.row 3 g.levels.length 1 (fun k _ => dI (f k)))), (100, some (.mrow 60 o.length 3 (ndEl o)))]⟩
def numF (g : Grid) (i : Nat) : Nat → Int := fun k => if k < i then numI g k else 0
abbrev qS2 (g : Grid) (i : Nat) (o : List Tr) : St := ⟨[(1, .s (.ptr 1 0)), (2, .s (.ptr 2 0)), (3, .s (.ptr 3 0)), (4, .s (.own 15)), (7, vI i)],
  [(1, some (gridB g)), (2, some (.cells (zvs ty38.zero))), (3, some (.cells [.mo (nds g g.levels.length).isEmpty 100, .mo o.isEmpty 101])), (15, some (.row 3 g.levels.length 1 (fun k _ => dI (numF g g.levels.length k)))), (100, some (.mrow 60 (nds g g.levels.length).length 3 (ndEl (nds g g.levels.length)))), (101, some (.mrow 55 o.length 3 (trEl o)))]⟩
abbrev qS3 (g : Grid) (i : Nat) (o : List Tr) (p q s t : Int) : St := ⟨[(1, .s (.ptr 1 0)), (2, .s (.ptr 2 0)), (3, .s (.ptr 3 0)), (4, .s (.own 15)), (7, vI i), (8, vI p), (9, vI q), (10, vI s), (11, vI t)],
  [(1, some (gridB g)), (2, some (.cells (zvs ty38.zero))), (3, some (.cells [.mo (nds g g.levels.length).isEmpty 100, .mo o.isEmpty 101])), (15, some (.row 3 g.levels.length 1 (fun k _ => dI (numF g g.levels.length k)))), (100, some (.mrow 60 (nds g g.levels.length).length 3 (ndEl (nds g g.levels.length)))), (101, some (.mrow 55 o.length 3 (trEl o)))]⟩
theorem numF_at {g : Grid} {k : Nat} (h : k < g.levels.length) {n : Int} (e : n = (k : Int)) : numF g g.levels.length n.toNat = numI g k := by
  subst e; unfold numF; rw [Int.toNat_natCast, if_pos h]
theorem LeBx.snoc2 {o : List Tr} {x y : Tr} {g : Nat → Nat → DV} (h0 : ∀ j, j < 3 → g 0 j = trD x j) (h1 : ∀ j, j < 3 → g 1 j = trD y j) :
    LeBx (.row 55 ((bif o.isEmpty then 0 else o.length) + 2) 3 (catF (bif o.isEmpty then 0 else o.length) (trEl o) g)) (.mrow 55 (o ++ [x, y]).length 3 (trEl (o ++ [x, y]))) := by
  rw [bif_len]
  refine LeBx.mrow (by simp) fun i j hi hj => LeD.of_eq ?_
  show (if i < o.length then trD (o.getD i default) j else g (i - o.length) j) = trD ((o ++ [x, y]).getD i default) j
  rw [List.getD_eq_getElem?_getD, List.getD_eq_getElem?_getD]
  split
  · rename_i h
    rw [List.getElem?_append_left (by omega)]
  · rename_i h
    rw [List.getElem?_append_right (by omega)]
    have : i - o.length = 0 ∨ i - o.length = 1 := by omega
    rcases this with e | e
    · rw [e, h0 j hj]; rfl
    · rw [e, h1 j hj]; rfl
theorem numF_ne {g : Grid} {i k : Nat} (h : k ≠ i) : dI (numF g i k) = dI (numF g (i + 1) k) := by
  unfold numF
  by_cases hk : k < i
  · rw [if_pos hk, if_pos (by omega)]
  · rw [if_neg hk, if_neg (by omega)]
def lvN (g : Grid) (p : Int) : Int := ((nds g g.levels.length).getD p.toNat default).lv
def sqQ (g : Grid) (p q s t : Int) : List Tr := bif decide (absI (lvN g p - lvN g s) ≤ absI (lvN g q - lvN g t)) then [⟨p, q, s⟩, ⟨p, s, t⟩] else [⟨p, q, t⟩, ⟨q, s, t⟩]
def lastC (g : Grid) (k : Nat) : Bool := (k : Int).tmod g.cols == g.cols - 1
def lastR (g : Grid) (k : Nat) : Bool := (k : Int).tdiv g.cols == g.rows - 1
def none4 (p q s t : Int) : Bool := ((decide (p < 0) || decide (q < 0)) || decide (s < 0)) || decide (t < 0)
def sqT (g : Grid) (k : Nat) : List Tr := bif lastC g k || lastR g k then [] else bif none4 (numI g k) (numI g (k + 1)) (numI g (k + 1 + g.cols.toNat)) (numI g (k + g.cols.toNat)) then [] else sqQ g (numI g k) (numI g (k + 1)) (numI g (k + 1 + g.cols.toNat)) (numI g (k + g.cols.toNat))
def sqs (g : Grid) (i : Nat) : List Tr := (List.range i).flatMap (sqT g)
theorem sqs_succ (g : Grid) (i : Nat) : sqs g (i + 1) = sqs g i ++ sqT g i := by
  unfold sqs
  rw [List.range_succ, List.flatMap_append, List.flatMap_cons, List.flatMap_nil, List.append_nil]
theorem sqT_len (g : Grid) (k : Nat) : (sqT g k).length ≤ 2 := by
  unfold sqT sqQ
  cases lastC g k || lastR g k <;> simp only [cond_true, cond_false, List.length_nil, Nat.zero_le]
  cases none4 (numI g k) (numI g (k + 1)) (numI g (k + 1 + g.cols.toNat)) (numI g (k + g.cols.toNat)) <;> simp only [cond_true, cond_false, List.length_nil, Nat.zero_le]
  cases decide (absI (lvN g (numI g k) - lvN g (numI g (k + 1 + g.cols.toNat))) ≤ absI (lvN g (numI g (k + 1)) - lvN g (numI g (k + g.cols.toNat)))) <;> exact Nat.le_refl 2
theorem sqs_len (g : Grid) : ∀ i, (sqs g i).length ≤ 2 * i
  | 0 => by simp [sqs]
  | i + 1 => by
    rw [sqs_succ, List.length_append]
    have := sqs_len g i
    have := sqT_len g i
    omega
theorem nds_mono (g : Grid) : ∀ {i j : Nat}, i ≤ j → (nds g i).length ≤ (nds g j).length
  | i, 0, h => by obtain rfl : i = 0 := by omega
                  exact Nat.le_refl _
  | i, j + 1, h => by
    by_cases e : i = j + 1
    · rw [e]; exact Nat.le_refl _
    · have := nds_mono g (i := i) (j := j) (by omega)
      rw [nds_succ]
      cases kn g j <;> simp <;> omega
theorem numI_lt {g : Grid} {k n : Nat} (h : k < n) : -1 ≤ numI g k ∧ (0 ≤ numI g k → numI g k < (nds g n).length) := by
  unfold numI
  cases hk : kn g k with
  | false =>
    show -1 ≤ (-1 : Int) ∧ (0 ≤ (-1 : Int) → (-1 : Int) < _)
    exact ⟨by decide, fun h => absurd h (by decide)⟩
  | true =>
    have h1 := nds_succ g k
    rw [hk] at h1
    have h2 := congrArg List.length h1
    simp only [cond_true, List.length_append, List.length_cons, List.length_nil] at h2
    have h3 := nds_mono g (i := k + 1) (j := n) h
    simp only [cond_true]
    omega
theorem cell_in {g : Grid} (hv : GVal g) {k : Nat} (hk : k < g.levels.length) (h1 : lastC g k = false) (h2 : lastR g k = false) : k + 1 + g.cols.toNat < g.levels.length := by
  have hl := hv.len
  have hc := hv.cols
  have hr := hv.rows
  unfold lastC at h1
  unfold lastR at h2
  have h1 : ¬ (k : Int).tmod g.cols = g.cols - 1 := by simpa using h1
  have h2 : ¬ (k : Int).tdiv g.cols = g.rows - 1 := by simpa using h2
  rw [Int.tmod_eq_emod_of_nonneg (by omega)] at h1
  rw [Int.tdiv_eq_ediv_of_nonneg (by omega)] at h2
  have e := Int.emod_add_mul_ediv (k : Int) g.cols
  have m0 := Int.emod_nonneg (k : Int) (show g.cols ≠ 0 by omega)
  have m1 := Int.emod_lt_of_pos (k : Int) (show 0 < g.cols by omega)
  have d0 : 0 ≤ (k : Int) / g.cols := Int.ediv_nonneg (by omega) (by omega)
  have d1 : (k : Int) / g.cols < g.rows := Int.ediv_lt_of_lt_mul (by omega) (by rw [Int.mul_comm]; omega)
  have hm : g.cols * ((k : Int) / g.cols) ≤ g.cols * (g.rows - 2) := Int.mul_le_mul_of_nonneg_left (by omega) (by omega)
  have hx : g.cols * (g.rows - 2) = g.cols * g.rows - 2 * g.cols := by rw [Int.mul_sub]; omega
  omega
theorem lvN_le {g : Grid} (hv : GVal g) (p : Int) : -30000 ≤ lvN g p ∧ lvN g p ≤ 30000 := by
  unfold lvN
  rw [List.getD_eq_getElem?_getD]
  cases h : (nds g g.levels.length)[p.toNat]? with
  | none => exact ⟨by decide, by decide⟩
  | some x =>
    have hx := List.mem_of_getElem? h
    unfold nds at hx
    rw [List.mem_filterMap] at hx
    obtain ⟨k, hk, e⟩ := hx
    rw [List.mem_range] at hk
    cases hkn : kn g k with
    | false => rw [hkn] at e; cases e
    | true =>
      rw [hkn] at e
      have e : some (ndAt g k) = some x := e
      cases e
      have hm : g.levels.getD k 0 ∈ g.levels := by
        rw [List.getD_eq_getElem?_getD, List.getElem?_eq_getElem hk]
        exact List.getElem_mem hk
      have := hv.lev _ hm
      show -30000 ≤ g.levels.getD k 0 ∧ g.levels.getD k 0 ≤ 30000
      omega
theorem _root_.Go.Ax.SubM.trans {cx : Cx} {N : Nat} {a b c : St} (h : SubM cx N a b) (k : SubM cx N b c) : SubM cx N a c := fun M β x w i => let ⟨M1, β1, i1, g1⟩ := h M β x w i; let ⟨M2, β2, i2, g2⟩ := k M1 β1 x w i1; ⟨M2, β2, i2, g1.trans g2⟩
def sqM (g : Grid) : Mesh := ⟨nds g g.levels.length, sqs g g.levels.length⟩
end Go.Ch

/- A triangulation passes the check of meshes. -/
namespace Go.Ch
open Go Go.Ax Go.Proofs Go.Proofs.Try Go.Hull
set_option maxRecDepth 100000
set_option pp.maxSteps 400
set_option maxHeartbeats 1000000

theorem errT_zero {m : Mesh} : ∀ {l : List Tr}, (∀ t ∈ l, inMB (w64 (m.nodes.length - 1)) t = true ∧ 0 < dbl m t ∧ dbl m t ≤ 800000000) → errT m l = 0
  | [], _ => rfl
  | t :: r, h => by
    obtain ⟨h1, h2, h3⟩ := h t (by simp)
    rw [errT, h1, decide_eq_false (show ¬ dbl m t ≤ 0 by omega), decide_eq_false (show ¬ dbl m t > 800000000 by omega)]
    exact errT_zero (l := r) fun x hx => h x (by simp [hx])
theorem ptsN_at {l : List Nd} {i : Nat} (h : i < l.length) : (ptsN l).getD i default = (l.getD i default).pt := by
  unfold ptsN
  rw [List.getD_eq_getElem?_getD, List.getD_eq_getElem?_getD, List.getElem?_map, List.getElem?_eq_getElem h]
  rfl
theorem crs_near {a b c : Pt} (hb : Near b a) (hc : Near c a) : crs a b c ≤ 800000000 := by
  have := (oc_eq hb hc).2.2
  exact this
theorem errM_tri {l : List Nd} (hb : l.any badLv = false) (h0 : patchE (ptsN l) = 0) (hl : (triR (ptsN l)).length ≤ 2048) : errM ⟨l, trTs (triR (ptsN l))⟩ = 0 := by
  obtain ⟨h64, ho, hd, hap⟩ := patch_ok h0
  have hlen : (ptsN l).length = l.length := by unfold ptsN; rw [List.length_map]
  have hpt : ∀ i, i < l.length → (ptsN l).getD i default ∈ ptsN l := fun i hi => by rw [getD_at (by omega)]; exact List.getElem_mem (by omega)
  have hbn : l.any badN = false := by
    rw [List.any_eq_false] at hb ⊢
    intro n hn
    have h1 := hb n hn
    have h2 : good n.pt = true := good_of (ho _ (by unfold ptsN; exact List.mem_map.2 ⟨n, hn, rfl⟩))
    unfold badN
    unfold badLv at h1
    rw [h2]
    simpa using h1
  unfold errM
  have e1 : (decide ((l.length : Int) > 1024) || decide (((trTs (triR (ptsN l))).length : Int) > 2048)) = false := by
    unfold trTs
    rw [List.length_map, decide_eq_false (by omega), decide_eq_false (by omega)]; rfl
  show (bif (decide ((l.length : Int) > 1024) || decide (((trTs (triR (ptsN l))).length : Int) > 2048)) then 8 else bif l.any badN then 2 else errT _ (trTs (triR (ptsN l)))) = (0 : Int)
  rw [e1, hbn]
  refine errT_zero fun t ht => ?_
  unfold trTs at ht
  rw [List.mem_map] at ht
  obtain ⟨T, hT, rfl⟩ := ht
  obtain ⟨k1, k2, k3, k4, k5, _⟩ := mem_triR.1 hT
  rw [hlen] at k3 k4
  have eA : (ndA ⟨l, trTs (triR (ptsN l))⟩ (trOf T).a).pt = (ptsN l).getD T.A default := (ptsN_at (l := l) (i := T.A) (by omega)).symm
  have eB : (ndA ⟨l, trTs (triR (ptsN l))⟩ (trOf T).b).pt = (ptsN l).getD T.B default := (ptsN_at (l := l) (i := T.B) (by omega)).symm
  have eC : (ndA ⟨l, trTs (triR (ptsN l))⟩ (trOf T).c).pt = (ptsN l).getD T.C default := (ptsN_at (l := l) (i := T.C) (by omega)).symm
  have mA := hpt T.A (by omega)
  have mB := hpt T.B (by omega)
  have mC := hpt T.C (by omega)
  refine ⟨(inMB_iff (by show l.length ≤ 1024; omega)).2 ⟨⟨by show 0 ≤ (T.A : Int); omega, by show (T.A : Int) < (l.length : Int); omega⟩, ⟨by show 0 ≤ (T.B : Int); omega, by show (T.B : Int) < (l.length : Int); omega⟩, ⟨by show 0 ≤ (T.C : Int); omega, by show (T.C : Int) < (l.length : Int); omega⟩⟩, ?_⟩
  unfold dbl
  rw [eA, eB, eC, cross_crs (ho _ mA) (ho _ mB) (ho _ mC)]
  exact ⟨k5, crs_near (near_of hap mB mA) (near_of hap mC mA)⟩
end Go.Ch

/- Squares: the node of a number. -/
namespace Go.Ch
open Go Go.Ax Go.Proofs Go.Proofs.Try Go.Hull
set_option maxRecDepth 100000
set_option pp.maxSteps 400
set_option maxHeartbeats 1000000

theorem nds_pre (g : Grid) {i : Nat} : ∀ {j n : Nat}, j ≤ n → i < (nds g j).length → (nds g n)[i]? = (nds g j)[i]?
  | j, 0, h, _ => by obtain rfl : j = 0 := by omega
                     rfl
  | j, n + 1, h, hi => by
    by_cases e : j = n + 1
    · rw [e]
    · have ih := nds_pre g (i := i) (j := j) (n := n) (by omega) hi
      have hm := nds_mono g (i := j) (j := n) (by omega)
      rw [nds_succ]
      cases kn g n with
      | false => exact ih
      | true =>
        show (nds g n ++ [ndAt g n])[i]? = _
        rw [List.getElem?_append_left (by omega)]
        exact ih
theorem nds_at {g : Grid} {k n : Nat} (h : k < n) (hk : kn g k = true) : (nds g n).getD (numI g k).toNat default = ndAt g k := by
  have h1 := nds_succ g k
  rw [hk] at h1
  have h1 : nds g (k + 1) = nds g k ++ [ndAt g k] := h1
  have hn : (numI g k).toNat = (nds g k).length := by unfold numI; rw [hk]; simp
  rw [hn, List.getD_eq_getElem?_getD, nds_pre g (j := k + 1) (n := n) h (by rw [h1]; simp), h1, List.getElem?_append_right (Nat.le_refl _)]
  simp
end Go.Ch

/- bed.Squares: the map from place to number. -/
namespace Go.Ch
open Go Go.Ax Go.Proofs Go.Proofs.Try Go.Hull
set_option maxRecDepth 100000
set_option pp.maxSteps 400
set_option maxHeartbeats 1000000

/-- The entries of the map, oldest first. -/
def mapI (g : Grid) (i : Nat) : List (Int × Int) := (List.range i).filterMap fun k => bif kn g k then some ((k : Int), numI g k) else none
theorem mapI_succ (g : Grid) (i : Nat) : mapI g (i + 1) = bif kn g i then mapI g i ++ [((i : Int), numI g i)] else mapI g i := by
  unfold mapI
  rw [List.range_succ, List.filterMap_append]
  cases h : kn g i <;> simp [h]
end Go.Ch

/- bed.Squares: the map; the closure; the numbers. -/
namespace Go.Ch
open Go Go.Ax Go.Proofs Go.Proofs.Try Go.Hull
set_option maxRecDepth 100000
set_option pp.maxSteps 400
set_option maxHeartbeats 1000000

theorem findM_append {a v k : Int} : ∀ {l : List (Int × Int)}, findM (l ++ [(a, v)]) k = match findM l k with | some x => some x | none => bif k == a then some v else none
  | [] => by simp only [List.nil_append, findM]
  | (b, u) :: r => by
    simp only [List.cons_append, findM]
    cases h : k == b with
    | true => rfl
    | false => exact findM_append (l := r)
theorem setM_fresh {k v : Int} : ∀ {l : List (Int × Int)}, findM l k = none → setM l k v = l ++ [(k, v)]
  | [], _ => rfl
  | (b, u) :: r, h => by
    simp only [findM] at h
    simp only [setM, List.cons_append]
    cases hb : k == b with
    | true => rw [hb] at h; cases h
    | false =>
      rw [hb] at h
      simp only [cond_false]
      rw [setM_fresh (l := r) h]
theorem findM_mapI (g : Grid) (k : Nat) : ∀ n, findM (mapI g n) (k : Int) = bif decide (k < n) && kn g k then some (numI g k) else none
  | 0 => by
    rw [decide_eq_false (by omega)]; rfl
  | n + 1 => by
    have ih := findM_mapI g k n
    rw [mapI_succ]
    cases hn : kn g n with
    | false =>
      show findM (mapI g n) (k : Int) = _
      rw [ih]
      by_cases e : k = n
      · subst e
        rw [hn, decide_eq_false (by omega)]
        simp
      · by_cases h : k < n
        · rw [decide_eq_true h, decide_eq_true (by omega)]
        · rw [decide_eq_false h, decide_eq_false (by omega)]
    | true =>
      show findM (mapI g n ++ [((n : Int), numI g n)]) (k : Int) = _
      rw [findM_append, ih]
      by_cases e : k = n
      · subst e
        rw [hn, decide_eq_false (by omega), decide_eq_true (by omega)]
        simp
      · have hne : ((k : Int) == (n : Int)) = false := by simp; omega
        rw [hne]
        by_cases h : k < n
        · rw [decide_eq_true h, decide_eq_true (show k < n + 1 by omega)]
          cases kn g k <;> rfl
        · rw [decide_eq_false h, decide_eq_false (show ¬ k < n + 1 by omega)]
          rfl
def hsI (g : Grid) (k : Nat) : Bool := decide (k < g.levels.length) && kn g k
theorem hasM_mapI (g : Grid) (k : Nat) : hasM (mapI g g.levels.length) (k : Int) = hsI g k := by
  unfold hasM hsI
  rw [findM_mapI]
  cases decide (k < g.levels.length) && kn g k <;> rfl
theorem lookM_mapI (g : Grid) (k : Nat) (d : DV) : (bif hasM (mapI g g.levels.length) (k : Int) then VK.int.dv (getM (mapI g g.levels.length) (k : Int)) else d) = (bif hsI g k then dI (numI g k) else d) := by
  rw [hasM_mapI]
  cases h : hsI g k with
  | false => rfl
  | true =>
    unfold hsI at h
    unfold getM
    rw [findM_mapI, h]
    rfl
theorem setM_mapI (g : Grid) {i : Nat} (hk : kn g i = true) : setM (mapI g i) (i : Int) ((nds g i).length : Int) = mapI g (i + 1) := by
  rw [mapI_succ, hk, setM_fresh (by rw [findM_mapI, decide_eq_false (by omega)]; rfl)]
  have : numI g i = ((nds g i).length : Int) := by unfold numI; rw [hk]; rfl
  rw [this]; rfl
theorem LeBx.map {vk : VK} {l m : List (Int × Int)} (h : l = m) : LeBx (.map vk l) (.map vk m) := h ▸ LeBx.rfl
/-- What the program adds at a cell. -/
def all4 (g : Grid) (k : Nat) : Bool := ((hsI g k && hsI g (k + 1)) && hsI g (k + g.cols.toNat + 1)) && hsI g (k + g.cols.toNat)
theorem sqT_prog {g : Grid} (hv : GVal g) {k : Nat} (hk : k < g.levels.length) : sqT g k = bif lastC g k then [] else bif all4 g k then sqQ g (numI g k) (numI g (k + 1)) (numI g (k + 1 + g.cols.toNat)) (numI g (k + g.cols.toNat)) else [] := by
  unfold sqT
  cases h1 : lastC g k with
  | true => rfl
  | false =>
    rw [Bool.false_or, cond_false]
    cases h2 : lastR g k with
    | true =>
      have hl := hv.len
      have hc := hv.cols
      have hr := hv.rows
      have : ¬ k + g.cols.toNat < g.levels.length := by
        unfold lastR at h2
        have h2 : (k : Int).tdiv g.cols = g.rows - 1 := by simpa using h2
        rw [Int.tdiv_eq_ediv_of_nonneg (by omega)] at h2
        have e := Int.emod_add_mul_ediv (k : Int) g.cols
        have m0 := Int.emod_nonneg (k : Int) (show g.cols ≠ 0 by omega)
        rw [h2, Int.mul_sub] at e
        omega
      have : all4 g k = false := by
        unfold all4
        have h : hsI g (k + g.cols.toNat) = false := by unfold hsI; rw [decide_eq_false this]; rfl
        rw [h, Bool.and_false]
      rw [this]; rfl
    | false =>
      rw [cond_false]
      have hin := cell_in hv hk h1 h2
      have key : ∀ j, j < g.levels.length → hsI g j = !decide (numI g j < 0) := by
        intro j hj
        unfold hsI numI
        rw [decide_eq_true hj]
        cases kn g j with
        | false => rfl
        | true =>
          rw [cond_true, decide_eq_false (by omega)]; rfl
      have : all4 g k = !none4 (numI g k) (numI g (k + 1)) (numI g (k + 1 + g.cols.toNat)) (numI g (k + g.cols.toNat)) := by
        unfold all4 none4
        rw [show k + g.cols.toNat + 1 = k + 1 + g.cols.toNat by omega, key _ hk, key _ (by omega), key _ (by omega), key _ (by omega)]
        simp [Bool.not_or]
      rw [this]
      cases none4 (numI g k) (numI g (k + 1)) (numI g (k + 1 + g.cols.toNat)) (numI g (k + g.cols.toNat)) <;> rfl
/-- The difference of two levels. -/
theorem apart1 (l : List Nd) (a b : Int) (ha : 0 ≤ a ∧ a < l.length) (hb : 0 ≤ b ∧ b < l.length) (hlv : ∀ p : Int, -30000 ≤ (l.getD p.toNat default).lv ∧ (l.getD p.toNat default).lv ≤ 30000) (f : Nat → DV) (hf : f 0 = dNds l) :
    CallP Try.prog 21 [vI a, vI b, .s (.d (.rp 2 f))] (vI (absI ((l.getD a.toNat default).lv - (l.getD b.toNat default).lv))) := by
  have h1 : LeAs [vI a, vI b, .s (.d (.rp 2 f))] [vI a, vI b, .s (.d (.rp 2 fun j => if j = 0 then dNds l else .junk))] := ⟨LeD.refl _, LeD.refl _, LeD.rp fun j hj => ?_, trivial⟩
  · refine CallP.conv ?_ h1
    have la := hlv a
    have lb := hlv b
    refine callP_of_ex (rc := []) (N := 24) Try.func21 rfl rfl Try.call21 tab_ok mix rfl rfl (fun cx href => ?_)
    repeat first | refine sk ?_ | refine st ?_ | refine sg ?_ | refine sh ?_ | refine su ?_ | refine sn1 ?_ | refine sn0 ?_ | refine And.intro (show imp none (gimp _ none) from trivial) ?_
    refine oi ha ?_
    repeat first | refine sk ?_ | refine st ?_ | refine sg ?_ | refine sh ?_ | refine su ?_ | refine sn1 ?_ | refine sn0 ?_ | refine And.intro (show imp none (gimp _ none) from trivial) ?_
    refine oi hb ?_
    repeat first | refine sk ?_ | refine st ?_ | refine sg ?_ | refine sh ?_ | refine su ?_ | refine sn1 ?_ | refine sn0 ?_ | refine And.intro (show imp none (gimp _ none) from trivial) ?_
    refine And.intro (by kernel_rfl) ?_
    generalize hx : (l.getD a.toNat default).lv = x at *
    generalize hy : (l.getD b.toNat default).lv = y at *
    have e := w64_of (n := x - y) (by omega) (by omega)
    have e2 := w64_of (n := 0 - (x - y)) (by omega) (by omega)
    have key : mm true (w64 (x - y)) (w64 (0 - w64 (x - y))) = absI (x - y) := by
      rw [e, e2]
      simp only [mm, absI]
      split <;> split <;> omega
    refine SubR.of_eq ?_
    show vI (mm true (w64 (x - y)) (w64 (0 - w64 (x - y)))) = _
    rw [key]
  · by_cases e : j = 0
    · rw [if_pos e, e]; exact LeD.of_eq hf
    · rw [if_neg e]; exact fun _ _ _ => trivial
end Go.Ch

/- The mesh of the squares passes the check of meshes. -/
namespace Go.Ch
open Go Go.Ax Go.Proofs Go.Proofs.Try Go.Hull
set_option maxRecDepth 100000
set_option pp.maxSteps 400
set_option maxHeartbeats 1000000

theorem divmod_of {k c q r : Int} (hr : 0 ≤ r) (hrc : r < c) (h : k = r + c * q) : k % c = r ∧ k / c = q := by
  subst h
  constructor
  · rw [Int.add_mul_emod_self_left, Int.emod_eq_of_lt hr hrc]
  · rw [Int.add_mul_ediv_left _ _ (by omega), Int.ediv_eq_zero_of_lt hr hrc]; omega
theorem sq_pts {g : Grid} (hv : GVal g) {k : Nat} (h1 : lastC g k = false) (h4 : all4 g k = true) : ∃ x y : Int, centreG g k = ⟨x, y⟩ ∧ centreG g (k + 1 : Nat) = ⟨x + g.side, y⟩ ∧ centreG g (k + 1 + g.cols.toNat : Nat) = ⟨x + g.side, y + g.side⟩ ∧ centreG g (k + g.cols.toNat : Nat) = ⟨x, y + g.side⟩ := by
  have hc := hv.cols
  unfold all4 hsI at h4
  simp only [Bool.and_eq_true, decide_eq_true_eq] at h4
  obtain ⟨⟨⟨⟨k0, _⟩, ⟨k1, _⟩⟩, ⟨k2, _⟩⟩, ⟨k3, _⟩⟩ := h4
  have e := Int.emod_add_mul_ediv (k : Int) g.cols
  have m0 := Int.emod_nonneg (k : Int) (show g.cols ≠ 0 by omega)
  have m1 := Int.emod_lt_of_pos (k : Int) (show 0 < g.cols by omega)
  have m2 : (k : Int) % g.cols ≠ g.cols - 1 := by
    unfold lastC at h1
    rw [Int.tmod_eq_emod_of_nonneg (by omega)] at h1
    simpa using h1
  generalize (k : Int) % g.cols = r at *
  generalize hq : (k : Int) / g.cols = q at *
  have mq : g.cols * (q + 1) = g.cols * q + g.cols := by rw [Int.mul_add, Int.mul_one]
  obtain ⟨a0, b0⟩ := divmod_of (k := (k : Int)) (c := g.cols) (q := q) (r := r) m0 m1 (by omega)
  obtain ⟨a1, b1⟩ := divmod_of (k := ((k + 1 : Nat) : Int)) (c := g.cols) (q := q) (r := r + 1) (by omega) (by omega) (by omega)
  obtain ⟨a2, b2⟩ := divmod_of (k := ((k + 1 + g.cols.toNat : Nat) : Int)) (c := g.cols) (q := q + 1) (r := r + 1) (by omega) (by omega) (by omega)
  obtain ⟨a3, b3⟩ := divmod_of (k := ((k + g.cols.toNat : Nat) : Int)) (c := g.cols) (q := q + 1) (r := r) (by omega) (by omega) (by omega)
  refine ⟨g.x + r * g.side + g.side / 2, g.y + q * g.side + g.side / 2, ?_, ?_, ?_, ?_⟩
  · rw [(centre_good hv k0).2, a0, b0]
  · rw [(centre_good hv k1).2, a1, b1, Int.add_mul, Int.one_mul]; congr 1; omega
  · rw [(centre_good hv (show k + 1 + g.cols.toNat < g.levels.length by omega)).2, a2, b2, Int.add_mul, Int.add_mul, Int.one_mul]; congr 1 <;> omega
  · rw [(centre_good hv k3).2, a3, b3, Int.add_mul, Int.one_mul]; congr 1; omega
theorem okP_centre {g : Grid} (hv : GVal g) {k : Nat} (hk : k < g.levels.length) : okP (centreG g k) := by
  have := good_iff.1 (centre_good hv hk).1
  exact ⟨this.1.1, this.1.2, this.2⟩
theorem sqM_pt {g : Grid} {k : Nat} (h : hsI g k = true) : (ndA (sqM g) (numI g k)).pt = centreG g k ∧ 0 ≤ numI g k ∧ numI g k < (nds g g.levels.length).length := by
  unfold hsI at h
  simp only [Bool.and_eq_true, decide_eq_true_eq] at h
  have h0 : 0 ≤ numI g k := by unfold numI; rw [h.2]; simp
  refine ⟨?_, h0, (numI_lt h.1).2 h0⟩
  unfold ndA
  show ((nds g g.levels.length).getD (numI g k).toNat default).pt = _
  rw [nds_at h.1 h.2]
  rfl
theorem crs4 (x y d : Int) : crs ⟨x, y⟩ ⟨x + d, y⟩ ⟨x + d, y + d⟩ = d * d ∧ crs ⟨x, y⟩ ⟨x + d, y + d⟩ ⟨x, y + d⟩ = d * d ∧ crs ⟨x, y⟩ ⟨x + d, y⟩ ⟨x, y + d⟩ = d * d ∧ crs ⟨x + d, y⟩ ⟨x + d, y + d⟩ ⟨x, y + d⟩ = d * d := by
  unfold crs
  refine ⟨?_, ?_, ?_, ?_⟩ <;> grind
theorem nds_bad {g : Grid} (hv : GVal g) : (nds g g.levels.length).any badN = false := by
  rw [List.any_eq_false]
  intro n hn
  unfold nds at hn
  rw [List.mem_filterMap] at hn
  obtain ⟨k, hk, e⟩ := hn
  rw [List.mem_range] at hk
  cases hkn : kn g k with
  | false => rw [hkn] at e; cases e
  | true =>
    rw [hkn] at e
    have e : some (ndAt g k) = some n := e
    cases e
    have hm : g.levels.getD k 0 ∈ g.levels := by
      rw [List.getD_eq_getElem?_getD, List.getElem?_eq_getElem hk]
      exact List.getElem_mem hk
    have hlv := hv.lev _ hm
    have h3 : g.levels.getD k 0 ≠ 30000 := by unfold kn at hkn; simpa using hkn
    have hg : good (ndAt g k).pt = true := (centre_good hv hk).1
    unfold badN
    rw [hg]
    have : within (ndAt g k).lv (-20000) 20000 = true := by
      show within (g.levels.getD k 0) (-20000) 20000 = true
      unfold within
      simp only [Bool.and_eq_true, decide_eq_true_eq]
      omega
    rw [this]
    decide
theorem errM_sq {g : Grid} (hv : GVal g) : errM (sqM g) = 0 := by
  have hn := hv.n
  have h1 := nds_len g g.levels.length
  have h2 := sqs_len g g.levels.length
  unfold errM
  have e1 : (decide (((sqM g).nodes.length : Int) > 1024) || decide (((sqM g).tris.length : Int) > 2048)) = false := by
    rw [decide_eq_false (show ¬ ((sqM g).nodes.length : Int) > 1024 by show ¬ ((nds g g.levels.length).length : Int) > 1024; omega), decide_eq_false (show ¬ ((sqM g).tris.length : Int) > 2048 by show ¬ ((sqs g g.levels.length).length : Int) > 2048; omega)]; rfl
  rw [e1, show (sqM g).nodes.any badN = false from nds_bad hv]
  refine errT_zero fun t ht => ?_
  have ht : t ∈ sqs g g.levels.length := ht
  unfold sqs at ht
  rw [List.mem_flatMap] at ht
  obtain ⟨k, hk, ht⟩ := ht
  rw [List.mem_range] at hk
  rw [sqT_prog hv hk] at ht
  cases hc : lastC g k with
  | true => rw [hc] at ht; cases ht
  | false =>
    rw [hc, cond_false] at ht
    cases h4 : all4 g k with
    | false => rw [h4] at ht; cases ht
    | true =>
      rw [h4, cond_true] at ht
      obtain ⟨x, y, p0, p1, p2, p3⟩ := sq_pts hv hc h4
      have h4' := h4
      unfold all4 at h4'
      simp only [Bool.and_eq_true] at h4'
      obtain ⟨⟨⟨s0, s1⟩, s2⟩, s3⟩ := h4'
      rw [show k + g.cols.toNat + 1 = k + 1 + g.cols.toNat by omega] at s2
      have lt : ∀ {j}, hsI g j = true → j < g.levels.length := fun h => by unfold hsI at h; simp only [Bool.and_eq_true, decide_eq_true_eq] at h; exact h.1
      have o0 := okP_centre hv (lt s0)
      have o1 := okP_centre hv (lt s1)
      have o2 := okP_centre hv (lt s2)
      have o3 := okP_centre hv (lt s3)
      obtain ⟨q0, a0, b0⟩ := sqM_pt s0
      obtain ⟨q1, a1, b1⟩ := sqM_pt s1
      obtain ⟨q2, a2, b2⟩ := sqM_pt s2
      obtain ⟨q3, a3, b3⟩ := sqM_pt s3
      rw [p0] at q0 o0
      rw [p1] at q1 o1
      rw [p2] at q2 o2
      rw [p3] at q3 o3
      obtain ⟨c1, c2, c3, c4⟩ := crs4 x y g.side
      have hd : 0 < g.side * g.side ∧ g.side * g.side ≤ 800000000 := by
        have hs := hv.side
        have u1 : g.side * g.side ≤ 10000 * g.side := Int.mul_le_mul_of_nonneg_right (by omega) (by omega)
        have u2 : 0 < g.side * g.side := Int.mul_pos (by omega) (by omega)
        omega
      have inm : ∀ {a b c : Int}, (0 ≤ a ∧ a < (nds g g.levels.length).length) → (0 ≤ b ∧ b < (nds g g.levels.length).length) → (0 ≤ c ∧ c < (nds g g.levels.length).length) → inMB (w64 ((sqM g).nodes.length - 1)) ⟨a, b, c⟩ = true := fun ha hb hc => (inMB_iff (m := sqM g) (by show (nds g g.levels.length).length ≤ 1024; omega)).2 ⟨ha, hb, hc⟩
      generalize numI g k = n0 at *
      generalize numI g (k + 1) = n1 at *
      generalize numI g (k + 1 + g.cols.toNat) = n2 at *
      generalize numI g (k + g.cols.toNat) = n3 at *
      have cases4 : t = ⟨n0, n1, n2⟩ ∨ t = ⟨n0, n2, n3⟩ ∨ t = ⟨n0, n1, n3⟩ ∨ t = ⟨n1, n2, n3⟩ := by
        unfold sqQ at ht
        cases hb : decide (absI (lvN g n0 - lvN g n2) ≤ absI (lvN g n1 - lvN g n3)) with
        | true => rw [hb] at ht; simp only [cond_true, List.mem_cons, List.not_mem_nil, or_false] at ht; rcases ht with h | h <;> simp [h]
        | false => rw [hb] at ht; simp only [cond_false, List.mem_cons, List.not_mem_nil, or_false] at ht; rcases ht with h | h <;> simp [h]
      unfold dbl
      rcases cases4 with rfl | rfl | rfl | rfl
      · exact ⟨inm ⟨a0, b0⟩ ⟨a1, b1⟩ ⟨a2, b2⟩, by rw [q0, q1, q2, cross_crs o0 o1 o2, c1]; exact hd⟩
      · exact ⟨inm ⟨a0, b0⟩ ⟨a2, b2⟩ ⟨a3, b3⟩, by rw [q0, q2, q3, cross_crs o0 o2 o3, c2]; exact hd⟩
      · exact ⟨inm ⟨a0, b0⟩ ⟨a1, b1⟩ ⟨a3, b3⟩, by rw [q0, q1, q3, cross_crs o0 o1 o3, c3]; exact hd⟩
      · exact ⟨inm ⟨a1, b1⟩ ⟨a2, b2⟩ ⟨a3, b3⟩, by rw [q1, q2, q3, cross_crs o1 o2 o3, c4]; exact hd⟩
/-- A triangulation of at most seven points has few triangles. -/
theorem flatMap_len {α β : Type} {f : α → List β} {n : Nat} : ∀ {l : List α}, (∀ a ∈ l, (f a).length ≤ n) → (l.flatMap f).length ≤ l.length * n
  | [], _ => by simp
  | a :: r, h => by
    rw [List.flatMap_cons, List.length_append, List.length_cons, Nat.add_mul]
    have := h a (by simp)
    have := flatMap_len (l := r) fun b hb => h b (by simp [hb])
    omega
theorem triR_len (l : List Pt) : (triR l).length ≤ l.length * (l.length * l.length) := by
  unfold triR rA
  have := flatMap_len (l := List.range l.length) (f := fun a => rB l a (l.length - (a + 1))) (n := l.length * l.length) fun a ha => by
    unfold rB
    have h1 := flatMap_len (l := List.range (l.length - (a + 1))) (f := fun j => rC l a (a + 1 + j) (l.length - (a + 1))) (n := l.length) fun j _ => by
      unfold rC
      have := List.length_filterMap_le (fun i => refC l a (a + 1 + j) (a + 1 + i)) (List.range (l.length - (a + 1)))
      rw [List.length_range] at this
      omega
    rw [List.length_range] at h1
    exact Nat.le_trans h1 (Nat.mul_le_mul_right _ (by omega))
  rwa [List.length_range] at this
end Go.Ch

/- bed.Squares. -/
namespace Go.Ch
open Go Go.Ax Go.Proofs Go.Proofs.Try Go.Hull
set_option maxRecDepth 100000
set_option pp.maxSteps 400
set_option maxHeartbeats 1000000

abbrev qB1 (g : Grid) (i : Nat) (o : List Nd) : St := ⟨[(1, .s (.ptr 1 0)), (2, .s (.ptr 2 0)), (5, .s (.ptr 5 0)), (6, .s (.mp 26)), (28, vInts g.levels), (29, vI g.levels.length), (30, vI i)],
  [(1, some (gridB g)), (2, some (.cells (zvs ty38.zero))), (5, some (.cells [.mo o.isEmpty 100, .d (.val (.slice none 0 0))])), (26, some (.map .int (mapI g i))), (100, some (.mrow 60 o.length 3 (ndEl o)))]⟩
abbrev qB2 (g : Grid) (i : Nat) (o : List Tr) : St := ⟨[(1, .s (.ptr 1 0)), (2, .s (.ptr 2 0)), (5, .s (.ptr 5 0)), (6, .s (.mp 26)), (60, vI g.levels.length), (61, vI i)],
  [(1, some (gridB g)), (2, some (.cells (zvs ty38.zero))), (5, some (.cells [.mo (nds g g.levels.length).isEmpty 100, .mo o.isEmpty 101])), (26, some (.map .int (mapI g g.levels.length))), (100, some (.mrow 60 (nds g g.levels.length).length 3 (ndEl (nds g g.levels.length)))), (101, some (.mrow 55 o.length 3 (trEl o)))]⟩
abbrev qB3 (g : Grid) (i : Nat) (o : List Tr) (p q s t : DV) (a b c d : Bool) : St := ⟨[(1, .s (.ptr 1 0)), (2, .s (.ptr 2 0)), (5, .s (.ptr 5 0)), (6, .s (.mp 26)), (60, vI g.levels.length), (61, vI i), (11, .s (.d p)), (12, vB a), (13, .s (.d q)), (14, vB b), (15, .s (.d s)), (16, vB c), (17, .s (.d t)), (18, vB d)],
  [(1, some (gridB g)), (2, some (.cells (zvs ty38.zero))), (5, some (.cells [.mo (nds g g.levels.length).isEmpty 100, .mo o.isEmpty 101])), (26, some (.map .int (mapI g g.levels.length))), (100, some (.mrow 60 (nds g g.levels.length).length 3 (ndEl (nds g g.levels.length)))), (101, some (.mrow 55 o.length 3 (trEl o)))]⟩
def d4 (g : Grid) (k : Nat) : DV := bif hsI g k then dI (numI g k) else .junk
theorem LeQ.d_eq {x y : DV} (h : x = y) : LeQ (.s (.d x)) (.s (.d y)) := h ▸ LeQ.rfl
def sqB (g : Grid) : Mesh × Int := if errG g = 0 then (sqM g, 0) else (⟨[], []⟩, errG g)
theorem bSquares (g : Grid) (hl0 : g.levels.length ≤ 9223372036854775807) : CallP Try.prog 11 [grid g] (rME (sqB g).1 (sqB g).2) := by
  refine callP_of_aw Try.func11 rfl rfl Try.call11 tab_ok rfl rfl (fun cx href => ?_)
  refine AW.seq (ex.sound (rc := []) tab_ok mix href _ ?_)
  refine AW.seq (ex.sound (rc := []) tab_ok mix href _ ?_)
  refine callN (bcheck g hl0) ?_
  unfold sqB
  refine And.intro (fun h => ?_) (fun h => ?_)
  · have h : (errG g != 0) = true := h
    rw [if_neg (by simpa using h)]
    exact SubR.t ⟨⟨LeD.nil, LeD.nil, trivial⟩, LeD.refl _, trivial⟩
  have h : (errG g != 0) = false := h
  have h0 : errG g = 0 := by simpa using h
  rw [if_pos h0]
  have hv := GVal.of h0
  have hl : g.levels.length ≤ 1024 := hv.n
  have hc := hv.cols
  have hr := hv.rows
  refine AW.seq (ex.sound (rc := []) tab_ok mix href _ ?_)
  refine AW.seq (ex.sound (rc := []) tab_ok mix href _ ?_)
  refine AW.cut (σ' := qB1 g g.levels.length (nds g g.levels.length)) (ex.sound (rc := []) tab_ok mix href _ ?_) ?_
  · refine AW.loopI (fun i => qB1 g i (nds g i)) (fun i => i ≤ g.levels.length) (fun i => g.levels.length - i) 0 (Nat.zero_le _) ?_ ?_
    · exact SubI.of0 href [(100, 1000)] rfl ⟨⟨rfl, LeBx.rfl⟩, ⟨rfl, LeBx.rfl⟩, ⟨rfl, LeBx.cells ⟨LeQ.nil rfl, LeQ.rfl, trivial⟩⟩, ⟨rfl, LeBx.rfl⟩, ⟨rfl, rfl⟩, trivial⟩ ⟨⟨rfl, LeQ.rfl⟩, ⟨rfl, LeQ.rfl⟩, ⟨rfl, LeQ.rfl⟩, ⟨rfl, LeQ.rfl⟩, ⟨rfl, LeQ.rfl⟩, ⟨rfl, LeQ.rfl⟩, ⟨rfl, LeQ.rfl⟩, trivial⟩
    · intro i hi
      have hnl := nds_len g i
      refine ex.sound (rc := []) tab_ok mix href _ ?_
      refine And.intro (fun h => ?_) (fun h => ?_)
      · have h : (i : Int) < g.levels.length := decT h
        have hi' : i < g.levels.length := by omega
        refine oi ⟨by omega, by omega⟩ ?_
        refine callN (bknown g i hi' (by omega)) ?_
        have hsu := nds_succ g i
        refine And.intro (fun h2 => ?_) (fun h2 => ?_)
        · have h2 : kn g i = true := h2
          have hni : numI g i = ((nds g i).length : Int) := by unfold numI; rw [h2]; rfl
          have hmu := setM_mapI g h2
          rw [h2] at hsu
          have hsu : nds g (i + 1) = nds g i ++ [ndAt g i] := hsu
          refine callN (bcentre g i (by omega)) ?_
          repeat first | refine sk ?_ | refine st ?_ | refine sg ?_ | refine sh ?_ | refine su ?_ | refine sn1 ?_ | refine sn0 ?_ | refine And.intro (show imp none (gimp _ none) from trivial) ?_
          refine ob (by decide) ?_
          refine ob (by rw [bif_len]; show ((nds g i).length + 1) * 24 ≤ 140737488355328; omega) ?_
          refine ob (fun k j hk hj => ?_) ?_
          · obtain rfl : k = 0 := by omega
            match j, hj with
            | 0, _ => rfl
            | 1, _ => rfl
            | 2, _ => rfl
          refine ⟨i + 1, by omega, by omega, ?_⟩
          show SubI cx _ _ (qB1 g (i + 1) (nds g (i + 1)))
          rw [hsu]
          refine SubI.of0 href [(100, 55)] rfl ⟨⟨rfl, LeBx.rfl⟩, ⟨rfl, LeBx.rfl⟩, ⟨rfl, LeBx.cells ⟨LeQ.mo (isEmpty_snoc _ _), LeQ.rfl, trivial⟩⟩, ⟨rfl, LeBx.map ?_⟩, ⟨rfl, LeBx.snocN fun j hj => match j, hj with | 0, _ => rfl | 1, _ => rfl | 2, _ => rfl⟩, trivial⟩ ⟨⟨rfl, LeQ.rfl⟩, ⟨rfl, LeQ.rfl⟩, ⟨rfl, LeQ.rfl⟩, ⟨rfl, LeQ.rfl⟩, ⟨rfl, LeQ.rfl⟩, ⟨rfl, LeQ.rfl⟩, ⟨rfl, LeQ.int (w64_of (by omega) (by omega))⟩, trivial⟩
          rw [bif_len]; exact hmu
        · have h2 : kn g i = false := h2
          have hmu := mapI_succ g i
          rw [h2] at hsu hmu
          have hsu : nds g (i + 1) = nds g i := hsu
          have hmu : mapI g (i + 1) = mapI g i := hmu
          refine ⟨i + 1, by omega, by omega, ?_⟩
          show SubI cx _ _ (qB1 g (i + 1) (nds g (i + 1)))
          rw [hsu]
          exact SubI.of0 href [] rfl ⟨⟨rfl, LeBx.rfl⟩, ⟨rfl, LeBx.rfl⟩, ⟨rfl, LeBx.cells ⟨LeQ.rfl, LeQ.rfl, trivial⟩⟩, ⟨rfl, LeBx.map hmu.symm⟩, ⟨rfl, LeBx.rfl⟩, trivial⟩ ⟨⟨rfl, LeQ.rfl⟩, ⟨rfl, LeQ.rfl⟩, ⟨rfl, LeQ.rfl⟩, ⟨rfl, LeQ.rfl⟩, ⟨rfl, LeQ.rfl⟩, ⟨rfl, LeQ.rfl⟩, ⟨rfl, LeQ.int (w64_of (by omega) (by omega))⟩, trivial⟩
      · have h : ¬ (i : Int) < g.levels.length := decF h
        obtain rfl : i = g.levels.length := by omega
        exact ⟨rfl, SubI.of0 href [] rfl ⟨⟨rfl, LeBx.rfl⟩, ⟨rfl, LeBx.rfl⟩, ⟨rfl, LeBx.cells ⟨LeQ.rfl, LeQ.rfl, trivial⟩⟩, ⟨rfl, LeBx.rfl⟩, ⟨rfl, LeBx.rfl⟩, trivial⟩ ⟨⟨rfl, LeQ.rfl⟩, ⟨rfl, LeQ.rfl⟩, ⟨rfl, LeQ.rfl⟩, ⟨rfl, LeQ.rfl⟩, ⟨rfl, LeQ.rfl⟩, ⟨rfl, LeQ.rfl⟩, ⟨rfl, LeQ.rfl⟩, trivial⟩⟩
  · refine AW.cut (σ' := qB2 g g.levels.length (sqs g g.levels.length)) (ex.sound (rc := []) tab_ok mix href _ ?_) ?_
    · refine AW.loopI (fun i => qB2 g i (sqs g i)) (fun i => i ≤ g.levels.length) (fun i => g.levels.length - i) 0 (Nat.zero_le _) ?_ ?_
      · exact SubI.of0 href [(101, 1000)] rfl ⟨⟨rfl, LeBx.rfl⟩, ⟨rfl, LeBx.rfl⟩, ⟨rfl, LeBx.cells ⟨LeQ.rfl, LeQ.nil rfl, trivial⟩⟩, ⟨rfl, LeBx.rfl⟩, ⟨rfl, LeBx.rfl⟩, ⟨rfl, rfl⟩, trivial⟩ ⟨⟨rfl, LeQ.rfl⟩, ⟨rfl, LeQ.rfl⟩, ⟨rfl, LeQ.rfl⟩, ⟨rfl, LeQ.rfl⟩, ⟨rfl, LeQ.rfl⟩, ⟨rfl, LeQ.rfl⟩, trivial⟩
      · intro i hi
        have hol := sqs_len g i
        have hsu := sqs_succ g i
        have hend : ∀ k, i = k → sqs g k = sqs g i := fun k h => h ▸ rfl
        generalize sqs g i = o at hol hsu hend ⊢
        refine AW.seq (ex.sound (rc := []) tab_ok mix href _ ?_)
        refine AW.seq (ex.sound (rc := []) tab_ok mix href _ ?_)
        refine And.intro (fun h => ?_) (fun h => ?_)
        · have h : (i : Int) < g.levels.length := decT h
          have hi' : i < g.levels.length := by omega
          have hc0 : g.cols ≠ 0 := by omega
          have hTp := sqT_prog hv hi'
          refine AW.seq (AW.block (AW.seq (ex.sound (rc := []) tab_ok mix href _ ?_)))
          refine AW.seq (ex.sound (rc := []) tab_ok mix href _ ?_)
          repeat first | refine sk ?_ | refine st ?_ | refine sg ?_ | refine sh ?_ | refine su ?_ | refine sn1 ?_ | refine sn0 ?_ | refine And.intro (show imp none (gimp _ none) from trivial) ?_
          refine oi hc0 ?_
          repeat first | refine sk ?_ | refine st ?_ | refine sg ?_ | refine sh ?_ | refine su ?_ | refine sn1 ?_ | refine sn0 ?_ | refine And.intro (show imp none (gimp _ none) from trivial) ?_
          refine And.intro (by kernel_rfl) ?_
          have hlast : ∀ {b : Bool}, ((i : Int).tmod g.cols == w64 (g.cols - 1)) = b → lastC g i = b := by
            rintro b rfl
            rw [w64_of (n := g.cols - 1) (by omega) (by omega)]
            rfl
          refine And.intro (fun h2 => ?_) (fun h2 => ?_)
          · have h2 := hlast h2
            refine ex.sound (rc := []) tab_ok mix href _ ?_
            have hT : sqT g i = [] := by rw [hTp, h2]; rfl
            refine ⟨i + 1, by omega, by omega, ?_⟩
            show SubI cx _ _ (qB2 g (i + 1) (sqs g (i + 1)))
            rw [hsu, hT, List.append_nil]
            exact SubI.of0 href [] rfl ⟨⟨rfl, LeBx.rfl⟩, ⟨rfl, LeBx.rfl⟩, ⟨rfl, LeBx.cells ⟨LeQ.rfl, LeQ.rfl, trivial⟩⟩, ⟨rfl, LeBx.rfl⟩, ⟨rfl, LeBx.rfl⟩, ⟨rfl, LeBx.rfl⟩, trivial⟩ ⟨⟨rfl, LeQ.rfl⟩, ⟨rfl, LeQ.rfl⟩, ⟨rfl, LeQ.rfl⟩, ⟨rfl, LeQ.rfl⟩, ⟨rfl, LeQ.rfl⟩, ⟨rfl, LeQ.int (w64_of (by omega) (by omega))⟩, trivial⟩
          · have h2 := hlast h2
            have hTp : sqT g i = bif all4 g i then sqQ g (numI g i) (numI g (i + 1)) (numI g (i + 1 + g.cols.toNat)) (numI g (i + g.cols.toNat)) else [] := by rw [hTp, h2]; rfl
            have hcn : ((g.cols.toNat : Nat) : Int) = g.cols := by omega
            have w1 : w64 ((i : Int) + 1) = ((i + 1 : Nat) : Int) := (w64_of (by omega) (by omega)).trans (by omega)
            have w3 : w64 ((i : Int) + g.cols) = ((i + g.cols.toNat : Nat) : Int) := (w64_of (by omega) (by omega)).trans (by omega)
            have w2 : w64 (w64 ((i : Int) + g.cols) + 1) = ((i + g.cols.toNat + 1 : Nat) : Int) := by rw [w3]; exact (w64_of (by omega) (by omega)).trans (by omega)
            refine AW.seq (ex.sound (rc := []) tab_ok mix href _ ?_)
            repeat first | refine sk ?_ | refine st ?_ | refine sg ?_ | refine sh ?_ | refine su ?_ | refine sn1 ?_ | refine sn0 ?_ | refine And.intro (show imp none (gimp _ none) from trivial) ?_
            refine AW.seq (ex.sound (rc := []) tab_ok mix href _ ?_)
            repeat first | refine sk ?_ | refine st ?_ | refine sg ?_ | refine sh ?_ | refine su ?_ | refine sn1 ?_ | refine sn0 ?_ | refine And.intro (show imp none (gimp _ none) from trivial) ?_
            refine AW.seq (ex.sound (rc := []) tab_ok mix href _ ?_)
            repeat first | refine sk ?_ | refine st ?_ | refine sg ?_ | refine sh ?_ | refine su ?_ | refine sn1 ?_ | refine sn0 ?_ | refine And.intro (show imp none (gimp _ none) from trivial) ?_
            refine AW.cut (σ' := qB3 g i o (d4 g i) (d4 g (i + 1)) (d4 g (i + g.cols.toNat + 1)) (d4 g (i + g.cols.toNat)) (hsI g i) (hsI g (i + 1)) (hsI g (i + g.cols.toNat + 1)) (hsI g (i + g.cols.toNat))) (ex.sound (rc := []) tab_ok mix href _ ?_) ?_
            · repeat first | refine sk ?_ | refine st ?_ | refine sg ?_ | refine sh ?_ | refine su ?_ | refine sn1 ?_ | refine sn0 ?_ | refine And.intro (show imp none (gimp _ none) from trivial) ?_
              refine ⟨rfl, SubI.of0 href [] rfl ⟨⟨rfl, LeBx.rfl⟩, ⟨rfl, LeBx.rfl⟩, ⟨rfl, LeBx.cells ⟨LeQ.rfl, LeQ.rfl, trivial⟩⟩, ⟨rfl, LeBx.rfl⟩, ⟨rfl, LeBx.rfl⟩, ⟨rfl, LeBx.rfl⟩, trivial⟩ ⟨⟨rfl, LeQ.rfl⟩, ⟨rfl, LeQ.rfl⟩, ⟨rfl, LeQ.rfl⟩, ⟨rfl, LeQ.rfl⟩, ⟨rfl, LeQ.rfl⟩, ⟨rfl, LeQ.rfl⟩, ⟨rfl, LeQ.d_eq ?_⟩, ⟨rfl, LeQ.bool ?_⟩, ⟨rfl, LeQ.d_eq ?_⟩, ⟨rfl, LeQ.bool ?_⟩, ⟨rfl, LeQ.d_eq ?_⟩, ⟨rfl, LeQ.bool ?_⟩, ⟨rfl, LeQ.d_eq ?_⟩, ⟨rfl, LeQ.bool ?_⟩, trivial⟩⟩
              · exact lookM_mapI g i _
              · exact hasM_mapI g i
              · show (bif hasM (mapI g g.levels.length) (w64 ((i : Int) + 1)) then VK.int.dv (getM (mapI g g.levels.length) (w64 ((i : Int) + 1))) else .junk) = _
                rw [w1]; exact lookM_mapI g (i + 1) _
              · show hasM (mapI g g.levels.length) (w64 ((i : Int) + 1)) = _
                rw [w1]; exact hasM_mapI g (i + 1)
              · show (bif hasM (mapI g g.levels.length) (w64 (w64 ((i : Int) + g.cols) + 1)) then VK.int.dv (getM (mapI g g.levels.length) (w64 (w64 ((i : Int) + g.cols) + 1))) else .junk) = _
                rw [w2]; exact lookM_mapI g (i + g.cols.toNat + 1) _
              · show hasM (mapI g g.levels.length) (w64 (w64 ((i : Int) + g.cols) + 1)) = _
                rw [w2]; exact hasM_mapI g (i + g.cols.toNat + 1)
              · show (bif hasM (mapI g g.levels.length) (w64 ((i : Int) + g.cols)) then VK.int.dv (getM (mapI g g.levels.length) (w64 ((i : Int) + g.cols))) else .junk) = _
                rw [w3]; exact lookM_mapI g (i + g.cols.toNat) _
              · show hasM (mapI g g.levels.length) (w64 ((i : Int) + g.cols)) = _
                rw [w3]; exact hasM_mapI g (i + g.cols.toNat)
            · cases h4 : all4 g i with
              | false =>
                have hT : sqT g i = [] := by rw [hTp, h4]; rfl
                unfold all4 at h4
                generalize hsI g i = ba at *
                generalize hsI g (i + 1) = bb at *
                generalize hsI g (i + g.cols.toNat + 1) = bc at *
                generalize hsI g (i + g.cols.toNat) = bd at *
                refine AW.seq (ex.sound (rc := []) tab_ok mix href _ ?_)
                repeat first | refine sk ?_ | refine st ?_ | refine sg ?_ | refine sh ?_ | refine su ?_ | refine sn1 ?_ | refine sn0 ?_ | refine And.intro (show imp none (gimp _ none) from trivial) ?_
                refine And.intro (fun h3 => ?_) (fun h3 => ?_)
                · refine ex.sound (rc := []) tab_ok mix href _ ?_
                  refine ⟨i + 1, by omega, by omega, ?_⟩
                  show SubI cx _ _ (qB2 g (i + 1) (sqs g (i + 1)))
                  rw [hsu, hT, List.append_nil]
                  exact SubI.of0 href [] rfl ⟨⟨rfl, LeBx.rfl⟩, ⟨rfl, LeBx.rfl⟩, ⟨rfl, LeBx.cells ⟨LeQ.rfl, LeQ.rfl, trivial⟩⟩, ⟨rfl, LeBx.rfl⟩, ⟨rfl, LeBx.rfl⟩, ⟨rfl, LeBx.rfl⟩, trivial⟩ ⟨⟨rfl, LeQ.rfl⟩, ⟨rfl, LeQ.rfl⟩, ⟨rfl, LeQ.rfl⟩, ⟨rfl, LeQ.rfl⟩, ⟨rfl, LeQ.rfl⟩, ⟨rfl, LeQ.int (w64_of (by omega) (by omega))⟩, trivial⟩
                · have h3 : (((!ba || !bb) || !bc) || !bd) = false := h3
                  simp at h3 h4
                  simp [h3] at h4
              | true =>
                have hT1 : sqT g i = sqQ g (numI g i) (numI g (i + 1)) (numI g (i + 1 + g.cols.toNat)) (numI g (i + g.cols.toNat)) := by rw [hTp, h4]; rfl
                have h4' := h4
                unfold all4 at h4'
                simp only [Bool.and_eq_true] at h4'
                obtain ⟨⟨⟨s0, s1⟩, s2⟩, s3⟩ := h4'
                have lt : ∀ {j}, hsI g j = true → -1 ≤ numI g j ∧ 0 ≤ numI g j ∧ numI g j < (nds g g.levels.length).length := fun {j} h => by
                  unfold hsI at h
                  simp only [Bool.and_eq_true, decide_eq_true_eq] at h
                  have h0 : 0 ≤ numI g j := by unfold numI; rw [h.2]; simp
                  exact ⟨by omega, h0, (numI_lt h.1).2 h0⟩
                obtain ⟨_, p0, p1⟩ := lt s0
                obtain ⟨_, q0, q1⟩ := lt s1
                obtain ⟨_, u0, u1⟩ := lt s2
                obtain ⟨_, t0, t1⟩ := lt s3
                have d0 : d4 g i = dI (numI g i) := by unfold d4; rw [s0]; rfl
                have d1 : d4 g (i + 1) = dI (numI g (i + 1)) := by unfold d4; rw [s1]; rfl
                have d2 : d4 g (i + g.cols.toNat + 1) = dI (numI g (i + g.cols.toNat + 1)) := by unfold d4; rw [s2]; rfl
                have d3 : d4 g (i + g.cols.toNat) = dI (numI g (i + g.cols.toNat)) := by unfold d4; rw [s3]; rfl
                rw [d0, d1, d2, d3, s0, s1, s2, s3]
                rw [show i + 1 + g.cols.toNat = i + g.cols.toNat + 1 by omega] at hT1
                generalize numI g i = p at *
                generalize numI g (i + 1) = q at *
                generalize numI g (i + g.cols.toNat + 1) = s at *
                generalize numI g (i + g.cols.toNat) = t at *
                have bl := bif_len (nds g g.levels.length)
                refine AW.seq (ex.sound (rc := []) tab_ok mix href _ ?_)
                repeat first | refine sk ?_ | refine st ?_ | refine sg ?_ | refine sh ?_ | refine su ?_ | refine sn1 ?_ | refine sn0 ?_ | refine And.intro (show imp none (gimp _ none) from trivial) ?_
                refine And.intro (fun h3 => ?_) (fun h3 => ?_)
                · have h3 : (false : Bool) = true := h3
                  cases h3
                refine ex.sound (rc := []) tab_ok mix href _ ?_
                repeat first | refine sk ?_ | refine st ?_ | refine sg ?_ | refine sh ?_ | refine su ?_ | refine sn1 ?_ | refine sn0 ?_ | refine And.intro (show imp none (gimp _ none) from trivial) ?_
                refine callN (apart1 (nds g g.levels.length) p s ⟨p0, p1⟩ ⟨u0, u1⟩ (lvN_le hv) _ ?_) ?_
                · exact congrArg (fun n => DV.slc n 3 (ndEl (nds g g.levels.length))) bl
                refine callN (apart1 (nds g g.levels.length) q t ⟨q0, q1⟩ ⟨t0, t1⟩ (lvN_le hv) _ ?_) ?_
                · exact congrArg (fun n => DV.slc n 3 (ndEl (nds g g.levels.length))) bl
                repeat first | refine sk ?_ | refine st ?_ | refine sg ?_ | refine sh ?_ | refine su ?_ | refine sn1 ?_ | refine sn0 ?_ | refine And.intro (show imp none (gimp _ none) from trivial) ?_
                refine And.intro (fun h5 => ?_) (fun h5 => ?_)
                · have h5 : decide (absI (lvN g p - lvN g s) ≤ absI (lvN g q - lvN g t)) = true := h5
                  have hT : sqT g i = [⟨p, q, s⟩, ⟨p, s, t⟩] := by rw [hT1]; unfold sqQ; rw [h5]; rfl
                  refine ob (by decide) ?_
                  refine ob (by rw [bif_len]; show (o.length + 2) * 24 ≤ 140737488355328; omega) ?_
                  refine ob (fun k j hk hj => ?_) ?_
                  · have hk : k = 0 ∨ k = 1 := by omega
                    rcases hk with rfl | rfl
                    · match j, hj with
                      | 0, _ => rfl
                      | 1, _ => rfl
                      | 2, _ => rfl
                    · match j, hj with
                      | 0, _ => rfl
                      | 1, _ => rfl
                      | 2, _ => rfl
                  refine ex.sound (rc := []) tab_ok mix href _ ?_
                  refine ⟨i + 1, by omega, by omega, ?_⟩
                  show SubI cx _ _ (qB2 g (i + 1) (sqs g (i + 1)))
                  rw [hsu, hT]
                  exact SubI.of0 href [(101, 139)] rfl ⟨⟨rfl, LeBx.rfl⟩, ⟨rfl, LeBx.rfl⟩, ⟨rfl, LeBx.cells ⟨LeQ.rfl, LeQ.mo (by cases o <;> rfl), trivial⟩⟩, ⟨rfl, LeBx.rfl⟩, ⟨rfl, LeBx.rfl⟩, ⟨rfl, LeBx.snoc2 (fun j hj => match j, hj with | 0, _ => rfl | 1, _ => rfl | 2, _ => rfl) (fun j hj => match j, hj with | 0, _ => rfl | 1, _ => rfl | 2, _ => rfl)⟩, trivial⟩ ⟨⟨rfl, LeQ.rfl⟩, ⟨rfl, LeQ.rfl⟩, ⟨rfl, LeQ.rfl⟩, ⟨rfl, LeQ.rfl⟩, ⟨rfl, LeQ.rfl⟩, ⟨rfl, LeQ.int (w64_of (by omega) (by omega))⟩, trivial⟩
                · have h5 : decide (absI (lvN g p - lvN g s) ≤ absI (lvN g q - lvN g t)) = false := h5
                  have hT : sqT g i = [⟨p, q, t⟩, ⟨q, s, t⟩] := by rw [hT1]; unfold sqQ; rw [h5]; rfl
                  refine ob (by decide) ?_
                  refine ob (by rw [bif_len]; show (o.length + 2) * 24 ≤ 140737488355328; omega) ?_
                  refine ob (fun k j hk hj => ?_) ?_
                  · have hk : k = 0 ∨ k = 1 := by omega
                    rcases hk with rfl | rfl
                    · match j, hj with
                      | 0, _ => rfl
                      | 1, _ => rfl
                      | 2, _ => rfl
                    · match j, hj with
                      | 0, _ => rfl
                      | 1, _ => rfl
                      | 2, _ => rfl
                  refine ex.sound (rc := []) tab_ok mix href _ ?_
                  refine ⟨i + 1, by omega, by omega, ?_⟩
                  show SubI cx _ _ (qB2 g (i + 1) (sqs g (i + 1)))
                  rw [hsu, hT]
                  exact SubI.of0 href [(101, 152)] rfl ⟨⟨rfl, LeBx.rfl⟩, ⟨rfl, LeBx.rfl⟩, ⟨rfl, LeBx.cells ⟨LeQ.rfl, LeQ.mo (by cases o <;> rfl), trivial⟩⟩, ⟨rfl, LeBx.rfl⟩, ⟨rfl, LeBx.rfl⟩, ⟨rfl, LeBx.snoc2 (fun j hj => match j, hj with | 0, _ => rfl | 1, _ => rfl | 2, _ => rfl) (fun j hj => match j, hj with | 0, _ => rfl | 1, _ => rfl | 2, _ => rfl)⟩, trivial⟩ ⟨⟨rfl, LeQ.rfl⟩, ⟨rfl, LeQ.rfl⟩, ⟨rfl, LeQ.rfl⟩, ⟨rfl, LeQ.rfl⟩, ⟨rfl, LeQ.rfl⟩, ⟨rfl, LeQ.int (w64_of (by omega) (by omega))⟩, trivial⟩
        · have h : ¬ (i : Int) < g.levels.length := decF h
          obtain rfl : i = g.levels.length := by omega
          refine ⟨rfl, ?_⟩
          rw [hend _ rfl]
          exact SubI.of0 href [] rfl ⟨⟨rfl, LeBx.rfl⟩, ⟨rfl, LeBx.rfl⟩, ⟨rfl, LeBx.cells ⟨LeQ.rfl, LeQ.rfl, trivial⟩⟩, ⟨rfl, LeBx.rfl⟩, ⟨rfl, LeBx.rfl⟩, ⟨rfl, LeBx.rfl⟩, trivial⟩ ⟨⟨rfl, LeQ.rfl⟩, ⟨rfl, LeQ.rfl⟩, ⟨rfl, LeQ.rfl⟩, ⟨rfl, LeQ.rfl⟩, ⟨rfl, LeQ.rfl⟩, ⟨rfl, LeQ.rfl⟩, trivial⟩
    · have hz0 : ∀ z : Bool, (nds g g.levels.length).isEmpty = z → SubM cx 156 (qB2 g g.levels.length (sqs g g.levels.length)) ⟨[(2, .s (.ptr 2 0)), (5, .s (.ptr 5 0))], [(2, some (.cells (zvs ty38.zero))), (5, some (.cells [.d (dNds (nds g g.levels.length)), .mo (sqs g g.levels.length).isEmpty 101])), (101, some (.mrow 55 (sqs g g.levels.length).length 3 (trEl (sqs g g.levels.length))))]⟩ := by
        intro z hz
        cases z with
        | true =>
          have e0 : nds g g.levels.length = [] := List.isEmpty_iff.1 hz
          refine SubM.of_subI (SubI.of0 href [] rfl ⟨⟨rfl, LeBx.rfl⟩, ⟨rfl, LeBx.cells ⟨?_, LeQ.rfl, trivial⟩⟩, ⟨rfl, LeBx.rfl⟩, trivial⟩ ⟨⟨rfl, LeQ.rfl⟩, ⟨rfl, LeQ.rfl⟩, trivial⟩)
          show LeQ (.s (.mo (nds g g.levels.length).isEmpty 100)) (.s (.d (dNds (nds g g.levels.length))))
          rw [e0]
          exact fun M β v r => LeQ.d LeD.nil M β v (LeQ.toNil (z := true) rfl M β v r)
        | false =>
          refine SubM.trans (SubM.of_subI (SubI.ownC (e := 60) (n := (nds g g.levels.length).length) (s := 3) (f := ndEl (nds g g.levels.length)) (z := (nds g g.levels.length).isEmpty) (cs := [.mo (nds g g.levels.length).isEmpty 100, .mo (sqs g g.levels.length).isEmpty 101]) 5 0 100 rfl rfl hz rfl)) ?_
          exact SubM.of href [] [100] rfl rfl rfl ⟨⟨rfl, LeBxf.rfl⟩, ⟨rfl, LeBxf.cells ⟨fun M β v hf r => LeQf.own (by simp) rfl M β v hf (r.2 hz), LeQf.rfl, trivial⟩⟩, ⟨rfl, LeBxf.rfl⟩, trivial⟩ ⟨⟨rfl, LeQf.rfl⟩, ⟨rfl, LeQf.rfl⟩, trivial⟩
      refine AW.subM (hz0 _ rfl) ?_
      clear hz0
      have hz1 : ∀ z : Bool, (sqs g g.levels.length).isEmpty = z → SubM cx 156 ⟨[(2, .s (.ptr 2 0)), (5, .s (.ptr 5 0))], [(2, some (.cells (zvs ty38.zero))), (5, some (.cells [.d (dNds (nds g g.levels.length)), .mo (sqs g g.levels.length).isEmpty 101])), (101, some (.mrow 55 (sqs g g.levels.length).length 3 (trEl (sqs g g.levels.length))))]⟩ ⟨[(2, .s (.ptr 2 0)), (5, .s (.ptr 5 0))], [(2, some (.cells (zvs ty38.zero))), (5, some (.cells [.d (dNds (nds g g.levels.length)), .d (dTrs (sqs g g.levels.length))]))]⟩ := by
        intro z hz
        cases z with
        | true =>
          have e0 : sqs g g.levels.length = [] := List.isEmpty_iff.1 hz
          refine SubM.of_subI (SubI.of0 href [] rfl ⟨⟨rfl, LeBx.rfl⟩, ⟨rfl, LeBx.cells ⟨LeQ.rfl, ?_, trivial⟩⟩, trivial⟩ ⟨⟨rfl, LeQ.rfl⟩, ⟨rfl, LeQ.rfl⟩, trivial⟩)
          show LeQ (.s (.mo (sqs g g.levels.length).isEmpty 101)) (.s (.d (dTrs (sqs g g.levels.length))))
          rw [e0]
          exact fun M β v r => LeQ.d LeD.nil M β v (LeQ.toNil (z := true) rfl M β v r)
        | false =>
          refine SubM.trans (SubM.of_subI (SubI.ownC (e := 55) (n := (sqs g g.levels.length).length) (s := 3) (f := trEl (sqs g g.levels.length)) (z := (sqs g g.levels.length).isEmpty) (cs := [.d (dNds (nds g g.levels.length)), .mo (sqs g g.levels.length).isEmpty 101]) 5 1 101 rfl rfl hz rfl)) ?_
          exact SubM.of href [] [101] rfl rfl rfl ⟨⟨rfl, LeBxf.rfl⟩, ⟨rfl, LeBxf.cells ⟨LeQf.rfl, fun M β v hf r => LeQf.own (by simp) rfl M β v hf (r.2 hz), trivial⟩⟩, trivial⟩ ⟨⟨rfl, LeQf.rfl⟩, ⟨rfl, LeQf.rfl⟩, trivial⟩
      refine AW.subM (hz1 _ rfl) ?_
      refine ex.sound (rc := []) tab_ok mix href _ ?_
      exact SubR.refl _
end Go.Ch

/- MeshLevel and MeshVolume of package bed. -/
namespace Go.Ch
open Go Go.Ax Go.Proofs Go.Proofs.Try Go.Hull
set_option maxRecDepth 100000
set_option pp.maxSteps 400
set_option maxHeartbeats 1000000

theorem blowest (a b : Int) (ha : -9000000000000000000 ≤ a ∧ a ≤ 9000000000000000000) (hb : 0 < b) : CallP Try.prog 31 [vI a, vI b] (frac (lowF a b)) := by
  obtain ⟨h0, h1⟩ := absW ha
  refine callP_of_ex (rc := []) (N := 25) Try.func31 rfl rfl Try.call31 tab_ok mix rfl rfl (fun cx href => ?_)
  refine AW.loopI (fun q : Int × Int => ⟨[(0, vI a), (1, vI b), (4, .s (.ptr 4 0)), (5, vI q.1), (6, vI q.2)], [(4, some (.cells [.d (dI 0), .d (dI 0)]))]⟩) (fun q => 0 ≤ q.1 ∧ 0 ≤ q.2 ∧ gcdI q.1 q.2 = gcdI (if a < 0 then w64 (0 - a) else a) b) (fun q => q.2.toNat) (if a < 0 then w64 (0 - a) else a, b) ⟨h0, by simp only; omega, rfl⟩ ?_ ?_
  · refine SubI.of0 href [] rfl ⟨⟨rfl, LeBx.rfl⟩, trivial⟩ ⟨⟨rfl, LeQ.rfl⟩, ⟨rfl, LeQ.rfl⟩, ⟨rfl, LeQ.rfl⟩, ⟨rfl, LeQ.int h1⟩, ⟨rfl, LeQ.rfl⟩, trivial⟩
  · rintro ⟨x, y⟩ ⟨hx, hy, hg⟩
    simp only at hx hy hg ⊢
    refine ex.sound (rc := []) tab_ok mix href _ ?_
    refine And.intro (fun h => ?_) (fun h => ?_)
    · have h : y > 0 := decT h
      refine oi (show y ≠ 0 by omega) ?_
      refine And.intro (by kernel_rfl) ?_
      have m1 := Int.tmod_lt_of_pos x h
      have m0 := Int.tmod_nonneg y hx
      refine ⟨(y, x.tmod y), ⟨by simp only; omega, m0, by rw [← hg, gcdI_step hx h]⟩, by simp only; omega, ?_⟩
      exact SubI.of0 href [] rfl ⟨⟨rfl, LeBx.rfl⟩, trivial⟩ ⟨⟨rfl, LeQ.rfl⟩, ⟨rfl, LeQ.rfl⟩, ⟨rfl, LeQ.rfl⟩, ⟨rfl, LeQ.rfl⟩, ⟨rfl, LeQ.rfl⟩, trivial⟩
    · have h : ¬ y > 0 := decF h
      obtain rfl : y = 0 := by omega
      rw [gcdI_zero x hx] at hg
      have hp := gcdI_pos (a := if a < 0 then w64 (0 - a) else a) hb
      rw [← hg] at hp
      refine oi (show x ≠ 0 by omega) ?_
      refine oi (show x ≠ 0 by omega) ?_
      refine And.intro (by kernel_rfl) ?_
      unfold lowF
      rw [← hg]
      exact SubR.refl _


theorem bMeshLevel (m : Mesh) (p : Pt) (hm : m.ok) : CallP Try.prog 14 [mesh m, pt p] (.t [.g [.d (dI (mlevG m p).1.1), .d (dI (mlevG m p).1.2)], .s (.d (dI (mlevG m p).2))]) := by
  have hm2 := hm.tris
  refine callP_of_ex (rc := []) (N := 95) Try.func14 rfl rfl Try.call14 tab_ok mix rfl rfl (fun cx href => ?_)
  refine callN (bCheckMesh m hm) ?_
  unfold mlevG
  refine And.intro (fun h => ?_) (fun h => ?_)
  · have h : (errM m != 0) = true := h
    rw [h]; exact SubR.refl _
  have h : (errM m != 0) = false := h
  rw [h, cond_false]
  have mv := MVal.of (show errM m = 0 by simpa using h)
  have hk := mv.k
  refine callN (inRange p) ?_
  refine And.intro (fun h => ?_) (fun h => ?_)
  · have h : (!good p) = true := h
    rw [h]; exact SubR.refl _
  have h : (!good p) = false := h
  rw [h, cond_false]
  have hp : good p = true := by simpa using h
  refine AW.loopI (fun i : Nat => ⟨[(2, .s (.ptr 2 0)), (3, .s (.ptr 3 0)), (4, .s (.ptr 4 0)), (26, .s (.d (dTrs m.tris))), (27, vI m.tris.length), (28, vI i)], [(2, some (meshB m)), (3, some (.cells [.d (dI p.x), .d (dI p.y)])), (4, some (.cells [.d (dI 0), .d (dI 0)]))]⟩) (fun i => i ≤ m.tris.length ∧ levT m p m.tris = levT m p (m.tris.drop i)) (fun i => m.tris.length - i) 0 ⟨Nat.zero_le _, rfl⟩ ?_ ?_
  · exact SubI.of0 href [] rfl ⟨⟨rfl, LeBx.rfl⟩, ⟨rfl, LeBx.rfl⟩, ⟨rfl, LeBx.rfl⟩, trivial⟩ ⟨⟨rfl, LeQ.rfl⟩, ⟨rfl, LeQ.rfl⟩, ⟨rfl, LeQ.rfl⟩, ⟨rfl, LeQ.rfl⟩, ⟨rfl, LeQ.rfl⟩, ⟨rfl, LeQ.rfl⟩, trivial⟩
  · rintro i ⟨hi, he⟩
    refine ex.sound (rc := []) tab_ok mix href _ ?_
    refine And.intro (fun h4 => ?_) (fun h4 => ?_)
    · have h4 : (i : Int) < m.tris.length := decT h4
      have hi' : i < m.tris.length := by omega
      have hg0 : m.tris.getD i default = m.tris[i] := getD_of hi'
      rw [List.drop_eq_getElem_cons hi', levT, ← hg0] at he
      obtain ⟨⟨ia, ib, ic⟩, _⟩ := mv.tri i hi'
      obtain ⟨dn, dd⟩ := den_ok mv hi' hp
      refine oi ⟨by omega, by omega⟩ ?_
      refine oi ia ?_
      refine oi ib ?_
      refine oi ic ?_
      refine And.intro (by kernel_rfl) ?_
      refine callN (bplace (ndA m (m.tris.getD i default).b)) ?_
      refine callN (bplace (ndA m (m.tris.getD i default).c)) ?_
      refine callN (bCross _ _ p (mv.good _) (mv.good _) hp) ?_
      refine callN (bplace (ndA m (m.tris.getD i default).c)) ?_
      refine callN (bplace (ndA m (m.tris.getD i default).a)) ?_
      refine callN (bCross _ _ p (mv.good _) (mv.good _) hp) ?_
      refine callN (bplace (ndA m (m.tris.getD i default).a)) ?_
      refine callN (bplace (ndA m (m.tris.getD i default).b)) ?_
      refine callN (bCross _ _ p (mv.good _) (mv.good _) hp) ?_
      refine And.intro (by kernel_rfl) ?_
      refine And.intro (fun h5 => ?_) (fun h5 => ?_)
      · have h5 : inT m (m.tris.getD i default) p = true := mm_in ▸ h5
        rw [h5, cond_true] at he
        refine callN (blowest (numT m (m.tris.getD i default) p) (denT m (m.tris.getD i default) p) dn dd) ?_
        rw [he]
        exact SubR.refl _
      · have h5 : inT m (m.tris.getD i default) p = false := mm_in ▸ h5
        rw [h5, cond_false] at he
        refine ⟨i + 1, ⟨by omega, he⟩, by omega, ?_⟩
        exact SubI.of0 href [] rfl ⟨⟨rfl, LeBx.rfl⟩, ⟨rfl, LeBx.rfl⟩, ⟨rfl, LeBx.rfl⟩, trivial⟩ ⟨⟨rfl, LeQ.rfl⟩, ⟨rfl, LeQ.rfl⟩, ⟨rfl, LeQ.rfl⟩, ⟨rfl, LeQ.rfl⟩, ⟨rfl, LeQ.rfl⟩, ⟨rfl, LeQ.int (w64_of (by omega) (by omega))⟩, trivial⟩
    · have h4 : ¬ (i : Int) < m.tris.length := decF h4
      obtain rfl : i = m.tris.length := by omega
      rw [he, List.drop_length]
      exact SubR.refl _

theorem bMeshVolume (m : Mesh) (lv : Int) (hm : m.ok) : CallP Try.prog 15 [mesh m, vI lv] (.t [.s (.d (dI (mvolG m lv).1)), .s (.d (dI (mvolG m lv).2))]) := by
  have hm2 := hm.tris
  refine callP_of_ex (rc := []) (N := 59) Try.func15 rfl rfl Try.call15 tab_ok mix rfl rfl (fun cx href => ?_)
  refine callN (bCheckMesh m hm) ?_
  unfold mvolG
  refine And.intro (fun h => ?_) (fun h => ?_)
  · have h : (errM m != 0) = true := h
    rw [h]; exact SubR.refl _
  have h : (errM m != 0) = false := h
  rw [h, cond_false]
  have mv := MVal.of (show errM m = 0 by simpa using h)
  have hk := mv.k
  refine callN (isLevel lv) ?_
  refine And.intro (fun h => ?_) (fun h => ?_)
  · have h : (!within lv (-20000) 20000) = true := h
    rw [h]; exact SubR.refl _
  have h : (!within lv (-20000) 20000) = false := h
  rw [h, cond_false]
  refine AW.loopI (fun i : Nat => ⟨[(1, vI lv), (2, .s (.ptr 2 0)), (7, vI (volF m lv i)), (19, .s (.d (dTrs m.tris))), (20, vI m.tris.length), (21, vI i)], [(2, some (meshB m))]⟩) (fun i => i ≤ m.tris.length) (fun i => m.tris.length - i) 0 (Nat.zero_le _) ?_ ?_
  · exact SubI.of0 href [] rfl ⟨⟨rfl, LeBx.rfl⟩, trivial⟩ ⟨⟨rfl, LeQ.rfl⟩, ⟨rfl, LeQ.rfl⟩, ⟨rfl, LeQ.rfl⟩, ⟨rfl, LeQ.rfl⟩, ⟨rfl, LeQ.rfl⟩, ⟨rfl, LeQ.rfl⟩, trivial⟩
  · intro i hi
    refine ex.sound (rc := []) tab_ok mix href _ ?_
    refine And.intro (fun h4 => ?_) (fun h4 => ?_)
    · have h4 : (i : Int) < m.tris.length := decT h4
      have hi' : i < m.tris.length := by omega
      obtain ⟨⟨ia, ib, ic⟩, _⟩ := mv.tri i hi'
      refine oi ⟨by omega, by omega⟩ ?_
      refine callN (bdouble m (m.tris.getD i default) ⟨ia, ib, ic⟩ mv.good) ?_
      refine oi ia ?_
      refine oi ib ?_
      refine oi ic ?_
      refine And.intro (by kernel_rfl) ?_
      refine ⟨i + 1, by omega, by omega, ?_⟩
      exact SubI.of0 href [] rfl ⟨⟨rfl, LeBx.rfl⟩, trivial⟩ ⟨⟨rfl, LeQ.rfl⟩, ⟨rfl, LeQ.rfl⟩, ⟨rfl, LeQ.int rfl⟩, ⟨rfl, LeQ.rfl⟩, ⟨rfl, LeQ.rfl⟩, ⟨rfl, LeQ.int (w64_of (by omega) (by omega))⟩, trivial⟩
    · have h4 : ¬ (i : Int) < m.tris.length := decF h4
      obtain rfl : i = m.tris.length := by omega
      exact SubR.refl _

end Go.Ch

/- Prisms. -/
namespace Go.Ch
open Go Go.Ax Go.Proofs Go.Proofs.Try Go.Hull
set_option maxRecDepth 100000
set_option pp.maxSteps 400
set_option maxHeartbeats 1000000

theorem gleveled (n : Int) : CallP Try.prog 34 [vI n] (vB (within n (-20000) 20000)) := by
  refine callP_of_ex (rc := []) (N := 9) Try.func34 rfl rfl Try.call34 tab_ok mix rfl rfl (fun cx href => ?_)
  repeat first | refine sk ?_ | refine st ?_ | refine sg ?_ | refine sh ?_ | refine su ?_ | refine sn1 ?_ | refine sn0 ?_ | refine And.intro (show imp none (gimp _ none) from trivial) ?_
  exact SubR.refl _
theorem gnumbered (t : Tr) (n : Nat) (ha : 0 ≤ t.a ∧ t.a < n) (hb : 0 ≤ t.b ∧ t.b < n) (hc : 0 ≤ t.c ∧ t.c < n) : CallP Try.prog 45 [trV t, vI n] (vB true) := by
  refine callP_of_ex (rc := []) (N := 24) Try.func45 rfl rfl Try.call45 tab_ok mix rfl rfl (fun cx href => ?_)
  repeat first | refine sk ?_ | refine st ?_ | refine sg ?_ | refine sh ?_ | refine su ?_ | refine sn1 ?_ | refine sn0 ?_ | refine And.intro (show imp none (gimp _ none) from trivial) ?_
  refine SubR.of_eq ?_
  show vB (decide (mm false (mm false t.a t.b) t.c ≥ 0) && decide (mm true (mm true t.a t.b) t.c < (n : Int))) = vB true
  have h1 : mm false (mm false t.a t.b) t.c ≥ 0 := by
    simp only [mm]
    split <;> split <;> omega
  have h2 : mm true (mm true t.a t.b) t.c < (n : Int) := by
    simp only [mm]
    split <;> split <;> omega
  rw [decide_eq_true h1, decide_eq_true h2]; rfl
abbrev trBx (t : Tr) : Box := .cells [.d (dI t.a), .d (dI t.b), .d (dI t.c)]
def nineP (A B C : Nd) : List SV := [.d (dI A.x), .d (dI A.y), .d (dI A.lv), .d (dI B.x), .d (dI B.y), .d (dI B.lv), .d (dI C.x), .d (dI C.y), .d (dI C.lv)]
def sixP (A B C : Nd) : Nat → List SV
  | 0 => [.d (dI 0), .d (dI 0), .d (dI 0), .d (dI 0), .d (dI 0), .d (dI 0)]
  | 1 => [.d (dI A.x), .d (dI A.y), .d (dI 0), .d (dI 0), .d (dI 0), .d (dI 0)]
  | 2 => [.d (dI A.x), .d (dI A.y), .d (dI B.x), .d (dI B.y), .d (dI 0), .d (dI 0)]
  | _ => [.d (dI A.x), .d (dI A.y), .d (dI B.x), .d (dI B.y), .d (dI C.x), .d (dI C.y)]
abbrev cnS1 (l : List Nd) (t : Tr) (i : Nat) : St := ⟨[(0, vNds l), (3, .s (.ptr 3 0)), (4, .s (.ptr 4 0)), (5, .s (.ptr 5 0)), (17, vNds l), (18, vI l.length), (19, vI i)], [(3, some (trBx t)), (4, some (.cells (zvs ty74.zero))), (5, some (.cells (zvs ty75.zero)))]⟩
abbrev cnS2 (A B C : Nd) (i : Nat) : St := ⟨[(4, .s (.ptr 4 0)), (5, .s (.ptr 5 0)), (62, .g (nineP A B C)), (63, vI i)], [(4, some (.cells (nineP A B C))), (5, some (.cells (sixP A B C i)))]⟩
theorem gcorners (l : List Nd) (t : Tr) (hl : l.length ≤ 64) (hg : ∀ n ∈ l, badN n = false) (ha : 0 ≤ t.a ∧ t.a < l.length) (hb : 0 ≤ t.b ∧ t.b < l.length) (hc : 0 ≤ t.c ∧ t.c < l.length)
    (h0 : cross (l.getD t.a.toNat default).pt (l.getD t.b.toNat default).pt (l.getD t.c.toNat default).pt ≠ 0) :
    CallP Try.prog 33 [vNds l, trV t] (.t [.g (nineP (l.getD t.a.toNat default) (l.getD t.b.toNat default) (l.getD t.c.toNat default)), .g (sixP (l.getD t.a.toNat default) (l.getD t.b.toNat default) (l.getD t.c.toNat default) 3),
      .s (.d (dI (cross (l.getD t.a.toNat default).pt (l.getD t.b.toNat default).pt (l.getD t.c.toNat default).pt))), .s (.d (dI 0))]) := by
  obtain ⟨A, hA⟩ : ∃ A, A = l.getD t.a.toNat default := ⟨_, rfl⟩
  obtain ⟨B, hB⟩ : ∃ B, B = l.getD t.b.toNat default := ⟨_, rfl⟩
  obtain ⟨C, hC⟩ : ∃ C, C = l.getD t.c.toNat default := ⟨_, rfl⟩
  rw [← hA, ← hB, ← hC] at h0 ⊢
  refine callP_of_aw Try.func33 rfl rfl Try.call33 tab_ok rfl rfl (fun cx href => ?_)
  refine AW.seq (ex.sound (rc := []) tab_ok mix href _ ?_)
  refine AW.seq (ex.sound (rc := []) tab_ok mix href _ ?_)
  refine And.intro (fun h => ?_) (fun _ => ?_)
  · have h : decide ((l.length : Int) > 64) = true := h
    simp at h; omega
  refine AW.cut (σ' := cnS1 l t l.length) (ex.sound (rc := []) tab_ok mix href _ ?_) ?_
  · refine AW.loopI (fun i => cnS1 l t i) (fun i => i ≤ l.length) (fun i => l.length - i) 0 (Nat.zero_le _) ?_ ?_
    · exact SubI.of0 href [] rfl ⟨⟨rfl, LeBx.rfl⟩, ⟨rfl, LeBx.rfl⟩, ⟨rfl, LeBx.rfl⟩, trivial⟩ ⟨⟨rfl, LeQ.rfl⟩, ⟨rfl, LeQ.rfl⟩, ⟨rfl, LeQ.rfl⟩, ⟨rfl, LeQ.rfl⟩, ⟨rfl, LeQ.rfl⟩, ⟨rfl, LeQ.rfl⟩, ⟨rfl, LeQ.rfl⟩, trivial⟩
    · intro i hi
      refine ex.sound (rc := []) tab_ok mix href _ ?_
      refine And.intro (fun h => ?_) (fun h => ?_)
      · have h : (i : Int) < l.length := decT h
        have hi' : i < l.length := by omega
        have hb1 := hg (l.getD i default) (by rw [List.getD_eq_getElem?_getD, List.getElem?_eq_getElem hi']; exact List.getElem_mem hi')
        refine oi ⟨by omega, by omega⟩ ?_
        repeat first | refine sk ?_ | refine st ?_ | refine sg ?_ | refine sh ?_ | refine su ?_ | refine sn1 ?_ | refine sn0 ?_ | refine And.intro (show imp none (gimp _ none) from trivial) ?_
        refine callN ((goutside [(l.getD i default).pt] (by simp)).conv (args' := _) ⟨LeD.slc fun i j hi hj => ?_, trivial⟩) ?_
        · obtain rfl : i = 0 := by have : i < 1 := hi; omega
          match j, hj with
          | 0, _ => exact LeD.of_eq rfl
          | 1, _ => exact LeD.of_eq rfl
        repeat first | refine sk ?_ | refine st ?_ | refine sg ?_ | refine sh ?_ | refine su ?_ | refine sn1 ?_ | refine sn0 ?_ | refine And.intro (show imp none (gimp _ none) from trivial) ?_
        refine callG (gleveled (l.getD i default).lv) ?_
        repeat first | refine sk ?_ | refine st ?_ | refine sg ?_ | refine sh ?_ | refine su ?_ | refine sn1 ?_ | refine sn0 ?_ | refine And.intro (show imp none (gimp _ none) from trivial) ?_
        refine And.intro (fun h2 => ?_) (fun _ => ?_)
        · have h2 : ((!good (l.getD i default).pt || false) || !within (l.getD i default).lv (-20000) 20000) = true := h2
          unfold badN at hb1
          rw [Bool.or_false, hb1] at h2
          cases h2
        refine ⟨i + 1, by omega, by omega, ?_⟩
        exact SubI.of0 href [] rfl ⟨⟨rfl, LeBx.rfl⟩, ⟨rfl, LeBx.rfl⟩, ⟨rfl, LeBx.rfl⟩, trivial⟩ ⟨⟨rfl, LeQ.rfl⟩, ⟨rfl, LeQ.rfl⟩, ⟨rfl, LeQ.rfl⟩, ⟨rfl, LeQ.rfl⟩, ⟨rfl, LeQ.rfl⟩, ⟨rfl, LeQ.rfl⟩, ⟨rfl, LeQ.int (w64_of (by omega) (by omega))⟩, trivial⟩
      · have h : ¬ (i : Int) < l.length := decF h
        obtain rfl : i = l.length := by omega
        exact ⟨rfl, SubI.of0 href [] rfl ⟨⟨rfl, LeBx.rfl⟩, ⟨rfl, LeBx.rfl⟩, ⟨rfl, LeBx.rfl⟩, trivial⟩ ⟨⟨rfl, LeQ.rfl⟩, ⟨rfl, LeQ.rfl⟩, ⟨rfl, LeQ.rfl⟩, ⟨rfl, LeQ.rfl⟩, ⟨rfl, LeQ.rfl⟩, ⟨rfl, LeQ.rfl⟩, ⟨rfl, LeQ.rfl⟩, trivial⟩⟩
  · refine AW.seq (ex.sound (rc := []) tab_ok mix href _ ?_)
    refine callN (gnumbered t l.length ha hb hc) ?_
    refine And.intro (fun h => by cases (show (!true) = true from h)) (fun _ => ?_)
    refine AW.seq (ex.sound (rc := []) tab_ok mix href _ ?_)
    refine oi (show 0 ≤ t.a ∧ t.a < (l.length : Int) from ha) ?_
    repeat first | refine sk ?_ | refine st ?_ | refine sg ?_ | refine sh ?_ | refine su ?_ | refine sn1 ?_ | refine sn0 ?_ | refine And.intro (show imp none (gimp _ none) from trivial) ?_
    refine oi (show 0 ≤ t.b ∧ t.b < (l.length : Int) from hb) ?_
    repeat first | refine sk ?_ | refine st ?_ | refine sg ?_ | refine sh ?_ | refine su ?_ | refine sn1 ?_ | refine sn0 ?_ | refine And.intro (show imp none (gimp _ none) from trivial) ?_
    refine oi (show 0 ≤ t.c ∧ t.c < (l.length : Int) from hc) ?_
    repeat first | refine sk ?_ | refine st ?_ | refine sg ?_ | refine sh ?_ | refine su ?_ | refine sn1 ?_ | refine sn0 ?_ | refine And.intro (show imp none (gimp _ none) from trivial) ?_
    refine And.intro (by kernel_rfl) ?_
    refine AW.cut (σ' := cnS2 A B C 3) (ex.sound (rc := []) tab_ok mix href _ ?_) ?_
    · refine AW.loopI (fun i => cnS2 A B C i) (fun i => i ≤ 3) (fun i => 3 - i) 0 (Nat.zero_le _) ?_ ?_
      · rw [hA, hB, hC]
        exact SubI.of0 href [] rfl ⟨⟨rfl, LeBx.rfl⟩, ⟨rfl, LeBx.rfl⟩, trivial⟩ ⟨⟨rfl, LeQ.rfl⟩, ⟨rfl, LeQ.rfl⟩, ⟨rfl, LeQ.rfl⟩, ⟨rfl, LeQ.rfl⟩, trivial⟩
      · intro i hi
        match i, hi with
        | 0, _ =>
          refine ex.sound (rc := []) tab_ok mix href _ ?_
          refine And.intro (fun _ => ?_) (fun h => by cases (show (decide ((0 : Int) < 3)) = false from h))
          refine oi ⟨by decide, by decide⟩ ?_
          repeat first | refine sk ?_ | refine st ?_ | refine sg ?_ | refine sh ?_ | refine su ?_ | refine sn1 ?_ | refine sn0 ?_ | refine And.intro (show imp none (gimp _ none) from trivial) ?_
          refine oi ⟨by decide, by decide⟩ ?_
          repeat first | refine sk ?_ | refine st ?_ | refine sg ?_ | refine sh ?_ | refine su ?_ | refine sn1 ?_ | refine sn0 ?_ | refine And.intro (show imp none (gimp _ none) from trivial) ?_
          refine ⟨1, by decide, by decide, ?_⟩
          exact SubI.of0 href [] rfl ⟨⟨rfl, LeBx.rfl⟩, ⟨rfl, LeBx.rfl⟩, trivial⟩ ⟨⟨rfl, LeQ.rfl⟩, ⟨rfl, LeQ.rfl⟩, ⟨rfl, LeQ.rfl⟩, ⟨rfl, LeQ.rfl⟩, trivial⟩
        | 1, _ =>
          refine ex.sound (rc := []) tab_ok mix href _ ?_
          refine And.intro (fun _ => ?_) (fun h => by cases (show (decide ((1 : Int) < 3)) = false from h))
          refine oi ⟨by decide, by decide⟩ ?_
          repeat first | refine sk ?_ | refine st ?_ | refine sg ?_ | refine sh ?_ | refine su ?_ | refine sn1 ?_ | refine sn0 ?_ | refine And.intro (show imp none (gimp _ none) from trivial) ?_
          refine oi ⟨by decide, by decide⟩ ?_
          repeat first | refine sk ?_ | refine st ?_ | refine sg ?_ | refine sh ?_ | refine su ?_ | refine sn1 ?_ | refine sn0 ?_ | refine And.intro (show imp none (gimp _ none) from trivial) ?_
          refine ⟨2, by decide, by decide, ?_⟩
          exact SubI.of0 href [] rfl ⟨⟨rfl, LeBx.rfl⟩, ⟨rfl, LeBx.rfl⟩, trivial⟩ ⟨⟨rfl, LeQ.rfl⟩, ⟨rfl, LeQ.rfl⟩, ⟨rfl, LeQ.rfl⟩, ⟨rfl, LeQ.rfl⟩, trivial⟩
        | 2, _ =>
          refine ex.sound (rc := []) tab_ok mix href _ ?_
          refine And.intro (fun _ => ?_) (fun h => by cases (show (decide ((2 : Int) < 3)) = false from h))
          refine oi ⟨by decide, by decide⟩ ?_
          repeat first | refine sk ?_ | refine st ?_ | refine sg ?_ | refine sh ?_ | refine su ?_ | refine sn1 ?_ | refine sn0 ?_ | refine And.intro (show imp none (gimp _ none) from trivial) ?_
          refine oi ⟨by decide, by decide⟩ ?_
          repeat first | refine sk ?_ | refine st ?_ | refine sg ?_ | refine sh ?_ | refine su ?_ | refine sn1 ?_ | refine sn0 ?_ | refine And.intro (show imp none (gimp _ none) from trivial) ?_
          refine ⟨3, by decide, by decide, ?_⟩
          exact SubI.of0 href [] rfl ⟨⟨rfl, LeBx.rfl⟩, ⟨rfl, LeBx.rfl⟩, trivial⟩ ⟨⟨rfl, LeQ.rfl⟩, ⟨rfl, LeQ.rfl⟩, ⟨rfl, LeQ.rfl⟩, ⟨rfl, LeQ.rfl⟩, trivial⟩
        | 3, _ =>
          refine ex.sound (rc := []) tab_ok mix href _ ?_
          refine And.intro (fun h => by cases (show (decide ((3 : Int) < 3)) = true from h)) (fun _ => ?_)
          exact ⟨rfl, SubI.of0 href [] rfl ⟨⟨rfl, LeBx.rfl⟩, ⟨rfl, LeBx.rfl⟩, trivial⟩ ⟨⟨rfl, LeQ.rfl⟩, ⟨rfl, LeQ.rfl⟩, ⟨rfl, LeQ.rfl⟩, ⟨rfl, LeQ.rfl⟩, trivial⟩⟩
    · refine ex.sound (rc := []) tab_ok mix href _ ?_
      repeat first | refine sk ?_ | refine st ?_ | refine sg ?_ | refine sh ?_ | refine su ?_ | refine sn1 ?_ | refine sn0 ?_ | refine And.intro (show imp none (gimp _ none) from trivial) ?_
      refine oi ⟨by decide, by decide⟩ ?_
      repeat first | refine sk ?_ | refine st ?_ | refine sg ?_ | refine sh ?_ | refine su ?_ | refine sn1 ?_ | refine sn0 ?_ | refine And.intro (show imp none (gimp _ none) from trivial) ?_
      refine oi ⟨by decide, by decide⟩ ?_
      repeat first | refine sk ?_ | refine st ?_ | refine sg ?_ | refine sh ?_ | refine su ?_ | refine sn1 ?_ | refine sn0 ?_ | refine And.intro (show imp none (gimp _ none) from trivial) ?_
      refine oi ⟨by decide, by decide⟩ ?_
      repeat first | refine sk ?_ | refine st ?_ | refine sg ?_ | refine sh ?_ | refine su ?_ | refine sn1 ?_ | refine sn0 ?_ | refine And.intro (show imp none (gimp _ none) from trivial) ?_
      refine callN (gcross A.pt B.pt C.pt) ?_
      refine And.intro (fun h => ?_) (fun _ => ?_)
      · have h : (cross A.pt B.pt C.pt == 0) = true := h
        exact absurd (by simpa using h) h0
      refine And.intro (by kernel_rfl) ?_
      exact SubR.refl _
theorem gPrism (l : List Nd) (t : Tr) (lev : Int) (hl : l.length ≤ 64) (hg : ∀ n ∈ l, badN n = false) (ha : 0 ≤ t.a ∧ t.a < l.length) (hb : 0 ≤ t.b ∧ t.b < l.length) (hc : 0 ≤ t.c ∧ t.c < l.length)
    (h0 : 0 < cross (l.getD t.a.toNat default).pt (l.getD t.b.toNat default).pt (l.getD t.c.toNat default).pt) (h1 : cross (l.getD t.a.toNat default).pt (l.getD t.b.toNat default).pt (l.getD t.c.toNat default).pt ≤ 800000000) (hw : within lev (-20000) 20000 = true) :
    CallP Try.prog 16 [vNds l, trV t, vI lev] (.t [.s (.d (dI (w64 (cross (l.getD t.a.toNat default).pt (l.getD t.b.toNat default).pt (l.getD t.c.toNat default).pt * w64 (w64 (w64 ((l.getD t.a.toNat default).lv + (l.getD t.b.toNat default).lv) + (l.getD t.c.toNat default).lv) - w64 (3 * lev)))))), .s (.d (dI 0))]) := by
  have hcn := gcorners l t hl hg ha hb hc (by omega)
  refine callP_of_ex (rc := []) (N := 45) Try.func16 rfl rfl Try.call16 tab_ok mix rfl rfl (fun cx href => ?_)
  generalize l.getD t.a.toNat default = A at *
  generalize l.getD t.b.toNat default = B at *
  generalize l.getD t.c.toNat default = C at *
  generalize cross A.pt B.pt C.pt = D at *
  refine callN hcn ?_
  refine And.intro (fun h => by cases (show ((0 : Int) != 0) = true from h)) (fun _ => ?_)
  refine callN (gleveled lev) ?_
  rw [hw]
  refine And.intro (fun h => by cases (show (!true) = true from h)) (fun _ => ?_)
  repeat first | refine sk ?_ | refine st ?_ | refine sg ?_ | refine sh ?_ | refine su ?_ | refine sn1 ?_ | refine sn0 ?_ | refine And.intro (show imp none (gimp _ none) from trivial) ?_
  refine oi ⟨by decide, by decide⟩ ?_
  repeat first | refine sk ?_ | refine st ?_ | refine sg ?_ | refine sh ?_ | refine su ?_ | refine sn1 ?_ | refine sn0 ?_ | refine And.intro (show imp none (gimp _ none) from trivial) ?_
  refine oi ⟨by decide, by decide⟩ ?_
  repeat first | refine sk ?_ | refine st ?_ | refine sg ?_ | refine sh ?_ | refine su ?_ | refine sn1 ?_ | refine sn0 ?_ | refine And.intro (show imp none (gimp _ none) from trivial) ?_
  refine oi ⟨by decide, by decide⟩ ?_
  repeat first | refine sk ?_ | refine st ?_ | refine sg ?_ | refine sh ?_ | refine su ?_ | refine sn1 ?_ | refine sn0 ?_ | refine And.intro (show imp none (gimp _ none) from trivial) ?_
  have e : mm true D (w64 (0 - D)) = D := by
    rw [w64_of (by omega) (by omega)]
    simp only [mm]
    split <;> omega
  refine SubR.of_eq ?_
  show AV.t [.s (.d (dI (w64 (mm true D (w64 (0 - D)) * w64 (w64 (w64 (A.lv + B.lv) + C.lv) - w64 (3 * lev)))))), .s (.d (dI 0))] = _
  rw [e]
end Go.Ch

/- Grids whose levels lie in a plane: nodes, both meshes. No program in this text. -/
namespace Go.Ch
open Go Go.Ax Go.Proofs Go.Proofs.Try Go.Hull
set_option maxRecDepth 100000
set_option pp.maxSteps 400
set_option maxHeartbeats 1000000

structure Pln where
  x : Int
  y : Int
  side : Int
  cols : Int
  rows : Int
  level : Int
  east : Int
  north : Int
structure PVal (p : Pln) : Prop where
  cols : 2 ≤ p.cols ∧ p.cols ≤ 8
  rows : 2 ≤ p.rows ∧ p.rows ≤ 8
  most : p.cols * p.rows ≤ 16
  level : -3000 ≤ p.level ∧ p.level ≤ 3000
  east : -500 ≤ p.east ∧ p.east ≤ 500
  north : -500 ≤ p.north ∧ p.north ≤ 500
def plv (p : Pln) (i : Nat) : Int := p.level + ((i % p.cols.toNat : Nat) : Int) * p.east + ((i / p.cols.toNat : Nat) : Int) * p.north
def gridP (p : Pln) : Grid := ⟨p.x, p.y, p.side, p.cols, p.rows, (List.range (p.cols.toNat * p.rows.toNat)).map (plv p)⟩
theorem gridP_len (p : Pln) : (gridP p).levels.length = p.cols.toNat * p.rows.toNat := by simp [gridP]
theorem gridP_lv {p : Pln} {i : Nat} (h : i < p.cols.toNat * p.rows.toNat) : (gridP p).levels.getD i 0 = plv p i := by
  unfold gridP
  rw [List.getD_eq_getElem?_getD, List.getElem?_map, List.getElem?_range h]; rfl
theorem cr_le {p : Pln} (hp : PVal p) : p.cols.toNat * p.rows.toNat ≤ 16 := by
  have h1 := hp.cols
  have h2 := hp.rows
  have h3 := hp.most
  have e : ((p.cols.toNat * p.rows.toNat : Nat) : Int) = p.cols * p.rows := by
    rw [Int.natCast_mul, Int.toNat_of_nonneg (by omega), Int.toNat_of_nonneg (by omega)]
  omega
theorem dm_lt {p : Pln} (hp : PVal p) {i : Nat} (h : i < p.cols.toNat * p.rows.toNat) : i % p.cols.toNat < p.cols.toNat ∧ i / p.cols.toNat < p.rows.toNat := by
  have h1 := hp.cols
  exact ⟨Nat.mod_lt _ (by omega), Nat.div_lt_of_lt_mul h⟩
theorem plv_le {p : Pln} (hp : PVal p) {i : Nat} (h : i < p.cols.toNat * p.rows.toNat) : -10000 ≤ plv p i ∧ plv p i ≤ 10000 := by
  obtain ⟨d1, d2⟩ := dm_lt hp h
  have h1 := hp.cols
  have h2 := hp.rows
  have h3 := hp.level
  have h4 := hp.east
  have h5 := hp.north
  unfold plv
  generalize i % p.cols.toNat = a at *
  generalize i / p.cols.toNat = b at *
  have m1 := mul_le_of (a := (a : Int)) (b := p.east) (A := 7) (B := 500) (by omega) (by omega) (by omega) (by omega)
  have m2 := mul_le_of (a := (b : Int)) (b := p.north) (A := 7) (B := 500) (by omega) (by omega) (by omega) (by omega)
  omega
theorem gridP_kn {p : Pln} (hp : PVal p) {i : Nat} (h : i < p.cols.toNat * p.rows.toNat) : kn (gridP p) i = true := by
  unfold kn
  rw [gridP_lv h]
  have := plv_le hp h
  simp; omega
theorem nds_gridP {p : Pln} (hp : PVal p) : ∀ i, i ≤ p.cols.toNat * p.rows.toNat → nds (gridP p) i = (List.range i).map (ndAt (gridP p))
  | 0, _ => rfl
  | i + 1, h => by
    rw [nds_succ, gridP_kn hp (by omega), cond_true, nds_gridP hp i (by omega), List.range_succ, List.map_append]; rfl
theorem numI_gridP {p : Pln} (hp : PVal p) {i : Nat} (h : i < p.cols.toNat * p.rows.toNat) : numI (gridP p) i = i := by
  unfold numI
  rw [gridP_kn hp h, nds_gridP hp i (by omega)]
  simp
def ndP (p : Pln) : List Nd := nds (gridP p) (gridP p).levels.length
theorem ndP_len {p : Pln} (hp : PVal p) : (ndP p).length = p.cols.toNat * p.rows.toNat := by
  unfold ndP
  rw [gridP_len, nds_gridP hp _ (Nat.le_refl _)]; simp
theorem ndP_at {p : Pln} (hp : PVal p) {i : Nat} (h : i < p.cols.toNat * p.rows.toNat) : (ndP p).getD i default = ndAt (gridP p) i := by
  unfold ndP
  rw [gridP_len, nds_gridP hp _ (Nat.le_refl _), List.getD_eq_getElem?_getD, List.getElem?_map, List.getElem?_range h]; rfl
theorem ndAt_lv {p : Pln} {i : Nat} (h : i < p.cols.toNat * p.rows.toNat) : (ndAt (gridP p) i).lv = plv p i := gridP_lv h
abbrev uG (p : Pln) : List Pt := unitG p.cols.toNat p.rows.toNat
theorem uG_at {p : Pln} {i : Nat} (h : i < p.cols.toNat * p.rows.toNat) : (uG p).getD i default = ⟨((i % p.cols.toNat : Nat) : Int), ((i / p.cols.toNat : Nat) : Int)⟩ := by
  unfold uG unitG
  rw [List.getD_eq_getElem?_getD, List.getElem?_map, List.getElem?_range h]; rfl
theorem uG_len (p : Pln) : (uG p).length = p.cols.toNat * p.rows.toNat := by simp [uG, unitG]
def afP (p : Pln) : Pt → Pt := aff (p.x + p.side / 2) (p.y + p.side / 2) p.side
theorem ndAt_pt {p : Pln} (hp : PVal p) (hv : GVal (gridP p)) {i : Nat} (h : i < p.cols.toNat * p.rows.toNat) : (ndAt (gridP p) i).pt = afP p ((uG p).getD i default) := by
  have h1 := hp.cols
  have hc : ((p.cols.toNat : Nat) : Int) = p.cols := by omega
  show centreG (gridP p) i = _
  rw [(centre_good hv (by rw [gridP_len]; exact h)).2, uG_at h]
  unfold afP aff
  show (⟨p.x + (i : Int) % p.cols * p.side + p.side / 2, p.y + (i : Int) / p.cols * p.side + p.side / 2⟩ : Pt) = _
  rw [Int.natCast_emod, Int.natCast_ediv, hc]
  congr 1 <;> grind
theorem ptsN_ndP {p : Pln} (hp : PVal p) (hv : GVal (gridP p)) : ptsN (ndP p) = (uG p).map (afP p) := by
  apply List.ext_getElem
  · unfold ptsN; rw [List.length_map, List.length_map, ndP_len hp, uG_len]
  · intro i h1 h2
    have hi : i < p.cols.toNat * p.rows.toNat := by rw [List.length_map, uG_len] at h2; exact h2
    have e1 := ptsN_at (l := ndP p) (i := i) (by rw [ndP_len hp]; exact hi)
    rw [ndP_at hp hi, ndAt_pt hp hv hi, getD_at h1] at e1
    have e2 := getD_map (f := afP p) (l := uG p) (i := i) (by rw [uG_len]; exact hi)
    rw [getD_at h2] at e2
    rw [e1, e2]
end Go.Ch

/- Grids in a plane: the triangulation, the volumes, the levels. No program in this text. -/
namespace Go.Ch
open Go Go.Ax Go.Proofs Go.Proofs.Try Go.Hull
set_option maxRecDepth 100000
set_option pp.maxSteps 400
set_option maxHeartbeats 1000000

structure PG (p : Pln) : Prop where
  val : PVal p
  gv : GVal (gridP p)
  w : (p.cols - 1) * p.side ≤ 20000
  h : (p.rows - 1) * p.side ≤ 20000
abbrev cP (p : Pln) : Nat := p.cols.toNat
abbrev nP (p : Pln) : Nat := p.cols.toNat * p.rows.toNat
theorem afP_inj {p : Pln} (hs : 0 < p.side) {a b : Pt} (h : afP p a = afP p b) : a = b := by
  unfold afP aff at h
  have h1 := congrArg Pt.x h
  have h2 := congrArg Pt.y h
  simp only at h1 h2
  have e1 := (eq_aff hs).1 h1
  have e2 := (eq_aff hs).1 h2
  cases a; cases b; simp_all
theorem ptP_at {p : Pln} (hg : PG p) {i : Nat} (h : i < nP p) : (ptsN (ndP p)).getD i default = afP p ((uG p).getD i default) := by
  rw [ptsN_ndP hg.val hg.gv, getD_map (by rw [uG_len]; exact h)]
theorem ptP_len {p : Pln} (hg : PG p) : (ptsN (ndP p)).length = nP p := by
  rw [ptsN_ndP hg.val hg.gv, List.length_map, uG_len]
theorem ptP_mem {p : Pln} (hg : PG p) {q : Pt} (h : q ∈ ptsN (ndP p)) : ∃ i, i < nP p ∧ q = centreG (gridP p) i ∧ q = afP p ((uG p).getD i default) := by
  obtain ⟨i, hi, e⟩ := List.getElem_of_mem h
  have hi' : i < nP p := by rw [← ptP_len hg]; exact hi
  refine ⟨i, hi', ?_, ?_⟩
  · rw [← e, ← getD_at hi, ptsN_at (by rw [ndP_len hg.val]; exact hi'), ndP_at hg.val hi']; rfl
  · rw [← e, ← getD_at hi, ptP_at hg hi']
theorem ptP_dist {p : Pln} (hg : PG p) : Dist (ptsN (ndP p)) := by
  intro i j hi hj hij e
  rw [ptP_len hg] at hi hj
  have hs := hg.gv.side
  have hs : 100 ≤ p.side ∧ p.side ≤ 10000 := hs
  rw [ptP_at hg hi, ptP_at hg hj] at e
  have e := afP_inj (by omega) e
  rw [uG_at hi, uG_at hj] at e
  have h1 := congrArg Pt.x e
  have h2 := congrArg Pt.y e
  simp only at h1 h2
  have h1 : i % cP p = j % cP p := by exact_mod_cast h1
  have h2 : i / cP p = j / cP p := by exact_mod_cast h2
  have d1 := Nat.mod_add_div i (cP p)
  have d2 := Nat.mod_add_div j (cP p)
  rw [h1, h2] at d1
  omega
theorem ptP_ok {p : Pln} (hg : PG p) : ∀ q ∈ ptsN (ndP p), okP q := by
  intro q hq
  obtain ⟨i, hi, e, _⟩ := ptP_mem hg hq
  rw [e]
  exact okP_centre hg.gv (by rw [gridP_len]; exact hi)
theorem patch_P {p : Pln} (hg : PG p) : patchE (ptsN (ndP p)) = 0 := by
  have hc := hg.val.cols
  have hr := hg.val.rows
  have hs := hg.gv.side
  have hs : 100 ≤ p.side ∧ p.side ≤ 10000 := hs
  have hn : nP p ≤ 16 := cr_le hg.val
  have hlen := ptP_len hg
  have hok := ptP_ok hg
  have hd := ptP_dist hg
  have e1 : errPts (ptsN (ndP p)) = 0 := by
    unfold errPts
    rw [decide_eq_false (by rw [hlen]; omega)]
    have : (ptsN (ndP p)).any (fun p => !good p) = false := by
      rw [List.any_eq_false]
      intro q hq
      rw [good_of (hok q hq)]; decide
    rw [this]; rfl
  have e2 : dupP (ptsN (ndP p)) = false := by
    unfold dupP
    rw [List.any_eq_false]
    intro i hi
    rw [List.mem_range] at hi
    rw [Bool.not_eq_true, List.any_eq_false]
    intro q hq
    obtain ⟨j, hj, e⟩ := List.getElem_of_mem hq
    rw [List.length_take] at hj
    have := hd j i (by omega) hi (by omega)
    rw [List.getElem_take] at e
    rw [← e, ← getD_at]
    simpa using this
  have e3 : apartB (ptsN (ndP p)) = false := by
    unfold apartB
    rw [List.any_eq_false]
    intro a ha
    rw [Bool.not_eq_true, List.any_eq_false]
    intro b hb
    obtain ⟨i, hi, _, ea⟩ := ptP_mem hg ha
    obtain ⟨j, hj, _, eb⟩ := ptP_mem hg hb
    obtain ⟨i1, i2⟩ := dm_lt hg.val hi
    obtain ⟨j1, j2⟩ := dm_lt hg.val hj
    rw [uG_at hi] at ea
    rw [uG_at hj] at eb
    have hw := hg.w
    have hh := hg.h
    rw [ea, eb]
    unfold far afP aff
    simp only
    generalize i % p.cols.toNat = ix at *
    generalize i / p.cols.toNat = iy at *
    generalize j % p.cols.toNat = jx at *
    generalize j / p.cols.toNat = jy at *
    have k1 : p.side * ((ix : Int) - jx) ≤ p.side * (p.cols - 1) := Int.mul_le_mul_of_nonneg_left (by omega) (by omega)
    have k2 : p.side * ((iy : Int) - jy) ≤ p.side * (p.rows - 1) := Int.mul_le_mul_of_nonneg_left (by omega) (by omega)
    rw [Int.mul_sub] at k1 k2
    rw [Int.mul_comm p.side (p.cols - 1)] at k1
    rw [Int.mul_comm p.side (p.rows - 1)] at k2
    rw [decide_eq_false (by omega), decide_eq_false (by omega)]
    decide
  have e4 : ¬ hullP (ptsN (ndP p)) < 3 := by
    rw [hullP_flat hd hok]
    intro hf
    have n0 : 0 < nP p := Nat.mul_pos (by omega) (by omega)
    have hc2 : 2 ≤ cP p := by show 2 ≤ p.cols.toNat; omega
    have nc : cP p < nP p := by
      have : p.cols.toNat * 2 ≤ p.cols.toNat * p.rows.toNat := Nat.mul_le_mul_left _ (by omega)
      show p.cols.toNat < p.cols.toNat * p.rows.toNat
      omega
    have mem : ∀ i, i < nP p → afP p ((uG p).getD i default) ∈ ptsN (ndP p) := fun i hi => by
      rw [← ptP_at hg hi, getD_at (by rw [hlen]; exact hi)]
      exact List.getElem_mem _
    have := hf _ (mem 0 n0) _ (mem 1 (by omega)) _ (mem (cP p) nc)
    rw [uG_at n0, uG_at (show 1 < nP p by omega), uG_at nc, Nat.zero_mod, Nat.zero_div, Nat.mod_eq_of_lt (show 1 < p.cols.toNat from hc2), Nat.div_eq_of_lt (show 1 < p.cols.toNat from hc2), Nat.mod_self, Nat.div_self (by omega)] at this
    unfold afP at this
    rw [crs_aff] at this
    have h1 : crs (⟨((0 : Nat) : Int), ((0 : Nat) : Int)⟩ : P2) ⟨((1 : Nat) : Int), ((0 : Nat) : Int)⟩ ⟨((0 : Nat) : Int), ((1 : Nat) : Int)⟩ = 1 := by decide
    rw [h1, Int.mul_one] at this
    have : 0 < p.side * p.side := Int.mul_pos (by omega) (by omega)
    omega
  unfold patchE
  rw [e1, e2, e3, decide_eq_false (by omega)]; rfl
abbrev mS (p : Pln) : Mesh := sqM (gridP p)
def mT (p : Pln) : Mesh := ⟨ndP p, trTs (triR (uG p))⟩
theorem triR_P {p : Pln} (hg : PG p) : triR (ptsN (ndP p)) = triR (uG p) := by
  rw [ptsN_ndP hg.val hg.gv]
  have hs := hg.gv.side
  have hs : 100 ≤ p.side ∧ p.side ≤ 10000 := hs
  exact triR_aff (by omega) _
theorem badLv_P {p : Pln} (hg : PG p) : (ndP p).any badLv = false := by
  rw [List.any_eq_false]
  intro n hn
  obtain ⟨i, hi, e⟩ := List.getElem_of_mem hn
  have hi' : i < nP p := by have := ndP_len hg.val; show i < p.cols.toNat * p.rows.toNat; omega
  have := plv_le hg.val hi'
  rw [← e, ← getD_of hi, ndP_at hg.val hi']
  unfold badLv within
  rw [ndAt_lv hi']
  simp; omega
theorem triB_P {p : Pln} (hg : PG p) : triB (ndP p) = (mT p, 0) := by
  unfold triB
  rw [badLv_P hg, cond_false, if_pos (patch_P hg), triR_P hg]; rfl
theorem chk_P {p : Pln} (hg : PG p) : (sumI (dT (uG p)) (triR (uG p)) = 2 * cellW p.cols.toNat p.rows.toNat (fun _ => 1)) ∧
    (sumI (fun t => dT (uG p) t * xT (uG p) t) (triR (uG p)) = 3 * cellW p.cols.toNat p.rows.toNat (fun k => 2 * (k % p.cols.toNat : Nat) + 1)) ∧
    (sumI (fun t => dT (uG p) t * yT (uG p) t) (triR (uG p)) = 3 * cellW p.cols.toNat p.rows.toNat (fun k => 2 * (k / p.cols.toNat : Nat) + 1)) ∧ (triR (uG p)).length ≤ 64 ∧
    ∀ i, i < nP p → ∃ t ∈ triR (uG p), t.A = i ∨ t.B = i ∨ t.C = i := by
  have hc := hg.val.cols
  have hr := hg.val.rows
  have h := chk_all p.cols.toNat (by omega) p.rows.toNat (by omega) (by omega) (by omega) (cr_le hg.val)
  unfold chk at h
  simp only [Bool.and_eq_true, beq_iff_eq, decide_eq_true_eq, List.all_eq_true, List.any_eq_true, List.mem_range, Bool.or_eq_true] at h
  obtain ⟨⟨⟨⟨h1, h2⟩, h3⟩, h4⟩, h5⟩ := h
  refine ⟨h1, h2, h3, h4, fun i hi => ?_⟩
  obtain ⟨t, ht, h6⟩ := h5 i hi
  exact ⟨t, ht, by rcases h6 with (h | h) | h <;> simp [h]⟩
theorem triR_small {p : Pln} (hg : PG p) : (triR (uG p)).length ≤ 2048 := by
  have := (chk_P hg).2.2.2.1
  omega
theorem errM_T {p : Pln} (hg : PG p) : errM (mT p) = 0 := by
  have := errM_tri (badLv_P hg) (patch_P hg) (by rw [triR_P hg]; exact triR_small hg)
  rw [triR_P hg] at this
  exact this
end Go.Ch

/- Grids in a plane: the volumes of both meshes, and the levels at the centres. No program in this text. -/
namespace Go.Ch
open Go Go.Ax Go.Proofs Go.Proofs.Try Go.Hull
set_option maxRecDepth 100000
set_option pp.maxSteps 400
set_option maxHeartbeats 1000000

theorem sumI_append {α : Type} (f : α → Int) : ∀ a b : List α, sumI f (a ++ b) = sumI f a + sumI f b
  | [], b => by simp [sumI]
  | x :: r, b => by simp only [List.cons_append, sumI]; rw [sumI_append f r b]; omega
theorem sumI_snoc {α : Type} (f : α → Int) (a : List α) (x : α) : sumI f (a ++ [x]) = sumI f a + f x := by
  rw [sumI_append]; simp [sumI]
theorem sumI_ext {α : Type} {f g : α → Int} : ∀ {l : List α}, (∀ a ∈ l, f a = g a) → sumI f l = sumI g l
  | [], _ => rfl
  | a :: r, h => by simp only [sumI]; rw [h a (by simp), sumI_ext (l := r) fun b hb => h b (by simp [hb])]
theorem sumI_flatMap {α β : Type} (f : β → Int) (g : α → List β) : ∀ l : List α, sumI f (l.flatMap g) = sumI (fun a => sumI f (g a)) l
  | [] => rfl
  | a :: r => by rw [List.flatMap_cons, sumI_append, sumI_flatMap f g r]; rfl
theorem sumI_map {α β : Type} (f : β → Int) (g : α → β) : ∀ l : List α, sumI f (l.map g) = sumI (fun a => f (g a)) l
  | [] => rfl
  | a :: r => by simp only [List.map_cons, sumI]; rw [sumI_map f g r]
/-- The exact volume over a triangle. -/
def volE (m : Mesh) (lev : Int) (t : Tr) : Int := dbl m t * ((ndA m t.a).lv + (ndA m t.b).lv + (ndA m t.c).lv - 3 * lev)
theorem volE_le {m : Mesh} (mv : MVal m) {lev : Int} (hl : -20000 ≤ lev ∧ lev ≤ 20000) {i : Nat} (hi : i < m.tris.length) : (-96000000000000 ≤ volE m lev (m.tris.getD i default) ∧ volE m lev (m.tris.getD i default) ≤ 96000000000000) ∧
    (-120000 ≤ (ndA m (m.tris.getD i default).a).lv + (ndA m (m.tris.getD i default).b).lv + (ndA m (m.tris.getD i default).c).lv - 3 * lev ∧ (ndA m (m.tris.getD i default).a).lv + (ndA m (m.tris.getD i default).b).lv + (ndA m (m.tris.getD i default).c).lv - 3 * lev ≤ 120000) := by
  obtain ⟨_, d0, d1⟩ := mv.tri i hi
  generalize m.tris.getD i default = t at *
  have l1 := mv.lev t.a
  have l2 := mv.lev t.b
  have l3 := mv.lev t.c
  unfold volE
  have := mul_le_of (a := dbl m t) (b := (ndA m t.a).lv + (ndA m t.b).lv + (ndA m t.c).lv - 3 * lev) (A := 800000000) (B := 120000) (by omega) (by omega) (by omega) (by omega)
  omega
theorem volS_eq {m : Mesh} (mv : MVal m) {lev : Int} (hl : -20000 ≤ lev ∧ lev ≤ 20000) {i : Nat} (hi : i < m.tris.length) {s : Int} (hs : -300000000000000000 ≤ s ∧ s ≤ 300000000000000000) :
    volS m lev s (m.tris.getD i default) = s + volE m lev (m.tris.getD i default) ∧ w64 (dbl m (m.tris.getD i default) * w64 (w64 (w64 ((ndA m (m.tris.getD i default).a).lv + (ndA m (m.tris.getD i default).b).lv) + (ndA m (m.tris.getD i default).c).lv) - w64 (3 * lev))) = volE m lev (m.tris.getD i default) := by
  obtain ⟨h1, h2⟩ := volE_le mv hl hi
  generalize m.tris.getD i default = t at *
  have l1 := mv.lev t.a
  have l2 := mv.lev t.b
  have l3 := mv.lev t.c
  unfold volE at h1
  have e : w64 (dbl m t * w64 (w64 (w64 ((ndA m t.a).lv + (ndA m t.b).lv) + (ndA m t.c).lv) - w64 (3 * lev))) = volE m lev t := by
    rw [w64_of (n := (ndA m t.a).lv + (ndA m t.b).lv) (by omega) (by omega), w64_of (n := (ndA m t.a).lv + (ndA m t.b).lv + (ndA m t.c).lv) (by omega) (by omega), w64_of (n := 3 * lev) (by omega) (by omega), w64_of (n := _ - 3 * lev) (by omega) (by omega), w64_of (by omega) (by omega)]
    rfl
  refine ⟨?_, e⟩
  unfold volS
  rw [e]
  unfold volE
  rw [w64_of (by omega) (by omega)]
theorem take_succ_sum {m : Mesh} {f : Tr → Int} {i : Nat} (hi : i < m.tris.length) : sumI f (m.tris.take (i + 1)) = sumI f (m.tris.take i) + f (m.tris.getD i default) := by
  rw [List.take_succ_eq_append_getElem hi, sumI_snoc, getD_of hi]
theorem volF_exact {m : Mesh} (mv : MVal m) {lev : Int} (hl : -20000 ≤ lev ∧ lev ≤ 20000) : ∀ i, i ≤ m.tris.length → volF m lev i = sumI (volE m lev) (m.tris.take i) ∧ -(96000000000000 * (i : Int)) ≤ volF m lev i ∧ volF m lev i ≤ 96000000000000 * (i : Int)
  | 0, _ => by simp [volF, sumI]
  | i + 1, h => by
    obtain ⟨e, b1, b2⟩ := volF_exact mv hl i (by omega)
    have hk := mv.k
    obtain ⟨h1, _⟩ := volE_le mv hl (i := i) (by omega)
    have h2 := (volS_eq mv hl (i := i) (by omega) (s := volF m lev i) (by omega)).1
    rw [take_succ_sum (by omega), ← e]
    show volS m lev (volF m lev i) (m.tris.getD i default) = _ ∧ _ ≤ volS m lev (volF m lev i) (m.tris.getD i default) ∧ volS m lev (volF m lev i) (m.tris.getD i default) ≤ _
    rw [h2]
    omega
theorem volF_all {m : Mesh} (mv : MVal m) {lev : Int} (hl : -20000 ≤ lev ∧ lev ≤ 20000) : volF m lev m.tris.length = sumI (volE m lev) m.tris := by
  rw [(volF_exact mv hl m.tris.length (Nat.le_refl _)).1, List.take_length]
/-- A triangle of three cells. -/
theorem nd_P {p : Pln} (hg : PG p) {m : Mesh} (hm : m.nodes = ndP p) {i : Nat} (hi : i < nP p) : (ndA m (i : Int)).pt = afP p ((uG p).getD i default) ∧ (ndA m (i : Int)).lv = plv p i := by
  unfold ndA
  rw [Int.toNat_natCast, hm, ndP_at hg.val hi]
  exact ⟨ndAt_pt hg.val hg.gv hi, ndAt_lv hi⟩
theorem plv_u {p : Pln} {i : Nat} (hi : i < nP p) : plv p i = p.level + ((uG p).getD i default).x * p.east + ((uG p).getD i default).y * p.north := by
  rw [uG_at hi]; rfl
theorem ok_P {p : Pln} (hg : PG p) {i : Nat} (hi : i < nP p) : okP (afP p ((uG p).getD i default)) := by
  rw [← ptP_at hg hi]
  exact ptP_ok hg _ (by rw [getD_of (by rw [ptP_len hg]; exact hi)]; exact List.getElem_mem _)
theorem dbl_P {p : Pln} (hg : PG p) {m : Mesh} (hm : m.nodes = ndP p) {a b c : Nat} (ha : a < nP p) (hb : b < nP p) (hc : c < nP p) : dbl m ⟨a, b, c⟩ = p.side * p.side * dT (uG p) ⟨a, b, c⟩ := by
  unfold dbl
  show cross (ndA m (a : Int)).pt (ndA m (b : Int)).pt (ndA m (c : Int)).pt = _
  rw [(nd_P hg hm ha).1, (nd_P hg hm hb).1, (nd_P hg hm hc).1, cross_crs (ok_P hg ha) (ok_P hg hb) (ok_P hg hc)]
  exact crs_aff _ _ _ _ _ _
theorem volE_P {p : Pln} (hg : PG p) {m : Mesh} (hm : m.nodes = ndP p) {a b c : Nat} (ha : a < nP p) (hb : b < nP p) (hc : c < nP p) (lev : Int) :
    volE m lev ⟨a, b, c⟩ = p.side * p.side * (3 * (p.level - lev) * dT (uG p) ⟨a, b, c⟩ + p.east * (dT (uG p) ⟨a, b, c⟩ * xT (uG p) ⟨a, b, c⟩) + p.north * (dT (uG p) ⟨a, b, c⟩ * yT (uG p) ⟨a, b, c⟩)) := by
  unfold volE
  rw [dbl_P hg hm ha hb hc]
  show _ * ((ndA m (a : Int)).lv + (ndA m (b : Int)).lv + (ndA m (c : Int)).lv - 3 * lev) = _
  rw [(nd_P hg hm ha).2, (nd_P hg hm hb).2, (nd_P hg hm hc).2, plv_u ha, plv_u hb, plv_u hc]
  unfold xT yT
  simp only
  generalize dT (uG p) ⟨a, b, c⟩ = D
  grind
theorem ring1 (s a e n d x y D X Y : Int) : s * (3 * a * d + e * x + n * y) + s * (3 * a * D + e * X + n * Y) = s * (3 * a * (d + D) + e * (x + X) + n * (y + Y)) := by grind
theorem sum_tri {p : Pln} (hg : PG p) {m : Mesh} (hm : m.nodes = ndP p) (lev : Int) : ∀ l : List Tri, (∀ t ∈ l, t.A < nP p ∧ t.B < nP p ∧ t.C < nP p) →
    sumI (volE m lev) (trTs l) = p.side * p.side * (3 * (p.level - lev) * sumI (dT (uG p)) l + p.east * sumI (fun t => dT (uG p) t * xT (uG p) t) l + p.north * sumI (fun t => dT (uG p) t * yT (uG p) t) l)
  | [], _ => by simp [trTs, sumI]
  | t :: r, h => by
    have ih := sum_tri hg hm lev r fun x hx => h x (by simp [hx])
    obtain ⟨h1, h2, h3⟩ := h t (by simp)
    unfold trTs at ih ⊢
    simp only [List.map_cons, sumI]
    rw [ih, show trOf t = (⟨((t.A : Nat) : Int), ((t.B : Nat) : Int), ((t.C : Nat) : Int)⟩ : Tr) from rfl, volE_P hg hm h1 h2 h3 lev]
    exact ring1 (p.side * p.side) (p.level - lev) p.east p.north _ _ _ _ _ _
theorem ring2 (s a e n D X Y : Int) : s * (3 * a * (2 * D) + e * (3 * X) + n * (3 * Y)) = s * (6 * a * D + 3 * e * X + 3 * n * Y) := by grind
def volW (p : Pln) (lev : Int) : Int := p.side * p.side * (6 * (p.level - lev) * cellW p.cols.toNat p.rows.toNat (fun _ => 1) + 3 * p.east * cellW p.cols.toNat p.rows.toNat (fun k => 2 * (k % p.cols.toNat : Nat) + 1) + 3 * p.north * cellW p.cols.toNat p.rows.toNat (fun k => 2 * (k / p.cols.toNat : Nat) + 1))
theorem mem_triR_P {p : Pln} (_ : PG p) {t : Tri} (h : t ∈ triR (uG p)) : (t.A < nP p ∧ t.B < nP p ∧ t.C < nP p) ∧ 0 < dT (uG p) t := by
  have := mem_triR.1 h
  rw [uG_len] at this
  exact ⟨⟨by show _ < p.cols.toNat * p.rows.toNat; omega, by show _ < p.cols.toNat * p.rows.toNat; omega, by show _ < p.cols.toNat * p.rows.toNat; omega⟩, this.2.2.2.2.1⟩
theorem vol_T {p : Pln} (hg : PG p) {lev : Int} (hl : -20000 ≤ lev ∧ lev ≤ 20000) : volF (mT p) lev (mT p).tris.length = volW p lev := by
  rw [volF_all (MVal.of (errM_T hg)) hl]
  show sumI (volE (mT p) lev) (trTs (triR (uG p))) = _
  rw [sum_tri hg (m := mT p) rfl lev _ fun t ht => (mem_triR_P hg ht).1]
  obtain ⟨e1, e2, e3, _⟩ := chk_P hg
  rw [e1, e2, e3]
  exact ring2 (p.side * p.side) (p.level - lev) p.east p.north _ _ _
end Go.Ch

/- Grids in a plane: the mesh of the squares, the means, the levels at the centres. No program in this text. -/
namespace Go.Ch
open Go Go.Ax Go.Proofs Go.Proofs.Try Go.Hull
set_option maxRecDepth 100000
set_option pp.maxSteps 400
set_option maxHeartbeats 1000000

theorem cell_last {p : Pln} (hg : PG p) {k : Nat} (hk : k < nP p) : cellB p.cols.toNat p.rows.toNat k = !(lastC (gridP p) k || lastR (gridP p) k) := by
  have hc := hg.val.cols
  have hr := hg.val.rows
  have hcc : ((p.cols.toNat : Nat) : Int) = p.cols := by omega
  have e1 : lastC (gridP p) k = decide (k % p.cols.toNat + 1 = p.cols.toNat) := by
    unfold lastC
    show ((k : Int).tmod p.cols == p.cols - 1) = _
    have e : (k : Int) % p.cols = ((k % p.cols.toNat : Nat) : Int) := by rw [Int.natCast_emod, hcc]
    rw [Int.tmod_eq_emod_of_nonneg (by omega), e, Bool.eq_iff_iff, beq_iff_eq, decide_eq_true_eq]
    generalize k % p.cols.toNat = x
    omega
  have e2 : lastR (gridP p) k = decide (k / p.cols.toNat + 1 = p.rows.toNat) := by
    unfold lastR
    show ((k : Int).tdiv p.cols == p.rows - 1) = _
    have e : (k : Int) / p.cols = ((k / p.cols.toNat : Nat) : Int) := by rw [Int.natCast_ediv, hcc]
    rw [Int.tdiv_eq_ediv_of_nonneg (by omega), e, Bool.eq_iff_iff, beq_iff_eq, decide_eq_true_eq]
    generalize k / p.cols.toNat = x
    omega
  obtain ⟨h1, h2⟩ := dm_lt hg.val hk
  rw [e1, e2]
  unfold cellB
  generalize k % p.cols.toNat = x at *
  generalize k / p.cols.toNat = y at *
  rw [Bool.eq_iff_iff]
  simp only [Bool.and_eq_true, decide_eq_true_eq, Bool.not_eq_true', Bool.or_eq_false_iff, decide_eq_false_iff_not]
  omega
theorem cell_next {p : Pln} (hg : PG p) {k : Nat} (hk : k < nP p) (h : cellB p.cols.toNat p.rows.toNat k = true) : (k + 1 < nP p ∧ k + p.cols.toNat < nP p ∧ k + 1 + p.cols.toNat < nP p) ∧
    (k + 1) % p.cols.toNat = k % p.cols.toNat + 1 ∧ (k + 1) / p.cols.toNat = k / p.cols.toNat ∧ (k + p.cols.toNat) % p.cols.toNat = k % p.cols.toNat ∧ (k + p.cols.toNat) / p.cols.toNat = k / p.cols.toNat + 1 ∧
    (k + 1 + p.cols.toNat) % p.cols.toNat = k % p.cols.toNat + 1 ∧ (k + 1 + p.cols.toNat) / p.cols.toNat = k / p.cols.toNat + 1 := by
  have hc := hg.val.cols
  have hl := h
  rw [cell_last hg hk] at hl
  simp only [Bool.not_eq_true', Bool.or_eq_false_iff] at hl
  have hin := cell_in hg.gv (k := k) (by rw [gridP_len]; exact hk) hl.1 hl.2
  rw [gridP_len] at hin
  have hin : k + 1 + p.cols.toNat < p.cols.toNat * p.rows.toNat := hin
  unfold cellB at h
  simp only [Bool.and_eq_true, decide_eq_true_eq] at h
  have e := Nat.mod_add_div k p.cols.toNat
  have q1 : (k + 1) / p.cols.toNat = k / p.cols.toNat := by
    have : k + 1 = (k % p.cols.toNat + 1) + p.cols.toNat * (k / p.cols.toNat) := by omega
    rw [this, Nat.add_mul_div_left _ _ (by omega), Nat.div_eq_of_lt h.1]; omega
  have q2 : (k + 1) % p.cols.toNat = k % p.cols.toNat + 1 := by
    have : k + 1 = (k % p.cols.toNat + 1) + p.cols.toNat * (k / p.cols.toNat) := by omega
    conv => lhs; rw [this]
    rw [Nat.add_mul_mod_self_left, Nat.mod_eq_of_lt h.1]
  refine ⟨⟨by show k + 1 < p.cols.toNat * p.rows.toNat; omega, by show k + p.cols.toNat < p.cols.toNat * p.rows.toNat; omega, hin⟩, q2, q1, Nat.add_mod_right _ _, Nat.add_div_right _ (by omega), ?_, ?_⟩
  · rw [Nat.add_mod_right, q2]
  · rw [Nat.add_div_right _ (by omega), q1]
theorem cell_dT {p : Pln} (hg : PG p) {k : Nat} (hk : k < nP p) (h : cellB p.cols.toNat p.rows.toNat k = true) (X Y : Int) (hX : X = ((k % p.cols.toNat : Nat) : Int)) (hY : Y = ((k / p.cols.toNat : Nat) : Int)) :
    (uG p).getD k default = ⟨X, Y⟩ ∧ (uG p).getD (k + 1) default = ⟨X + 1, Y⟩ ∧ (uG p).getD (k + 1 + p.cols.toNat) default = ⟨X + 1, Y + 1⟩ ∧ (uG p).getD (k + p.cols.toNat) default = ⟨X, Y + 1⟩ := by
  obtain ⟨⟨n1, n2, n3⟩, a1, a2, a3, a4, a5, a6⟩ := cell_next hg hk h
  refine ⟨by rw [uG_at hk, hX, hY], ?_, ?_, ?_⟩
  · rw [uG_at n1, a1, a2, hX, hY, Int.natCast_add]; rfl
  · rw [uG_at n3, a5, a6, hX, hY, Int.natCast_add, Int.natCast_add]; rfl
  · rw [uG_at n2, a3, a4, hX, hY, Int.natCast_add]; rfl
theorem ring3 (s a e n X Y : Int) : s * (3 * a * 1 + e * (1 * (X + (X + 1) + (X + 1))) + n * (1 * (Y + Y + (Y + 1)))) + (s * (3 * a * 1 + e * (1 * (X + (X + 1) + X)) + n * (1 * (Y + (Y + 1) + (Y + 1)))) + 0) = s * (6 * a + 3 * e * (2 * X + 1) + 3 * n * (2 * Y + 1)) := by grind
theorem ring4 (s a e n X Y : Int) : s * (3 * a * 1 + e * (1 * (X + (X + 1) + X)) + n * (1 * (Y + Y + (Y + 1)))) + (s * (3 * a * 1 + e * (1 * ((X + 1) + (X + 1) + X)) + n * (1 * (Y + (Y + 1) + (Y + 1)))) + 0) = s * (6 * a + 3 * e * (2 * X + 1) + 3 * n * (2 * Y + 1)) := by grind
theorem sqT_P {p : Pln} (hg : PG p) (lev : Int) {k : Nat} (hk : k < nP p) : sumI (volE (mS p) lev) (sqT (gridP p) k) = bif cellB p.cols.toNat p.rows.toNat k then p.side * p.side * (6 * (p.level - lev) + 3 * p.east * (2 * ((k % p.cols.toNat : Nat) : Int) + 1) + 3 * p.north * (2 * ((k / p.cols.toNat : Nat) : Int) + 1)) else 0 := by
  have hl := cell_last hg hk
  unfold sqT
  cases h : cellB p.cols.toNat p.rows.toNat k with
  | false =>
    rw [h] at hl
    have : (lastC (gridP p) k || lastR (gridP p) k) = true := by
      cases hx : (lastC (gridP p) k || lastR (gridP p) k) with
      | true => rfl
      | false => rw [hx] at hl; cases hl
    rw [this]; rfl
  | true =>
    rw [h] at hl
    have : (lastC (gridP p) k || lastR (gridP p) k) = false := by simpa using hl.symm
    rw [this, cond_false, cond_true]
    obtain ⟨⟨n1, n2, n3⟩, _⟩ := cell_next hg hk h
    obtain ⟨u0, u1, u2, u3⟩ := cell_dT hg hk h _ _ rfl rfl
    show sumI _ (bif none4 (numI (gridP p) k) (numI (gridP p) (k + 1)) (numI (gridP p) (k + 1 + p.cols.toNat)) (numI (gridP p) (k + p.cols.toNat)) then [] else sqQ (gridP p) (numI (gridP p) k) (numI (gridP p) (k + 1)) (numI (gridP p) (k + 1 + p.cols.toNat)) (numI (gridP p) (k + p.cols.toNat))) = _
    rw [numI_gridP hg.val hk, numI_gridP hg.val n1, numI_gridP hg.val n2, numI_gridP hg.val n3]
    have hn : none4 (k : Int) ((k + 1 : Nat) : Int) ((k + 1 + p.cols.toNat : Nat) : Int) ((k + p.cols.toNat : Nat) : Int) = false := by
      unfold none4
      rw [decide_eq_false (by omega), decide_eq_false (by omega), decide_eq_false (by omega), decide_eq_false (by omega)]; rfl
    rw [hn, cond_false]
    have hm : (mS p).nodes = ndP p := rfl
    have hd : ∀ a b c : Pt, ∀ i j l : Nat, (uG p).getD i default = a → (uG p).getD j default = b → (uG p).getD l default = c → dT (uG p) ⟨i, j, l⟩ = crs a b c ∧ xT (uG p) ⟨i, j, l⟩ = a.x + b.x + c.x ∧ yT (uG p) ⟨i, j, l⟩ = a.y + b.y + c.y := by
      rintro _ _ _ i j l rfl rfl rfl
      exact ⟨rfl, rfl, rfl⟩
    obtain ⟨c1, c2, c3, c4⟩ := crs4 ((k % p.cols.toNat : Nat) : Int) ((k / p.cols.toNat : Nat) : Int) 1
    obtain ⟨x1, y1, z1⟩ := hd _ _ _ _ _ _ u0 u1 u2
    obtain ⟨x2, y2, z2⟩ := hd _ _ _ _ _ _ u0 u2 u3
    obtain ⟨x3, y3, z3⟩ := hd _ _ _ _ _ _ u0 u1 u3
    obtain ⟨x4, y4, z4⟩ := hd _ _ _ _ _ _ u1 u2 u3
    rw [c1] at x1
    rw [c2] at x2
    rw [c3] at x3
    rw [c4] at x4
    unfold sqQ
    cases decide (absI (lvN (gridP p) (k : Int) - lvN (gridP p) ((k + 1 + p.cols.toNat : Nat) : Int)) ≤ absI (lvN (gridP p) ((k + 1 : Nat) : Int) - lvN (gridP p) ((k + p.cols.toNat : Nat) : Int))) with
    | true =>
      simp only [cond_true, sumI]
      rw [volE_P hg hm hk n1 n3 lev, volE_P hg hm hk n3 n2 lev, x1, y1, z1, x2, y2, z2]
      exact ring3 _ _ _ _ _ _
    | false =>
      simp only [cond_false, sumI]
      rw [volE_P hg hm hk n1 n2 lev, volE_P hg hm n1 n3 n2 lev, x3, y3, z3, x4, y4, z4]
      exact ring4 _ _ _ _ _ _
theorem cell_lin (B : Nat → Bool) (f h : Nat → Int) (s a e n u v : Int) : ∀ l : List Nat, sumI (fun k => bif B k then s * (u * a + v * e * f k + v * n * h k) else 0) l =
    s * (u * a * sumI (fun k => bif B k then 1 else 0) l + v * e * sumI (fun k => bif B k then f k else 0) l + v * n * sumI (fun k => bif B k then h k else 0) l)
  | [] => by simp [sumI]
  | k :: r => by
    simp only [sumI]
    rw [cell_lin B f h s a e n u v r]
    cases B k <;> simp only [cond_true, cond_false] <;> grind
theorem vol_S {p : Pln} (hg : PG p) {lev : Int} (hl : -20000 ≤ lev ∧ lev ≤ 20000) : volF (mS p) lev (mS p).tris.length = volW p lev := by
  rw [volF_all (MVal.of (errM_sq hg.gv)) hl]
  show sumI (volE (mS p) lev) (sqs (gridP p) (gridP p).levels.length) = _
  unfold sqs
  rw [sumI_flatMap, gridP_len]
  rw [sumI_ext (g := fun k => bif cellB p.cols.toNat p.rows.toNat k then p.side * p.side * (6 * (p.level - lev) + 3 * p.east * (2 * ((k % p.cols.toNat : Nat) : Int) + 1) + 3 * p.north * (2 * ((k / p.cols.toNat : Nat) : Int) + 1)) else 0) fun k hk => sqT_P hg lev (List.mem_range.1 hk)]
  exact cell_lin _ _ _ _ _ _ _ _ _ _
/-- The mean over a cell. -/
def meanE (p : Pln) (lev : Int) (k : Nat) : Int := bif cellB p.cols.toNat p.rows.toNat k then p.side * p.side * (4 * (p.level - lev) + 2 * p.east * (2 * ((k % p.cols.toNat : Nat) : Int) + 1) + 2 * p.north * (2 * ((k / p.cols.toNat : Nat) : Int) + 1)) else 0
theorem mean_vol {p : Pln} (lev : Int) : 2 * volW p lev = 3 * sumI (meanE p lev) (List.range (nP p)) := by
  unfold meanE
  rw [cell_lin _ (fun k => 2 * ((k % p.cols.toNat : Nat) : Int) + 1) (fun k => 2 * ((k / p.cols.toNat : Nat) : Int) + 1) (p.side * p.side) (p.level - lev) p.east p.north 4 2]
  unfold volW cellW
  grind
end Go.Ch

/- Grids in a plane: the levels at the centres. No program in this text. -/
namespace Go.Ch
open Go Go.Ax Go.Proofs Go.Proofs.Try Go.Hull
set_option maxRecDepth 100000
set_option pp.maxSteps 400
set_option maxHeartbeats 1000000

theorem num_den {m : Mesh} (mv : MVal m) {t : Tr} (ht : 0 < dbl m t) {p : Pt} (hp : good p = true) :
    numT m t p = wU m t p * (ndA m t.a).lv + wV m t p * (ndA m t.b).lv + wW m t p * (ndA m t.c).lv ∧ denT m t p = dbl m t ∧ dbl m t ≤ 8000000000000 := by
  have h2 := ht
  obtain ⟨e0, b0⟩ := cross_eq (mv.good t.a) (mv.good t.b) (mv.good t.c)
  obtain ⟨e1, b1⟩ := cross_eq (mv.good t.b) (mv.good t.c) hp
  obtain ⟨e2, b2⟩ := cross_eq (mv.good t.c) (mv.good t.a) hp
  obtain ⟨e3, b3⟩ := cross_eq (mv.good t.a) (mv.good t.b) hp
  have l1 := mv.lev t.a
  have l2 := mv.lev t.b
  have l3 := mv.lev t.c
  have key : crossE (ndA m t.b).pt (ndA m t.c).pt p + crossE (ndA m t.c).pt (ndA m t.a).pt p + crossE (ndA m t.a).pt (ndA m t.b).pt p = crossE (ndA m t.a).pt (ndA m t.b).pt (ndA m t.c).pt := by
    unfold crossE
    grind
  have hd : dbl m t = crossE (ndA m t.a).pt (ndA m t.b).pt (ndA m t.c).pt := e0
  have u1 : wU m t p = crossE (ndA m t.b).pt (ndA m t.c).pt p := e1
  have u2 : wV m t p = crossE (ndA m t.c).pt (ndA m t.a).pt p := e2
  have u3 : wW m t p = crossE (ndA m t.a).pt (ndA m t.b).pt p := e3
  have m1 := mul_le_of (a := wU m t p) (b := (ndA m t.a).lv) (A := 8000000000000) (B := 20000) (by omega) (by omega) (by omega) (by omega)
  have m2 := mul_le_of (a := wV m t p) (b := (ndA m t.b).lv) (A := 8000000000000) (B := 20000) (by omega) (by omega) (by omega) (by omega)
  have m3 := mul_le_of (a := wW m t p) (b := (ndA m t.c).lv) (A := 8000000000000) (B := 20000) (by omega) (by omega) (by omega) (by omega)
  refine ⟨?_, ?_, by omega⟩
  · unfold numT
    rw [w64_of (n := wU m t p * _) (by omega) (by omega), w64_of (n := wV m t p * _) (by omega) (by omega), w64_of (n := wW m t p * _) (by omega) (by omega), w64_of (n := wU m t p * _ + _) (by omega) (by omega), w64_of (by omega) (by omega)]
  · unfold denT
    rw [w64_of (n := wU m t p + _) (by omega) (by omega), w64_of (by omega) (by omega)]
    omega
theorem plane_id (a b c q : P2) (L E N : Int) : crs b c q * (L + a.x * E + a.y * N) + crs c a q * (L + b.x * E + b.y * N) + crs a b q * (L + c.x * E + c.y * N) = crs a b c * (L + q.x * E + q.y * N) := by
  unfold crs; grind
theorem smul3 (S : Int) {u v w x y z D k : Int} (h : u * x + v * y + w * z = D * k) : S * u * x + S * v * y + S * w * z = S * D * k := by
  rw [show S * u * x + S * v * y + S * w * z = S * (u * x + v * y + w * z) by grind, h, Int.mul_assoc]
theorem lowF_mul {D z : Int} (hD : 0 < D) (hD' : D ≤ 8000000000000) (hz : -20000 ≤ z ∧ z ≤ 20000) : lowF (D * z) D = (z, 1) := by
  have m1 := mul_le_of (a := D) (b := z) (A := 8000000000000) (B := 20000) (by omega) (by omega) (by omega) (by omega)
  have ha : (if D * z < 0 then w64 (0 - D * z) else D * z) = D * (z.natAbs : Int) := by
    rw [w64_of (by omega) (by omega)]
    by_cases h : z < 0
    · have : D * z < 0 := Int.mul_neg_of_pos_of_neg hD h
      rw [if_pos this]
      have : (z.natAbs : Int) = -z := by omega
      rw [this, Int.mul_neg]; omega
    · have : 0 ≤ D * z := Int.mul_nonneg (by omega) (by omega)
      rw [if_neg (by omega)]
      have : (z.natAbs : Int) = z := by omega
      rw [this]
  have hg : gcdI (if D * z < 0 then w64 (0 - D * z) else D * z) D = D := by
    rw [ha]
    unfold gcdI
    have : (D * (z.natAbs : Int)).toNat = D.toNat * z.natAbs := by
      have : D * (z.natAbs : Int) = ((D.toNat * z.natAbs : Nat) : Int) := by rw [Int.natCast_mul, Int.toNat_of_nonneg (by omega)]
      rw [this]; rfl
    rw [this, Nat.gcd_eq_right (Nat.dvd_mul_right _ _)]
    omega
  unfold lowF
  rw [hg, Int.mul_tdiv_cancel_left _ (by omega), Int.tdiv_self (by omega), w64_of (by omega) (by omega), w64_of (by omega) (by omega)]
/-- The triangles of a mesh over the cells. -/
def natT (p : Pln) (m : Mesh) : Prop := ∀ t ∈ m.tris, ∃ a b c : Nat, t = (⟨(a : Int), (b : Int), (c : Int)⟩ : Tr) ∧ a < nP p ∧ b < nP p ∧ c < nP p ∧ 0 < dT (uG p) ⟨a, b, c⟩
theorem crs_same (a b : P2) : crs a b a = 0 ∧ crs a b b = 0 ∧ crs a a b = 0 := by
  unfold crs; refine ⟨?_, ?_, ?_⟩ <;> grind
theorem crs_rot (a b c : P2) : crs b c a = crs a b c := by unfold crs; grind
theorem wts {p : Pln} (hg : PG p) {m : Mesh} (hm : m.nodes = ndP p) {a b c i : Nat} (ha : a < nP p) (hb : b < nP p) (hc : c < nP p) (hi : i < nP p) :
    wU m ⟨a, b, c⟩ (centreG (gridP p) i) = p.side * p.side * crs ((uG p).getD b default) ((uG p).getD c default) ((uG p).getD i default) ∧
    wV m ⟨a, b, c⟩ (centreG (gridP p) i) = p.side * p.side * crs ((uG p).getD c default) ((uG p).getD a default) ((uG p).getD i default) ∧
    wW m ⟨a, b, c⟩ (centreG (gridP p) i) = p.side * p.side * crs ((uG p).getD a default) ((uG p).getD b default) ((uG p).getD i default) := by
  have e : centreG (gridP p) i = afP p ((uG p).getD i default) := ndAt_pt hg.val hg.gv hi
  unfold wU wV wW
  show cross (ndA m (b : Int)).pt (ndA m (c : Int)).pt _ = _ ∧ cross (ndA m (c : Int)).pt (ndA m (a : Int)).pt _ = _ ∧ cross (ndA m (a : Int)).pt (ndA m (b : Int)).pt _ = _
  rw [e, (nd_P hg hm ha).1, (nd_P hg hm hb).1, (nd_P hg hm hc).1, cross_crs (ok_P hg hb) (ok_P hg hc) (ok_P hg hi), cross_crs (ok_P hg hc) (ok_P hg ha) (ok_P hg hi), cross_crs (ok_P hg ha) (ok_P hg hb) (ok_P hg hi)]
  exact ⟨crs_aff _ _ _ _ _ _, crs_aff _ _ _ _ _ _, crs_aff _ _ _ _ _ _⟩
theorem levT_P {p : Pln} (hg : PG p) {m : Mesh} (mv : MVal m) (hm : m.nodes = ndP p) {i : Nat} (hi : i < nP p) : ∀ l : List Tr, (∀ t ∈ l, ∃ a b c : Nat, t = (⟨(a : Int), (b : Int), (c : Int)⟩ : Tr) ∧ a < nP p ∧ b < nP p ∧ c < nP p ∧ 0 < dT (uG p) ⟨a, b, c⟩) →
    (∃ t ∈ l, t.a = (i : Int) ∨ t.b = (i : Int) ∨ t.c = (i : Int)) → levT m (centreG (gridP p) i) l = some (plv p i, 1)
  | [], _, ⟨t, h, _⟩ => by cases h
  | t :: r, hl, hx => by
    obtain ⟨a, b, c, rfl, ha, hb, hc, hd⟩ := hl t (by simp)
    have hs := hg.gv.side
    have hs : 100 ≤ p.side ∧ p.side ≤ 10000 := hs
    have hss : 0 < p.side * p.side := Int.mul_pos (by omega) (by omega)
    obtain ⟨w1, w2, w3⟩ := wts hg hm ha hb hc hi
    have hdb := dbl_P hg hm ha hb hc
    have hpos : 0 < dbl m ⟨a, b, c⟩ := by rw [hdb]; exact Int.mul_pos hss hd
    obtain ⟨n1, n2, n3⟩ := num_den mv hpos (centre_good hg.gv (i := i) (by rw [gridP_len]; exact hi)).1
    have hz := plv_le hg.val hi
    unfold levT
    cases h : inT m ⟨a, b, c⟩ (centreG (gridP p) i) with
    | true =>
      rw [cond_true]
      have hnum : numT m ⟨a, b, c⟩ (centreG (gridP p) i) = dbl m ⟨a, b, c⟩ * plv p i := by
        rw [n1]
        show wU m ⟨a, b, c⟩ _ * (ndA m (a : Int)).lv + wV m ⟨a, b, c⟩ _ * (ndA m (b : Int)).lv + wW m ⟨a, b, c⟩ _ * (ndA m (c : Int)).lv = _
        rw [w1, w2, w3, (nd_P hg hm ha).2, (nd_P hg hm hb).2, (nd_P hg hm hc).2, hdb, plv_u ha, plv_u hb, plv_u hc, plv_u hi]
        have := plane_id ((uG p).getD a default) ((uG p).getD b default) ((uG p).getD c default) ((uG p).getD i default) p.level p.east p.north
        exact smul3 _ this
      rw [hnum, n2, lowF_mul hpos n3 (by omega)]
    | false =>
      rw [cond_false]
      refine levT_P hg mv hm hi r (fun x hx => hl x (by simp [hx])) ?_
      obtain ⟨t, ht, hv⟩ := hx
      rcases List.mem_cons.1 ht with rfl | ht
      · exfalso
        have h0 : inT m ⟨a, b, c⟩ (centreG (gridP p) i) = true := by
          unfold inT
          rw [w1, w2, w3]
          unfold dT at hd
          simp only at hd
          have h3 := Int.mul_pos hss hd
          have hv : a = i ∨ b = i ∨ c = i := by
            rcases hv with h | h | h
            · exact .inl (Int.ofNat.inj h)
            · exact .inr (.inl (Int.ofNat.inj h))
            · exact .inr (.inr (Int.ofNat.inj h))
          generalize hA : (uG p).getD a default = A at *
          generalize hB : (uG p).getD b default = B at *
          generalize hC : (uG p).getD c default = C at *
          simp only [Bool.and_eq_true, decide_eq_true_eq]
          rcases hv with rfl | rfl | rfl
          · rw [hA, crs_rot A B C, (crs_same C A).2.1, (crs_same A B).1]; omega
          · rw [hB, (crs_same B C).1, (crs_same A B).2.1, (crs_rot C A B).symm]; omega
          · rw [hC, (crs_same B C).2.1, (crs_same C A).1]; omega
        rw [h0] at h; cases h
      · exact ⟨t, ht, hv⟩
theorem mem_sq {p : Pln} (hg : PG p) {t : Tr} (h : t ∈ (mS p).tris) : ∃ k, k < nP p ∧ cellB p.cols.toNat p.rows.toNat k = true ∧ (t ∈ sqQ (gridP p) k (k + 1 : Nat) (k + 1 + p.cols.toNat : Nat) (k + p.cols.toNat : Nat)) := by
  have h : t ∈ (List.range (gridP p).levels.length).flatMap (sqT (gridP p)) := h
  rw [List.mem_flatMap] at h
  obtain ⟨k, hk, ht⟩ := h
  rw [List.mem_range, gridP_len] at hk
  have hl := cell_last hg hk
  unfold sqT at ht
  cases hb : cellB p.cols.toNat p.rows.toNat k with
  | false =>
    rw [hb] at hl
    cases hx : (lastC (gridP p) k || lastR (gridP p) k) with
    | true => rw [hx] at ht; cases ht
    | false => rw [hx] at hl; cases hl
  | true =>
    rw [hb] at hl
    cases hx : (lastC (gridP p) k || lastR (gridP p) k) with
    | true => rw [hx] at hl; cases hl
    | false =>
      rw [hx, cond_false] at ht
      obtain ⟨⟨n1, n2, n3⟩, _⟩ := cell_next hg hk hb
      have ht : t ∈ (bif none4 (numI (gridP p) k) (numI (gridP p) (k + 1)) (numI (gridP p) (k + 1 + p.cols.toNat)) (numI (gridP p) (k + p.cols.toNat)) then [] else sqQ (gridP p) (numI (gridP p) k) (numI (gridP p) (k + 1)) (numI (gridP p) (k + 1 + p.cols.toNat)) (numI (gridP p) (k + p.cols.toNat))) := ht
      rw [numI_gridP hg.val hk, numI_gridP hg.val n1, numI_gridP hg.val n2, numI_gridP hg.val n3] at ht
      refine ⟨k, hk, hb, ?_⟩
      cases hn : none4 (k : Int) ((k + 1 : Nat) : Int) ((k + 1 + p.cols.toNat : Nat) : Int) ((k + p.cols.toNat : Nat) : Int) with
      | true => rw [hn] at ht; cases ht
      | false => rw [hn] at ht; exact ht
theorem sqQ_cases (g : Grid) (p q s t : Int) : sqQ g p q s t = [⟨p, q, s⟩, ⟨p, s, t⟩] ∨ sqQ g p q s t = [⟨p, q, t⟩, ⟨q, s, t⟩] := by
  unfold sqQ
  cases decide (absI (lvN g p - lvN g s) ≤ absI (lvN g q - lvN g t))
  · exact .inr rfl
  · exact .inl rfl
theorem cell_pos {p : Pln} (hg : PG p) {k : Nat} (hk : k < nP p) (h : cellB p.cols.toNat p.rows.toNat k = true) : dT (uG p) ⟨k, k + 1, k + 1 + p.cols.toNat⟩ = 1 ∧ dT (uG p) ⟨k, k + 1 + p.cols.toNat, k + p.cols.toNat⟩ = 1 ∧
    dT (uG p) ⟨k, k + 1, k + p.cols.toNat⟩ = 1 ∧ dT (uG p) ⟨k + 1, k + 1 + p.cols.toNat, k + p.cols.toNat⟩ = 1 := by
  obtain ⟨u0, u1, u2, u3⟩ := cell_dT hg hk h _ _ rfl rfl
  obtain ⟨c1, c2, c3, c4⟩ := crs4 ((k % p.cols.toNat : Nat) : Int) ((k / p.cols.toNat : Nat) : Int) 1
  unfold dT
  simp only
  rw [u0, u1, u2, u3, c1, c2, c3, c4]
  decide
theorem sq_nat {p : Pln} (hg : PG p) : natT p (mS p) := by
  intro t ht
  obtain ⟨k, hk, hb, ht⟩ := mem_sq hg ht
  obtain ⟨⟨n1, n2, n3⟩, _⟩ := cell_next hg hk hb
  obtain ⟨d1, d2, d3, d4⟩ := cell_pos hg hk hb
  rcases sqQ_cases (gridP p) k (k + 1 : Nat) (k + 1 + p.cols.toNat : Nat) (k + p.cols.toNat : Nat) with e | e
  · rw [e] at ht
    simp only [List.mem_cons, List.not_mem_nil, or_false] at ht
    rcases ht with rfl | rfl
    · exact ⟨_, _, _, rfl, hk, n1, n3, by rw [d1]; decide⟩
    · exact ⟨_, _, _, rfl, hk, n3, n2, by rw [d2]; decide⟩
  · rw [e] at ht
    simp only [List.mem_cons, List.not_mem_nil, or_false] at ht
    rcases ht with rfl | rfl
    · exact ⟨_, _, _, rfl, hk, n1, n2, by rw [d3]; decide⟩
    · exact ⟨_, _, _, rfl, n1, n3, n2, by rw [d4]; decide⟩
theorem tri_nat {p : Pln} (hg : PG p) : natT p (mT p) := by
  intro t ht
  have ht : t ∈ (triR (uG p)).map trOf := ht
  rw [List.mem_map] at ht
  obtain ⟨T, hT, rfl⟩ := ht
  obtain ⟨⟨h1, h2, h3⟩, h4⟩ := mem_triR_P hg hT
  exact ⟨_, _, _, rfl, h1, h2, h3, h4⟩
theorem tri_has {p : Pln} (hg : PG p) {i : Nat} (hi : i < nP p) : ∃ t ∈ (mT p).tris, t.a = (i : Int) ∨ t.b = (i : Int) ∨ t.c = (i : Int) := by
  obtain ⟨_, _, _, _, h⟩ := chk_P hg
  obtain ⟨T, hT, h⟩ := h i hi
  refine ⟨trOf T, List.mem_map.2 ⟨T, hT, rfl⟩, ?_⟩
  rcases h with rfl | rfl | rfl
  · exact .inl rfl
  · exact .inr (.inl rfl)
  · exact .inr (.inr rfl)
/-- Each cell is a corner of a square. -/
theorem cell_of {p : Pln} (hg : PG p) {i : Nat} (hi : i < nP p) : ∃ k, k < nP p ∧ cellB p.cols.toNat p.rows.toNat k = true ∧ (i = k ∨ i = k + 1 ∨ i = k + 1 + p.cols.toNat ∨ i = k + p.cols.toNat) := by
  have hc := hg.val.cols
  have hr := hg.val.rows
  have hn : nP p ≤ 16 := cr_le hg.val
  have key : ∀ c, c < 9 → ∀ r, r < 9 → 2 ≤ c → 2 ≤ r → c * r ≤ 16 → ∀ i, i < c * r → ∃ k, k < 16 ∧ k < c * r ∧ cellB c r k = true ∧ (i = k ∨ i = k + 1 ∨ i = k + 1 + c ∨ i = k + c) := by
    intro c h1 r h2 h3 h4 h5 i h6
    have e : ∀ c, c < 9 → ∀ r, r < 9 → 2 ≤ c → 2 ≤ r → c * r ≤ 16 → ((List.range (c * r)).all fun i => (List.range 16).any fun k => decide (k < c * r) && cellB c r k && (i == k || i == k + 1 || i == k + 1 + c || i == k + c)) = true := by decide +kernel
    have := e c h1 r h2 h3 h4 h5
    rw [List.all_eq_true] at this
    have := this i (List.mem_range.2 h6)
    rw [List.any_eq_true] at this
    obtain ⟨k, hk, h⟩ := this
    simp only [Bool.and_eq_true, Bool.or_eq_true, decide_eq_true_eq, beq_iff_eq] at h
    exact ⟨k, List.mem_range.1 hk, h.1.1, h.1.2, by rcases h.2 with ((h | h) | h) | h <;> simp [h]⟩
  obtain ⟨k, _, h⟩ := key p.cols.toNat (by omega) p.rows.toNat (by omega) (by omega) (by omega) hn i hi
  exact ⟨k, h⟩
theorem sq_mem {p : Pln} (hg : PG p) {k : Nat} (hk : k < nP p) (hb : cellB p.cols.toNat p.rows.toNat k = true) {t : Tr} (ht : t ∈ sqQ (gridP p) k (k + 1 : Nat) (k + 1 + p.cols.toNat : Nat) (k + p.cols.toNat : Nat)) : t ∈ (mS p).tris := by
  show t ∈ (List.range (gridP p).levels.length).flatMap (sqT (gridP p))
  rw [List.mem_flatMap]
  refine ⟨k, List.mem_range.2 (by rw [gridP_len]; exact hk), ?_⟩
  have hl := cell_last hg hk
  rw [hb] at hl
  obtain ⟨⟨n1, n2, n3⟩, _⟩ := cell_next hg hk hb
  unfold sqT
  cases hx : (lastC (gridP p) k || lastR (gridP p) k) with
  | true => rw [hx] at hl; cases hl
  | false =>
    rw [cond_false]
    show t ∈ (bif none4 (numI (gridP p) k) (numI (gridP p) (k + 1)) (numI (gridP p) (k + 1 + p.cols.toNat)) (numI (gridP p) (k + p.cols.toNat)) then [] else sqQ (gridP p) (numI (gridP p) k) (numI (gridP p) (k + 1)) (numI (gridP p) (k + 1 + p.cols.toNat)) (numI (gridP p) (k + p.cols.toNat)))
    rw [numI_gridP hg.val hk, numI_gridP hg.val n1, numI_gridP hg.val n2, numI_gridP hg.val n3]
    have hn : none4 (k : Int) ((k + 1 : Nat) : Int) ((k + 1 + p.cols.toNat : Nat) : Int) ((k + p.cols.toNat : Nat) : Int) = false := by
      unfold none4
      rw [decide_eq_false (by omega), decide_eq_false (by omega), decide_eq_false (by omega), decide_eq_false (by omega)]; rfl
    rw [hn]; exact ht
theorem sq_has {p : Pln} (hg : PG p) {i : Nat} (hi : i < nP p) : ∃ t ∈ (mS p).tris, t.a = (i : Int) ∨ t.b = (i : Int) ∨ t.c = (i : Int) := by
  obtain ⟨k, hk, hb, h⟩ := cell_of hg hi
  have mem := fun t ht => sq_mem hg hk hb (t := t) ht
  rcases sqQ_cases (gridP p) k (k + 1 : Nat) (k + 1 + p.cols.toNat : Nat) (k + p.cols.toNat : Nat) with e | e
  · rw [e] at mem
    rcases h with rfl | rfl | rfl | rfl
    · exact ⟨_, mem _ (List.mem_cons_self), .inl rfl⟩
    · exact ⟨_, mem _ (List.mem_cons_self), .inr (.inl rfl)⟩
    · exact ⟨_, mem _ (List.mem_cons_self), .inr (.inr rfl)⟩
    · exact ⟨_, mem _ (List.mem_cons_of_mem _ List.mem_cons_self), .inr (.inr rfl)⟩
  · rw [e] at mem
    rcases h with rfl | rfl | rfl | rfl
    · exact ⟨_, mem _ (List.mem_cons_self), .inl rfl⟩
    · exact ⟨_, mem _ (List.mem_cons_self), .inr (.inl rfl)⟩
    · exact ⟨_, mem _ (List.mem_cons_of_mem _ List.mem_cons_self), .inr (.inl rfl)⟩
    · exact ⟨_, mem _ (List.mem_cons_self), .inr (.inr rfl)⟩
theorem mlev_S {p : Pln} (hg : PG p) {i : Nat} (hi : i < nP p) : mlevG (mS p) (centreG (gridP p) i) = ((plv p i, 1), 0) := by
  have h0 := errM_sq hg.gv
  unfold mlevG
  rw [show errM (mS p) = 0 from h0, (centre_good hg.gv (i := i) (by rw [gridP_len]; exact hi)).1, levT_P hg (MVal.of h0) rfl hi _ (sq_nat hg) (sq_has hg hi)]
  rfl
theorem mlev_T {p : Pln} (hg : PG p) {i : Nat} (hi : i < nP p) : mlevG (mT p) (centreG (gridP p) i) = ((plv p i, 1), 0) := by
  have h0 := errM_T hg
  unfold mlevG
  rw [h0, (centre_good hg.gv (i := i) (by rw [gridP_len]; exact hi)).1, levT_P hg (MVal.of h0) rfl hi _ (tri_nat hg) (tri_has hg hi)]
  rfl
end Go.Ch

/- The grid of a plane; its corners. -/
namespace Go.Ch
open Go Go.Ax Go.Proofs Go.Proofs.Try Go.Hull
set_option maxRecDepth 100000
set_option pp.maxSteps 400
set_option maxHeartbeats 1000000

abbrev plnV (p : Pln) : AV := .g [.d (dI p.x), .d (dI p.y), .d (dI p.side), .d (dI p.cols), .d (dI p.rows), .d (dI p.level), .d (dI p.east), .d (dI p.north)]
abbrev plnB (p : Pln) : Box := .cells [.d (dI p.x), .d (dI p.y), .d (dI p.side), .d (dI p.cols), .d (dI p.rows), .d (dI p.level), .d (dI p.east), .d (dI p.north)]
def lvL (p : Pln) (i : Nat) : List Int := (List.range i).map (plv p)
theorem lvL_succ (p : Pln) (i : Nat) : lvL p (i + 1) = lvL p i ++ [plv p i] := by
  unfold lvL; rw [List.range_succ, List.map_append]; rfl
theorem lvL_len (p : Pln) (i : Nat) : (lvL p i).length = i := by simp [lvL]
abbrev gpS (p : Pln) (i : Nat) (o : List Int) : St := ⟨[(1, .s (.ptr 1 0)), (2, .s (.ptr 2 0)), (3, .s (.ptr 3 0)), (4, vI i)], [(1, some (plnB p)), (2, some (.cells (zvs ty27.zero))), (3, some (.cells [.d (dI p.x), .d (dI p.y), .d (dI p.side), .d (dI p.cols), .d (dI p.rows), .mo o.isEmpty 100])), (100, some (.mrow 3 o.length 1 (intEl o)))]⟩
theorem planeGrid (p : Pln) (hp : PVal p) : CallP Try.prog 5 [plnV p] (grid (gridP p)) := by
  have hn : nP p ≤ 16 := cr_le hp
  have hc := hp.cols
  have hr := hp.rows
  have hm := hp.most
  have hcr : w64 (p.cols * p.rows) = ((nP p : Nat) : Int) := by
    have e : ((p.cols.toNat * p.rows.toNat : Nat) : Int) = p.cols * p.rows := by
      rw [Int.natCast_mul, Int.toNat_of_nonneg (by omega), Int.toNat_of_nonneg (by omega)]
    have h0 : 0 ≤ p.cols * p.rows := Int.mul_nonneg (by omega) (by omega)
    rw [w64_of (by omega) (by omega)]
    exact e.symm
  refine callP_of_aw Try.func5 rfl rfl Try.call5 tab_ok rfl rfl (fun cx href => ?_)
  refine AW.seq (ex.sound (rc := []) tab_ok mix href _ ?_)
  refine AW.seq (ex.sound (rc := []) tab_ok mix href _ ?_)
  refine AW.cut (σ' := gpS p (nP p) (lvL p (nP p))) (ex.sound (rc := []) tab_ok mix href _ ?_) ?_
  · refine AW.loopI (fun i => gpS p i (lvL p i)) (fun i => i ≤ nP p) (fun i => nP p - i) 0 (Nat.zero_le _) ?_ ?_
    · exact SubI.of0 href [(100, 1000)] rfl ⟨⟨rfl, LeBx.rfl⟩, ⟨rfl, LeBx.rfl⟩, ⟨rfl, LeBx.cells ⟨LeQ.rfl, LeQ.rfl, LeQ.rfl, LeQ.rfl, LeQ.rfl, LeQ.nil rfl, trivial⟩⟩, ⟨rfl, rfl⟩, trivial⟩ ⟨⟨rfl, LeQ.rfl⟩, ⟨rfl, LeQ.rfl⟩, ⟨rfl, LeQ.rfl⟩, ⟨rfl, LeQ.rfl⟩, trivial⟩
    · intro i hi
      have hlen := lvL_len p i
      refine ex.sound (rc := []) tab_ok mix href _ ?_
      refine And.intro (fun h => ?_) (fun h => ?_)
      · have h : (i : Int) < w64 (p.cols * p.rows) := decT h
        rw [hcr] at h
        have hi' : i < nP p := by omega
        have hb := plv_le hp hi'
        have hval : w64 (w64 (p.level + w64 ((i : Int).tmod p.cols * p.east)) + w64 (w64 ((i : Int).tdiv p.cols) * p.north)) = plv p i := by
          obtain ⟨d1, d2⟩ := dm_lt hp hi'
          have h3 := hp.level
          have h4 := hp.east
          have h5 := hp.north
          have hcc : ((p.cols.toNat : Nat) : Int) = p.cols := by omega
          have e1 : (i : Int).tmod p.cols = ((i % p.cols.toNat : Nat) : Int) := by rw [Int.tmod_eq_emod_of_nonneg (by omega), Int.natCast_emod, hcc]
          have e2 : (i : Int).tdiv p.cols = ((i / p.cols.toNat : Nat) : Int) := by rw [Int.tdiv_eq_ediv_of_nonneg (by omega), Int.natCast_ediv, hcc]
          rw [e1, e2]
          unfold plv at hb ⊢
          generalize i % p.cols.toNat = a at *
          generalize i / p.cols.toNat = b at *
          have m1 := mul_le_of (a := (a : Int)) (b := p.east) (A := 7) (B := 500) (by omega) (by omega) (by omega) (by omega)
          have m2 := mul_le_of (a := (b : Int)) (b := p.north) (A := 7) (B := 500) (by omega) (by omega) (by omega) (by omega)
          rw [w64_of (n := (a : Int) * p.east) (by omega) (by omega), w64_of (n := (b : Int)) (by omega) (by omega), w64_of (n := (b : Int) * p.north) (by omega) (by omega), w64_of (n := p.level + _) (by omega) (by omega), w64_of (by omega) (by omega)]
        repeat first | refine sk ?_ | refine st ?_ | refine sg ?_ | refine sh ?_ | refine su ?_ | refine sn1 ?_ | refine sn0 ?_ | refine And.intro (show imp none (gimp _ none) from trivial) ?_
        refine oi (show p.cols ≠ 0 by omega) ?_
        repeat first | refine sk ?_ | refine st ?_ | refine sg ?_ | refine sh ?_ | refine su ?_ | refine sn1 ?_ | refine sn0 ?_ | refine And.intro (show imp none (gimp _ none) from trivial) ?_
        refine oi (show p.cols ≠ 0 by omega) ?_
        repeat first | refine sk ?_ | refine st ?_ | refine sg ?_ | refine sh ?_ | refine su ?_ | refine sn1 ?_ | refine sn0 ?_ | refine And.intro (show imp none (gimp _ none) from trivial) ?_
        refine ob (by decide) ?_
        refine ob (by rw [bif_len]; show ((lvL p i).length + 1) * 8 ≤ 140737488355328; omega) ?_
        refine ob (fun k j hk hj => ?_) ?_
        · obtain rfl : k = 0 := by omega
          obtain rfl : j = 0 := by have : j < 1 := hj; omega
          rfl
        refine And.intro (by kernel_rfl) ?_
        refine ⟨i + 1, by omega, by omega, ?_⟩
        show SubI cx _ _ (gpS p (i + 1) (lvL p (i + 1)))
        rw [lvL_succ]
        exact SubI.of0 href [(100, 46)] rfl ⟨⟨rfl, LeBx.rfl⟩, ⟨rfl, LeBx.rfl⟩, ⟨rfl, LeBx.cells ⟨LeQ.rfl, LeQ.rfl, LeQ.rfl, LeQ.rfl, LeQ.rfl, LeQ.mo (isEmpty_snoc _ _), trivial⟩⟩, ⟨rfl, LeBx.snoc (el := fun x _ => dI x) fun j hj => by
          obtain rfl : j = 0 := by have : j < 1 := hj; omega
          exact congrArg dI hval⟩, trivial⟩ ⟨⟨rfl, LeQ.rfl⟩, ⟨rfl, LeQ.rfl⟩, ⟨rfl, LeQ.rfl⟩, ⟨rfl, LeQ.int (w64_of (by omega) (by omega))⟩, trivial⟩
      · have h : ¬ (i : Int) < w64 (p.cols * p.rows) := decF h
        rw [hcr] at h
        obtain rfl : i = nP p := by omega
        exact ⟨rfl, SubI.of0 href [] rfl ⟨⟨rfl, LeBx.rfl⟩, ⟨rfl, LeBx.rfl⟩, ⟨rfl, LeBx.cells ⟨LeQ.rfl, LeQ.rfl, LeQ.rfl, LeQ.rfl, LeQ.rfl, LeQ.rfl, trivial⟩⟩, ⟨rfl, LeBx.rfl⟩, trivial⟩ ⟨⟨rfl, LeQ.rfl⟩, ⟨rfl, LeQ.rfl⟩, ⟨rfl, LeQ.rfl⟩, ⟨rfl, LeQ.rfl⟩, trivial⟩⟩
  · have n0 : 0 < nP p := Nat.mul_pos (by omega) (by omega)
    have hz : (lvL p (nP p)).isEmpty = false := by
      have := lvL_len p (nP p)
      cases h : lvL p (nP p) with
      | nil => rw [h] at this; simp at this; omega
      | cons a r => rfl
    have h0 : SubM cx 49 (gpS p (nP p) (lvL p (nP p))) ⟨[(2, .s (.ptr 2 0)), (3, .s (.ptr 3 0))], [(2, some (.cells (zvs ty27.zero))), (3, some (gridB (gridP p)))]⟩ := by
      refine SubM.trans (SubM.of_subI (SubI.ownC (e := 3) (n := (lvL p (nP p)).length) (s := 1) (f := intEl (lvL p (nP p))) (z := (lvL p (nP p)).isEmpty) (cs := [.d (dI p.x), .d (dI p.y), .d (dI p.side), .d (dI p.cols), .d (dI p.rows), .mo (lvL p (nP p)).isEmpty 100]) 3 5 100 rfl rfl hz rfl)) ?_
      exact SubM.of href [] [100] rfl rfl rfl ⟨⟨rfl, LeBxf.rfl⟩, ⟨rfl, LeBxf.cells ⟨LeQf.rfl, LeQf.rfl, LeQf.rfl, LeQf.rfl, LeQf.rfl, fun M β v hf r => LeQf.own (by simp) rfl M β v hf (r.2 hz), trivial⟩⟩, trivial⟩ ⟨⟨rfl, LeQf.rfl⟩, ⟨rfl, LeQf.rfl⟩, trivial⟩
    refine AW.subM h0 ?_
    refine ex.sound (rc := []) tab_ok mix href _ ?_
    exact SubR.refl _
theorem cornersG (g : Grid) (hc : g.cols ≠ 0) (hl : g.levels.length ≤ 1000000) : CallP Try.prog 10 [grid g] (pts [centreG g 0, centreG g ((g.levels.length : Int) - 1)]) := by
  refine callP_of_ex (rc := []) (N := 12) Try.func10 rfl rfl Try.call10 tab_ok mix rfl rfl (fun cx href => ?_)
  repeat first | refine sk ?_ | refine st ?_ | refine sg ?_ | refine sh ?_ | refine su ?_ | refine sn1 ?_ | refine sn0 ?_ | refine And.intro (show imp none (gimp _ none) from trivial) ?_
  refine callN (Centre g 0 hc) ?_
  refine callN (Centre g (w64 ((g.levels.length : Int) - 1)) hc) ?_
  rw [w64_of (n := (g.levels.length : Int) - 1) (by omega) (by omega)]
  refine And.intro (by kernel_rfl) ?_
  refine SubR.le (LeD.slc' rfl fun i j hi hj => LeD.of_eq ?_)
  match i, hi, j, hj with
  | 0, _, 0, _ => rfl
  | 0, _, 1, _ => rfl
  | 1, _, 0, _ => rfl
  | 1, _, 1, _ => rfl
end Go.Ch

/- agree. -/
namespace Go.Ch
open Go Go.Ax Go.Proofs Go.Proofs.Try Go.Hull
set_option maxRecDepth 100000
set_option pp.maxSteps 400
set_option maxHeartbeats 1000000

theorem PG.small {p : Pln} (hg : PG p) : nP p ≤ 16 := cr_le hg.val
theorem sums_le {p : Pln} (hg : PG p) {lev : Int} (hl : -20000 ≤ lev ∧ lev ≤ 20000) : -(96000000000000 * (64 : Int)) ≤ volW p lev ∧ volW p lev ≤ 96000000000000 * (64 : Int) := by
  have h := (volF_exact (MVal.of (errM_T hg)) hl (mT p).tris.length (Nat.le_refl _)).2
  rw [vol_T hg hl] at h
  have : (mT p).tris.length ≤ 64 := by
    show (trTs (triR (uG p))).length ≤ 64
    unfold trTs
    rw [List.length_map]
    exact (chk_P hg).2.2.2.1
  omega
theorem mean_le {p : Pln} (hg : PG p) {lev : Int} (hl : -20000 ≤ lev ∧ lev ≤ 20000) {k : Nat} (hk : k < nP p) : -20000000000000 ≤ meanE p lev k ∧ meanE p lev k ≤ 20000000000000 := by
  unfold meanE
  cases cellB p.cols.toNat p.rows.toNat k with
  | false => rw [cond_false]; exact ⟨by decide, by decide⟩
  | true =>
    rw [cond_true]
    obtain ⟨d1, d2⟩ := dm_lt hg.val hk
    have hs := hg.gv.side
    have hs : 100 ≤ p.side ∧ p.side ≤ 10000 := hs
    have hc := hg.val.cols
    have hr := hg.val.rows
    have h3 := hg.val.level
    have h4 := hg.val.east
    have h5 := hg.val.north
    generalize k % p.cols.toNat = a at *
    generalize k / p.cols.toNat = b at *
    have s1 := mul_le_of (a := p.side) (b := p.side) (A := 10000) (B := 10000) (by omega) (by omega) (by omega) (by omega)
    have m1 := mul_le_of (a := 2 * p.east) (b := 2 * (a : Int) + 1) (A := 1000) (B := 15) (by omega) (by omega) (by omega) (by omega)
    have m2 := mul_le_of (a := 2 * p.north) (b := 2 * (b : Int) + 1) (A := 1000) (B := 15) (by omega) (by omega) (by omega) (by omega)
    have m3 := mul_le_of (a := p.side * p.side) (b := 4 * (p.level - lev) + 2 * p.east * (2 * (a : Int) + 1) + 2 * p.north * (2 * (b : Int) + 1)) (A := 100000000) (B := 200000) (by omega) (by omega) (by omega) (by omega)
    omega
def meanS (p : Pln) (lev : Int) (k : Nat) : Int := sumI (meanE p lev) (List.range k)
theorem meanS_succ (p : Pln) (lev : Int) (k : Nat) : meanS p lev (k + 1) = meanS p lev k + meanE p lev k := by
  unfold meanS; rw [List.range_succ, sumI_snoc]
theorem meanS_le {p : Pln} (hg : PG p) {lev : Int} (hl : -20000 ≤ lev ∧ lev ≤ 20000) : ∀ k, k ≤ nP p → -(20000000000000 * (k : Int)) ≤ meanS p lev k ∧ meanS p lev k ≤ 20000000000000 * (k : Int)
  | 0, _ => by simp [meanS, sumI]
  | k + 1, h => by
    have := meanS_le hg hl k (by omega)
    have := mean_le hg hl (k := k) (by omega)
    rw [meanS_succ]
    omega
theorem mean_val {p : Pln} (hg : PG p) {lev : Int} (hl : -20000 ≤ lev ∧ lev ≤ 20000) {k : Nat} (hk : k < nP p) (hb : cellB p.cols.toNat p.rows.toNat k = true) :
    w64 (w64 (p.side * p.side) * w64 (w64 (w64 (w64 (plv p k + plv p (k + 1)) + plv p (k + p.cols.toNat)) + plv p (k + p.cols.toNat + 1)) - w64 (4 * lev))) = meanE p lev k := by
  obtain ⟨⟨n1, n2, n3⟩, a1, a2, a3, a4, a5, a6⟩ := cell_next hg hk hb
  have n3' : k + p.cols.toNat + 1 < nP p := by omega
  have b0 := plv_le hg.val hk
  have b1 := plv_le hg.val n1
  have b2 := plv_le hg.val n2
  have b3 := plv_le hg.val n3'
  have hm := mean_le hg hl hk
  have hs := hg.gv.side
  have hs : 100 ≤ p.side ∧ p.side ≤ 10000 := hs
  have s1 := mul_le_of (a := p.side) (b := p.side) (A := 10000) (B := 10000) (by omega) (by omega) (by omega) (by omega)
  have e : p.side * p.side * (plv p k + plv p (k + 1) + plv p (k + p.cols.toNat) + plv p (k + p.cols.toNat + 1) - 4 * lev) = meanE p lev k := by
    unfold meanE
    rw [hb, cond_true]
    unfold plv
    rw [a1, a2, a3, a4, show k + p.cols.toNat + 1 = k + 1 + p.cols.toNat by omega, a5, a6]
    generalize k % p.cols.toNat = a
    generalize k / p.cols.toNat = b
    rw [Int.natCast_add, Int.natCast_add]
    congr 1
    show _ = _
    grind
  have m3 := mul_le_of (a := p.side * p.side) (b := plv p k + plv p (k + 1) + plv p (k + p.cols.toNat) + plv p (k + p.cols.toNat + 1) - 4 * lev) (A := 100000000) (B := 120000) (by omega) (by omega) (by omega) (by omega)
  rw [w64_of (n := p.side * p.side) (by omega) (by omega), w64_of (n := plv p k + plv p (k + 1)) (by omega) (by omega), w64_of (n := plv p k + plv p (k + 1) + plv p (k + p.cols.toNat)) (by omega) (by omega), w64_of (n := plv p k + plv p (k + 1) + plv p (k + p.cols.toNat) + plv p (k + p.cols.toNat + 1)) (by omega) (by omega), w64_of (n := 4 * lev) (by omega) (by omega), w64_of (n := _ - 4 * lev) (by omega) (by omega), w64_of (by omega) (by omega)]
  exact e
theorem prism_P {p : Pln} (hg : PG p) {lev : Int} (hl : -20000 ≤ lev ∧ lev ≤ 20000) {i : Nat} (hi : i < (mT p).tris.length) : CallP Try.prog 16 [vNds (ndP p), trV ((mT p).tris.getD i default), vI lev] (.t [.s (.d (dI (volE (mT p) lev ((mT p).tris.getD i default)))), .s (.d (dI 0))]) := by
  have mv := MVal.of (errM_T hg)
  obtain ⟨⟨h1, h2, h3⟩, h4, h5⟩ := mv.tri i hi
  have e := (volS_eq mv hl hi (s := 0) (by decide)).2
  have hw : within lev (-20000) 20000 = true := by unfold within; simp; omega
  have hn : (ndP p).length ≤ 64 := by have : (ndP p).length = nP p := ndP_len hg.val; have : nP p ≤ 16 := cr_le hg.val; omega
  have hb : ∀ n ∈ ndP p, badN n = false := by
    have := nds_bad hg.gv
    rw [List.any_eq_false] at this
    exact fun n hn => by simpa using this n hn
  have := gPrism (ndP p) ((mT p).tris.getD i default) lev hn hb h1 h2 h3 h4 h5 hw
  unfold ndA at e
  rw [← e]
  exact this
def prS (p : Pln) (lev : Int) (i : Nat) : Int := sumI (volE (mT p) lev) ((mT p).tris.take i)
abbrev agS1 (p : Pln) (lev v w : Int) (i : Nat) (s : Int) : St := ⟨[(1, vI lev), (2, .s (.ptr 2 0)), (5, .s (.ptr 5 0)), (7, .s (.ptr 7 0)), (9, vI v), (11, vI w), (13, vI s), (14, vI i)], [(2, some (gridB (gridP p))), (5, some (meshB (mS p))), (7, some (meshB (mT p)))]⟩
abbrev agS2 (p : Pln) (lev v w z : Int) (i : Nat) (s : Int) : St := ⟨[(1, vI lev), (2, .s (.ptr 2 0)), (9, vI v), (11, vI w), (13, vI z), (17, vI s), (18, vI i)], [(2, some (gridB (gridP p)))]⟩
theorem agree {p : Pln} (hg : PG p) (he : errG (gridP p) = 0) (lev : Int) (hl : -20000 ≤ lev ∧ lev ≤ 20000) : CallP Try.prog 4 [grid (gridP p), vI lev] (vB true) := by
  have hn : nP p ≤ 16 := cr_le hg.val
  have hc := hg.val.cols
  have hr := hg.val.rows
  have hgl : (gridP p).levels.length = nP p := gridP_len p
  have hsq : sqB (gridP p) = (mS p, 0) := by unfold sqB; rw [if_pos he]
  have hnl : (ndP p).length = nP p := ndP_len hg.val
  have hw : within lev (-20000) 20000 = true := by unfold within; simp; omega
  have hS : mvolG (mS p) lev = (volW p lev, 0) := by unfold mvolG; rw [errM_sq hg.gv, hw, ← vol_S hg hl]; rfl
  have hT : mvolG (mT p) lev = (volW p lev, 0) := by unfold mvolG; rw [errM_T hg, hw, ← vol_T hg hl]; rfl
  have htl : (mT p).tris.length ≤ 64 := by
    show (trTs (triR (uG p))).length ≤ 64
    unfold trTs
    rw [List.length_map]
    exact (chk_P hg).2.2.2.1
  have hsl : (mS p).tris.length ≤ 64 := by
    have := sqs_len (gridP p) (gridP p).levels.length
    show (sqs (gridP p) (gridP p).levels.length).length ≤ 64
    omega
  have hb := bSquares (gridP p) (by omega)
  rw [hsq] at hb
  have ht := bTriangulate (ndP p) (by omega)
  rw [triB_P hg] at ht
  have hv1 := bMeshVolume (mS p) lev ⟨by show (ndP p).length ≤ _; omega, by omega⟩
  rw [hS] at hv1
  have hv2 := bMeshVolume (mT p) lev ⟨by show (ndP p).length ≤ _; omega, by omega⟩
  rw [hT] at hv2
  have hsum := sums_le hg hl
  have hmv := mean_vol (p := p) lev
  refine callP_of_aw Try.func4 rfl rfl Try.call4 tab_ok rfl rfl (fun cx href => ?_)
  refine AW.seq (ex.sound (rc := []) tab_ok mix href _ ?_)
  refine AW.seq (ex.sound (rc := []) tab_ok mix href _ ?_)
  refine callN hb ?_
  refine AW.seq (ex.sound (rc := []) tab_ok mix href _ ?_)
  refine callN ht ?_
  refine AW.seq (ex.sound (rc := []) tab_ok mix href _ ?_)
  refine callN hv1 ?_
  refine AW.seq (ex.sound (rc := []) tab_ok mix href _ ?_)
  refine callN hv2 ?_
  refine AW.seq (ex.sound (rc := []) tab_ok mix href _ ?_)
  repeat first | refine sk ?_ | refine st ?_ | refine sg ?_ | refine sh ?_ | refine su ?_ | refine sn1 ?_ | refine sn0 ?_ | refine And.intro (show imp none (gimp _ none) from trivial) ?_
  refine And.intro (fun h => by cases (show (((((0 : Int) != 0) || ((0 : Int) != 0)) || ((0 : Int) != 0)) || ((0 : Int) != 0)) = true from h)) (fun _ => ?_)
  generalize hV : volW p lev = V at *
  refine AW.seq (ex.sound (rc := []) tab_ok mix href _ ?_)
  refine AW.cut (σ' := agS1 p lev V V (mT p).tris.length V) (ex.sound (rc := []) tab_ok mix href _ ?_) ?_
  · refine AW.loopI (fun i => agS1 p lev V V i (prS p lev i)) (fun i => i ≤ (mT p).tris.length) (fun i => (mT p).tris.length - i) 0 (Nat.zero_le _) ?_ ?_
    · exact SubI.of0 href [] rfl ⟨⟨rfl, LeBx.rfl⟩, ⟨rfl, LeBx.rfl⟩, ⟨rfl, LeBx.rfl⟩, trivial⟩ ⟨⟨rfl, LeQ.rfl⟩, ⟨rfl, LeQ.rfl⟩, ⟨rfl, LeQ.rfl⟩, ⟨rfl, LeQ.rfl⟩, ⟨rfl, LeQ.rfl⟩, ⟨rfl, LeQ.rfl⟩, ⟨rfl, LeQ.rfl⟩, ⟨rfl, LeQ.rfl⟩, trivial⟩
    · intro i hi
      have mv := MVal.of (errM_T hg)
      have hp0 := volF_exact mv hl i hi
      have hpe : prS p lev i = volF (mT p) lev i := hp0.1.symm
      refine ex.sound (rc := []) tab_ok mix href _ ?_
      refine And.intro (fun h => ?_) (fun h => ?_)
      · have h : (i : Int) < (mT p).tris.length := decT h
        have hi' : i < (mT p).tris.length := by omega
        have hp1 := volF_exact mv hl (i + 1) (by omega)
        have hps : prS p lev (i + 1) = prS p lev i + volE (mT p) lev ((mT p).tris.getD i default) := take_succ_sum hi'
        have hpe1 : prS p lev (i + 1) = volF (mT p) lev (i + 1) := hp1.1.symm
        repeat first | refine sk ?_ | refine st ?_ | refine sg ?_ | refine sh ?_ | refine su ?_ | refine sn1 ?_ | refine sn0 ?_ | refine And.intro (show imp none (gimp _ none) from trivial) ?_
        refine oi ⟨by omega, by omega⟩ ?_
        repeat first | refine sk ?_ | refine st ?_ | refine sg ?_ | refine sh ?_ | refine su ?_ | refine sn1 ?_ | refine sn0 ?_ | refine And.intro (show imp none (gimp _ none) from trivial) ?_
        refine callN (prism_P hg hl hi') ?_
        refine And.intro (by kernel_rfl) ?_
        refine And.intro (fun h => by cases (show ((0 : Int) != 0) = true from h)) (fun _ => ?_)
        refine ⟨i + 1, by omega, by omega, ?_⟩
        show SubI cx _ _ (agS1 p lev V V (i + 1) (prS p lev (i + 1)))
        rw [hps]
        exact SubI.of0 href [] rfl ⟨⟨rfl, LeBx.rfl⟩, ⟨rfl, LeBx.rfl⟩, ⟨rfl, LeBx.rfl⟩, trivial⟩ ⟨⟨rfl, LeQ.rfl⟩, ⟨rfl, LeQ.rfl⟩, ⟨rfl, LeQ.rfl⟩, ⟨rfl, LeQ.rfl⟩, ⟨rfl, LeQ.rfl⟩, ⟨rfl, LeQ.rfl⟩, ⟨rfl, LeQ.int (show w64 (prS p lev i + volE (mT p) lev ((mT p).tris.getD i default)) = _ from w64_of (by omega) (by omega))⟩, ⟨rfl, LeQ.int (w64_of (by omega) (by omega))⟩, trivial⟩
      · have h : ¬ (i : Int) < (mT p).tris.length := decF h
        obtain rfl : i = (mT p).tris.length := by omega
        rw [hpe, vol_T hg hl, hV]
        exact ⟨rfl, SubI.of0 href [] rfl ⟨⟨rfl, LeBx.rfl⟩, ⟨rfl, LeBx.rfl⟩, ⟨rfl, LeBx.rfl⟩, trivial⟩ ⟨⟨rfl, LeQ.rfl⟩, ⟨rfl, LeQ.rfl⟩, ⟨rfl, LeQ.rfl⟩, ⟨rfl, LeQ.rfl⟩, ⟨rfl, LeQ.rfl⟩, ⟨rfl, LeQ.rfl⟩, ⟨rfl, LeQ.rfl⟩, ⟨rfl, LeQ.rfl⟩, trivial⟩⟩
  · refine AW.seq (ex.sound (rc := []) tab_ok mix href _ ?_)
    refine AW.cut (σ' := agS2 p lev V V V (nP p) (meanS p lev (nP p))) (ex.sound (rc := []) tab_ok mix href _ ?_) ?_
    · refine AW.loopI (fun i => agS2 p lev V V V i (meanS p lev i)) (fun i => i ≤ nP p) (fun i => nP p - i) 0 (Nat.zero_le _) ?_ ?_
      · exact SubI.of0 href [] rfl ⟨⟨rfl, LeBx.rfl⟩, trivial⟩ ⟨⟨rfl, LeQ.rfl⟩, ⟨rfl, LeQ.rfl⟩, ⟨rfl, LeQ.rfl⟩, ⟨rfl, LeQ.rfl⟩, ⟨rfl, LeQ.rfl⟩, ⟨rfl, LeQ.rfl⟩, ⟨rfl, LeQ.rfl⟩, trivial⟩
      · intro i hi
        have hml := meanS_le hg hl i hi
        refine ex.sound (rc := []) tab_ok mix href _ ?_
        refine And.intro (fun h => ?_) (fun h => ?_)
        · have h : (i : Int) < (gridP p).levels.length := decT h
          have hi' : i < nP p := by omega
          have hml1 := meanS_le hg hl (i + 1) hi'
          have hms := meanS_succ p lev i
          have hcell : ∀ {b : Bool}, (decide ((i : Int).tmod p.cols < w64 (p.cols - 1)) && decide (w64 ((i : Int).tdiv p.cols) < w64 (p.rows - 1))) = b → cellB p.cols.toNat p.rows.toNat i = b := by
            rintro b rfl
            have hcc : ((p.cols.toNat : Nat) : Int) = p.cols := by omega
            have e1 : (i : Int).tmod p.cols = ((i % p.cols.toNat : Nat) : Int) := by rw [Int.tmod_eq_emod_of_nonneg (by omega), Int.natCast_emod, hcc]
            have e2 : (i : Int).tdiv p.cols = ((i / p.cols.toNat : Nat) : Int) := by rw [Int.tdiv_eq_ediv_of_nonneg (by omega), Int.natCast_ediv, hcc]
            obtain ⟨d1, d2⟩ := dm_lt hg.val hi'
            rw [e1, e2]
            unfold cellB
            generalize i % p.cols.toNat = a at *
            generalize i / p.cols.toNat = b at *
            rw [w64_of (n := p.cols - 1) (by omega) (by omega), w64_of (n := p.rows - 1) (by omega) (by omega), w64_of (n := (b : Int)) (by omega) (by omega), Bool.eq_iff_iff]
            simp only [Bool.and_eq_true, decide_eq_true_eq]
            omega
          repeat first | refine sk ?_ | refine st ?_ | refine sg ?_ | refine sh ?_ | refine su ?_ | refine sn1 ?_ | refine sn0 ?_ | refine And.intro (show imp none (gimp _ none) from trivial) ?_
          refine oi (show p.cols ≠ 0 by omega) ?_
          repeat first | refine sk ?_ | refine st ?_ | refine sg ?_ | refine sh ?_ | refine su ?_ | refine sn1 ?_ | refine sn0 ?_ | refine And.intro (show imp none (gimp _ none) from trivial) ?_
          refine og (fun _ => show p.cols ≠ 0 by omega) ?_
          repeat first | refine sk ?_ | refine st ?_ | refine sg ?_ | refine sh ?_ | refine su ?_ | refine sn1 ?_ | refine sn0 ?_ | refine And.intro (show imp none (gimp _ none) from trivial) ?_
          refine And.intro (by kernel_rfl) ?_
          refine And.intro (fun h2 => ?_) (fun h2 => ?_)
          · have h2 := hcell h2
            obtain ⟨⟨n1, n2, n3⟩, _⟩ := cell_next hg hi' h2
            have n3' : i + p.cols.toNat + 1 < nP p := by omega
            have hcc : ((p.cols.toNat : Nat) : Int) = p.cols := by omega
            have w1 : w64 ((i : Int) + 1) = ((i + 1 : Nat) : Int) := (w64_of (by omega) (by omega)).trans (by omega)
            have w3 : w64 ((i : Int) + p.cols) = ((i + p.cols.toNat : Nat) : Int) := (w64_of (by omega) (by omega)).trans (by omega)
            have w2 : w64 (w64 ((i : Int) + p.cols) + 1) = ((i + p.cols.toNat + 1 : Nat) : Int) := by rw [w3]; exact (w64_of (by omega) (by omega)).trans (by omega)
            have hval := mean_val hg hl hi' h2
            have hlv : ∀ {k : Nat} {n : Int}, k < nP p → n = (k : Int) → (gridP p).levels.getD n.toNat 0 = plv p k := by
              intro k n hk e
              subst e
              exact gridP_lv hk
            repeat first | refine sk ?_ | refine st ?_ | refine sg ?_ | refine sh ?_ | refine su ?_ | refine sn1 ?_ | refine sn0 ?_ | refine And.intro (show imp none (gimp _ none) from trivial) ?_
            refine oi (show 0 ≤ (i : Int) ∧ (i : Int) < ((gridP p).levels.length : Int) by omega) ?_
            repeat first | refine sk ?_ | refine st ?_ | refine sg ?_ | refine sh ?_ | refine su ?_ | refine sn1 ?_ | refine sn0 ?_ | refine And.intro (show imp none (gimp _ none) from trivial) ?_
            refine oi (show 0 ≤ w64 ((i : Int) + 1) ∧ w64 ((i : Int) + 1) < ((gridP p).levels.length : Int) by omega) ?_
            repeat first | refine sk ?_ | refine st ?_ | refine sg ?_ | refine sh ?_ | refine su ?_ | refine sn1 ?_ | refine sn0 ?_ | refine And.intro (show imp none (gimp _ none) from trivial) ?_
            refine oi (show 0 ≤ w64 ((i : Int) + p.cols) ∧ w64 ((i : Int) + p.cols) < ((gridP p).levels.length : Int) by omega) ?_
            repeat first | refine sk ?_ | refine st ?_ | refine sg ?_ | refine sh ?_ | refine su ?_ | refine sn1 ?_ | refine sn0 ?_ | refine And.intro (show imp none (gimp _ none) from trivial) ?_
            refine oi (show 0 ≤ w64 (w64 ((i : Int) + p.cols) + 1) ∧ w64 (w64 ((i : Int) + p.cols) + 1) < ((gridP p).levels.length : Int) by omega) ?_
            repeat first | refine sk ?_ | refine st ?_ | refine sg ?_ | refine sh ?_ | refine su ?_ | refine sn1 ?_ | refine sn0 ?_ | refine And.intro (show imp none (gimp _ none) from trivial) ?_
            refine And.intro (by kernel_rfl) ?_
            refine ⟨i + 1, by omega, by omega, ?_⟩
            show SubI cx _ _ (agS2 p lev V V V (i + 1) (meanS p lev (i + 1)))
            refine SubI.of0 href [] rfl ⟨⟨rfl, LeBx.rfl⟩, trivial⟩ ⟨⟨rfl, LeQ.rfl⟩, ⟨rfl, LeQ.rfl⟩, ⟨rfl, LeQ.rfl⟩, ⟨rfl, LeQ.rfl⟩, ⟨rfl, LeQ.rfl⟩, ⟨rfl, LeQ.int ?_⟩, ⟨rfl, LeQ.int (w64_of (by omega) (by omega))⟩, trivial⟩
            show w64 (meanS p lev i + w64 (w64 (p.side * p.side) * w64 (w64 (w64 (w64 ((gridP p).levels.getD ((i : Int)).toNat 0 + (gridP p).levels.getD (w64 ((i : Int) + 1)).toNat 0) + (gridP p).levels.getD (w64 ((i : Int) + p.cols)).toNat 0) + (gridP p).levels.getD (w64 (w64 ((i : Int) + p.cols) + 1)).toNat 0) - w64 (4 * lev)))) = meanS p lev (i + 1)
            rw [hlv hi' rfl, hlv n1 w1, hlv n2 w3, hlv n3' w2, hval, ← hms, w64_of (by omega) (by omega)]
          · have h2 := hcell h2
            have hz : meanE p lev i = 0 := by unfold meanE; rw [h2]; rfl
            have hms : meanS p lev (i + 1) = meanS p lev i := by omega
            refine ⟨i + 1, by omega, by omega, ?_⟩
            show SubI cx _ _ (agS2 p lev V V V (i + 1) (meanS p lev (i + 1)))
            rw [hms]
            exact SubI.of0 href [] rfl ⟨⟨rfl, LeBx.rfl⟩, trivial⟩ ⟨⟨rfl, LeQ.rfl⟩, ⟨rfl, LeQ.rfl⟩, ⟨rfl, LeQ.rfl⟩, ⟨rfl, LeQ.rfl⟩, ⟨rfl, LeQ.rfl⟩, ⟨rfl, LeQ.rfl⟩, ⟨rfl, LeQ.int (w64_of (by omega) (by omega))⟩, trivial⟩
        · have h : ¬ (i : Int) < (gridP p).levels.length := decF h
          obtain rfl : i = nP p := by omega
          exact ⟨rfl, SubI.of0 href [] rfl ⟨⟨rfl, LeBx.rfl⟩, trivial⟩ ⟨⟨rfl, LeQ.rfl⟩, ⟨rfl, LeQ.rfl⟩, ⟨rfl, LeQ.rfl⟩, ⟨rfl, LeQ.rfl⟩, ⟨rfl, LeQ.rfl⟩, ⟨rfl, LeQ.rfl⟩, ⟨rfl, LeQ.rfl⟩, trivial⟩⟩
    · have hml := meanS_le hg hl (nP p) (Nat.le_refl _)
      have hmv : 2 * V = 3 * meanS p lev (nP p) := by rw [← hV]; exact mean_vol lev
      refine ex.sound (rc := []) tab_ok mix href _ ?_
      repeat first | refine sk ?_ | refine st ?_ | refine sg ?_ | refine sh ?_ | refine su ?_ | refine sn1 ?_ | refine sn0 ?_ | refine And.intro (show imp none (gimp _ none) from trivial) ?_
      refine SubR.of_eq ?_
      show vB (((V == V) && (V == V)) && (w64 (2 * V) == w64 (3 * meanS p lev (nP p)))) = vB true
      rw [hmv]
      simp
end Go.Ch

/- TopPrismsAgree: the function of the law. -/
namespace Go.Ch
open Go Go.Ax Go.Proofs Go.Proofs.Try Go.Hull
set_option maxRecDepth 100000
set_option pp.maxSteps 400
set_option maxHeartbeats 1000000

def pl0 : Pln := ⟨0, 0, 100, 3, 2, -500, 7, -20⟩
theorem pl0_val : PVal pl0 := ⟨by decide, by decide, by decide, by decide, by decide, by decide⟩
theorem pl0_err : errG (gridP pl0) = 0 := by decide +kernel
theorem pl0_g : PG pl0 := ⟨pl0_val, GVal.of pl0_err, by decide, by decide⟩
theorem close_P {p : Pln} (hp : PVal p) (hv : GVal (gridP p)) (h : closeR [centreG (gridP p) 0, centreG (gridP p) (((gridP p).levels.length : Int) - 1)] = true) : PG p := by
  have hc := hp.cols
  have hr := hp.rows
  have n0 : 0 < nP p := Nat.mul_pos (by omega) (by omega)
  have hcc : ((p.cols.toNat : Nat) : Int) = p.cols := by omega
  have hrr : ((p.rows.toNat : Nat) : Int) = p.rows := by omega
  have e0 := (centre_good hv (i := 0) (by rw [gridP_len]; exact n0)).2
  have e1 := (centre_good hv (i := nP p - 1) (by rw [gridP_len]; show nP p - 1 < nP p; omega)).2
  have hidx : (((gridP p).levels.length : Int) - 1) = ((nP p - 1 : Nat) : Int) := by rw [gridP_len]; show ((nP p : Nat) : Int) - 1 = _; omega
  have hmod : (nP p - 1) % p.cols.toNat = p.cols.toNat - 1 ∧ (nP p - 1) / p.cols.toNat = p.rows.toNat - 1 := by
    have hm : p.cols.toNat * (p.rows.toNat - 1) = nP p - p.cols.toNat := Nat.mul_sub_one _ _
    have hge : p.cols.toNat * 1 ≤ nP p := Nat.mul_le_mul_left _ (by omega)
    have e : nP p - 1 = (p.cols.toNat - 1) + p.cols.toNat * (p.rows.toNat - 1) := by omega
    rw [e]
    constructor
    · rw [Nat.add_mul_mod_self_left, Nat.mod_eq_of_lt (by omega)]
    · rw [Nat.add_mul_div_left _ _ (by omega), Nat.div_eq_of_lt (by omega)]; omega
  have m1 : ((nP p - 1 : Nat) : Int) % p.cols = p.cols - 1 := by
    have := hmod.1
    have e : ((nP p - 1 : Nat) : Int) % p.cols = (((nP p - 1) % p.cols.toNat : Nat) : Int) := by rw [Int.natCast_emod, hcc]
    rw [e, this]; omega
  have m2 : ((nP p - 1 : Nat) : Int) / p.cols = p.rows - 1 := by
    have := hmod.2
    have e : ((nP p - 1 : Nat) : Int) / p.cols = (((nP p - 1) / p.cols.toNat : Nat) : Int) := by rw [Int.natCast_ediv, hcc]
    rw [e, this]; omega
  rw [hidx] at h
  have e1 : centreG (gridP p) ((nP p - 1 : Nat) : Int) = ⟨p.x + (p.cols - 1) * p.side + p.side / 2, p.y + (p.rows - 1) * p.side + p.side / 2⟩ := by
    rw [e1]
    show (⟨p.x + ((nP p - 1 : Nat) : Int) % p.cols * p.side + p.side / 2, p.y + ((nP p - 1 : Nat) : Int) / p.cols * p.side + p.side / 2⟩ : Pt) = _
    rw [m1, m2]
  have e0 : centreG (gridP p) 0 = ⟨p.x + p.side / 2, p.y + p.side / 2⟩ := by
    have e0 : centreG (gridP p) 0 = ⟨p.x + (0 : Int) % p.cols * p.side + p.side / 2, p.y + (0 : Int) / p.cols * p.side + p.side / 2⟩ := e0
    rw [e0, Int.zero_emod, Int.zero_ediv, Int.zero_mul, Int.add_zero, Int.add_zero]
  rw [e0, e1] at h
  have h : (farA (⟨p.x + (p.cols - 1) * p.side + p.side / 2, p.y + (p.rows - 1) * p.side + p.side / 2⟩ : Pt) ⟨p.x + p.side / 2, p.y + p.side / 2⟩) = false := by
    unfold closeR at h
    rw [List.all_eq_true] at h
    have h := h 1 (by simp)
    rw [List.all_eq_true] at h
    have h := h 0 (by simp)
    simpa using h
  unfold farA Go.Hull.absI at h
  simp only [Bool.or_eq_false_iff, decide_eq_false_iff_not] at h
  have q1 : p.x + (p.cols - 1) * p.side + p.side / 2 - (p.x + p.side / 2) = (p.cols - 1) * p.side := by omega
  have q2 : p.y + (p.rows - 1) * p.side + p.side / 2 - (p.y + p.side / 2) = (p.rows - 1) * p.side := by omega
  rw [q1, q2] at h
  refine ⟨hp, hv, ?_, ?_⟩
  · have := h.1
    split at this <;> omega
  · have := h.2
    split at this <;> omega
abbrev lpS (p : Pln) (i : Nat) : St := ⟨[(5, .s (.ptr 5 0)), (6, .s (.ptr 6 0)), (8, .s (.ptr 8 0)), (10, vI i)], [(5, some (gridB (gridP p))), (6, some (meshB (mS p))), (8, some (meshB (mT p)))]⟩
theorem PrismsAgree (p : Pln) (lev : Int) : CallP Try.prog 3 [plnV p, vI lev] (vB true) := by
  refine callP_of_aw Try.func3 rfl rfl Try.call3 tab_ok rfl rfl (fun cx href => ?_)
  refine AW.seq (ex.sound (rc := []) tab_ok mix href _ ?_)
  refine AW.seq (ex.sound (rc := []) tab_ok mix href _ ?_)
  refine callN (planeGrid pl0 pl0_val) ?_
  refine callN (agree pl0_g pl0_err (-600) ⟨by decide, by decide⟩) ?_
  refine And.intro (fun h => by cases (show (!true) = true from h)) (fun _ => ?_)
  refine AW.seq (ex.sound (rc := []) tab_ok mix href _ ?_)
  refine callN (Within p.cols 2 8) ?_
  repeat first | refine sk ?_ | refine st ?_ | refine sg ?_ | refine sh ?_ | refine su ?_ | refine sn1 ?_ | refine sn0 ?_ | refine And.intro (show imp none (gimp _ none) from trivial) ?_
  refine callG (Within p.rows 2 8) ?_
  repeat first | refine sk ?_ | refine st ?_ | refine sg ?_ | refine sh ?_ | refine su ?_ | refine sn1 ?_ | refine sn0 ?_ | refine And.intro (show imp none (gimp _ none) from trivial) ?_
  refine callG (Within p.side 100 2000) ?_
  repeat first | refine sk ?_ | refine st ?_ | refine sg ?_ | refine sh ?_ | refine su ?_ | refine sn1 ?_ | refine sn0 ?_ | refine And.intro (show imp none (gimp _ none) from trivial) ?_
  refine callG (Within p.level (-3000) 3000) ?_
  repeat first | refine sk ?_ | refine st ?_ | refine sg ?_ | refine sh ?_ | refine su ?_ | refine sn1 ?_ | refine sn0 ?_ | refine And.intro (show imp none (gimp _ none) from trivial) ?_
  refine callG (Within p.east (-500) 500) ?_
  repeat first | refine sk ?_ | refine st ?_ | refine sg ?_ | refine sh ?_ | refine su ?_ | refine sn1 ?_ | refine sn0 ?_ | refine And.intro (show imp none (gimp _ none) from trivial) ?_
  refine callG (Within p.north (-500) 500) ?_
  repeat first | refine sk ?_ | refine st ?_ | refine sg ?_ | refine sh ?_ | refine su ?_ | refine sn1 ?_ | refine sn0 ?_ | refine And.intro (show imp none (gimp _ none) from trivial) ?_
  refine callG (Leveled lev) ?_
  repeat first | refine sk ?_ | refine st ?_ | refine sg ?_ | refine sh ?_ | refine su ?_ | refine sn1 ?_ | refine sn0 ?_ | refine And.intro (show imp none (gimp _ none) from trivial) ?_
  refine And.intro (fun h => SubR.lit rfl) (fun h => ?_)
  have h : (((((((!within p.cols 2 8 || !within p.rows 2 8) || decide (w64 (p.cols * p.rows) > 16)) || !within p.side 100 2000) || !within p.level (-3000) 3000) || !within p.east (-500) 500) || !within p.north (-500) 500) || !within lev (-20000) 20000) = false := h
  simp only [Bool.or_eq_false_iff, Bool.not_eq_false', within, Bool.and_eq_true, decide_eq_true_eq, decide_eq_false_iff_not] at h
  obtain ⟨⟨⟨⟨⟨⟨⟨h1, h2⟩, h3⟩, h4⟩, h5⟩, h6⟩, h7⟩, h8⟩ := h
  have hmul := mul_le_of (a := p.cols) (b := p.rows) (A := 8) (B := 8) (by omega) (by omega) (by omega) (by omega)
  rw [w64_of (by omega) (by omega)] at h3
  have hp : PVal p := ⟨h1, h2, by omega, h5, h6, h7⟩
  have hc := hp.cols
  have hgl : (gridP p).levels.length = nP p := gridP_len p
  have hn : nP p ≤ 16 := cr_le hp
  refine AW.seq (ex.sound (rc := []) tab_ok mix href _ ?_)
  refine callN (planeGrid p hp) ?_
  refine AW.seq (ex.sound (rc := []) tab_ok mix href _ ?_)
  refine callN (RCheck (gridP p) (by omega)) ?_
  repeat first | refine sk ?_ | refine st ?_ | refine sg ?_ | refine sh ?_ | refine su ?_ | refine sn1 ?_ | refine sn0 ?_ | refine And.intro (show imp none (gimp _ none) from trivial) ?_
  by_cases he : errG (gridP p) = 0
  case neg =>
    have hb : (errG (gridP p) != 0) = true := by simpa using he
    refine callF (pts []) (by rw [hb]; rfl) ?_
    repeat first | refine sk ?_ | refine st ?_ | refine sg ?_ | refine sh ?_ | refine su ?_ | refine sn1 ?_ | refine sn0 ?_ | refine And.intro (show imp none (gimp _ none) from trivial) ?_
    refine callF (vB true) (by rw [hb]; rfl) ?_
    repeat first | refine sk ?_ | refine st ?_ | refine sg ?_ | refine sh ?_ | refine su ?_ | refine sn1 ?_ | refine sn0 ?_ | refine And.intro (show imp none (gimp _ none) from trivial) ?_
    refine And.intro (fun _ => SubR.lit rfl) (fun h => ?_)
    have h : ((errG (gridP p) != 0) || !true) = false := h
    rw [hb] at h; cases h
  have hv := GVal.of he
  have n0 : 0 < nP p := Nat.mul_pos (by omega) (by have := hp.rows; omega)
  refine callG (cornersG (gridP p) (show p.cols ≠ 0 by omega) (by omega)) ?_
  repeat first | refine sk ?_ | refine st ?_ | refine sg ?_ | refine sh ?_ | refine su ?_ | refine sn1 ?_ | refine sn0 ?_ | refine And.intro (show imp none (gimp _ none) from trivial) ?_
  refine callG (rClose [centreG (gridP p) 0, centreG (gridP p) (((gridP p).levels.length : Int) - 1)] (fun q hq => ?_) (by simp)) ?_
  · have hidx : (((gridP p).levels.length : Int) - 1) = ((nP p - 1 : Nat) : Int) := by omega
    rw [hidx] at hq
    simp only [List.mem_cons, List.not_mem_nil, or_false] at hq
    rcases hq with rfl | rfl
    · exact okP_centre (k := 0) hv (by omega)
    · exact okP_centre hv (by omega)
  repeat first | refine sk ?_ | refine st ?_ | refine sg ?_ | refine sh ?_ | refine su ?_ | refine sn1 ?_ | refine sn0 ?_ | refine And.intro (show imp none (gimp _ none) from trivial) ?_
  refine And.intro (fun _ => SubR.lit rfl) (fun h => ?_)
  have h : ((errG (gridP p) != 0) || !closeR [centreG (gridP p) 0, centreG (gridP p) (((gridP p).levels.length : Int) - 1)]) = false := h
  rw [Bool.or_eq_false_iff] at h
  have hg : PG p := close_P hp hv (by simpa using h.2)
  have hsq : sqB (gridP p) = (mS p, 0) := by unfold sqB; rw [if_pos he]
  have hnl : (ndP p).length = nP p := ndP_len hp
  have hb := bSquares (gridP p) (by omega)
  rw [hsq] at hb
  have ht := bTriangulate (ndP p) (by omega)
  rw [triB_P hg] at ht
  have htl : (mT p).tris.length ≤ 64 := by
    show (trTs (triR (uG p))).length ≤ 64
    unfold trTs
    rw [List.length_map]
    exact (chk_P hg).2.2.2.1
  have hsl : (mS p).tris.length ≤ 64 := by
    have := sqs_len (gridP p) (gridP p).levels.length
    show (sqs (gridP p) (gridP p).levels.length).length ≤ 64
    omega
  refine AW.seq (ex.sound (rc := []) tab_ok mix href _ ?_)
  refine callN (agree hg he lev h8) ?_
  refine And.intro (fun h => by cases (show (!true) = true from h)) (fun _ => ?_)
  refine AW.seq (ex.sound (rc := []) tab_ok mix href _ ?_)
  refine callN hb ?_
  refine AW.seq (ex.sound (rc := []) tab_ok mix href _ ?_)
  refine callN ht ?_
  refine AW.seq (ex.sound (rc := []) tab_ok mix href _ ?_)
  repeat first | refine sk ?_ | refine st ?_ | refine sg ?_ | refine sh ?_ | refine su ?_ | refine sn1 ?_ | refine sn0 ?_ | refine And.intro (show imp none (gimp _ none) from trivial) ?_
  refine And.intro (fun h => by cases (show (((0 : Int) != 0) || ((0 : Int) != 0)) = true from h)) (fun _ => ?_)
  refine AW.cut (σ' := lpS p (nP p)) (ex.sound (rc := []) tab_ok mix href _ ?_) ?_
  · refine AW.loopI (fun i => lpS p i) (fun i => i ≤ nP p) (fun i => nP p - i) 0 (Nat.zero_le _) ?_ ?_
    · exact SubI.of0 href [] rfl ⟨⟨rfl, LeBx.rfl⟩, ⟨rfl, LeBx.rfl⟩, ⟨rfl, LeBx.rfl⟩, trivial⟩ ⟨⟨rfl, LeQ.rfl⟩, ⟨rfl, LeQ.rfl⟩, ⟨rfl, LeQ.rfl⟩, ⟨rfl, LeQ.rfl⟩, trivial⟩
    · intro i hi
      refine ex.sound (rc := []) tab_ok mix href _ ?_
      refine And.intro (fun h => ?_) (fun h => ?_)
      · have h : (i : Int) < (gridP p).levels.length := decT h
        have hi' : i < nP p := by omega
        have hl1 := bMeshLevel (mS p) (centreG (gridP p) i) ⟨by show (ndP p).length ≤ _; omega, by omega⟩
        rw [mlev_S hg hi'] at hl1
        have hl2 := bMeshLevel (mT p) (centreG (gridP p) i) ⟨by show (ndP p).length ≤ _; omega, by omega⟩
        rw [mlev_T hg hi'] at hl2
        repeat first | refine sk ?_ | refine st ?_ | refine sg ?_ | refine sh ?_ | refine su ?_ | refine sn1 ?_ | refine sn0 ?_ | refine And.intro (show imp none (gimp _ none) from trivial) ?_
        refine callN (Centre (gridP p) i (show p.cols ≠ 0 by omega)) ?_
        refine callN hl1 ?_
        refine callN hl2 ?_
        repeat first | refine sk ?_ | refine st ?_ | refine sg ?_ | refine sh ?_ | refine su ?_ | refine sn1 ?_ | refine sn0 ?_ | refine And.intro (show imp none (gimp _ none) from trivial) ?_
        refine og (fun _ => ⟨by omega, by omega⟩) ?_
        repeat first | refine sk ?_ | refine st ?_ | refine sg ?_ | refine sh ?_ | refine su ?_ | refine sn1 ?_ | refine sn0 ?_ | refine And.intro (show imp none (gimp _ none) from trivial) ?_
        refine And.intro (by kernel_rfl) ?_
        refine And.intro (fun h => ?_) (fun _ => ?_)
        · have h : (((((0 : Int) != 0) || ((0 : Int) != 0)) || !((plv p i == (gridP p).levels.getD ((i : Int)).toNat 0) && (((1 : Int) == 1) && true))) || !((plv p i == plv p i) && (((1 : Int) == 1) && true))) = true := h
          rw [Int.toNat_natCast, gridP_lv hi'] at h
          simp at h
        refine ⟨i + 1, by omega, by omega, ?_⟩
        exact SubI.of0 href [] rfl ⟨⟨rfl, LeBx.rfl⟩, ⟨rfl, LeBx.rfl⟩, ⟨rfl, LeBx.rfl⟩, trivial⟩ ⟨⟨rfl, LeQ.rfl⟩, ⟨rfl, LeQ.rfl⟩, ⟨rfl, LeQ.rfl⟩, ⟨rfl, LeQ.int (w64_of (by omega) (by omega))⟩, trivial⟩
      · have h : ¬ (i : Int) < (gridP p).levels.length := decF h
        obtain rfl : i = nP p := by omega
        exact ⟨rfl, SubI.of0 href [] rfl ⟨⟨rfl, LeBx.rfl⟩, ⟨rfl, LeBx.rfl⟩, ⟨rfl, LeBx.rfl⟩, trivial⟩ ⟨⟨rfl, LeQ.rfl⟩, ⟨rfl, LeQ.rfl⟩, ⟨rfl, LeQ.rfl⟩, ⟨rfl, LeQ.rfl⟩, trivial⟩⟩
  · refine ex.sound (rc := []) tab_ok mix href _ ?_
    exact SubR.lit rfl
end Go.Ch

/- Reading the plane of the law's argument. -/
namespace Go.Ch
open Go Go.Ax Go.Proofs Go.Proofs.Try
theorem rPln0 : Rd Try.prog 23 8 (fun p : Pln => [.d (dI p.x), .d (dI p.y), .d (dI p.side), .d (dI p.cols), .d (dI p.rows), .d (dI p.level), .d (dI p.east), .d (dI p.north)]) (fun _ => True) :=
  (rd_struct Try.underlying23 rfl (by kernel_rfl) (rdf_cons rfl rI (rdf_cons rfl rI (rdf_cons rfl rI (rdf_cons rfl rI (rdf_cons rfl rI (rdf_cons rfl rI (rdf_cons rfl rI (rdf_cons rfl rI rdf_nil))))))))).to (fun a => ⟨a.1, a.2.1, a.2.2.1, a.2.2.2.1, a.2.2.2.2.1, a.2.2.2.2.2.1, a.2.2.2.2.2.2.1, a.2.2.2.2.2.2.2.1⟩) (fun _ => rfl) (fun _ _ => trivial)
theorem rPln : RdA Try.prog 23 plnV (fun _ => True) := rda_agg (k := 8) Try.underlying23 rPln0
theorem PrismsL (p : Pln) (lev : Int) (_ : True) : CallP Try.prog 3 [plnV p, vI lev] (vB true) := PrismsAgree p lev
end Go.Ch
