/- Part Ch27: lemmas that the proofs of this seat share; by itself it claims nothing. -/
import Derived.Test.YtfdgbddmggoilaaCh23
/- Meshes: places, areas, Check. -/
namespace Go.Ch
open Go Go.Ax Go.Proofs Go.Proofs.Try
set_option maxRecDepth 100000
set_option pp.maxSteps 400
set_option maxHeartbeats 1000000

structure Nd where
  x : Int
  y : Int
  lv : Int
deriving DecidableEq
instance : Inhabited Nd := ⟨⟨0, 0, 0⟩⟩
structure Tr where
  a : Int
  b : Int
  c : Int
deriving DecidableEq
instance : Inhabited Tr := ⟨⟨0, 0, 0⟩⟩
structure Mesh where
  nodes : List Nd
  tris : List Tr
def ndD (n : Nd) : Nat → DV
  | 0 => dI n.x
  | 1 => dI n.y
  | 2 => dI n.lv
  | _ => .junk
def trD (n : Tr) : Nat → DV
  | 0 => dI n.a
  | 1 => dI n.b
  | 2 => dI n.c
  | _ => .junk
def ndEl (l : List Nd) : Nat → Nat → DV := fun i => ndD (l.getD i default)
def trEl (l : List Tr) : Nat → Nat → DV := fun i => trD (l.getD i default)
def dNds (l : List Nd) : DV := .slc l.length 3 (ndEl l)
def dTrs (l : List Tr) : DV := .slc l.length 3 (trEl l)
abbrev nd (n : Nd) : AV := .g [.d (dI n.x), .d (dI n.y), .d (dI n.lv)]
abbrev trV (n : Tr) : AV := .g [.d (dI n.a), .d (dI n.b), .d (dI n.c)]
abbrev vNds (l : List Nd) : AV := .s (.d (dNds l))
abbrev mesh (m : Mesh) : AV := .g [.d (dNds m.nodes), .d (dTrs m.tris)]
abbrev meshB (m : Mesh) : Box := .cells [.d (dNds m.nodes), .d (dTrs m.tris)]
def Nd.pt (n : Nd) : Pt := ⟨n.x, n.y⟩
structure Mesh.ok (m : Mesh) : Prop where
  nodes : m.nodes.length ≤ 9223372036854775807
  tris : m.tris.length ≤ 9223372036854775807

theorem bplace (n : Nd) : CallP Try.prog 119 [nd n] (pt n.pt) := by
  refine callP_of_ex (rc := []) (N := 8) Try.func119 rfl rfl Try.call119 tab_ok mix rfl rfl (fun cx _ => ?_)
  exact SubR.refl _
theorem rplace (n : Nd) : CallP Try.prog 126 [nd n] (pt n.pt) := by
  refine callP_of_ex (rc := []) (N := 8) Try.func126 rfl rfl Try.call126 tab_ok mix rfl rfl (fun cx _ => ?_)
  exact SubR.refl _
theorem rcross (a b c : Pt) : CallP Try.prog 125 [pt a, pt b, pt c] (vI (cross a b c)) := by
  refine callP_of_ex (rc := []) (N := 30) Try.func125 rfl rfl Try.call125 tab_ok mix rfl rfl (fun cx _ => ?_)
  exact SubR.refl _
theorem three_le (a b c : Pt) (f : Nat → Nat → DV) (h : ∀ j, j < 6 → f (j / 2) (j % 2) = ptD ([a, b, c].getD (j / 2) default) (j % 2)) : LeD (.slc 3 2 f) (dPts [a, b, c]) := by
  refine LeD.slc fun i j hi hj => LeD.of_eq ?_
  have := h (i * 2 + j) (by omega)
  rw [show (i * 2 + j) / 2 = i by omega, show (i * 2 + j) % 2 = j by omega] at this
  exact this
theorem bCross (a b c : Pt) (ha : good a = true) (hb : good b = true) (hc : good c = true) : CallP Try.prog 118 [pt a, pt b, pt c] (vI (cross a b c)) := by
  refine callP_of_ex (rc := []) (N := 16) Try.func118 rfl rfl Try.call118 tab_ok mix rfl rfl (fun cx _ => ?_)
  refine callN ((goutside [a, b, c] (by simp)).conv (args' := _) ⟨three_le a b c _ (fun j hj => ?_), trivial⟩) ?_
  · match j, hj with
    | 0, _ => rfl
    | 1, _ => rfl
    | 2, _ => rfl
    | 3, _ => rfl
    | 4, _ => rfl
    | 5, _ => rfl
  rw [show ([a, b, c].any fun p => !good p) = false by simp [ha, hb, hc]]
  refine And.intro (fun h => by cases h) (fun _ => ?_)
  refine callN (gcross a b c) ?_
  exact SubR.refl _
theorem inRange (p : Pt) : CallP Try.prog 117 [pt p] (vB (good p)) := by
  refine callP_of_ex (rc := []) (N := 9) Try.func117 rfl rfl Try.call117 tab_ok mix rfl rfl (fun cx _ => ?_)
  refine callN ((bbetween (-1000000) 1000000 [p.x, p.y] (by simp)).conv (args' := _) ⟨LeD.refl _, LeD.refl _, LeD.slc fun i j hi hj => ?_, trivial⟩) ?_
  · have hj : j < 1 := hj
    obtain rfl : j = 0 := by omega
    match i, (show i < 2 from hi) with
    | 0, _ => exact LeD.refl _
    | 1, _ => exact LeD.refl _
  exact SubR.of_eq (congrArg vB (by simp [outL, good]))
def badN (n : Nd) : Bool := !good n.pt || !within n.lv (-20000) 20000
theorem badN1 (n : Nd) : CallP Try.prog 124 [nd n] (vB (badN n)) := by
  refine callP_of_ex (rc := []) (N := 13) Try.func124 rfl rfl Try.call124 tab_ok mix rfl rfl (fun cx _ => ?_)
  refine callN (bplace n) ?_
  refine callN (inRange n.pt) ?_
  repeat first | refine sk ?_ | refine st ?_ | refine sg ?_ | refine sh ?_ | refine su ?_ | refine sn1 ?_ | refine sn0 ?_
  refine callG (isLevel n.lv) ?_
  repeat first | refine sk ?_ | refine st ?_ | refine sg ?_ | refine sh ?_ | refine su ?_ | refine sn1 ?_ | refine sn0 ?_
  exact SubR.refl _
theorem indexFuncN (l : List Nd) (hl : l.length ≤ 9223372036854775807) (f k : Nat) (c : Nat → DV) (p : Nd → Bool) (hp : ∀ x ∈ l, CallP Try.prog f (nd x :: capD c k 0) (vB (p x))) :
    CallP Try.prog 149 [vNds l, .s (.d (.clo f k c))] (vI (idxF p l 0)) := by
  refine callP_of_ex (rc := []) (N := 19) Try.func149 rfl rfl Try.call149 tab_ok mix rfl rfl (fun cx href => ?_)
  refine AW.loop (fun i : Nat => ⟨[(0, vNds l), (1, .s (.d (.clo f k c))), (7, vI l.length), (8, vI i), (4, vI 0)], []⟩) (fun i => i ≤ l.length ∧ idxF p l 0 = idxF p (l.drop i) i) (fun i => l.length - i) 0 ⟨Nat.zero_le _, rfl⟩ ?_ ?_
  · refine Sub.of0 href trivial ⟨⟨rfl, rfl⟩, ⟨rfl, rfl⟩, ⟨rfl, rfl⟩, ⟨rfl, rfl⟩, ⟨rfl, rfl⟩, trivial⟩
  · rintro i ⟨hi, he⟩
    refine ex.sound (rc := []) tab_ok mix href _ ?_
    refine And.intro (fun h => ?_) (fun h => ?_)
    · have h : (i : Int) < l.length := decT h
      have hi' : i < l.length := by omega
      have hd : l.drop i = l[i] :: l.drop (i + 1) := List.drop_eq_getElem_cons hi'
      have hg : l.getD i default = l[i] := getD_of hi'
      refine oi ⟨by omega, by omega⟩ ?_
      refine callN ((hp (l.getD i default) (by rw [hg]; simp)).conv (args' := _) ⟨⟨LeD.refl _, LeD.refl _, LeD.refl _, trivial⟩, LeAs.capD⟩) ?_
      rw [hd, idxF] at he
      rw [hg]
      refine And.intro (fun h => ?_) (fun h => ?_)
      · refine SubR.of_eq ?_
        rw [he, h]; rfl
      · refine ⟨i + 1, ⟨by omega, ?_⟩, by omega, ?_⟩
        · rw [he, h]; rfl
        · refine Sub.of0 href trivial ⟨⟨rfl, rfl⟩, ⟨rfl, rfl⟩, ⟨rfl, rfl⟩, ⟨rfl, ?_⟩, ⟨rfl, rfl⟩, trivial⟩
          exact congrArg vI (w64_of (by omega) (by omega))
    · have h : ¬ (i : Int) < l.length := decF h
      have hi' : i = l.length := by omega
      subst hi'
      refine SubR.of_eq ?_
      rw [he, List.drop_length]; rfl
theorem containsN (l : List Nd) (hl : l.length ≤ 9223372036854775807) (f k : Nat) (c : Nat → DV) (p : Nd → Bool) (hp : ∀ x ∈ l, CallP Try.prog f (nd x :: capD c k 0) (vB (p x))) :
    CallP Try.prog 123 [vNds l, .s (.d (.clo f k c))] (vB (l.any p)) := by
  refine callP_of_ex (rc := []) (N := 9) Try.func123 rfl rfl Try.call123 tab_ok mix rfl rfl (fun cx href => ?_)
  refine callN (indexFuncN l hl f k c p hp) ?_
  exact SubR.of_eq (congrArg vB (idxF_any p l 0))

abbrev ndA (m : Mesh) (i : Int) : Nd := m.nodes.getD i.toNat default
def dbl (m : Mesh) (t : Tr) : Int := cross (ndA m t.a).pt (ndA m t.b).pt (ndA m t.c).pt
def inM (m : Mesh) (t : Tr) : Prop := (0 ≤ t.a ∧ t.a < m.nodes.length) ∧ (0 ≤ t.b ∧ t.b < m.nodes.length) ∧ (0 ≤ t.c ∧ t.c < m.nodes.length)
theorem bdouble (m : Mesh) (t : Tr) (ht : inM m t) (hg : ∀ i, good (ndA m i).pt = true) : CallP Try.prog 121 [mesh m, trV t] (vI (dbl m t)) := by
  obtain ⟨ha, hb, hc⟩ := ht
  refine callP_of_ex (rc := []) (N := 27) Try.func121 rfl rfl Try.call121 tab_ok mix rfl rfl (fun cx _ => ?_)
  refine oi ha ?_
  refine callN (bplace (ndA m t.a)) ?_
  refine oi hb ?_
  refine callN (bplace (ndA m t.b)) ?_
  refine oi hc ?_
  refine callN (bplace (ndA m t.c)) ?_
  refine callN (bCross _ _ _ (hg _) (hg _) (hg _)) ?_
  refine And.intro (by kernel_rfl) ?_
  exact SubR.refl _
theorem rDouble (m : Mesh) (t : Tr) (ht : inM m t) : CallP Try.prog 122 [mesh m, trV t] (vI (dbl m t)) := by
  obtain ⟨ha, hb, hc⟩ := ht
  refine callP_of_ex (rc := []) (N := 27) Try.func122 rfl rfl Try.call122 tab_ok mix rfl rfl (fun cx _ => ?_)
  refine oi ha ?_
  refine callN (rplace (ndA m t.a)) ?_
  refine oi hb ?_
  refine callN (rplace (ndA m t.b)) ?_
  refine oi hc ?_
  refine callN (rplace (ndA m t.c)) ?_
  refine callN (rcross _ _ _) ?_
  refine And.intro (by kernel_rfl) ?_
  exact SubR.refl _

def inMB (n : Int) (t : Tr) : Bool := (within t.a 0 n && within t.b 0 n) && within t.c 0 n
def errT (m : Mesh) : List Tr → Int
  | [] => 0
  | t :: r => bif !inMB (w64 (m.nodes.length - 1)) t then 6 else bif decide (dbl m t ≤ 0) then 10 else bif decide (dbl m t > 800000000) then 8 else errT m r
def errM (m : Mesh) : Int := bif decide ((m.nodes.length : Int) > 1024) || decide ((m.tris.length : Int) > 2048) then 8 else bif m.nodes.any badN then 2 else errT m m.tris
theorem good_nodes {m : Mesh} (h : m.nodes.any badN = false) (i : Int) : good (ndA m i).pt = true ∧ within (ndA m i).lv (-20000) 20000 = true := by
  unfold ndA
  by_cases hi : i.toNat < m.nodes.length
  · have h2 : badN (m.nodes.getD i.toNat default) = false := by
      rw [List.any_eq_false] at h
      rw [getD_of hi]
      simpa using h _ (List.getElem_mem hi)
    unfold badN at h2
    simpa using h2
  · rw [List.getD_eq_getElem?_getD, List.getElem?_eq_none (by omega)]
    exact ⟨by decide, by decide⟩
theorem inMB_iff {m : Mesh} {t : Tr} (hn : m.nodes.length ≤ 1024) : inMB (w64 (m.nodes.length - 1)) t = true ↔ inM m t := by
  rw [w64_of (by omega) (by omega)]
  unfold inMB inM within
  simp
  omega
theorem bCheckMesh (m : Mesh) (hm : m.ok) : CallP Try.prog 67 [mesh m] (vI (errM m)) := by
  have h1 := hm.nodes
  have h2 := hm.tris
  refine callP_of_ex (rc := []) (N := 49) Try.func67 rfl rfl Try.call67 tab_ok mix rfl rfl (fun cx href => ?_)
  unfold errM
  repeat first | refine sk ?_ | refine st ?_ | refine sg ?_ | refine sh ?_ | refine su ?_ | refine sn1 ?_ | refine sn0 ?_
  refine And.intro (fun h => ?_) (fun h => ?_)
  · have h : (decide ((m.nodes.length : Int) > 1024) || decide ((m.tris.length : Int) > 2048)) = true := h
    rw [h]; exact SubR.refl _
  have h : (decide ((m.nodes.length : Int) > 1024) || decide ((m.tris.length : Int) > 2048)) = false := h
  rw [h, cond_false]
  rw [Bool.or_eq_false_iff, decide_eq_false_iff_not, decide_eq_false_iff_not] at h
  refine callN (containsN m.nodes h1 124 0 (fun _ => .junk) badN (fun x _ => badN1 x)) ?_
  refine And.intro (fun h3 => ?_) (fun h3 => ?_)
  · have h3 : m.nodes.any badN = true := h3
    rw [h3]; exact SubR.refl _
  have h3 : m.nodes.any badN = false := h3
  rw [h3, cond_false]
  have hg := good_nodes h3
  refine AW.loopI (fun i : Nat => ⟨[(1, .s (.ptr 1 0)), (20, .s (.d (dTrs m.tris))), (21, vI m.tris.length), (22, vI i)], [(1, some (meshB m))]⟩) (fun i => i ≤ m.tris.length ∧ errT m m.tris = errT m (m.tris.drop i)) (fun i => m.tris.length - i) 0 ⟨Nat.zero_le _, rfl⟩ ?_ ?_
  · exact SubI.of0 href [] rfl ⟨⟨rfl, LeBx.rfl⟩, trivial⟩ ⟨⟨rfl, LeQ.rfl⟩, ⟨rfl, LeQ.rfl⟩, ⟨rfl, LeQ.rfl⟩, ⟨rfl, LeQ.rfl⟩, trivial⟩
  · rintro i ⟨hi, he⟩
    refine ex.sound (rc := []) tab_ok mix href _ ?_
    refine And.intro (fun h4 => ?_) (fun h4 => ?_)
    · have h4 : (i : Int) < m.tris.length := decT h4
      have hi' : i < m.tris.length := by omega
      have hg0 : m.tris.getD i default = m.tris[i] := getD_of hi'
      rw [List.drop_eq_getElem_cons hi', errT, ← hg0] at he
      refine oi ⟨by omega, by omega⟩ ?_
      refine callN ((bbetween 0 (w64 (m.nodes.length - 1)) [(m.tris.getD i default).a, (m.tris.getD i default).b, (m.tris.getD i default).c] (by simp)).conv (args' := _) ⟨LeD.refl _, LeD.refl _, LeD.slc fun i j hi hj => ?_, trivial⟩) ?_
      · have hj : j < 1 := hj
        obtain rfl : j = 0 := by omega
        match i, (show i < 3 from hi) with
        | 0, _ => exact LeD.refl _
        | 1, _ => exact LeD.refl _
        | 2, _ => exact LeD.refl _
      rw [show outL 0 (w64 (m.nodes.length - 1)) [(m.tris.getD i default).a, (m.tris.getD i default).b, (m.tris.getD i default).c] = !inMB (w64 (m.nodes.length - 1)) (m.tris.getD i default) by simp [outL, inMB, Bool.or_assoc], Bool.not_not]
      refine And.intro (fun h5 => ?_) (fun h5 => ?_)
      · have h5 : (!inMB (w64 (m.nodes.length - 1)) (m.tris.getD i default)) = true := h5
        rw [he, h5]; exact SubR.refl _
      have h5 : (!inMB (w64 (m.nodes.length - 1)) (m.tris.getD i default)) = false := h5
      rw [h5, cond_false] at he
      have ht : inM m (m.tris.getD i default) := (inMB_iff (by omega)).1 (by simpa using h5)
      refine callN (bdouble m (m.tris.getD i default) ht (fun i => (hg i).1)) ?_
      refine And.intro (fun h6 => ?_) (fun h6 => ?_)
      · have h6 : decide (dbl m (m.tris.getD i default) ≤ 0) = true := h6
        rw [he, h6]; exact SubR.refl _
      have h6 : decide (dbl m (m.tris.getD i default) ≤ 0) = false := h6
      rw [h6, cond_false] at he
      refine And.intro (fun h7 => ?_) (fun h7 => ?_)
      · have h7 : decide (dbl m (m.tris.getD i default) > 800000000) = true := h7
        rw [he, h7]; exact SubR.refl _
      have h7 : decide (dbl m (m.tris.getD i default) > 800000000) = false := h7
      rw [h7, cond_false] at he
      refine ⟨i + 1, ⟨by omega, he⟩, by omega, ?_⟩
      exact SubI.of0 href [] rfl ⟨⟨rfl, LeBx.rfl⟩, trivial⟩ ⟨⟨rfl, LeQ.rfl⟩, ⟨rfl, LeQ.rfl⟩, ⟨rfl, LeQ.rfl⟩, ⟨rfl, LeQ.int (w64_of (by omega) (by omega))⟩, trivial⟩
    · have h4 : ¬ (i : Int) < m.tris.length := decF h4
      obtain rfl : i = m.tris.length := by omega
      rw [he, List.drop_length]
      exact SubR.refl _
theorem rCheckMesh (m : Mesh) (hm : m.ok) : CallP Try.prog 66 [mesh m] (vI (errM m)) := by
  have h1 := hm.nodes
  have h2 := hm.tris
  refine callP_of_ex (rc := []) (N := 93) Try.func66 rfl rfl Try.call66 tab_ok mix rfl rfl (fun cx href => ?_)
  unfold errM
  repeat first | refine sk ?_ | refine st ?_ | refine sg ?_ | refine sh ?_ | refine su ?_ | refine sn1 ?_ | refine sn0 ?_
  refine And.intro (fun h => ?_) (fun h => ?_)
  · have h : (decide ((m.nodes.length : Int) > 1024) || decide ((m.tris.length : Int) > 2048)) = true := h
    rw [h]; exact SubR.refl _
  have h : (decide ((m.nodes.length : Int) > 1024) || decide ((m.tris.length : Int) > 2048)) = false := h
  rw [h, cond_false]
  rw [Bool.or_eq_false_iff, decide_eq_false_iff_not, decide_eq_false_iff_not] at h
  refine AW.loopI (fun i : Nat => ⟨[(1, .s (.ptr 1 0)), (3, vI i)], [(1, some (meshB m))]⟩) (fun i => i ≤ m.nodes.length ∧ m.nodes.any badN = (m.nodes.drop i).any badN) (fun i => m.nodes.length - i) 0 ⟨Nat.zero_le _, rfl⟩ ?_ ?_
  · exact SubI.of0 href [] rfl ⟨⟨rfl, LeBx.rfl⟩, trivial⟩ ⟨⟨rfl, LeQ.rfl⟩, ⟨rfl, LeQ.rfl⟩, trivial⟩
  · rintro i ⟨hi, he⟩
    refine ex.sound (rc := []) tab_ok mix href _ ?_
    refine And.intro (fun h4 => ?_) (fun h4 => ?_)
    · have h4 : (i : Int) < m.nodes.length := decT h4
      have hi' : i < m.nodes.length := by omega
      have hg0 : m.nodes.getD i default = m.nodes[i] := getD_of hi'
      rw [List.drop_eq_getElem_cons hi', List.any_cons, ← hg0] at he
      refine oi ⟨by omega, by omega⟩ ?_
      refine callN (Within (m.nodes.getD i default).x (-1000000) 1000000) ?_
      repeat first | refine sk ?_ | refine st ?_ | refine sg ?_ | refine sh ?_ | refine su ?_ | refine sn1 ?_ | refine sn0 ?_
      refine callG (Within (m.nodes.getD i default).y (-1000000) 1000000) ?_
      repeat first | refine sk ?_ | refine st ?_ | refine sg ?_ | refine sh ?_ | refine su ?_ | refine sn1 ?_ | refine sn0 ?_
      refine callG (Leveled (m.nodes.getD i default).lv) ?_
      repeat first | refine sk ?_ | refine st ?_ | refine sg ?_ | refine sh ?_ | refine su ?_ | refine sn1 ?_ | refine sn0 ?_
      have eb : ((!within (m.nodes.getD i default).x (-1000000) 1000000 || !within (m.nodes.getD i default).y (-1000000) 1000000) || !within (m.nodes.getD i default).lv (-20000) 20000) = badN (m.nodes.getD i default) := by simp [badN, good, Nd.pt]
      refine And.intro (fun h5 => ?_) (fun h5 => ?_)
      · have h5 : badN (m.nodes.getD i default) = true := eb ▸ h5
        rw [he, h5]; exact SubR.refl _
      have h5 : badN (m.nodes.getD i default) = false := eb ▸ h5
      rw [h5, Bool.false_or] at he
      refine ⟨i + 1, ⟨by omega, he⟩, by omega, ?_⟩
      exact SubI.of0 href [] rfl ⟨⟨rfl, LeBx.rfl⟩, trivial⟩ ⟨⟨rfl, LeQ.rfl⟩, ⟨rfl, LeQ.int (w64_of (by omega) (by omega))⟩, trivial⟩
    have h4 : ¬ (i : Int) < m.nodes.length := decF h4
    obtain rfl : i = m.nodes.length := by omega
    have h3 : m.nodes.any badN = false := by rw [he, List.drop_length]; rfl
    clear he hi h4
    rw [h3, cond_false]
    refine AW.loopI (fun i : Nat => ⟨[(1, .s (.ptr 1 0)), (5, vI i)], [(1, some (meshB m))]⟩) (fun i => i ≤ m.tris.length ∧ errT m m.tris = errT m (m.tris.drop i)) (fun i => m.tris.length - i) 0 ⟨Nat.zero_le _, rfl⟩ ?_ ?_
    · exact SubI.of0 href [] rfl ⟨⟨rfl, LeBx.rfl⟩, trivial⟩ ⟨⟨rfl, LeQ.rfl⟩, ⟨rfl, LeQ.rfl⟩, trivial⟩
    · rintro i ⟨hi, he⟩
      refine ex.sound (rc := []) tab_ok mix href _ ?_
      refine And.intro (fun h4 => ?_) (fun h4 => ?_)
      · have h4 : (i : Int) < m.tris.length := decT h4
        have hi' : i < m.tris.length := by omega
        have hg0 : m.tris.getD i default = m.tris[i] := getD_of hi'
        rw [List.drop_eq_getElem_cons hi', errT, ← hg0] at he
        refine oi ⟨by omega, by omega⟩ ?_
        refine callN (Within (m.tris.getD i default).a 0 (w64 (m.nodes.length - 1))) ?_
        repeat first | refine sk ?_ | refine st ?_ | refine sg ?_ | refine sh ?_ | refine su ?_ | refine sn1 ?_ | refine sn0 ?_
        refine callG (Within (m.tris.getD i default).b 0 (w64 (m.nodes.length - 1))) ?_
        repeat first | refine sk ?_ | refine st ?_ | refine sg ?_ | refine sh ?_ | refine su ?_ | refine sn1 ?_ | refine sn0 ?_
        refine callG (Within (m.tris.getD i default).c 0 (w64 (m.nodes.length - 1))) ?_
        repeat first | refine sk ?_ | refine st ?_ | refine sg ?_ | refine sh ?_ | refine su ?_ | refine sn1 ?_ | refine sn0 ?_
        have eb : ((!within (m.tris.getD i default).a 0 (w64 (m.nodes.length - 1)) || !within (m.tris.getD i default).b 0 (w64 (m.nodes.length - 1))) || !within (m.tris.getD i default).c 0 (w64 (m.nodes.length - 1))) = !inMB (w64 (m.nodes.length - 1)) (m.tris.getD i default) := by simp [inMB]
        refine And.intro (fun h5 => ?_) (fun h5 => ?_)
        · have h5 : (!inMB (w64 (m.nodes.length - 1)) (m.tris.getD i default)) = true := eb ▸ h5
          rw [he, h5]; exact SubR.refl _
        have h5 : (!inMB (w64 (m.nodes.length - 1)) (m.tris.getD i default)) = false := eb ▸ h5
        rw [h5, cond_false] at he
        have ht : inM m (m.tris.getD i default) := (inMB_iff (by omega)).1 (by simpa using h5)
        refine callN (rDouble m (m.tris.getD i default) ht) ?_
        refine And.intro (fun h6 => ?_) (fun h6 => ?_)
        · have h6 : decide (dbl m (m.tris.getD i default) ≤ 0) = true := h6
          rw [he, h6]; exact SubR.refl _
        have h6 : decide (dbl m (m.tris.getD i default) ≤ 0) = false := h6
        rw [h6, cond_false] at he
        refine And.intro (fun h7 => ?_) (fun h7 => ?_)
        · have h7 : decide (dbl m (m.tris.getD i default) > 800000000) = true := h7
          rw [he, h7]; exact SubR.refl _
        have h7 : decide (dbl m (m.tris.getD i default) > 800000000) = false := h7
        rw [h7, cond_false] at he
        refine ⟨i + 1, ⟨by omega, he⟩, by omega, ?_⟩
        exact SubI.of0 href [] rfl ⟨⟨rfl, LeBx.rfl⟩, trivial⟩ ⟨⟨rfl, LeQ.rfl⟩, ⟨rfl, LeQ.int (w64_of (by omega) (by omega))⟩, trivial⟩
      · have h4 : ¬ (i : Int) < m.tris.length := decF h4
        obtain rfl : i = m.tris.length := by omega
        rw [he, List.drop_length]
        exact SubR.refl _
end Go.Ch

/- Meshes: levels and volumes. -/
namespace Go.Ch
open Go Go.Ax Go.Proofs Go.Proofs.Try
set_option maxRecDepth 100000
set_option pp.maxSteps 400
set_option maxHeartbeats 2000000

def gcdI (a b : Int) : Int := (Nat.gcd a.toNat b.toNat : Int)
theorem gcdI_zero (a : Int) (h : 0 ≤ a) : gcdI a 0 = a := by unfold gcdI; simp; omega
theorem gcdI_step {a b : Int} (ha : 0 ≤ a) (hb : 0 < b) : gcdI a b = gcdI b (a.tmod b) := by
  unfold gcdI
  rw [Int.tmod_eq_emod_of_nonneg ha, Nat.gcd_comm, Nat.gcd_rec]
  rw [Int.toNat_emod ha (by omega), Nat.gcd_comm]
theorem gcdI_pos {a b : Int} (hb : 0 < b) : 0 < gcdI a b := by
  unfold gcdI
  have : 0 < Nat.gcd a.toNat b.toNat := Nat.gcd_pos_of_pos_right _ (by omega)
  omega
theorem rgcd (a b : Int) (ha : 0 ≤ a) (hb : 0 ≤ b) : CallP Try.prog 150 [vI a, vI b] (vI (gcdI a b)) := by
  refine callP_of_ex (rc := []) (N := 12) Try.func150 rfl rfl Try.call150 tab_ok mix rfl rfl (fun cx href => ?_)
  refine AW.loopI (fun q : Int × Int => ⟨[(0, vI q.1), (1, vI q.2)], []⟩) (fun q => 0 ≤ q.1 ∧ 0 ≤ q.2 ∧ gcdI q.1 q.2 = gcdI a b) (fun q => q.2.toNat) (a, b) ⟨ha, hb, rfl⟩ ?_ ?_
  · exact SubI.of0 href [] rfl trivial ⟨⟨rfl, LeQ.rfl⟩, ⟨rfl, LeQ.rfl⟩, trivial⟩
  · rintro ⟨x, y⟩ ⟨hx, hy, hg⟩
    simp only at hx hy hg ⊢
    refine ex.sound (rc := []) tab_ok mix href _ ?_
    refine And.intro (fun h => ?_) (fun h => ?_)
    · have h : y > 0 := decT h
      refine oi (show y ≠ 0 by omega) ?_
      refine And.intro (by kernel_rfl) ?_
      have m1 := Int.tmod_lt_of_pos x h
      have m0 := Int.tmod_nonneg y hx
      refine ⟨(y, x.tmod y), ⟨by simp only; omega, m0, by rw [← hg, gcdI_step hx h]⟩, by simp only; omega, ?_⟩
      exact SubI.of0 href [] rfl trivial ⟨⟨rfl, LeQ.rfl⟩, ⟨rfl, LeQ.rfl⟩, trivial⟩
    · have h : ¬ y > 0 := decF h
      obtain rfl : y = 0 := by omega
      rw [← hg, gcdI_zero x hx]
      exact SubR.refl _
/-- A fraction in lowest terms. -/
def lowF (a b : Int) : Int × Int := (w64 (a.tdiv (gcdI (if a < 0 then w64 (0 - a) else a) b)), w64 (b.tdiv (gcdI (if a < 0 then w64 (0 - a) else a) b)))
abbrev frac (f : Int × Int) : AV := .g [.d (dI f.1), .d (dI f.2)]
theorem absW {a : Int} (ha : -9000000000000000000 ≤ a ∧ a ≤ 9000000000000000000) : 0 ≤ (if a < 0 then w64 (0 - a) else a) ∧ mm true a (w64 (0 - a)) = (if a < 0 then w64 (0 - a) else a) := by
  rw [w64_of (by omega) (by omega)]
  unfold mm
  simp only
  constructor
  · split <;> omega
  · split <;> split <;> omega
theorem rLowest (a b : Int) (ha : -9000000000000000000 ≤ a ∧ a ≤ 9000000000000000000) (hb : 0 < b) : CallP Try.prog 127 [vI a, vI b] (frac (lowF a b)) := by
  have h0 := (absW ha).1
  have hp : gcdI (if a < 0 then w64 (0 - a) else a) b ≠ 0 := by have := gcdI_pos (a := if a < 0 then w64 (0 - a) else a) hb; omega
  refine callP_of_ex (rc := []) (N := 17) Try.func127 rfl rfl Try.call127 tab_ok mix rfl rfl (fun cx href => ?_)
  refine callN (Abs a) ?_
  refine callN (rgcd _ b h0 (by omega)) ?_
  refine oi hp ?_
  refine oi hp ?_
  refine And.intro (by kernel_rfl) ?_
  exact SubR.refl _
theorem blowest (a b : Int) (ha : -9000000000000000000 ≤ a ∧ a ≤ 9000000000000000000) (hb : 0 < b) : CallP Try.prog 120 [vI a, vI b] (frac (lowF a b)) := by
  obtain ⟨h0, h1⟩ := absW ha
  refine callP_of_ex (rc := []) (N := 25) Try.func120 rfl rfl Try.call120 tab_ok mix rfl rfl (fun cx href => ?_)
  refine AW.loopI (fun q : Int × Int => ⟨[(0, vI a), (1, vI b), (4, .s (.ptr 4 0)), (5, vI q.1), (6, vI q.2)], [(4, some (.cells [.d (dI 0), .d (dI 0)]))]⟩) (fun q => 0 ≤ q.1 ∧ 0 ≤ q.2 ∧ gcdI q.1 q.2 = gcdI (if a < 0 then w64 (0 - a) else a) b) (fun q => q.2.toNat) (if a < 0 then w64 (0 - a) else a, b) ⟨h0, by simp only; omega, rfl⟩ ?_ ?_
  · refine SubI.of0 href [] rfl ⟨⟨rfl, LeBx.rfl⟩, trivial⟩ ⟨⟨rfl, LeQ.rfl⟩, ⟨rfl, LeQ.rfl⟩, ⟨rfl, LeQ.rfl⟩, ⟨rfl, LeQ.int h1⟩, ⟨rfl, LeQ.rfl⟩, trivial⟩
  · rintro ⟨x, y⟩ ⟨hx, hy, hg⟩
    simp only at hx hy hg ⊢
    refine ex.sound (rc := []) tab_ok mix href _ ?_
    refine And.intro (fun h => ?_) (fun h => ?_)
    · have h : y > 0 := decT h
      refine oi (show y ≠ 0 by omega) ?_
      refine And.intro (by kernel_rfl) ?_
      have m1 := Int.tmod_lt_of_pos x h
      have m0 := Int.tmod_nonneg y hx
      refine ⟨(y, x.tmod y), ⟨by simp only; omega, m0, by rw [← hg, gcdI_step hx h]⟩, by simp only; omega, ?_⟩
      exact SubI.of0 href [] rfl ⟨⟨rfl, LeBx.rfl⟩, trivial⟩ ⟨⟨rfl, LeQ.rfl⟩, ⟨rfl, LeQ.rfl⟩, ⟨rfl, LeQ.rfl⟩, ⟨rfl, LeQ.rfl⟩, ⟨rfl, LeQ.rfl⟩, trivial⟩
    · have h : ¬ y > 0 := decF h
      obtain rfl : y = 0 := by omega
      rw [gcdI_zero x hx] at hg
      have hp := gcdI_pos (a := if a < 0 then w64 (0 - a) else a) hb
      rw [← hg] at hp
      refine oi (show x ≠ 0 by omega) ?_
      refine oi (show x ≠ 0 by omega) ?_
      refine And.intro (by kernel_rfl) ?_
      unfold lowF
      rw [← hg]
      exact SubR.refl _

theorem errT_all {m : Mesh} : ∀ {l : List Tr}, errT m l = 0 → ∀ t ∈ l, inMB (w64 (m.nodes.length - 1)) t = true ∧ 0 < dbl m t ∧ dbl m t ≤ 800000000
  | [], _, t, h => by cases h
  | s :: r, h, t, ht => by
    rw [errT] at h
    cases h1 : inMB (w64 (m.nodes.length - 1)) s with
    | false => rw [h1] at h; cases h
    | true =>
      rw [h1] at h
      cases h2 : decide (dbl m s ≤ 0) with
      | true => rw [h2] at h; cases h
      | false =>
        cases h3 : decide (dbl m s > 800000000) with
        | true => rw [h2, h3] at h; cases h
        | false =>
          rw [h2, h3] at h
          rw [decide_eq_false_iff_not] at h2 h3
          rcases List.mem_cons.1 ht with rfl | ht
          · exact ⟨h1, by omega, by omega⟩
          · exact errT_all (l := r) h t ht
structure MVal (m : Mesh) : Prop where
  n : m.nodes.length ≤ 1024
  k : m.tris.length ≤ 2048
  good : ∀ i, good (ndA m i).pt = true
  lev : ∀ i, -20000 ≤ (ndA m i).lv ∧ (ndA m i).lv ≤ 20000
  tri : ∀ i, i < m.tris.length → inM m (m.tris.getD i default) ∧ 0 < dbl m (m.tris.getD i default) ∧ dbl m (m.tris.getD i default) ≤ 800000000
theorem MVal.of {m : Mesh} (h : errM m = 0) : MVal m := by
  unfold errM at h
  cases h1 : decide ((m.nodes.length : Int) > 1024) || decide ((m.tris.length : Int) > 2048) with
  | true => rw [h1] at h; cases h
  | false =>
    rw [h1, cond_false] at h
    rw [Bool.or_eq_false_iff, decide_eq_false_iff_not, decide_eq_false_iff_not] at h1
    cases h2 : m.nodes.any badN with
    | true => rw [h2] at h; cases h
    | false =>
      rw [h2, cond_false] at h
      refine ⟨by omega, by omega, fun i => (good_nodes h2 i).1, fun i => ?_, fun i hi => ?_⟩
      · have := (good_nodes h2 i).2
        unfold within at this
        simpa using this
      · have hm : m.tris.getD i default ∈ m.tris := by rw [getD_of hi]; exact List.getElem_mem hi
        obtain ⟨q1, q2, q3⟩ := errT_all h _ hm
        exact ⟨(inMB_iff (by omega)).1 q1, q2, q3⟩
/-- The triangle's weights at a place, the level there. -/
def wU (m : Mesh) (t : Tr) (p : Pt) : Int := cross (ndA m t.b).pt (ndA m t.c).pt p
def wV (m : Mesh) (t : Tr) (p : Pt) : Int := cross (ndA m t.c).pt (ndA m t.a).pt p
def wW (m : Mesh) (t : Tr) (p : Pt) : Int := cross (ndA m t.a).pt (ndA m t.b).pt p
def numT (m : Mesh) (t : Tr) (p : Pt) : Int := w64 (w64 (w64 (wU m t p * (ndA m t.a).lv) + w64 (wV m t p * (ndA m t.b).lv)) + w64 (wW m t p * (ndA m t.c).lv))
def denT (m : Mesh) (t : Tr) (p : Pt) : Int := w64 (w64 (wU m t p + wV m t p) + wW m t p)
def inT (m : Mesh) (t : Tr) (p : Pt) : Bool := (decide (wU m t p ≥ 0) && decide (wV m t p ≥ 0)) && decide (wW m t p ≥ 0)
def levT (m : Mesh) (p : Pt) : List Tr → Option (Int × Int)
  | [] => none
  | t :: r => bif inT m t p then some (lowF (numT m t p) (denT m t p)) else levT m p r
theorem den_ok {m : Mesh} (mv : MVal m) {i : Nat} (hi : i < m.tris.length) {p : Pt} (hp : good p = true) :
    (-9000000000000000000 ≤ numT m (m.tris.getD i default) p ∧ numT m (m.tris.getD i default) p ≤ 9000000000000000000) ∧ 0 < denT m (m.tris.getD i default) p := by
  obtain ⟨_, h2, _⟩ := mv.tri i hi
  generalize m.tris.getD i default = t at h2 ⊢
  obtain ⟨e0, _⟩ := cross_eq (mv.good t.a) (mv.good t.b) (mv.good t.c)
  obtain ⟨e1, b1⟩ := cross_eq (mv.good t.b) (mv.good t.c) hp
  obtain ⟨e2, b2⟩ := cross_eq (mv.good t.c) (mv.good t.a) hp
  obtain ⟨e3, b3⟩ := cross_eq (mv.good t.a) (mv.good t.b) hp
  have l1 := mv.lev t.a
  have l2 := mv.lev t.b
  have l3 := mv.lev t.c
  have key : crossE (ndA m t.b).pt (ndA m t.c).pt p + crossE (ndA m t.c).pt (ndA m t.a).pt p + crossE (ndA m t.a).pt (ndA m t.b).pt p = crossE (ndA m t.a).pt (ndA m t.b).pt (ndA m t.c).pt := by
    unfold crossE
    grind
  have hd : dbl m t = crossE (ndA m t.a).pt (ndA m t.b).pt (ndA m t.c).pt := e0
  have u1 : wU m t p = crossE (ndA m t.b).pt (ndA m t.c).pt p := e1
  have u2 : wV m t p = crossE (ndA m t.c).pt (ndA m t.a).pt p := e2
  have u3 : wW m t p = crossE (ndA m t.a).pt (ndA m t.b).pt p := e3
  have m1 := mul_le_of (a := wU m t p) (b := (ndA m t.a).lv) (A := 8000000000000) (B := 20000) (by omega) (by omega) (by omega) (by omega)
  have m2 := mul_le_of (a := wV m t p) (b := (ndA m t.b).lv) (A := 8000000000000) (B := 20000) (by omega) (by omega) (by omega) (by omega)
  have m3 := mul_le_of (a := wW m t p) (b := (ndA m t.c).lv) (A := 8000000000000) (B := 20000) (by omega) (by omega) (by omega) (by omega)
  constructor
  · unfold numT
    rw [w64_of (n := wU m t p * _) (by omega) (by omega), w64_of (n := wV m t p * _) (by omega) (by omega), w64_of (n := wW m t p * _) (by omega) (by omega), w64_of (n := wU m t p * _ + _) (by omega) (by omega), w64_of (by omega) (by omega)]
    omega
  · unfold denT
    rw [w64_of (n := wU m t p + _) (by omega) (by omega), w64_of (by omega) (by omega)]
    omega
theorem mm_in {m : Mesh} {t : Tr} {p : Pt} : decide (mm false (mm false (wU m t p) (wV m t p)) (wW m t p) ≥ 0) = inT m t p := by
  unfold inT mm
  rw [Bool.eq_iff_iff]
  simp only [Bool.and_eq_true, decide_eq_true_eq]
  constructor
  · intro h
    split at h <;> split at h <;> omega
  · intro h
    split <;> split <;> omega
abbrev rLev (o : Option (Int × Int)) : AV := match o with
  | some f => .t [.g [.d (dI f.1), .d (dI f.2)], .s (.d (dI 0))]
  | none => .t [.g [.d (dI 0), .d (dI 0)], .s (.d (dI 11))]
def mlevG (m : Mesh) (p : Pt) : (Int × Int) × Int := bif errM m != 0 then ((0, 0), errM m) else bif !good p then ((0, 0), 11) else match levT m p m.tris with
  | some f => (f, 0)
  | none => ((0, 0), 11)
attribute [local irreducible] errM lowF in
theorem bMeshLevel (m : Mesh) (p : Pt) (hm : m.ok) : CallP Try.prog 64 [mesh m, pt p] (.t [.g [.d (dI (mlevG m p).1.1), .d (dI (mlevG m p).1.2)], .s (.d (dI (mlevG m p).2))]) := by
  have hm2 := hm.tris
  refine callP_of_ex (rc := []) (N := 95) Try.func64 rfl rfl Try.call64 tab_ok mix rfl rfl (fun cx href => ?_)
  refine callN (bCheckMesh m hm) ?_
  unfold mlevG
  refine And.intro (fun h => ?_) (fun h => ?_)
  · have h : (errM m != 0) = true := h
    rw [h]; exact SubR.refl _
  have h : (errM m != 0) = false := h
  rw [h, cond_false]
  have mv := MVal.of (show errM m = 0 by simpa using h)
  have hk := mv.k
  refine callN (inRange p) ?_
  refine And.intro (fun h => ?_) (fun h => ?_)
  · have h : (!good p) = true := h
    rw [h]; exact SubR.refl _
  have h : (!good p) = false := h
  rw [h, cond_false]
  have hp : good p = true := by simpa using h
  refine AW.loopI (fun i : Nat => ⟨[(2, .s (.ptr 2 0)), (3, .s (.ptr 3 0)), (4, .s (.ptr 4 0)), (26, .s (.d (dTrs m.tris))), (27, vI m.tris.length), (28, vI i)], [(2, some (meshB m)), (3, some (.cells [.d (dI p.x), .d (dI p.y)])), (4, some (.cells [.d (dI 0), .d (dI 0)]))]⟩) (fun i => i ≤ m.tris.length ∧ levT m p m.tris = levT m p (m.tris.drop i)) (fun i => m.tris.length - i) 0 ⟨Nat.zero_le _, rfl⟩ ?_ ?_
  · exact SubI.of0 href [] rfl ⟨⟨rfl, LeBx.rfl⟩, ⟨rfl, LeBx.rfl⟩, ⟨rfl, LeBx.rfl⟩, trivial⟩ ⟨⟨rfl, LeQ.rfl⟩, ⟨rfl, LeQ.rfl⟩, ⟨rfl, LeQ.rfl⟩, ⟨rfl, LeQ.rfl⟩, ⟨rfl, LeQ.rfl⟩, ⟨rfl, LeQ.rfl⟩, trivial⟩
  · rintro i ⟨hi, he⟩
    refine ex.sound (rc := []) tab_ok mix href _ ?_
    refine And.intro (fun h4 => ?_) (fun h4 => ?_)
    · have h4 : (i : Int) < m.tris.length := decT h4
      have hi' : i < m.tris.length := by omega
      have hg0 : m.tris.getD i default = m.tris[i] := getD_of hi'
      rw [List.drop_eq_getElem_cons hi', levT, ← hg0] at he
      obtain ⟨⟨ia, ib, ic⟩, _⟩ := mv.tri i hi'
      obtain ⟨dn, dd⟩ := den_ok mv hi' hp
      refine oi ⟨by omega, by omega⟩ ?_
      refine oi ia ?_
      refine oi ib ?_
      refine oi ic ?_
      refine And.intro (by kernel_rfl) ?_
      refine callN (bplace (ndA m (m.tris.getD i default).b)) ?_
      refine callN (bplace (ndA m (m.tris.getD i default).c)) ?_
      refine callN (bCross _ _ p (mv.good _) (mv.good _) hp) ?_
      refine callN (bplace (ndA m (m.tris.getD i default).c)) ?_
      refine callN (bplace (ndA m (m.tris.getD i default).a)) ?_
      refine callN (bCross _ _ p (mv.good _) (mv.good _) hp) ?_
      refine callN (bplace (ndA m (m.tris.getD i default).a)) ?_
      refine callN (bplace (ndA m (m.tris.getD i default).b)) ?_
      refine callN (bCross _ _ p (mv.good _) (mv.good _) hp) ?_
      refine And.intro (by kernel_rfl) ?_
      refine And.intro (fun h5 => ?_) (fun h5 => ?_)
      · have h5 : inT m (m.tris.getD i default) p = true := mm_in ▸ h5
        rw [h5, cond_true] at he
        refine callN (blowest (numT m (m.tris.getD i default) p) (denT m (m.tris.getD i default) p) dn dd) ?_
        rw [he]
        exact SubR.refl _
      · have h5 : inT m (m.tris.getD i default) p = false := mm_in ▸ h5
        rw [h5, cond_false] at he
        refine ⟨i + 1, ⟨by omega, he⟩, by omega, ?_⟩
        exact SubI.of0 href [] rfl ⟨⟨rfl, LeBx.rfl⟩, ⟨rfl, LeBx.rfl⟩, ⟨rfl, LeBx.rfl⟩, trivial⟩ ⟨⟨rfl, LeQ.rfl⟩, ⟨rfl, LeQ.rfl⟩, ⟨rfl, LeQ.rfl⟩, ⟨rfl, LeQ.rfl⟩, ⟨rfl, LeQ.rfl⟩, ⟨rfl, LeQ.int (w64_of (by omega) (by omega))⟩, trivial⟩
    · have h4 : ¬ (i : Int) < m.tris.length := decF h4
      obtain rfl : i = m.tris.length := by omega
      rw [he, List.drop_length]
      exact SubR.refl _
theorem LeD.lit {b : Bool} : LeD (.lit b) (.val (.bool b)) := fun _ _ r => r
def rlevG (m : Mesh) (p : Pt) : (Int × Int) × Bool := match levT m p m.tris with
  | some f => (f, true)
  | none => ((0, 0), false)
attribute [local irreducible] errM lowF in
theorem rMeshLevel (m : Mesh) (p : Pt) (mv : MVal m) (hp : good p = true) : CallP Try.prog 68 [mesh m, pt p] (.t [.g [.d (dI (rlevG m p).1.1), .d (dI (rlevG m p).1.2)], .s (.d (.val (.bool (rlevG m p).2)))]) := by
  have hk := mv.k
  refine callP_of_ex (rc := []) (N := 93) Try.func68 rfl rfl Try.call68 tab_ok mix rfl rfl (fun cx href => ?_)
  unfold rlevG
  refine AW.loopI (fun i : Nat => ⟨[(2, .s (.ptr 2 0)), (3, .s (.ptr 3 0)), (4, .s (.ptr 4 0)), (6, vI i)], [(2, some (meshB m)), (3, some (.cells [.d (dI p.x), .d (dI p.y)])), (4, some (.cells [.d (dI 0), .d (dI 0)]))]⟩) (fun i => i ≤ m.tris.length ∧ levT m p m.tris = levT m p (m.tris.drop i)) (fun i => m.tris.length - i) 0 ⟨Nat.zero_le _, rfl⟩ ?_ ?_
  · exact SubI.of0 href [] rfl ⟨⟨rfl, LeBx.rfl⟩, ⟨rfl, LeBx.rfl⟩, ⟨rfl, LeBx.rfl⟩, trivial⟩ ⟨⟨rfl, LeQ.rfl⟩, ⟨rfl, LeQ.rfl⟩, ⟨rfl, LeQ.rfl⟩, ⟨rfl, LeQ.rfl⟩, trivial⟩
  · rintro i ⟨hi, he⟩
    refine ex.sound (rc := []) tab_ok mix href _ ?_
    refine And.intro (fun h4 => ?_) (fun h4 => ?_)
    · have h4 : (i : Int) < m.tris.length := decT h4
      have hi' : i < m.tris.length := by omega
      have hg0 : m.tris.getD i default = m.tris[i] := getD_of hi'
      rw [List.drop_eq_getElem_cons hi', levT, ← hg0] at he
      obtain ⟨⟨ia, ib, ic⟩, _⟩ := mv.tri i hi'
      obtain ⟨dn, dd⟩ := den_ok mv hi' hp
      refine oi ⟨by omega, by omega⟩ ?_
      refine oi ia ?_
      refine oi ib ?_
      refine oi ic ?_
      refine And.intro (by kernel_rfl) ?_
      refine callN (rplace (ndA m (m.tris.getD i default).b)) ?_
      refine callN (rplace (ndA m (m.tris.getD i default).c)) ?_
      refine callN (rcross _ _ p) ?_
      refine callN (rplace (ndA m (m.tris.getD i default).c)) ?_
      refine callN (rplace (ndA m (m.tris.getD i default).a)) ?_
      refine callN (rcross _ _ p) ?_
      refine callN (rplace (ndA m (m.tris.getD i default).a)) ?_
      refine callN (rplace (ndA m (m.tris.getD i default).b)) ?_
      refine callN (rcross _ _ p) ?_
      refine And.intro (by kernel_rfl) ?_
      repeat first | refine sk ?_ | refine st ?_ | refine sg ?_ | refine sh ?_ | refine su ?_ | refine sn1 ?_ | refine sn0 ?_
      refine And.intro (fun h5 => ?_) (fun h5 => ?_)
      · have h5 : inT m (m.tris.getD i default) p = true := h5
        rw [h5, cond_true] at he
        refine callN (rLowest (numT m (m.tris.getD i default) p) (denT m (m.tris.getD i default) p) dn dd) ?_
        rw [he]
        exact SubR.t ⟨⟨LeD.refl _, LeD.refl _, trivial⟩, LeD.lit, trivial⟩
      · have h5 : inT m (m.tris.getD i default) p = false := h5
        rw [h5, cond_false] at he
        refine ⟨i + 1, ⟨by omega, he⟩, by omega, ?_⟩
        exact SubI.of0 href [] rfl ⟨⟨rfl, LeBx.rfl⟩, ⟨rfl, LeBx.rfl⟩, ⟨rfl, LeBx.rfl⟩, trivial⟩ ⟨⟨rfl, LeQ.rfl⟩, ⟨rfl, LeQ.rfl⟩, ⟨rfl, LeQ.rfl⟩, ⟨rfl, LeQ.int (w64_of (by omega) (by omega))⟩, trivial⟩
    · have h4 : ¬ (i : Int) < m.tris.length := decF h4
      obtain rfl : i = m.tris.length := by omega
      rw [he, List.drop_length]
      exact SubR.t ⟨⟨LeD.refl _, LeD.refl _, trivial⟩, LeD.lit, trivial⟩

def volS (m : Mesh) (lv : Int) (s : Int) (t : Tr) : Int := w64 (s + w64 (dbl m t * w64 (w64 (w64 ((ndA m t.a).lv + (ndA m t.b).lv) + (ndA m t.c).lv) - w64 (3 * lv))))
def volF (m : Mesh) (lv : Int) : Nat → Int
  | 0 => 0
  | i + 1 => volS m lv (volF m lv i) (m.tris.getD i default)
def mvolG (m : Mesh) (lv : Int) : Int × Int := bif errM m != 0 then (0, errM m) else bif !within lv (-20000) 20000 then (0, 2) else (volF m lv m.tris.length, 0)
attribute [local irreducible] errM in
theorem bMeshVolume (m : Mesh) (lv : Int) (hm : m.ok) : CallP Try.prog 65 [mesh m, vI lv] (.t [.s (.d (dI (mvolG m lv).1)), .s (.d (dI (mvolG m lv).2))]) := by
  have hm2 := hm.tris
  refine callP_of_ex (rc := []) (N := 59) Try.func65 rfl rfl Try.call65 tab_ok mix rfl rfl (fun cx href => ?_)
  refine callN (bCheckMesh m hm) ?_
  unfold mvolG
  refine And.intro (fun h => ?_) (fun h => ?_)
  · have h : (errM m != 0) = true := h
    rw [h]; exact SubR.refl _
  have h : (errM m != 0) = false := h
  rw [h, cond_false]
  have mv := MVal.of (show errM m = 0 by simpa using h)
  have hk := mv.k
  refine callN (isLevel lv) ?_
  refine And.intro (fun h => ?_) (fun h => ?_)
  · have h : (!within lv (-20000) 20000) = true := h
    rw [h]; exact SubR.refl _
  have h : (!within lv (-20000) 20000) = false := h
  rw [h, cond_false]
  refine AW.loopI (fun i : Nat => ⟨[(1, vI lv), (2, .s (.ptr 2 0)), (7, vI (volF m lv i)), (19, .s (.d (dTrs m.tris))), (20, vI m.tris.length), (21, vI i)], [(2, some (meshB m))]⟩) (fun i => i ≤ m.tris.length) (fun i => m.tris.length - i) 0 (Nat.zero_le _) ?_ ?_
  · exact SubI.of0 href [] rfl ⟨⟨rfl, LeBx.rfl⟩, trivial⟩ ⟨⟨rfl, LeQ.rfl⟩, ⟨rfl, LeQ.rfl⟩, ⟨rfl, LeQ.rfl⟩, ⟨rfl, LeQ.rfl⟩, ⟨rfl, LeQ.rfl⟩, ⟨rfl, LeQ.rfl⟩, trivial⟩
  · intro i hi
    refine ex.sound (rc := []) tab_ok mix href _ ?_
    refine And.intro (fun h4 => ?_) (fun h4 => ?_)
    · have h4 : (i : Int) < m.tris.length := decT h4
      have hi' : i < m.tris.length := by omega
      obtain ⟨⟨ia, ib, ic⟩, _⟩ := mv.tri i hi'
      refine oi ⟨by omega, by omega⟩ ?_
      refine callN (bdouble m (m.tris.getD i default) ⟨ia, ib, ic⟩ mv.good) ?_
      refine oi ia ?_
      refine oi ib ?_
      refine oi ic ?_
      refine And.intro (by kernel_rfl) ?_
      refine ⟨i + 1, by omega, by omega, ?_⟩
      exact SubI.of0 href [] rfl ⟨⟨rfl, LeBx.rfl⟩, trivial⟩ ⟨⟨rfl, LeQ.rfl⟩, ⟨rfl, LeQ.rfl⟩, ⟨rfl, LeQ.int rfl⟩, ⟨rfl, LeQ.rfl⟩, ⟨rfl, LeQ.rfl⟩, ⟨rfl, LeQ.int (w64_of (by omega) (by omega))⟩, trivial⟩
    · have h4 : ¬ (i : Int) < m.tris.length := decF h4
      obtain rfl : i = m.tris.length := by omega
      exact SubR.refl _
theorem rMeshVolume (m : Mesh) (lv : Int) (mv : MVal m) : CallP Try.prog 69 [mesh m, vI lv] (vI (volF m lv m.tris.length)) := by
  have hk := mv.k
  refine callP_of_ex (rc := []) (N := 53) Try.func69 rfl rfl Try.call69 tab_ok mix rfl rfl (fun cx href => ?_)
  refine AW.loopI (fun i : Nat => ⟨[(1, vI lv), (2, .s (.ptr 2 0)), (5, vI (volF m lv i)), (6, vI i)], [(2, some (meshB m))]⟩) (fun i => i ≤ m.tris.length) (fun i => m.tris.length - i) 0 (Nat.zero_le _) ?_ ?_
  · exact SubI.of0 href [] rfl ⟨⟨rfl, LeBx.rfl⟩, trivial⟩ ⟨⟨rfl, LeQ.rfl⟩, ⟨rfl, LeQ.rfl⟩, ⟨rfl, LeQ.rfl⟩, ⟨rfl, LeQ.rfl⟩, trivial⟩
  · intro i hi
    refine ex.sound (rc := []) tab_ok mix href _ ?_
    refine And.intro (fun h4 => ?_) (fun h4 => ?_)
    · have h4 : (i : Int) < m.tris.length := decT h4
      have hi' : i < m.tris.length := by omega
      obtain ⟨⟨ia, ib, ic⟩, _⟩ := mv.tri i hi'
      refine oi ⟨by omega, by omega⟩ ?_
      refine callN (rDouble m (m.tris.getD i default) ⟨ia, ib, ic⟩) ?_
      refine oi ia ?_
      refine oi ib ?_
      refine oi ic ?_
      refine And.intro (by kernel_rfl) ?_
      refine ⟨i + 1, by omega, by omega, ?_⟩
      exact SubI.of0 href [] rfl ⟨⟨rfl, LeBx.rfl⟩, trivial⟩ ⟨⟨rfl, LeQ.rfl⟩, ⟨rfl, LeQ.rfl⟩, ⟨rfl, LeQ.int rfl⟩, ⟨rfl, LeQ.int (w64_of (by omega) (by omega))⟩, trivial⟩
    · have h4 : ¬ (i : Int) < m.tris.length := decF h4
      obtain rfl : i = m.tris.length := by omega
      exact SubR.refl _
end Go.Ch
