/- Part 7: lemmas that the proofs of this seat share; by itself it claims nothing. -/
import Derived.RangeFuncRecord
import Derived.RangeFuncSeq
import Derived.WalkKit
import Derived.OwnWalkIn
import Derived.TacticsInMore
import Derived.LoopIn
import Derived.BigRegionIn
import Derived.Test.YtphelnpanihmiaaGreatDoorPt6
/- channel.extend. -/
namespace Go.Ch
open Go Go.Ax Go.Proofs Go.Proofs.Tryz
set_option maxRecDepth 100000
set_option pp.maxSteps 400
set_option maxHeartbeats 4000000

abbrev nilV : SV := .d (.val (.slice none 0 0))
abbrev eA (d : Chan) (x : Nat) : SV := match d.axis with | [] => nilV | _ :: _ => .own x
abbrev eR (d : Chan) (x : Nat) : SV := match d.regions with | [] => nilV | _ :: _ => .own x
abbrev rowA (d : Chan) : Box := .row 98 d.axis.length 5 (apEl d.axis)
abbrev rowR (d : Chan) : Box := .row 90 d.regions.length 3 (regEl d.regions)
abbrev bA (d : Chan) (x : Nat) : BoxL := match d.axis with | [] => [] | _ :: _ => [(x, rowA d)]
abbrev bR (d : Chan) (x : Nat) : BoxL := match d.regions with | [] => [] | _ :: _ => [(x, rowR d)]
abbrev bxE (d : Chan) : BoxL := (0, .cells [.d (dS d.name), eA d 1, .d (dI d.over), .d (dI d.buffer), eR d 2]) :: (bA d 1 ++ bR d 2)
abbrev bxA (d : Chan) : BoxL := [(0, .cells [.d (dS d.name), .own 3, .d (dI d.over), .d (dI d.buffer), nilV]), (3, rowA d)]
abbrev bxR (d : Chan) : BoxL := (0, .cells [.d (dS d.name), eA d 1, .d (dI d.over), .d (dI d.buffer), .own 4]) :: (4, rowR d) :: bA d 1
abbrev mBox (d : Chan) : Box := .cells [.d (dS d.name), .mo d.axis.isEmpty 1, .d (dI d.over), .d (dI d.buffer), .mo d.regions.isEmpty 2]
abbrev stU (i : Nat) (s : List UInt8) (d : Chan) : St := ⟨[(0, .s (.ptr 0 0)), (1, vI i), (2, vT s)], [(0, some (mBox d)), (1, some (axR d)), (2, some (rgR d))]⟩
theorem toU {cx : Cx} {N i : Nat} {s : List UInt8} {d : Chan} (href : cx.ref = names (bxE d)) : SubI cx N (initR [.s (.ptr 0 0), vI i, vT s] (bxE d)) (stU i s d) := by
  obtain ⟨n, ax, o, b, rg⟩ := d
  cases ax <;> cases rg <;> refine SubI.of [] (by rw [href]; rfl) rfl ⟨⟨rfl, LeBx.cells ⟨LeQ.rfl, ?_, LeQ.rfl, LeQ.rfl, ?_, trivial⟩⟩, ⟨rfl, ?_⟩, ⟨rfl, ?_⟩, trivial⟩ ⟨⟨rfl, LeQ.rfl⟩, ⟨rfl, LeQ.rfl⟩, ⟨rfl, LeQ.rfl⟩, trivial⟩ <;>
    first | exact LeQ.nil rfl | exact LeQ.mo rfl | exact LeBx.mrow rfl (fun _ _ _ _ => LeD.refl _) | rfl
theorem all_sub {ref : List Nat} {p : Nat → Bool} (h : ∀ x, x ∈ ref → x = 0 ∨ x = 1 ∨ x = 2) (h0 : p 0 = true) (h1 : p 1 = true) (h2 : p 2 = true) : ref.all p = true := by
  rw [List.all_eq_true]
  intro x hx
  rcases h x hx with rfl | rfl | rfl <;> assumption
theorem LeQ.unmo {x : Nat} {z : Bool} (h : z = false) : LeQ (.s (.mo z x)) (.s (.own x)) := fun _ _ _ r => r.2 h
theorem b1_of {ren : List (Nat × Nat)} {bx : Boxes} {b b0 : Box} {x : Nat} (h : getB bx x = some (some b0)) (k : LeBx b0 (renB ren b)) : boxQ1 ren b (getB bx x) := by rw [h]; exact k
/-- Back from the uniform boxes. -/
theorem backE {cx : Cx} {N : Nat} {d : Chan} {E : List (Nat × AV)} {bx : Boxes} {b : Bool} (href : ∀ x, x ∈ cx.ref → x = 0 ∨ x = 1 ∨ x = 2) (hv : LeQ (getE E 6) (vB b)) (h0 : getB bx 0 = some (some (mBox d))) (h1 : getB bx 1 = some (some (axR d))) (h2 : getB bx 2 = some (some (rgR d))) :
    ∃ bx2, SubM cx N ⟨E, bx⟩ ⟨[(6, vB b)], bx2⟩ ∧ holdB bx2 (bxE d) := by
  obtain ⟨n, ax, o, f, rg⟩ := d
  cases ax with
  | nil =>
    cases rg with
    | nil =>
      refine ⟨[(0, some (.cells [.d (dS n), nilV, .d (dI o), .d (dI f), nilV])), (1, none), (2, none)], SubM.of_subI (SubI.of [] (all_sub href rfl rfl rfl) rfl ⟨⟨rfl, b1_of h0 (LeBx.cells ⟨LeQ.rfl, LeQ.toNil rfl, LeQ.rfl, LeQ.rfl, LeQ.toNil rfl, trivial⟩)⟩, trivial⟩ ⟨⟨rfl, hv⟩, trivial⟩), rfl, trivial⟩
    | cons r t =>
      refine ⟨[(0, some (.cells [.d (dS n), nilV, .d (dI o), .d (dI f), .own 2])), (1, none), (2, some (rowR ⟨n, [], o, f, r :: t⟩))], SubM.of_subI (SubI.trans (SubI.ownC 0 4 2 h0 rfl rfl h2) (SubI.of [] (all_sub href rfl rfl rfl) rfl ⟨⟨rfl, b1_of h0 (LeBx.cells ⟨LeQ.rfl, LeQ.toNil rfl, LeQ.rfl, LeQ.rfl, LeQ.unmo rfl, trivial⟩)⟩, ⟨rfl, LeBx.rfl⟩, trivial⟩ ⟨⟨rfl, hv⟩, trivial⟩)), rfl, rfl, trivial⟩
  | cons a u =>
    cases rg with
    | nil =>
      refine ⟨[(0, some (.cells [.d (dS n), .own 1, .d (dI o), .d (dI f), nilV])), (1, some (rowA ⟨n, a :: u, o, f, []⟩)), (2, none)], SubM.of_subI (SubI.trans (SubI.ownC 0 1 1 h0 rfl rfl h1) (SubI.of [] (all_sub href rfl rfl rfl) rfl ⟨⟨rfl, b1_of h0 (LeBx.cells ⟨LeQ.rfl, LeQ.unmo rfl, LeQ.rfl, LeQ.rfl, LeQ.toNil rfl, trivial⟩)⟩, ⟨rfl, LeBx.rfl⟩, trivial⟩ ⟨⟨rfl, hv⟩, trivial⟩)), rfl, rfl, trivial⟩
    | cons r t =>
      refine ⟨[(0, some (.cells [.d (dS n), .own 1, .d (dI o), .d (dI f), .own 2])), (1, some (rowA ⟨n, a :: u, o, f, r :: t⟩)), (2, some (rowR ⟨n, a :: u, o, f, r :: t⟩))], SubM.of_subI (SubI.trans (SubI.ownC 0 1 1 h0 rfl rfl h1) (SubI.trans (SubI.ownC (σ := ⟨E, (1, some (rowA ⟨n, a :: u, o, f, r :: t⟩)) :: bx⟩) 0 4 2 h0 rfl rfl h2) (SubI.of [] (all_sub href rfl rfl rfl) rfl ⟨⟨rfl, b1_of h0 (LeBx.cells ⟨LeQ.rfl, LeQ.unmo rfl, LeQ.rfl, LeQ.rfl, LeQ.unmo rfl, trivial⟩)⟩, ⟨rfl, LeBx.rfl⟩, ⟨rfl, LeBx.rfl⟩, trivial⟩ ⟨⟨rfl, hv⟩, trivial⟩))), rfl, rfl, rfl, trivial⟩
theorem backA {cx : Cx} {N y : Nat} {d e : Chan} {E : List (Nat × AV)} {bx : Boxes} {B : Box} {b : Bool} (href : ∀ x, x ∈ cx.ref → x = 0 ∨ x = 1 ∨ x = 2) (hy : y = 69) (hr : d.regions = []) (hv : LeQ (getE E 6) (vB b))
    (h0 : getB bx 0 = some (some (.cells [.d (dS e.name), .own y, .d (dI e.over), .d (dI e.buffer), .mo d.regions.isEmpty 2]))) (h3 : getB bx y = some (some B)) (hB : LeBx B (rowA e)) :
    ∃ bx2, SubM cx N ⟨E, bx⟩ ⟨[(6, vB b)], bx2⟩ ∧ holdB bx2 (bxA e) := by
  subst hy
  exact ⟨[(0, some (.cells [.d (dS e.name), .own 3, .d (dI e.over), .d (dI e.buffer), nilV])), (3, some (rowA e)), (1, none), (2, none)],
    SubM.of_subI (SubI.of [(3, 69)] (all_sub href rfl rfl rfl) rfl ⟨⟨rfl, b1_of h0 (LeBx.cells ⟨LeQ.rfl, LeQ.rfl, LeQ.rfl, LeQ.rfl, LeQ.toNil (by rw [hr]; rfl), trivial⟩)⟩, ⟨rfl, b1_of h3 hB⟩, trivial⟩ ⟨⟨rfl, hv⟩, trivial⟩), rfl, rfl, trivial⟩
theorem backR {cx : Cx} {N y : Nat} {d e : Chan} {E : List (Nat × AV)} {bx : Boxes} {B : Box} {b : Bool} (href : ∀ x, x ∈ cx.ref → x = 0 ∨ x = 1 ∨ x = 2) (hy : y = 168) (ha : e.axis = d.axis) (hv : LeQ (getE E 6) (vB b))
    (h0 : getB bx 0 = some (some (.cells [.d (dS e.name), .mo d.axis.isEmpty 1, .d (dI e.over), .d (dI e.buffer), .own y]))) (h1 : getB bx 1 = some (some (axR d))) (h3 : getB bx y = some (some B)) (hB : LeBx B (rowR e)) :
    ∃ bx2, SubM cx N ⟨E, bx⟩ ⟨[(6, vB b)], bx2⟩ ∧ holdB bx2 (bxR e) := by
  subst hy
  obtain ⟨n, ax, o, f, rg⟩ := d
  obtain ⟨n', ax', o', f', rg'⟩ := e
  simp only at ha
  subst ha
  cases ax' with
  | nil =>
    exact ⟨[(0, some (.cells [.d (dS n'), nilV, .d (dI o'), .d (dI f'), .own 4])), (4, some (rowR ⟨n', [], o', f', rg'⟩)), (1, none), (2, none)],
      SubM.of_subI (SubI.of [(4, 168)] (all_sub href rfl rfl rfl) rfl ⟨⟨rfl, b1_of h0 (LeBx.cells ⟨LeQ.rfl, LeQ.toNil rfl, LeQ.rfl, LeQ.rfl, LeQ.rfl, trivial⟩)⟩, ⟨rfl, b1_of h3 hB⟩, trivial⟩ ⟨⟨rfl, hv⟩, trivial⟩), rfl, rfl, trivial⟩
  | cons a u =>
    exact ⟨[(0, some (.cells [.d (dS n'), .own 1, .d (dI o'), .d (dI f'), .own 4])), (4, some (rowR ⟨n', a :: u, o', f', rg'⟩)), (1, some (rowA ⟨n', a :: u, o', f', rg'⟩)), (2, none)],
      SubM.of_subI (SubI.trans (SubI.ownC 0 1 1 h0 rfl rfl h1) (SubI.of [(4, 168)] (all_sub href rfl rfl rfl) rfl ⟨⟨rfl, b1_of h0 (LeBx.cells ⟨LeQ.rfl, LeQ.unmo rfl, LeQ.rfl, LeQ.rfl, LeQ.rfl, trivial⟩)⟩, ⟨rfl, b1_of h3 hB⟩, ⟨rfl, LeBx.rfl⟩, trivial⟩ ⟨⟨rfl, hv⟩, trivial⟩)), rfl, rfl, rfl, trivial⟩

def kindS (i : Nat) (d : Chan) (W : List (List UInt8)) : Nat := bif (stepL i d W).isNone then 0 else bif i == 0 then 1 else bif W.getD 0 [] == axW && d.regions.isEmpty then 2 else 3
def outB (i : Nat) (d : Chan) (W : List (List UInt8)) : BoxL := match kindS i d W, stepL i d W with
  | 0, _ => bxE d
  | 1, some e => bxE e
  | 2, some e => bxA e
  | _, some e => bxR e
  | _, none => bxE d
theorem kind0 {i : Nat} {d : Chan} {W : List (List UInt8)} (h : stepL i d W = none) : outB i d W = bxE d := by unfold outB kindS; rw [h]; rfl
theorem kind1 {d e : Chan} {W : List (List UInt8)} (h : stepL 0 d W = some e) : outB 0 d W = bxE e := by unfold outB kindS; rw [h]; rfl
theorem kind2 {i : Nat} {d e : Chan} {W : List (List UInt8)} (h : stepL i d W = some e) (hi : i ≠ 0) (h2 : (W.getD 0 [] == axW && d.regions.isEmpty) = true) : outB i d W = bxA e := by
  have h0 : (i == 0) = false := by rw [beq_eq_false_iff_ne]; exact hi
  unfold outB kindS; rw [h, h0, h2]; rfl
theorem kind3 {i : Nat} {d e : Chan} {W : List (List UInt8)} (h : stepL i d W = some e) (hi : i ≠ 0) (h2 : (W.getD 0 [] == axW && d.regions.isEmpty) = false) : outB i d W = bxR e := by
  have h0 : (i == 0) = false := by rw [beq_eq_false_iff_ne]; exact hi
  unfold outB kindS; rw [h, h0, h2]; rfl
abbrev Kx (cx : Cx) (i : Nat) (d : Chan) (W : List (List UInt8)) : Exit → St → Prop := retQR cx 171 tab [.tmp 6] (vB (stepL i d W).isSome) (outB i d W)
theorem leaf0 {cx : Cx} {i : Nat} {d : Chan} {W : List (List UInt8)} {σ : St} (href : ∀ x, x ∈ cx.ref → x = 0 ∨ x = 1 ∨ x = 2) (h : stepL i d W = none) (hv : LeQ (getE σ.env 6) (vB false)) (h0 : getB σ.box 0 = some (some (mBox d))) (h1 : getB σ.box 1 = some (some (axR d))) (h2 : getB σ.box 2 = some (some (rgR d))) : Kx cx i d W .ret σ := by
  obtain ⟨bx2, q1, q2⟩ := backE (N := 171) href hv h0 h1 h2
  refine ⟨.inl rfl, _, _, q1, rfl, ?_, ?_⟩
  · rw [h]; exact LeQ.rfl
  · rw [kind0 h]; exact q2
theorem leaf1 {cx : Cx} {d e : Chan} {W : List (List UInt8)} {σ : St} (href : ∀ x, x ∈ cx.ref → x = 0 ∨ x = 1 ∨ x = 2) (h : stepL 0 d W = some e) (hv : LeQ (getE σ.env 6) (vB true)) (h0 : getB σ.box 0 = some (some (mBox e))) (h1 : getB σ.box 1 = some (some (axR e))) (h2 : getB σ.box 2 = some (some (rgR e))) : Kx cx 0 d W .ret σ := by
  obtain ⟨bx2, q1, q2⟩ := backE (N := 171) href hv h0 h1 h2
  refine ⟨.inl rfl, _, _, q1, rfl, ?_, ?_⟩
  · rw [h]; exact LeQ.rfl
  · rw [kind1 h]; exact q2
theorem leaf2 {cx : Cx} {i : Nat} {d e : Chan} {W : List (List UInt8)} {σ : St} {B : Box} (href : ∀ x, x ∈ cx.ref → x = 0 ∨ x = 1 ∨ x = 2) (h : stepL i d W = some e) (hi : i ≠ 0) (hc : (W.getD 0 [] == axW && d.regions.isEmpty) = true) (hv : LeQ (getE σ.env 6) (vB true))
    (h0 : getB σ.box 0 = some (some (.cells [.d (dS e.name), .own 69, .d (dI e.over), .d (dI e.buffer), .mo d.regions.isEmpty 2]))) (h3 : getB σ.box 69 = some (some B)) (hB : LeBx B (rowA e)) : Kx cx i d W .ret σ := by
  obtain ⟨bx2, q1, q2⟩ := backA (N := 171) href rfl (by simp only [Bool.and_eq_true, List.isEmpty_iff] at hc; exact hc.2) hv h0 h3 hB
  refine ⟨.inl rfl, _, _, q1, rfl, ?_, ?_⟩
  · rw [h]; exact LeQ.rfl
  · rw [kind2 h hi hc]; exact q2
theorem leaf3 {cx : Cx} {i : Nat} {d e : Chan} {W : List (List UInt8)} {σ : St} {B : Box} (href : ∀ x, x ∈ cx.ref → x = 0 ∨ x = 1 ∨ x = 2) (h : stepL i d W = some e) (hi : i ≠ 0) (hc : (W.getD 0 [] == axW && d.regions.isEmpty) = false) (ha : e.axis = d.axis) (hv : LeQ (getE σ.env 6) (vB true))
    (h0 : getB σ.box 0 = some (some (.cells [.d (dS e.name), .mo d.axis.isEmpty 1, .d (dI e.over), .d (dI e.buffer), .own 168]))) (h1 : getB σ.box 1 = some (some (axR d))) (h3 : getB σ.box 168 = some (some B)) (hB : LeBx B (rowR e)) : Kx cx i d W .ret σ := by
  obtain ⟨bx2, q1, q2⟩ := backR (N := 171) href rfl ha hv h0 h1 h3 hB
  refine ⟨.inl rfl, _, _, q1, rfl, ?_, ?_⟩
  · rw [h]; exact LeQ.rfl
  · rw [kind3 h hi hc]; exact q2
theorem outB_real (i : Nat) (d : Chan) (W : List (List UInt8)) : ((outB i d W).all fun p => p.2.real) = true := by
  have hE : ∀ d : Chan, ((bxE d).all fun p => p.2.real) = true := by
    rintro ⟨n, ax, o, f, rg⟩; cases ax <;> cases rg <;> rfl
  have hR : ∀ d : Chan, ((bxR d).all fun p => p.2.real) = true := by
    rintro ⟨n, ax, o, f, rg⟩; cases ax <;> rfl
  unfold outB
  split
  · exact hE _
  · exact hE _
  · rfl
  · exact hR _
  · exact hE _
theorem stepL_few {i : Nat} {d : Chan} {W : List (List UInt8)} (hax : ((W.getD 0 [] == axW && d.regions.isEmpty) && !(i == 0)) = false) (h : (decide (W.length < 3) || (W.getD 1 []).isEmpty) = true) : stepL i d W = none := by
  unfold stepL
  cases h0 : i == 0 with
  | true =>
    simp only [cond_true]
    have : (W.length == 4 && !(W.getD 1 []).isEmpty) = false := by
      cases hw : (W.getD 1 []).isEmpty with
      | true => simp
      | false => rw [hw] at h; simp at h; simp; omega
    rw [this]; simp
  | false =>
    rw [h0] at hax
    simp only [Bool.not_false, Bool.and_true] at hax
    rw [hax]
    simp only [cond_false]
    have : (decide (3 ≤ W.length) && (W.length % 2 == 1 && !(W.getD 1 []).isEmpty)) = false := by
      cases hw : (W.getD 1 []).isEmpty with
      | true => simp
      | false => rw [hw] at h; simp at h; simp; omega
    rw [this]; simp
theorem stepL_rest {i : Nat} {d : Chan} {W : List (List UInt8)} (hax : ((W.getD 0 [] == axW && d.regions.isEmpty) && !(i == 0)) = false) (h : (decide (W.length < 3) || (W.getD 1 []).isEmpty) = false) : stepL i d W = match numsP (W.drop 2) with
    | none => none
    | some n => bif i == 0 then (bif W.getD 0 [] == chanW && n.length == 2 then some { d with name := bs (W.getD 1 []), over := n.getD 0 0, buffer := n.getD 1 0 } else none)
      else bif W.getD 0 [] == regW && n.length % 2 == 1 then some { d with regions := d.regions ++ [regN (W.getD 1 []) n] } else none := by
  simp only [Bool.or_eq_false_iff, decide_eq_false_iff_not] at h
  obtain ⟨h1, h2⟩ := h
  have hl : ∀ n, numsP (W.drop 2) = some n → n.length + 2 = W.length := fun n hn => by have := numsP_len hn; rw [List.length_drop] at this; omega
  unfold stepL
  rw [h2]
  cases h0 : i == 0 with
  | true =>
    simp only [cond_true, Bool.not_false, Bool.and_true]
    cases hn : numsP (W.drop 2) with
    | none => cases W.getD 0 [] == chanW && W.length == 4 <;> rfl
    | some n =>
      have := hl n hn
      have e : (W.length == 4) = (n.length == 2) := by rw [Bool.eq_iff_iff, beq_iff_eq, beq_iff_eq]; omega
      rw [e]
  | false =>
    rw [h0] at hax
    simp only [Bool.not_false, Bool.and_true] at hax
    rw [hax, show decide (3 ≤ W.length) = true by simp; omega]
    simp only [cond_false, Bool.not_false, Bool.and_true, Bool.true_and]
    cases hn : numsP (W.drop 2) with
    | none => cases W.getD 0 [] == regW && W.length % 2 == 1 <;> rfl
    | some n =>
      have := hl n hn
      have e : (W.length % 2 == 1) = (n.length % 2 == 1) := by rw [Bool.eq_iff_iff, beq_iff_eq, beq_iff_eq]; omega
      rw [e]
theorem SubM.trans {cx : Cx} {N : Nat} {a b c : St} (h : SubM cx N a b) (k : SubM cx N b c) : SubM cx N a c := fun M β x w i =>
  let ⟨M1, β1, i1, g1⟩ := h M β x w i
  let ⟨M2, β2, i2, g2⟩ := k M1 β1 x w i1
  ⟨M2, β2, i2, g1.trans g2⟩
abbrev stL (d : Chan) (name : List UInt8) (n : List Int) (k : Nat) : St :=
  ⟨[(0, .s (.ptr 0 0)), (11, vInts n), (13, .s (.ptr 13 0)), (14, vI (1 + 2 * (k : Int)))],
   [(0, some (mBox d)), (1, some (axR d)), (2, some (rgR d)), (13, some (.cells [.d (dT name), .d (dI (n.getD 0 0)), .mo (cornN n k).isEmpty 100])), (100, some (.mrow 85 (cornN n k).length 2 (ptEl (cornN n k))))]⟩
abbrev stM (d : Chan) (r : Reg) : St :=
  ⟨[(0, .s (.ptr 0 0)), (13, .s (.ptr 13 0))], [(0, some (mBox d)), (1, some (axR d)), (2, some (rgR d)), (13, some (.cells [.d (dS r.name), .d (dI r.kind), .d (dPts r.corners)]))]⟩
theorem freezeL {cx : Cx} {d : Chan} {name : List UInt8} {n : List Int} {k : Nat} (href : ∀ x, x ∈ cx.ref → x = 0 ∨ x = 1 ∨ x = 2) : SubM cx 171 (stL d name n k) (stM d ⟨bs name, n.getD 0 0, cornN n k⟩) := by
  cases hc : cornN n k with
  | nil =>
    exact SubM.of_subI (SubI.of [] (all_sub href rfl rfl rfl) rfl ⟨⟨rfl, LeBx.rfl⟩, ⟨rfl, LeBx.rfl⟩, ⟨rfl, LeBx.rfl⟩, ⟨rfl, LeBx.cells ⟨LeQ.rfl, LeQ.rfl, fun M β v r => LeD.nil M v (LeQ.toNil (by rw [hc]; rfl) M β v r), trivial⟩⟩, trivial⟩ ⟨⟨rfl, LeQ.rfl⟩, ⟨rfl, LeQ.rfl⟩, trivial⟩)
  | cons p t =>
    have hz : (cornN n k).isEmpty = false := by rw [hc]; rfl
    rw [← hc]
    refine SubM.trans (SubM.of_subI (SubI.ownC 13 2 100 rfl rfl hz rfl)) ?_
    exact SubM.ofR [] [100] (all_sub href rfl rfl rfl) rfl rfl rfl ⟨⟨rfl, LeBxf.rfl⟩, ⟨rfl, LeBxf.rfl⟩, ⟨rfl, LeBxf.rfl⟩, ⟨rfl, LeBxf.cells ⟨LeQf.rfl, LeQf.rfl, LeQf.moOwn hz (by simp) rfl, trivial⟩⟩, trivial⟩ ⟨⟨rfl, LeQf.rfl⟩, ⟨rfl, LeQf.rfl⟩, trivial⟩
theorem extend (i : Nat) (d : Chan) (s : List UInt8) (hi : i ≤ 1000000) (hs : s.length ≤ 20000) (ps : PS 20001 i d) :
    CallR Tryz.prog 52 [.s (.ptr 0 0), vI i, vT s] (bxE d) (vB (stepL i d (cutL 32 s)).isSome) (outB i d (cutL 32 s)) := by
  refine callQR_of_aw (N := 171) (rs := [.tmp 6]) Tryz.func52 rfl rfl Tryz.call52 tab_ok rfl (outB_real _ _ _) rfl (fun cx href => AW.subI (toU href) ?_)
  have href : ∀ x, x ∈ cx.ref → x = 0 ∨ x = 1 ∨ x = 2 := by
    intro x hx
    rw [href] at hx
    obtain ⟨n, ax, o, f, rg⟩ := d
    cases ax <;> cases rg <;> simp [bA, bR, names] at hx <;> omega
  generalize hrf : cx.ref = ref
  obtain ⟨w1, w2⟩ := cutL_len 32 s
  have wel : ∀ w ∈ cutL 32 s, w.length ≤ 20000 := fun w h => by have := cutL_elem h; omega
  have hsp := splitD_cut s 32
  generalize hW : cutL 32 s = W at *
  have w3 := List.length_pos_iff.2 w1
  refine AW.seq (ex.sound (ref := ref) (rc := []) tab_ok mix hrf _ ?_)
  refine AW.seq (ex.sound (ref := ref) (rc := []) tab_ok mix hrf _ ?_)
  refine callN (Split s [32] (by omega) (by decide)) ?_
  rw [hsp]
  refine AW.seq (ex.sound (ref := ref) (rc := []) tab_ok mix hrf _ ?_)
  refine oi (show 0 ≤ (0 : Int) ∧ (0 : Int) < (W.length : Int) by omega) ?_
  have hI : decide ((i : Int) > 0) = !(i == 0) := by
    rw [Bool.eq_iff_iff]; simp; omega
  have hI2 : ((i : Int) == 0) = (i == 0) := by rw [Bool.eq_iff_iff, beq_iff_eq, beq_iff_eq]; omega
  have hrg : (((bif d.regions.isEmpty then 0 else d.regions.length : Nat) : Int) == 0) = d.regions.isEmpty := by
    cases d.regions with
    | nil => rfl
    | cons a t => rw [bif_len, List.isEmpty_cons, beq_eq_false_iff_ne]; simp only [List.length_cons]; omega
  refine AW.seq (ex.sound (ref := ref) (rc := []) tab_ok mix hrf _ ?_)
  repeat first | refine sk ?_ | refine st ?_ | refine sg ?_ | refine sh ?_ | refine su ?_ | refine sn1 ?_ | refine sn0 ?_ | refine And.intro (show imp none (gimp _ none) from trivial) ?_
  have hB : ∀ b, ((((bs (W.getD 0 [])).toList == (bs axW).toList) && decide ((i : Int) > 0)) && (((bif d.regions.isEmpty then 0 else d.regions.length : Nat) : Int) == 0)) = b → ((W.getD 0 [] == axW && d.regions.isEmpty) && !(i == 0)) = b := by
    intro b h
    rw [bs_toList, bs_toList, hI, hrg] at h
    rw [← h]
    cases W.getD 0 [] == axW <;> cases i == 0 <;> simp
  refine And.intro (fun h3 => ?_) (fun h3 => ?_)
  · have h3 := hB _ h3
    simp only [Bool.and_eq_true, Bool.not_eq_true'] at h3
    obtain ⟨h3a, h3b⟩ := h3
    have h3c : (W.getD 0 [] == axW && d.regions.isEmpty) = true := by simpa using h3a
    have hi0 : i ≠ 0 := by rwa [beq_eq_false_iff_ne] at h3b
    refine oi (show 0 ≤ (1 : Int) ∧ (1 : Int) ≤ (W.length : Int) ∧ (W.length : Int) ≤ (W.length : Int) by omega) ?_
    refine callN ((numbers (W.drop 1) (by rw [List.length_drop]; omega) (fun w hw => by have := wel w (List.mem_of_mem_drop hw); omega)).conv (args' := _) ⟨drop_conv (k := 1) (by omega), trivial⟩) ?_
    repeat first | refine sk ?_ | refine st ?_ | refine sg ?_ | refine sh ?_ | refine su ?_ | refine sn1 ?_ | refine sn0 ?_ | refine And.intro (show imp none (gimp _ none) from trivial) ?_
    have hS : ∀ b, ((!(numsP (W.drop 1)).isSome) || (((numsL (W.drop 1)).length : Int) != 5)) = b → stepL i d W = bif b then none else some { d with axis := d.axis ++ [apOf (numsL (W.drop 1))] } := by
      intro b h
      have e : ((true && (numsP (W.drop 1)).isSome) && (numsL (W.drop 1)).length == 5) = !b := by
        rw [← h]
        have : (((numsL (W.drop 1)).length : Int) != 5) = !((numsL (W.drop 1)).length == 5) := by rw [bne, Bool.eq_iff_iff]; simp; omega
        rw [this]
        cases (numsP (W.drop 1)).isSome <;> cases (numsL (W.drop 1)).length == 5 <;> rfl
      have := stepS_B hi0 h3c e
      rw [show stepL i d W = stepS true i d W from rfl, this]
      cases b <;> rfl
    refine And.intro (fun h5 => ?_) (fun h5 => ?_)
    · have h5 := hS _ h5
      exact leaf0 href h5 LeQ.rfl rfl rfl rfl
    · have h5' : ((!(numsP (W.drop 1)).isSome) || (((numsL (W.drop 1)).length : Int) != 5)) = false := h5
      have h5 := hS _ h5
      have hl5 : (numsL (W.drop 1)).length = 5 := by
        simp only [Bool.or_eq_false_iff, bne_eq_false_iff_eq] at h5'; omega
      refine oi (show 0 ≤ (0 : Int) ∧ (0 : Int) < ((numsL (W.drop 1)).length : Int) by omega) ?_
      refine oi (show 0 ≤ (1 : Int) ∧ (1 : Int) < ((numsL (W.drop 1)).length : Int) by omega) ?_
      refine oi (show 0 ≤ (2 : Int) ∧ (2 : Int) < ((numsL (W.drop 1)).length : Int) by omega) ?_
      refine oi (show 0 ≤ (3 : Int) ∧ (3 : Int) < ((numsL (W.drop 1)).length : Int) by omega) ?_
      refine oi (show 0 ≤ (4 : Int) ∧ (4 : Int) < ((numsL (W.drop 1)).length : Int) by omega) ?_
      refine ob (by decide) ?_
      refine ob (by rw [bif_len]; show (d.axis.length + 1) * 40 ≤ 140737488355328; have := ps.axis; omega) ?_
      refine ob (fit1 (lt5 rfl rfl rfl rfl rfl)) ?_
      refine And.intro (by kernel_rfl) ?_
      exact leaf2 href h5 hi0 h3c LeQ.rfl rfl rfl (RowIs.row (el := apD) (RowIs.snoc RowIs.bif (lt5 rfl rfl rfl rfl rfl)))
  have h3 := hB _ h3
  refine AW.seq (ex.sound (ref := ref) (rc := []) tab_ok mix hrf _ ?_)
  repeat first | refine sk ?_ | refine st ?_ | refine sg ?_ | refine sh ?_ | refine su ?_ | refine sn1 ?_ | refine sn0 ?_ | refine And.intro (show imp none (gimp _ none) from trivial) ?_
  have hF : ∀ b, (decide ((W.length : Int) < 3) || ((bs (W.getD 1 [])).toList == (bs []).toList)) = b → (decide (W.length < 3) || (W.getD 1 []).isEmpty) = b := by
    intro b h
    rw [bs_beq] at h
    rw [← h]
    congr 1
    exact decide_eq_decide.2 (by omega)
  refine And.intro (fun hg => ?_) ?_
  · have hg : (!decide ((W.length : Int) < 3)) = true := hg
    simp at hg
    exact ⟨by decide, show (1 : Int) < (W.length : Int) by omega⟩
  repeat first | refine sk ?_ | refine st ?_ | refine sg ?_ | refine sh ?_ | refine su ?_ | refine sn1 ?_ | refine sn0 ?_ | refine And.intro (show imp none (gimp _ none) from trivial) ?_
  refine And.intro (fun h4 => ?_) (fun h4 => ?_)
  · have h4 := hF _ h4
    exact leaf0 href (stepL_few h3 h4) LeQ.rfl rfl rfl rfl
  have h4 := hF _ h4
  have hst := stepL_rest h3 h4
  simp only [Bool.or_eq_false_iff, decide_eq_false_iff_not] at h4
  refine AW.seq (ex.sound (ref := ref) (rc := []) tab_ok mix hrf _ ?_)
  refine oi (show 0 ≤ (2 : Int) ∧ (2 : Int) ≤ (W.length : Int) ∧ (W.length : Int) ≤ (W.length : Int) by omega) ?_
  refine callN ((numbers (W.drop 2) (by rw [List.length_drop]; omega) (fun w hw => by have := wel w (List.mem_of_mem_drop hw); omega)).conv (args' := _) ⟨drop_conv (k := 2) (by omega), trivial⟩) ?_
  refine AW.seq (AW.block ?_)
  refine AW.seq (ex.sound (ref := ref) (rc := []) tab_ok mix hrf _ ?_)
  refine AW.cond ?_
  refine And.intro (fun h5 => ?_) (fun h5 => ?_)
  · have h5 : (!(numsP (W.drop 2)).isSome) = true := h5
    have hn : numsP (W.drop 2) = none := by simpa using h5
    rw [hn] at hst
    refine ex.sound (ref := ref) (rc := []) tab_ok mix hrf _ ?_
    exact leaf0 href hst LeQ.rfl rfl rfl rfl
  have h5 : (!(numsP (W.drop 2)).isSome) = false := h5
  obtain ⟨n, hn⟩ := Option.isSome_iff_exists.1 (by simpa using h5)
  have hnl := numsP_len hn
  rw [List.length_drop] at hnl
  have e5 : numsL (W.drop 2) = n := by unfold numsL; rw [hn]; rfl
  rw [hn] at hst
  simp only at hst
  rw [e5]
  refine AW.seq (ex.sound (ref := ref) (rc := []) tab_ok mix hrf _ ?_)
  repeat first | refine sk ?_ | refine st ?_ | refine sg ?_ | refine sh ?_ | refine su ?_ | refine sn1 ?_ | refine sn0 ?_ | refine And.intro (show imp none (gimp _ none) from trivial) ?_
  have hG : ∀ b, ((((bs (W.getD 0 [])).toList == (bs chanW).toList) && ((i : Int) == 0)) && ((n.length : Int) == 2)) = b → ((W.getD 0 [] == chanW && n.length == 2) && i == 0) = b := by
    intro b h
    rw [bs_toList, bs_toList, hI2] at h
    have : ((n.length : Int) == 2) = (n.length == 2) := by rw [Bool.eq_iff_iff, beq_iff_eq, beq_iff_eq]; omega
    rw [← h, this]
    cases W.getD 0 [] == chanW <;> cases i == 0 <;> simp
  refine AW.cond ?_
  refine And.intro (fun h6 => ?_) (fun h6 => ?_)
  · have h6 := hG _ h6
    simp only [Bool.and_eq_true] at h6
    obtain ⟨⟨h6a, h6b⟩, h6c⟩ := h6
    have hi0 : i = 0 := by rwa [beq_iff_eq] at h6c
    have hn2 : n.length = 2 := by rwa [beq_iff_eq] at h6b
    subst hi0
    rw [h6a, h6b] at hst
    refine ex.sound (ref := ref) (rc := []) tab_ok mix hrf _ ?_
    refine oi (show 0 ≤ (1 : Int) ∧ (1 : Int) < (W.length : Int) by omega) ?_
    refine oi (show 0 ≤ (0 : Int) ∧ (0 : Int) < (n.length : Int) by omega) ?_
    refine oi (show 0 ≤ (1 : Int) ∧ (1 : Int) < (n.length : Int) by omega) ?_
    refine And.intro (by kernel_rfl) ?_
    exact leaf1 href hst LeQ.rfl rfl rfl rfl
  have h6 := hG _ h6
  refine AW.seq (ex.sound (ref := ref) (rc := []) tab_ok mix hrf _ ?_)
  repeat first | refine sk ?_ | refine st ?_ | refine sg ?_ | refine sh ?_ | refine su ?_ | refine sn1 ?_ | refine sn0 ?_ | refine And.intro (show imp none (gimp _ none) from trivial) ?_
  refine And.intro (fun _ => (show (2 : Int) ≠ 0 by decide)) ?_
  repeat first | refine sk ?_ | refine st ?_ | refine sg ?_ | refine sh ?_ | refine su ?_ | refine sn1 ?_ | refine sn0 ?_ | refine And.intro (show imp none (gimp _ none) from trivial) ?_
  have hH : ∀ b, ((((bs (W.getD 0 [])).toList == (bs regW).toList) && decide ((i : Int) > 0)) && ((n.length : Int).tmod 2 == 1)) = b → ((W.getD 0 [] == regW && n.length % 2 == 1) && !(i == 0)) = b := by
    intro b h
    rw [bs_toList, bs_toList, hI] at h
    have : ((n.length : Int).tmod 2 == 1) = (n.length % 2 == 1) := by
      rw [Int.tmod_eq_emod_of_nonneg (by omega), Bool.eq_iff_iff, beq_iff_eq, beq_iff_eq]; omega
    rw [← h, this]
    cases W.getD 0 [] == regW <;> cases i == 0 <;> simp
  refine AW.cond ?_
  refine And.intro (fun h7 => ?_) (fun h7 => ?_)
  · have h7 := hH _ h7
    simp only [Bool.and_eq_true, Bool.not_eq_true'] at h7
    obtain ⟨⟨h7a, h7b⟩, h7c⟩ := h7
    have hi0 : i ≠ 0 := by rwa [beq_eq_false_iff_ne] at h7c
    have hn1 : n.length % 2 = 1 := by rwa [beq_iff_eq] at h7b
    rw [h7a, h7b, h7c] at hst
    have hax : (W.getD 0 [] == axW && d.regions.isEmpty) = false := by rw [h7c] at h3; simpa using h3
    refine AW.seq (ex.sound (ref := ref) (rc := []) tab_ok mix hrf _ ?_)
    refine oi (show 0 ≤ (1 : Int) ∧ (1 : Int) < (W.length : Int) by omega) ?_
    refine oi (show 0 ≤ (0 : Int) ∧ (0 : Int) < (n.length : Int) by omega) ?_
    refine And.intro (by kernel_rfl) ?_
    refine AW.seq ?_
    refine AW.seq (ex.sound (ref := ref) (rc := []) tab_ok mix hrf _ ?_)
    refine AW.block ?_
    refine AW.loopI (fun k : Nat => stL d (W.getD 1 []) n k) (fun k => k ≤ (n.length - 1) / 2) (fun k => (n.length - 1) / 2 - k) 0 (Nat.zero_le _) ?_ ?_
    · exact SubI.of [] (all_sub href rfl rfl rfl) rfl ⟨⟨rfl, LeBx.rfl⟩, ⟨rfl, LeBx.rfl⟩, ⟨rfl, LeBx.rfl⟩, ⟨rfl, LeBx.cells ⟨LeQ.rfl, LeQ.rfl, LeQ.nil rfl, trivial⟩⟩, ⟨rfl, rfl⟩, trivial⟩ ⟨⟨rfl, LeQ.rfl⟩, ⟨rfl, LeQ.rfl⟩, ⟨rfl, LeQ.rfl⟩, ⟨rfl, LeQ.rfl⟩, trivial⟩
    · intro k hk
      have hl := cornN_len n k
      have w1 : w64 (1 + 2 * (k : Int) + 1) = 1 + 2 * (k : Int) + 1 := w64_of (by omega) (by omega)
      refine ex.sound (ref := ref) (rc := []) tab_ok mix hrf _ ?_
      refine And.intro (fun h => ?_) (fun h => ?_)
      · have h : (1 + 2 * (k : Int)) < (n.length : Int) := decT h
        refine oi (show 0 ≤ (1 + 2 * (k : Int)) ∧ (1 + 2 * (k : Int)) < (n.length : Int) by omega) ?_
        refine oi (show 0 ≤ w64 (1 + 2 * (k : Int) + 1) ∧ w64 (1 + 2 * (k : Int) + 1) < (n.length : Int) by rw [w1]; omega) ?_
        refine ob (by decide) ?_
        refine ob (by rw [bif_len]; show _ * 16 ≤ _; omega) ?_
        refine ob (fit1 (lt2 rfl rfl)) ?_
        refine And.intro (by kernel_rfl) ?_
        refine ⟨k + 1, by omega, by omega, ?_⟩
        have e : cornN n (k + 1) = cornN n k ++ [⟨n.getD (2 * k + 1) 0, n.getD (2 * k + 2) 0⟩] := cornN_succ n k
        refine SubI.of [(100, 159)] (all_sub href rfl rfl rfl) rfl ⟨⟨rfl, LeBx.rfl⟩, ⟨rfl, LeBx.rfl⟩, ⟨rfl, LeBx.rfl⟩, ⟨rfl, LeBx.cells ⟨LeQ.rfl, LeQ.rfl, LeQ.mo (by rw [e]; exact isEmpty_snoc _ _), trivial⟩⟩, ⟨rfl, ?_⟩, trivial⟩ ⟨⟨rfl, LeQ.rfl⟩, ⟨rfl, LeQ.rfl⟩, ⟨rfl, LeQ.rfl⟩, ⟨rfl, LeQ.int ?_⟩, trivial⟩
        · show LeBx _ (.mrow 85 (cornN n (k + 1)).length 2 (ptEl (cornN n (k + 1))))
          rw [e]
          refine RowIs.mrow (el := ptD) (RowIs.snoc RowIs.bif (lt2 ?_ ?_))
          · show dI (n.getD (1 + 2 * (k : Int)).toNat 0) = dI (n.getD (2 * k + 1) 0)
            rw [show (1 + 2 * (k : Int)).toNat = 2 * k + 1 by omega]
          · show dI (n.getD (w64 (1 + 2 * (k : Int) + 1)).toNat 0) = dI (n.getD (2 * k + 2) 0)
            rw [w1, show (1 + 2 * (k : Int) + 1).toNat = 2 * k + 2 by omega]
        · show w64 (1 + 2 * (k : Int) + 2) = _
          rw [w64_of (by omega) (by omega)]; omega
      · have h : ¬ (1 + 2 * (k : Int)) < (n.length : Int) := decF h
        obtain rfl : k = (n.length - 1) / 2 := by omega
        refine AW.subM (SubM.trans (b := stL d (W.getD 1 []) n ((n.length - 1) / 2)) (SubM.of_subI (SubI.of [] (all_sub href rfl rfl rfl) rfl ⟨⟨rfl, LeBx.rfl⟩, ⟨rfl, LeBx.rfl⟩, ⟨rfl, LeBx.rfl⟩, ⟨rfl, LeBx.rfl⟩, ⟨rfl, LeBx.rfl⟩, trivial⟩ ⟨⟨rfl, LeQ.rfl⟩, ⟨rfl, LeQ.rfl⟩, ⟨rfl, LeQ.rfl⟩, ⟨rfl, LeQ.rfl⟩, trivial⟩)) (freezeL (d := d) (name := W.getD 1 []) (n := n) (k := (n.length - 1) / 2) href)) ?_
        refine AW.seq (ex.sound (ref := ref) (rc := []) tab_ok mix hrf _ ?_)
        refine ob (by decide) ?_
        refine ob (by rw [bif_len]; show (d.regions.length + 1) * 48 ≤ 140737488355328; have := ps.regions; omega) ?_
        refine ob (fit1 (lt3 rfl rfl rfl)) ?_
        refine And.intro (by kernel_rfl) ?_
        refine ex.sound (ref := ref) (rc := []) tab_ok mix hrf _ ?_
        exact leaf3 href hst hi0 hax rfl LeQ.rfl rfl rfl rfl (RowIs.row (el := regD) (RowIs.snoc RowIs.bif (lt3 rfl rfl rfl)))
  · have h7 := hH _ h7
    have : stepL i d W = none := by
      rw [hst]
      cases h0 : i == 0 with
      | true => rw [h0] at h6; simp only [Bool.and_true] at h6; rw [h6]; rfl
      | false => rw [h0] at h7; simp only [Bool.not_false, Bool.and_true] at h7; rw [h7]; rfl
    refine ex.sound (ref := ref) (rc := []) tab_ok mix hrf _ ?_
    refine ex.sound (ref := ref) (rc := []) tab_ok mix hrf _ ?_
    exact leaf0 href this LeQ.rfl rfl rfl rfl
end Go.Ch

/- strings.Lines' iterator: its loop, over what the rounds do. -/
namespace Go.Ch
open Go Go.Proofs Go.Proofs.Tryz Go.RowKit
attribute [local go_sem] Oper.semAt_some
set_option maxRecDepth 100000

/-- The first line of a text that is not empty, with its end, and what follows. -/
def lineOf (r : ByteArray) : ByteArray × ByteArray :=
  let i := Lib.indexByte r.data.toList 10
  if 0 ≤ i then (r.extract 0 (i + 1).toNat, r.extract (i + 1).toNat r.size) else (r, ⟨#[]⟩)

theorem indexByte_lt (c : UInt8) : ∀ l : List UInt8, Lib.indexByte l c < l.length
  | [] => by simp [Lib.indexByte]
  | b :: l => by
    have := indexByte_lt c l
    simp only [Lib.indexByte, List.length_cons]
    split
    · omega
    · split <;> omega

def restLen (b : Nat) (w : World) : Nat := match w.cell? ⟨b, 0, none⟩ with
  | some (.string r) => r.size
  | _ => 0

set_option maxHeartbeats 2000000 in
theorem lines1 (l b T : Nat) (J : ByteArray → World → Prop) (Jx : World → Prop)
    (hcell : ∀ r w, J r w → w.heap[b]? = some (.cells #[.string r] T (0, 0)))
    (hsz : ∀ r w, J r w → r.size < 4611686018427387904)
    (hdrew : ∀ r w, J r w → J r w.drew)
    (hround : ∀ r w, J r w → 0 < r.size → YieldAt Fence.wide 0 Tryz.prog l #[.string (lineOf r).1] (w.setCell ⟨b, 0, none⟩ (.string (lineOf r).2)) fun e w' =>
      (e = .returned (.bool true) ∧ J (lineOf r).2 w') ∨ (e = .returned (.bool false) ∧ Jx w'))
    (s : ByteArray) (W : World) (h0 : J s W) :
    CallsIn Fence.wide 1 Tryz.prog 90 #[.func (.yield l) #[] #[], .pointer (some ⟨b, 0, none⟩)] W fun e w' => (∃ v, e = .returned v) ∧ ((∃ r, r.size = 0 ∧ J r w') ∨ Jx w') := by
  refine callsIn_of_wp Tryz.func90 rfl trivial ?_ rfl
  simp only [Tryz.ntmps90, List.size_toArray, List.length_cons, List.length_nil, Nat.reduceAdd, Nat.reduceSub, Array.replicate_succ, Array.replicate_zero, List.push_toArray, List.append_toArray, List.nil_append, List.cons_append]
  gi_wp2
  gi_loopw [3] (fun p wr => ∃ r, J r wr) (fun p wr => restLen b wr)
  case atStart => exact ⟨s, h0⟩
  case round =>
    obtain ⟨r, hJ⟩ := hrel
    have hc := hcell r wr hJ
    have hcv : wr.cell? ⟨b, 0, none⟩ = some (.string r) := by simp [World.cell?, hc]
    have hfz : wr.frozen? ⟨b, 0, none⟩ = false := by simp [World.frozen?, hc]
    rcases Nat.eq_zero_or_pos r.size with hz | hz
    · gi_wp2
      go_end0
      exact ⟨⟨_, rfl⟩, .inl ⟨r, hz, hJ⟩⟩
    · gi_wp2
      refine ⟨trivial, (callsIn_wide (n := 0)).2 ((Tryz.strings_IndexByte _ _ _).mono ?_)⟩
      rintro e w' ⟨rfl, rfl⟩
      gi_wp2
      · rename_i hpos _ _
        have hb := hsz _ _ hJ
        have hlt := indexByte_lt 10 r.data.toList
        have hln : r.data.toList.length = r.size := Array.length_toList
        have hl : lineOf r = (r.extract 0 (Lib.indexByte r.data.toList 10 + 1).toNat, r.extract (Lib.indexByte r.data.toList 10 + 1).toNat r.size) := by unfold lineOf; rw [if_pos (by omega)]
        obtain ⟨k, hk⟩ : ∃ k : Nat, Lib.indexByte r.data.toList 10 = (k : Int) := ⟨_, (Int.toNat_of_nonneg (by omega)).symm⟩
        rw [hk] at hl hlt
        have hkr : k < r.size := by omega
        have e1 : ((k : Int) + 1).toNat = k + 1 := by omega
        rw [e1] at hl
        simp only [hk]
        have hw1 : wrap64 ((k : Int) + 1) = ((k + 1 : Nat) : Int) := by unfold wrap64; omega
        gi_region
        obtain ⟨fn, tmps, assign, body, hy, hR⟩ := hround r w'.drew (hdrew _ _ hJ) hz
        rw [hl] at hy hR
        have hcm : w'.drew.setCell ⟨b, 0, none⟩ (.string (r.extract (k + 1) r.size)) = (w'.setCell ⟨b, 0, none⟩ (.string (r.extract (k + 1) r.size))).drew := rfl
        simp only [hcm] at hy hR
        gi_wp2
        refine hR.mono ?_
        rintro e W3 (⟨rfl, hJ3⟩ | ⟨rfl, hJx3⟩)
        · gi_wp2
          go_roundw
          case rel => exact ⟨_, hJ3⟩
          case measure =>
            have := hcell _ _ hJ3
            simp only [restLen, World.cell?, this, hc]
            simp [ByteArray.size_extract]
            omega
        · gi_wp2
          refine bodyPost_ret (results_none rfl _ _ _) rfl ?_
          exact ⟨⟨_, rfl⟩, .inr hJx3⟩
      · rename_i hneg _ _ _ _
        have hl : lineOf r = (r, ⟨#[]⟩) := by unfold lineOf; rw [if_neg (by omega)]
        obtain ⟨fn, tmps, assign, body, hy, hR⟩ := hround r w' hJ hz
        rw [hl] at hy hR
        gi_wp2
        refine hR.mono ?_
        rintro e W3 (⟨rfl, hJ3⟩ | ⟨rfl, hJx3⟩)
        · gi_wp2
          go_roundw
          case rel => exact ⟨_, hJ3⟩
          case measure =>
            have := hcell _ _ hJ3
            simp only [restLen, World.cell?, this, hc]
            exact hz
        · gi_wp2
          refine bodyPost_ret (results_none rfl _ _ _) rfl ?_
          exact ⟨⟨_, rfl⟩, .inr hJx3⟩
end Go.Ch

/- 'for l := range strings.Lines(s)', in the executor's judgement: boxes may become others from round to round. -/
namespace Go.Ax
open Go.RowKit
/-- From one state to another, and each live box's block was a live box's. -/
def SubJ (cx : Cx) (N : Nat) (σ σ' : St) : Prop := ∀ M β a w, Inv cx N M β σ a w → ∃ β', Inv cx N M β' σ' a w ∧ ∀ x bx b c, getB σ'.box x = some (some bx) → β' x = some (b, c) → ∃ y b0, getB σ.box y = some (some b0) ∧ β y = some (b, c)
theorem SubJ.of {cx : Cx} {N : Nat} {σ σ' : St} (ren : List (Nat × Nat)) (hr : (cx.ref.all fun x => (bkeys σ'.box).contains x && Nat.beq (look ren x) x) = true) (hi : injL ren (bkeys σ'.box) = true)
    (hb : boxQ ren σ.box (bkeys σ'.box) σ'.box) (he : envQ ren σ.env (bkeys σ'.box) σ'.env) : SubJ cx N σ σ' := by
  classical
  intro M β a w i
  let ks := bkeys σ'.box
  let β' : Nm := fun x => if x ∈ ks then β (look ren x) else none
  have hin : ∀ x, x ∈ ks → β' x = β (look ren x) := fun x hx => by simp [β', hx]
  have hβ : ∀ x p, β' x = some p → x ∈ ks ∧ β (look ren x) = some p := fun x p h => by
    simp only [β'] at h
    split at h
    · exact ⟨by assumption, h⟩
    · cases h
  have hup : ∀ x, x ∈ ks → ∀ p, β (look ren x) = some p → β' x = some p := fun x hx p e => by rw [hin x hx]; exact e
  have hinj : ∀ x y, x ∈ ks → y ∈ ks → look ren x = look ren y → x = y := by
    intro x y hx hy e
    simp only [injL, List.all_eq_true] at hi
    have := hi x hx y hy
    simp only [Bool.or_eq_true] at this
    rcases this with h | h
    · exact Nat.eq_of_beq_eq_true h
    · rw [e] at h; simp at h
  have live : ∀ x b k c, getB σ'.box x = some (some b) → β' x = some (k, c) → x ∈ ks ∧ ∃ b0, getB σ.box (look ren x) = some (some b0) ∧ β (look ren x) = some (k, c) := by
    intro x b k c h e
    obtain ⟨h1, h2, h3⟩ := boxQ.get (fun _ h => h) hb x b h
    have e := (hβ x _ e).2
    obtain ⟨y, hy⟩ := i.keys _ _ e
    rw [hy] at h3
    cases y with
    | none => exact h3.elim
    | some b0 => exact ⟨h1, b0, hy, e⟩
  refine ⟨β', ⟨i.defers, i.tmps, i.heap, fun t => envQ.get hup he t _ (i.env t), i.mem, ?_, ?_, ?_, ?_, ?_, ?_⟩, fun x b k c h e => let ⟨_, b0, h1, h2⟩ := live x b k c h e; ⟨_, b0, h1, h2⟩⟩
  · intro x p e
    exact bkeys.has (hβ x p e).1
  · intro x b h
    obtain ⟨h1, h2, h3⟩ := boxQ.get (fun _ h => h) hb x b h
    cases hs : getB σ.box (look ren x) with
    | none =>
      rw [hs] at h3
      have hn : β' x = none := by
        rw [hin x h1]
        cases hb0 : β (look ren x) with
        | none => rfl
        | some p => obtain ⟨y, hy⟩ := i.keys _ _ hb0; rw [hs] at hy; cases hy
      cases b with
      | mrow e n s f => intro k c e; rw [hn] at e; cases e
      | _ => cases h3
    | some y =>
      cases y with
      | none => rw [hs] at h3; exact h3.elim
      | some b0 =>
        rw [hs] at h3
        have hrep := h3 M β w (look ren x) (i.box _ _ hs)
        cases b with
        | cells cs => exact renB.rep hup h1 h2 hrep
        | row e n s f => exact renB.rep hup h1 rfl hrep
        | mrow e n s f => intro k c e; rw [hin x h1] at e; exact hrep k c e
        | map vk l => exact renB.rep hup h1 rfl hrep
        | fresh T vs => exact renB.rep hup h1 rfl hrep
        | iter m n seen => exact renB.rep hup h1 h2 hrep
  · intro x y bx bby b c c' ex ey hx hy
    obtain ⟨kx, b0, g0, e0⟩ := live x bx b c ex hx
    obtain ⟨ky, b1, g1, e1⟩ := live y bby b c' ey hy
    exact hinj x y kx ky (i.inj _ _ b0 b1 b c c' g0 g1 e0 e1)
  · intro x bx b c ex hx
    obtain ⟨kx, b0, g0, e0⟩ := live x bx b c ex hx
    exact i.apart _ b0 b c g0 e0
  · intro x bx b c ex hx
    obtain ⟨kx, b0, g0, e0⟩ := live x bx b c ex hx
    exact i.low _ b0 b c g0 e0
  · intro x hx
    rw [List.all_eq_true] at hr
    have := hr x hx
    simp only [Bool.and_eq_true] at this
    have h1 : x ∈ ks := by simpa using this.1
    have h2 := Nat.eq_of_beq_eq_true this.2
    rw [hin x h1, h2]
    exact i.ref x hx
end Go.Ax
namespace Go.Ch
open Go Go.Ax Go.Proofs Go.Proofs.Tryz Go.RowKit
set_option maxRecDepth 100000

def roundK (cx cx' : Cx) (N : Nat) {S : Type} (env0 : List (Nat × AV)) (bx : S → Boxes) (J : S → ByteArray → Prop) (Kr : Boxes → Prop) (r : ByteArray) : Exit → St → Prop
  | .normal, σ => ∃ st, J st r ∧ ∃ b2, SubM cx' N σ ⟨[], b2⟩ ∧ SubJ cx N ⟨env0, b2⟩ ⟨env0, bx st⟩
  | .ret, σ => Kr σ.box
  | _, _ => False

theorem RepBox.cells_at {M : Mem} {β : Nm} {w : World} {x : Nat} {v : Value} (h : RepBox M β w x (.cells [.d (.val v)])) : ∃ b c T, β x = some (b, c) ∧ w.heap[b]? = some (.cells #[v] T (0, 0)) := by
  obtain ⟨b, c, vs, T, h1, h2, h3⟩ := h
  match vs, h3 with
  | [u], ⟨h4, _⟩ =>
    obtain rfl : u = v := h4
    exact ⟨b, c, T, h1, h2⟩

/-- What holds between two rounds. -/
structure Btw (cx : Cx) (N : Nat) {S : Type} (bx : S → Boxes) (J : S → ByteArray → Prop) (env0 : List (Nat × AV)) (ae : Act) (Me : Mem) (we : World) (b T : Nat) (L D : Nat) (rec : Loop) (r : ByteArray) (W : World) : Prop where
  ex : ∃ st M β, J st r ∧ Inv cx N M β ⟨env0, bx st⟩ ae W ∧ (∀ o, M b o = none) ∧ (∀ y bc c, getB (bx st) y = some (some bc) → β y ≠ some (b, c)) ∧ Grow cx.B Me M
  size : r.size < 4611686018427387904
  cell : W.heap[b]? = some (.cells #[.string r] T (0, 0))
  loop : W.heap[L]? = some (.loop rec)
  dfr : W.heap[D]? = some (.deferred (some []))
  keep : Keep cx we W

theorem lineOf_le (r : ByteArray) : (lineOf r).2.size ≤ r.size := by
  unfold lineOf
  simp only
  split
  · simp [ByteArray.size_extract]
  · exact Nat.zero_le _

def loopRec (st : LoopState) (pe : Option Code) (fn : FuncId) (ae : Act) (p : Nat) (assign body : Code) (D : Nat) : Loop := { state := st, pending := pe, fn, tmps := ae.tmps, params := #[p], assign, body, defers := D }
def Left (cx : Cx) (N : Nat) (Kr : Boxes → Prop) (env0 : List (Nat × AV)) (ae : Act) (Me : Mem) (we : World) (L D : Nat) (rec : Loop) (W : World) : Prop :=
  ∃ b M β, Kr b ∧ Inv cx N M β ⟨env0, b⟩ ae W ∧ Grow cx.B Me M ∧ Keep cx we W ∧ W.heap[L]? = some (.loop rec) ∧ W.heap[D]? = some (.deferred (some []))

theorem setCell_heap {W : World} {b T : Nat} {u v : Value} (h : W.heap[b]? = some (.cells #[u] T (0, 0))) : (W.setCell ⟨b, 0, none⟩ v).heap[b]? = some (.cells #[v] T (0, 0)) := by
  obtain ⟨hlt, hk⟩ := Array.getElem?_eq_some_iff.1 h
  show (W.heap.modify b _)[b]? = _
  rw [Array.getElem?_eq_getElem (by rw [Array.size_modify]; exact hlt), Array.getElem_modify_self, hk]
  simp

set_option maxHeartbeats 1000000 in
theorem Btw.round {cx : Cx} {N p : Nat} {env0 : List (Nat × AV)} {assign body : Code} {S : Type} {ks : S → List Nat} {bx : S → Boxes} {J : S → ByteArray → Prop} {Kr : Boxes → Prop} {ae : Act} {Me : Mem} {we W : World} {b T L D fn : Nat} {r : ByteArray}
    (hd0 : ae.defers = []) (hdf : cx.df = []) (hp : p < N) (he : ∀ st t, inA (ks st) (getE env0 t) = true)
    (hin : ∀ st x, x ∈ ks st → ∃ bc, getB (bx st) x = some (some bc) ∧ bc.real = true) (hall : ∀ st x bc, getB (bx st) x = some (some bc) → x ∈ ks st) (href : ∀ st x, x ∈ cx.ref → x ∈ ks st)
    (hbB : cx.B ≤ b ∨ cx.mayWrite b) (hLB : cx.B ≤ L)
    (hround : ∀ st r, J st r → 0 < r.size → r.size < 4611686018427387904 → ∀ cx' : Cx, cx'.ref = ks st → AW Tryz.prog cx' N assign ⟨(p, .s (.d (.val (.string (lineOf r).1)))) :: env0, bx st⟩ fun e σ1 => e = .normal ∧
      AW Tryz.prog cx' N body σ1 (roundK cx cx' N env0 bx J Kr (lineOf r).2))
    (h : Btw cx N bx J env0 ae Me we b T L D (loopRec .ready none fn ae p assign body D) r W) (hz : 0 < r.size) :
    YieldAt Fence.wide 0 Tryz.prog L #[.string (lineOf r).1] (W.setCell ⟨b, 0, none⟩ (.string (lineOf r).2)) fun e w' =>
      (e = .returned (.bool true) ∧ Btw cx N bx J env0 ae Me we b T L D (loopRec .ready none fn ae p assign body D) (lineOf r).2 w') ∨
      (e = .returned (.bool false) ∧ Left cx N Kr env0 ae Me we L D (loopRec .done (some .ret) fn ae p assign body D) w') := by
  obtain ⟨⟨st, M, β, hJ, i, hMb, hβb, hg⟩, hs, hc, hl, hd, hk⟩ := h
  obtain ⟨W', hW'⟩ : ∃ W', W.setCell ⟨b, 0, none⟩ (.string (lineOf r).2) = W' := ⟨_, rfl⟩
  rw [hW']
  have hcb : W'.heap[b]? = some (.cells #[.string (lineOf r).2] T (0, 0)) := by rw [← hW']; exact setCell_heap hc
  have oth : ∀ k, k ≠ b → W'.heap[k]? = W.heap[k]? := fun k hk => by rw [← hW']; exact Below.heap_setCell W _ _ k hk
  have hLb : L ≠ b := fun e => by rw [e, hc] at hl; cases hl
  have hDb : D ≠ b := fun e => by rw [e, hc] at hd; cases hd
  have hl' := (oth L hLb).trans hl
  have hd' := (oth D hDb).trans hd
  have hsz : W.heap.size = W'.heap.size := by rw [← hW']; exact (Array.size_modify ..).symm
  have i' : Inv cx N M β ⟨env0, bx st⟩ ae W' := i.side (B := (· = b)) ⟨by omega, fun k o hk ho => (oth k hk).trans ho⟩ (fun y bc b' c e eb => by rintro rfl; exact hβb y bc c e eb)
    (fun b' o u e => by rintro rfl; rw [hMb o] at e; cases e) (fun bs h1 h2 g t m => by
      rintro rfl
      rcases hbB with h | h
      · have := (h2 _ t m).1; omega
      · exact (h2 _ t m).2 h)
  have hin' : ∀ y, y ∈ ks st → ∃ bc, getB (bx st) y = some (some bc) := fun y hy => let ⟨bc, h1, _⟩ := hin st y hy; ⟨bc, h1⟩
  have hne : ∀ y, y ∈ ks st → ∃ q, β y = some q := fun y hy => by
    obtain ⟨bc, h1, h2⟩ := hin st y hy
    obtain ⟨b', c, e⟩ := (i'.box y bc h1).exb h2
    exact ⟨_, e⟩
  have nw : ∀ k o, W'.heap[k]? = some o → boxy o = false → ¬ (Cx.part W' (ks st) β (some L) []).mayWrite k := by
    rintro k o ho hb ⟨y, c, hy, ey⟩
    obtain ⟨bc, h1⟩ := hin' y hy
    obtain ⟨o', ho', hy'⟩ := (i'.box y bc h1).boxy ey
    rw [ho] at ho'; cases ho'; rw [hb] at hy'; cases hy'
  have nwb : ¬ (Cx.part W' (ks st) β (some L) []).mayWrite b := by
    rintro ⟨y, c, hy, ey⟩
    obtain ⟨bc, h1⟩ := hin' y hy
    exact hβb y bc c h1 ey
  have lt : ∀ k o, W'.heap[k]? = some o → k < W'.heap.size := fun k o h => (Array.getElem?_eq_some_iff.1 h).1
  have ir := (i'.into (ks := ks st) (rd := some L) hin' (hall st) hne hd0).put hp (r := .s (.d (.val (.string (lineOf r).1)))) (v := .string (lineOf r).1) rfl
  refine ⟨fn, _, assign, body, run_yield hl' rfl, roundIn_of_wpIn trivial ?_⟩
  have ha := hround st r hJ hz hs (Cx.part W' (ks st) β (some L) []) rfl M β _ W' ir
  have eact : ({ tmps := ((#[p] : Array Tmp).zip #[Value.string (lineOf r).1]).foldl (fun tmps (x : Tmp × Value) => tmps.setIfInBounds x.1 x.2) ae.tmps, defers := [] } : Act) = ae.put (some p) (.string (lineOf r).1) := by
    simp [Act.put, hd0]
  refine wpIn_mono (F := Fence.wide.inRound L) (eact ▸ ha) ?_
  rintro e a1 w1 ⟨σ1, M1, β1, ⟨rfl, hb⟩, i1, g1, kp1⟩
  have hl1 : w1.heap[L]? = _ := (kp1.block L (lt _ _ hl') (nw _ _ hl' rfl)).trans hl'
  have hd1 : w1.heap[D]? = _ := (kp1.block D (lt _ _ hd') (nw _ _ hd' rfl)).trans hd'
  have hc1 : w1.heap[b]? = _ := (kp1.block b (lt _ _ hcb) nwb).trans hcb
  have hDL : D ≠ L := fun e => by rw [e, hl] at hd; cases hd
  refine ⟨_, run_beginRound hl1 rfl, ?_⟩
  obtain ⟨w2, hw2⟩ : ∃ w2, w1.putObj L (.loop { loopRec .ready none fn ae p assign body D with state := .busy }) = w2 := ⟨_, rfl⟩
  rw [hw2]
  have hl2 : w2.heap[L]? = some (.loop { loopRec .ready none fn ae p assign body D with state := .busy }) := by rw [← hw2]; exact World.putObj_heap_same (Array.getElem?_eq_some_iff.1 hl1).1
  have oth2 : ∀ k, k ≠ L → w2.heap[k]? = w1.heap[k]? := fun k hk => by rw [← hw2]; exact World.putObj_heap_other hk
  have hs2 : w2.heap.size = w1.heap.size := by rw [← hw2]; simp
  have i2 := i1.off (w' := w2) (by omega) (fun k o hy ho => (oth2 k (fun e => by rw [e, hl1] at ho; cases ho; cases hy)).trans ho)
  refine wpIn_mono (F := Fence.wide.inRound L) (hb M1 β1 a1 w2 i2) ?_
  rintro e a3 W3 ⟨σ3, M3, β3, hk3, i3, g3, kp3⟩
  have hl3 : W3.heap[L]? = _ := (kp3.block L (lt _ _ hl') (nw _ _ hl' rfl)).trans hl2
  have hd3 : W3.heap[D]? = _ := (kp3.block D (lt _ _ hd') (nw _ _ hd' rfl)).trans ((oth2 D hDL).trans hd1)
  have hc3 : W3.heap[b]? = _ := (kp3.block b (lt _ _ hcb) nwb).trans ((oth2 b (Ne.symm hLb)).trans hc1)
  have hlt3 : L < W3.heap.size := (Array.getElem?_eq_some_iff.1 hl3).1
  have kA : Keep cx we W3 := by
    have k0 : Keep cx W W' := ⟨by rw [← hW']; rfl, by rw [← hW']; rfl, by rw [← hW']; rfl, by omega, fun k hk hm => oth k (fun e => by
      subst e
      rcases hbB with h | h
      · omega
      · exact hm h)⟩
    have k2 := (Keep.back i' hin' kp1).turn (.loop { loopRec .ready none fn ae p assign body D with state := .busy }) hLB
    rw [hw2] at k2
    exact ((hk.trans k0).trans k2).trans (Keep.back i' hin' kp3)
  have kW : Keep cx W' W3 := by
    have k2 := (Keep.back i' hin' kp1).turn (.loop { loopRec .ready none fn ae p assign body D with state := .busy }) hLB
    rw [hw2] at k2
    exact k2.trans (Keep.back i' hin' kp3)
  have back : ∀ {M4 : Mem} {β4 : Nm} {σ4 : St}, Inv (Cx.part W' (ks st) β (some L) []) N M4 β4 σ4 a3 W3 → Grow W'.heap.size M M4 → ∀ o, Inv cx N M4 β4 ⟨env0, σ4.box⟩ ae (W3.putObj L o) := by
    intro M4 β4 σ4 i4 g4 o
    have hb4 := Inv.back i' hin' (href st) (rd2 := cx.rd) (df2 := cx.df) (env2 := env0) (a2 := ae) (N2 := N) i4 kW (hd0.trans hdf.symm) i'.tmps (fun t => Inv.held i4 g4 (he st t) (i'.env t))
    exact hb4.off (by simp) (fun k o' hy ho => (World.putObj_heap_other (fun e => by rw [e, hl3] at ho; cases ho; cases hy)).trans ho)
  have gP : Grow W'.heap.size M M3 := g1.trans g3
  cases e with
  | normal =>
    obtain ⟨st', hJ', b2, hsub, hconv⟩ := hk3
    obtain ⟨M4, β4, i4, g4⟩ := hsub M3 β3 a3 W3 i3
    have g5 : Grow W'.heap.size M M4 := gP.trans g4
    obtain ⟨β5, i5, h5⟩ := hconv M4 β4 ae _ (back i4 g5 (.loop { loopRec .ready none fn ae p assign body D with state := .ready }))
    refine ⟨_, _, run_endRound none hl3, .inl ⟨rfl, ⟨⟨st', M4, β5, hJ', i5, fun o => ?_, fun y bc c e1 e2 => ?_, hg.trans (Grow.back i' g5)⟩, Nat.lt_of_le_of_lt (lineOf_le r) hs, (World.putObj_heap_other (Ne.symm hLb)).trans hc3,
      World.putObj_heap_same hlt3, (World.putObj_heap_other hDL).trans hd3, kA.turn _ hLB⟩⟩⟩
    · cases hm : M4 b o with
      | none => rfl
      | some u =>
        rcases g5.new b o u hm with h | h
        · rw [hMb o] at h; cases h
        · have := lt _ _ hcb; omega
    · obtain ⟨y', bc', e1, e2⟩ := h5 y bc b c e1 e2
      rcases i4.low y' bc' b c e1 e2 with h | ⟨z, c', hz', ez⟩
      · have := lt _ _ hcb
        have h : W'.heap.size ≤ b := h
        omega
      · obtain ⟨bc', h1⟩ := hin' z hz'
        exact hβb z bc' c' h1 ez
  | ret =>
    exact ⟨_, _, run_endRound (some .ret) hl3, .inr ⟨rfl, σ3.box, M3, β3, hk3, back i3 gP _, hg.trans (Grow.back i' gP), kA.turn _ hLB, World.putObj_heap_same hlt3, (World.putObj_heap_other hDL).trans hd3⟩⟩
  | _ => exact hk3.elim

set_option maxHeartbeats 1000000 in
theorem _root_.Go.Ax.AWD.lines {cx : Cx} {N p g x : Nat} {s : ByteArray} {env env0 : List (Nat × AV)} {assign body : Code} {K K2 : Exit → St → Prop} {S : Type} {ks : S → List Nat} (bx : S → Boxes) (J : S → ByteArray → Prop) (Kr : Boxes → Prop) (s0 : S)
    (hdf : cx.df = []) (hp : p < N) (hg : getE env g = .s (.clo 90 [.ptr x 0])) (hsz : s.size < 4611686018427387904)
    (hks : ∀ st t, inA (ks st) (getE env0 t) = true) (he : ∀ t, getE env0 t = getE env t ∨ getE env0 t = .s (.d .junk)) (hxb : ∀ st, getB (bx st) x = some none)
    (hin : ∀ st x, x ∈ ks st → ∃ bc, getB (bx st) x = some (some bc) ∧ bc.real = true) (hall : ∀ st x bc, getB (bx st) x = some (some bc) → x ∈ ks st) (href : ∀ st x, x ∈ cx.ref → x ∈ ks st)
    (hJ0 : J s0 s)
    (hround : ∀ st r, J st r → 0 < r.size → r.size < 4611686018427387904 → ∀ cx' : Cx, cx'.ref = ks st → AW Tryz.prog cx' N assign ⟨(p, .s (.d (.val (.string (lineOf r).1)))) :: env0, bx st⟩ fun e σ1 => e = .normal ∧
      AW Tryz.prog cx' N body σ1 (roundK cx cx' N env0 bx J Kr (lineOf r).2))
    (hend : ∀ st r, J st r → r.size = 0 → K2 .normal ⟨env0, bx st⟩) (hret : ∀ b, Kr b → K2 .ret ⟨env0, b⟩) :
    AWD Tryz.prog cx N (.rangeFunc (.tmp g) #[p] assign body) ⟨env, (x, some (.cells [.d (.val (.string s))])) :: bx s0⟩ K K2 := by
  intro M β a w i
  have hx0 : getB ((x, some (Box.cells [.d (.val (.string s))])) :: bx s0) x = some (some (.cells [.d (.val (.string s))])) := by rw [getB_cons, if_pos rfl]
  obtain ⟨b, c, T, eb, hc⟩ := RepBox.cells_at (i.box x _ hx0)
  have hgv : a.eval (.tmp g) = .func (.func 90) #[] #[.pointer (some ⟨b, 0, none⟩)] := by
    have h := i.env g
    simp only [hg] at h
    obtain ⟨vs, e, hv⟩ := h
    match vs, hv with
    | [u], ⟨⟨b', c', e', hu⟩, _⟩ =>
      rw [eb] at e'
      cases e'
      subst hu
      exact e
  refine wpIn_rangeFunc ?_
  intro fn hfn
  obtain ⟨W1, hW1⟩ : ∃ W1, (w.alloc (.deferred (some []))).alloc (.loop (loopRec .ready none fn a p assign body w.heap.size)) = W1 := ⟨_, rfl⟩
  refine ⟨w.heap.size + 1, markOf w.heap.size, W1, { target := .fn (.func 90) #[.pointer (some ⟨b, 0, none⟩)], args := #[.func (.yield (w.heap.size + 1)) #[] #[]] }, W1, 90,
    #[.func (.yield (w.heap.size + 1)) #[] #[]] ++ #[.pointer (some ⟨b, 0, none⟩)], W1, ?_, ?_, fun _ _ => trivial, ?_, fun e => (by cases e), ?_⟩
  · rw [← hW1]; exact run_enterLoop_outer _ _ _ _ _
  · simp only [resolve, hgv]
    simp [go_sem]
  · simp [invoke, go_sem, Tryz.call90]
  · have hxk : x ∉ ks s0 := fun h => by
      obtain ⟨bc, h1, _⟩ := hin s0 x h
      rw [hxb s0] at h1; cases h1
    have hin' : ∀ st y, y ∈ ks st → ∃ bc, getB (bx st) y = some (some bc) := fun st y hy => let ⟨bc, h1, _⟩ := hin st y hy; ⟨bc, h1⟩
    have up : ∀ {y bc}, getB (bx s0) y = some (some bc) → getB ((x, some (Box.cells [.d (.val (.string s))])) :: bx s0) y = some (some bc) := fun {y bc} h => by
      rw [getB_cons, if_neg (fun e => by rw [← e, hxb s0] at h; cases h)]; exact h
    have i0 : Inv cx N M β ⟨env0, bx s0⟩ a w := by
      refine ⟨i.defers, i.tmps, i.heap, fun t => ?_, i.mem, fun y q e => ?_, fun y bc e => i.box y bc (up e), fun y z b1 b2 b c c' e1 e2 => i.inj y z b1 b2 b c c' (up e1) (up e2), fun y bc b c e => i.apart y bc b c (up e), fun y bc b c e => i.low y bc b c (up e), i.ref⟩
      · rcases he t with h | h
        · rw [h]; exact i.env t
        · rw [h]; exact trivial
      · obtain ⟨z, hz⟩ := i.keys y q e
        rw [getB_cons] at hz
        split at hz
        · rename_i h; exact ⟨_, by rw [← h]; exact hxb s0⟩
        · exact ⟨z, hz⟩
    have hsz1 : W1.heap.size = w.heap.size + 2 := by rw [← hW1]; simp
    have old : ∀ k, k < w.heap.size → W1.heap[k]? = w.heap[k]? := fun k hk => by
      rw [← hW1]; exact (Below.heap_alloc _ _ _ (by simp; omega)).trans (Below.heap_alloc _ _ _ hk)
    have hbl : b < w.heap.size := (Array.getElem?_eq_some_iff.1 hc).1
    have hbB : cx.B ≤ b ∨ cx.mayWrite b := i.low x _ b c hx0 eb
    have hL1 : W1.heap[w.heap.size + 1]? = some (.loop (loopRec .ready none fn a p assign body w.heap.size)) := by
      rw [← hW1]; have := World.alloc_heap_new (w.alloc (.deferred (some []))) (.loop (loopRec .ready none fn a p assign body w.heap.size)); rwa [World.size_alloc] at this
    have hD1 : W1.heap[w.heap.size]? = some (.deferred (some [])) := by
      rw [← hW1]; exact (Below.heap_alloc _ _ _ (by simp)).trans (World.alloc_heap_new w _)
    have k1 : Keep cx w W1 := ⟨by rw [← hW1]; rfl, by rw [← hW1]; rfl, by rw [← hW1]; rfl, by omega, fun k hk _ => old k (Nat.lt_of_lt_of_le hk i.heap.le)⟩
    have base : Btw cx N bx J env0 a M w b T (w.heap.size + 1) w.heap.size (loopRec .ready none fn a p assign body w.heap.size) s W1 := by
      refine ⟨⟨s0, M, β, hJ0, i0.off (by omega) (fun k o _ ho => (old k (Array.getElem?_eq_some_iff.1 ho).1).trans ho), i.apart x _ b c hx0 eb, fun y bc c' e1 e2 => ?_, Grow.refl _ _⟩, hsz, (old b hbl).trans hc, hL1, hD1, k1⟩
      have := i.inj y x bc _ b c' c (up e1) hx0 e2 eb
      rw [this, hxb s0] at e1; cases e1
    have hd0 : a.defers = [] := i.defers.trans hdf
    have toM : ∀ {M' : Mem} {β' : Nm} {bs : Boxes} {W : World} (o : Obj), Inv cx N M' β' ⟨env0, bs⟩ a W → W.heap[w.heap.size + 1]? = some o → boxy o = false → W.heap[w.heap.size]? = some (.deferred (some [])) → ∀ o', Marked cx N M' β' ⟨env0, bs⟩ { a with defers := markOf w.heap.size ++ a.defers } (W.putObj (w.heap.size + 1) o') w.heap.size := by
      intro M' β' bs W o i3 hl hb hd o'
      have i4 := i3.off (w' := W.putObj (w.heap.size + 1) o') (by simp) (fun k o2 hy ho => (World.putObj_heap_other (fun e => by rw [e, hl] at ho; cases ho; rw [hb] at hy; cases hy)).trans ho)
      exact ⟨⟨by rw [hd0]; rfl, i4.tmps, ⟨i4.heap.le, i4.heap.tab⟩, i4.env, i4.mem, i4.keys, i4.box, i4.inj, i4.apart, i4.low, i4.ref⟩, i.heap.le, (World.putObj_heap_other (by omega)).trans hd⟩
    have fin := lines1 (w.heap.size + 1) b T (Btw cx N bx J env0 a M w b T (w.heap.size + 1) w.heap.size (loopRec .ready none fn a p assign body w.heap.size))
      (Left cx N Kr env0 a M w (w.heap.size + 1) w.heap.size (loopRec .done (some .ret) fn a p assign body w.heap.size)) (fun r w h => h.cell) (fun r w h => h.size)
      (fun r W h => by
        obtain ⟨⟨st, M', β', h1, h2, h3, h4, h5⟩, h6, h7, h8, h9, h10⟩ := h
        exact ⟨⟨st, M', β', h1, h2.off (Nat.le_refl _) (fun _ _ _ h => h), h3, h4, h5⟩, h6, h7, h8, h9, ⟨h10.os, h10.tape, h10.output, h10.size, h10.block⟩⟩)
      (fun r W h hz => Btw.round hd0 hdf hp hks hin hall href hbB (Nat.le_succ_of_le i.heap.le) hround h hz) s W1 base
    refine (callsIn_wide (n := 0 - 1)).2 (((callsIn_wide (n := 1)).1 fin).mono ?_)
    rintro e W2 ⟨⟨v, rfl⟩, ⟨r, hr0, hB⟩ | hX⟩
    · obtain ⟨⟨st, M', β', hJ', i', _, _, g'⟩, _, _, hl, hd, hk⟩ := hB
      exact ⟨none, _, run_endLoop hl (by simp [loopRec]), .inr ⟨w.heap.size, ⟨env0, bx st⟩, M', β', hend st r hJ' hr0, toM _ i' hl rfl hd _, g', hk.turn _ (Nat.le_succ_of_le i.heap.le)⟩⟩
    · obtain ⟨b', M', β', hk', i', g', kp', hl, hd⟩ := hX
      exact ⟨some .ret, _, run_endLoop hl (by simp [loopRec]), wpIn_ret (.inr ⟨w.heap.size, ⟨env0, b'⟩, M', β', hret b' hk', toM _ i' hl rfl hd _, g', kp'.turn _ (Nat.le_succ_of_le i.heap.le)⟩)⟩
end Go.Ch

/- channel.Parse. -/
namespace Go.Ax
theorem AWD.subI {P : Program} {cx : Cx} {N : Nat} {σ σ' : St} {K K2 : Exit → St → Prop} {c : Code} (h : SubI cx N σ σ') (k : AWD P cx N c σ' K K2) : AWD P cx N c σ K K2 := by
  intro M β a w i
  obtain ⟨β', i'⟩ := h M β a w i
  exact k M β' a w i'
end Go.Ax
namespace Go.Ch
open Go Go.Ax Go.Proofs Go.Proofs.Tryz
set_option maxRecDepth 100000
set_option pp.maxSteps 400
set_option maxHeartbeats 4000000

theorem lineOf_no {l : List UInt8} (h : (10 : UInt8) ∉ l) : lineOf (bs l) = (bs l, bs []) := by
  unfold lineOf
  simp only [show (bs l).data.toList = l from rfl, indexByte_no h]
  rfl
theorem lineOf_at {a b : List UInt8} (h : (10 : UInt8) ∉ a) : lineOf (bs (a ++ 10 :: b)) = (bs (a ++ [10]), bs b) := by
  unfold lineOf
  simp only [show (bs (a ++ 10 :: b)).data.toList = a ++ 10 :: b from rfl, indexByte_at b h]
  rw [if_pos (by omega)]
  have e : ((a.length : Int) + 1).toNat = a.length + 1 := by omega
  rw [e, bs_extract, bs_extract, bs_size]
  have e2 : a ++ 10 :: b = (a ++ [10]) ++ b := by simp
  have e3 : a.length + 1 = (a ++ [10]).length := by simp
  rw [e2, e3, List.drop_zero, List.take_left, List.take_length, List.drop_left]
theorem cutL_at10 {a b : List UInt8} (h : (10 : UInt8) ∉ a) : cutL 10 (a ++ 10 :: b) = a :: cutL 10 b := cutL_at b h
theorem hasSuf_no {l : List UInt8} (h : (10 : UInt8) ∉ l) : Lib.hasSuffix l [10] = false := by
  rw [Bool.eq_false_iff]
  intro e
  unfold Lib.hasSuffix at e
  obtain ⟨t, rfl⟩ := List.isSuffixOf_iff_suffix.1 e
  exact h (by simp)
theorem hasSuf_at (a : List UInt8) : Lib.hasSuffix (a ++ [10]) [10] = true := by
  unfold Lib.hasSuffix
  exact List.isSuffixOf_iff_suffix.2 ⟨a, rfl⟩
theorem trimSuf_at (a : List UInt8) : Lib.trimSuffix (a ++ [10]) [10] = a := by
  unfold Lib.trimSuffix
  rw [hasSuf_at]
  simp
def pRes (s : List UInt8) : Chan × Int × Int := bif decide (s.length > 20000) then (zeroC, 0, 8) else match rP s with
  | (none, n) => (zeroC, n, 7)
  | (some d, _) => bif errC d != 0 then (zeroC, 0, errC d) else (d, 0, 0)
abbrev rT (r : Chan × Int × Int) : AV := .t [.g [.d (dS r.1.name), .d (dAps r.1.axis), .d (dI r.1.over), .d (dI r.1.buffer), .d (dRegs r.1.regions)], .s (.d (dI r.2.1)), .s (.d (dI r.2.2))]
abbrev zC41 : Box := .cells (zvs ty41.zero)
abbrev bxL0 (i : Nat) (d : Chan) : BoxL := [(2, zC41), (3, .cells (zvs ty3.zero)), (4, .cells (zvs ty27.zero)), (5, .cells [.d (dS d.name), eA d 101, .d (dI d.over), .d (dI d.buffer), eR d 102]), (6, .cells [.d (dI i)])] ++ (bA d 101 ++ bR d 102)
abbrev bxP (q : Nat × Chan) : Boxes := (103, none) :: Go.Ax.openB (bxL0 q.1 q.2)
abbrev ksP (q : Nat × Chan) : List Nat := names (bxL0 q.1 q.2)
abbrev envP : List (Nat × AV) := [(2, .s (.ptr 2 0)), (3, .s (.ptr 3 0)), (4, .s (.ptr 4 0)), (5, .s (.ptr 5 0)), (6, .s (.ptr 6 0))]
abbrev JP (s : List UInt8) (q : Nat × Chan) (r : ByteArray) : Prop := ∃ l, r = bs l ∧ rP s = parL q.1 q.2 (cutL 10 l) ∧ PS 20001 q.1 q.2 ∧ (0 < q.1 ∨ l ≠ []) ∧ q.1 + l.length ≤ s.length
theorem hksP (q : Nat × Chan) (t : Nat) : inA (ksP q) (getE envP t) = true := by
  obtain ⟨i, n, ax, o, b, rg⟩ := q
  by_cases h2 : t = 2
  · subst h2; cases ax <;> cases rg <;> rfl
  by_cases h3 : t = 3
  · subst h3; cases ax <;> cases rg <;> rfl
  by_cases h4 : t = 4
  · subst h4; cases ax <;> cases rg <;> rfl
  by_cases h5 : t = 5
  · subst h5; cases ax <;> cases rg <;> rfl
  by_cases h6 : t = 6
  · subst h6; cases ax <;> cases rg <;> rfl
  have : getE envP t = .s (.d .junk) := by
    unfold envP
    simp only [getE, beqF (Ne.symm h2), beqF (Ne.symm h3), beqF (Ne.symm h4), beqF (Ne.symm h5), beqF (Ne.symm h6), cond_false]
  rw [this]; rfl
theorem hinP (q : Nat × Chan) (x : Nat) (h : x ∈ ksP q) : ∃ bc, getB (bxP q) x = some (some bc) ∧ bc.real = true := by
  obtain ⟨i, n, ax, o, b, rg⟩ := q
  cases ax <;> cases rg <;> simp only [ksP, bxL0, names, bA, bR, List.cons_append, List.nil_append, List.mem_cons, List.not_mem_nil, or_false] at h
  · rcases h with rfl | rfl | rfl | rfl | rfl <;> exact ⟨_, rfl, rfl⟩
  · rcases h with rfl | rfl | rfl | rfl | rfl | rfl <;> exact ⟨_, rfl, rfl⟩
  · rcases h with rfl | rfl | rfl | rfl | rfl | rfl <;> exact ⟨_, rfl, rfl⟩
  · rcases h with rfl | rfl | rfl | rfl | rfl | rfl | rfl <;> exact ⟨_, rfl, rfl⟩
theorem hallP (q : Nat × Chan) (x : Nat) (bc : Box) (h : getB (bxP q) x = some (some bc)) : x ∈ ksP q := by
  have h' : getB (Go.Ax.openB (bxL0 q.1 q.2)) x = some (some bc) := by
    unfold bxP at h
    rw [getB_cons] at h
    split at h
    · cases h
    · exact h
  exact mem_names (openB.get h')
theorem parL_empty {i : Nat} {d : Chan} (hi : 0 < i) : parL i d (cutL 10 []) = (some d, 0) := by
  rw [cutL_none (by simp)]
  have : parL i d [([] : List UInt8)] = bif (([] : List UInt8).isEmpty && decide (0 < i)) then (some d, 0) else (none, i + 1) := rfl
  rw [this, show decide (0 < i) = true by simpa using hi]; rfl
theorem parL_line {i : Nat} {d : Chan} {a b : List UInt8} (h : (10 : UInt8) ∉ a) : parL i d (cutL 10 (a ++ 10 :: b)) = match stepL i d (cutL 32 a) with
    | some e => parL (i + 1) e (cutL 10 b)
    | none => (none, i + 1) := by
  rw [cutL_at10 h, parL_cons (cutL_len 10 b).1]
  all_goals (cases stepL i d (cutL 32 a) <;> rfl)
theorem parL_part {i : Nat} {d : Chan} {l : List UInt8} (h : (10 : UInt8) ∉ l) (hl : l ≠ []) : parL i d (cutL 10 l) = (none, i + 1) := by
  rw [cutL_none h]
  have : parL i d [l] = bif (l.isEmpty && decide (0 < i)) then (some d, 0) else (none, i + 1) := rfl
  rw [this]
  cases l with
  | nil => exact absurd rfl hl
  | cons _ _ => rfl
theorem pRes_big {s : List UInt8} (h : s.length > 20000) : pRes s = (zeroC, 0, 8) := by
  unfold pRes; rw [show decide (s.length > 20000) = true by simpa using h]; rfl
theorem pRes_none {s : List UInt8} {n : Nat} (h : ¬ s.length > 20000) (hr : rP s = (none, n)) : pRes s = (zeroC, (n : Int), 7) := by
  unfold pRes; rw [show decide (s.length > 20000) = false by simpa using h, hr]; rfl
theorem pRes_some {s : List UInt8} {d : Chan} {n : Nat} (h : ¬ s.length > 20000) (hr : rP s = (some d, n)) : pRes s = bif errC d != 0 then (zeroC, 0, errC d) else (d, 0, 0) := by
  unfold pRes; rw [show decide (s.length > 20000) = false by simpa using h, hr]; rfl
theorem step_kinds {i : Nat} {d e : Chan} {W : List (List UInt8)} (hs : stepL i d W = some e) :
    (i = 0 ∧ e.axis = d.axis ∧ e.regions = d.regions) ∨ (i ≠ 0 ∧ (W.getD 0 [] == axW && d.regions.isEmpty) = true ∧ e.axis ≠ [] ∧ e.regions = d.regions) ∨ (i ≠ 0 ∧ (W.getD 0 [] == axW && d.regions.isEmpty) = false ∧ e.axis = d.axis ∧ e.regions ≠ []) := by
  unfold stepL at hs
  cases h0 : (i == 0) with
  | true =>
    rw [h0, cond_true] at hs
    cases h1 : (W.getD 0 [] == chanW && (W.length == 4 && !(W.getD 1 []).isEmpty)) with
    | false => rw [h1] at hs; cases hs
    | true =>
      rw [h1, cond_true] at hs
      cases hn : numsP (W.drop 2) with
      | none => rw [hn] at hs; cases hs
      | some n =>
        rw [hn] at hs
        cases hs
        exact .inl ⟨by simpa using h0, rfl, rfl⟩
  | false =>
    have hi : i ≠ 0 := by simpa using h0
    rw [h0, cond_false] at hs
    cases h1 : (W.getD 0 [] == axW && d.regions.isEmpty) with
    | true =>
      rw [h1, cond_true] at hs
      cases hn : numsP (W.drop 1) with
      | none => rw [hn] at hs; cases hs
      | some n =>
        rw [hn] at hs
        simp only at hs
        cases h5 : n.length == 5 with
        | false => rw [h5] at hs; cases hs
        | true =>
          rw [h5] at hs
          cases hs
          exact .inr (.inl ⟨hi, rfl, by simp, rfl⟩)
    | false =>
      rw [h1, cond_false] at hs
      cases h2 : (W.getD 0 [] == regW && (decide (3 ≤ W.length) && (W.length % 2 == 1 && !(W.getD 1 []).isEmpty))) with
      | false => rw [h2] at hs; cases hs
      | true =>
        rw [h2, cond_true] at hs
        cases hn : numsP (W.drop 2) with
        | none => rw [hn] at hs; cases hs
        | some n =>
          rw [hn] at hs
          cases hs
          exact .inr (.inr ⟨hi, rfl, rfl, by simp⟩)
theorem Parse (s : List UInt8) (hs : s.length ≤ 100000) : CallP Tryz.prog 19 [vT s] (rT (pRes s)) := by
  refine callP_of_awd (N := 46) Tryz.func19 rfl rfl Tryz.call19 tab_ok rfl rfl (fun cx href hrd hdf => ?_)
  refine AWD.seq (AWD.of_aw hrd (ex.sound (rc := []) tab_ok mix href _ ?_))
  refine AWD.seq (AWD.of_aw hrd (ex.sound (rc := []) tab_ok mix href _ ?_))
  refine And.intro (fun h => ?_) (fun h => ?_)
  · have h : decide (((bs s).size : Int) > 20000) = true := h
    rw [bs_size] at h
    rw [pRes_big (by simp at h; omega)]
    exact SubR.t ⟨⟨LeD.refl _, LeD.nil, LeD.refl _, LeD.refl _, LeD.nil, trivial⟩, LeD.refl _, LeD.refl _, trivial⟩
  have h : decide (((bs s).size : Int) > 20000) = false := h
  rw [bs_size] at h
  have hsz : ¬ s.length > 20000 := by simp at h; omega
  refine AWD.seq (AWD.of_aw hrd (ex.sound (rc := []) tab_ok mix href _ ?_))
  refine And.intro (fun h2 => ?_) (fun h2 => ?_)
  · have h2 : ((bs s).toList == (bs []).toList) = true := h2
    rw [bs_beq] at h2
    have : s = [] := by simpa using h2
    subst this
    rw [pRes_none (n := 1) hsz rfl]
    exact SubR.t ⟨⟨LeD.refl _, LeD.nil, LeD.refl _, LeD.refl _, LeD.nil, trivial⟩, LeD.refl _, LeD.refl _, trivial⟩
  have h2 : ((bs s).toList == (bs []).toList) = false := h2
  rw [bs_beq] at h2
  have hne : s ≠ [] := by simpa using h2
  refine AWD.seq (AWD.of_aw hrd (ex.sound (rc := []) tab_ok mix href _ ?_))
  refine AWD.seq (AWD.of_aw hrd (ex.sound (rc := []) tab_ok mix href _ ?_))
  refine AWD.seq (AWD.seq (AWD.of_aw hrd (ex.sound (rc := [50]) tab_ok mix href _ ?_)))
  refine ⟨[(1, 103)], _, _, _, _, Lines s, rfl, trivial, rfl, ?_⟩
  refine AWD.block ?_
  refine AWD.subI (σ' := ⟨(19, .s (.clo 90 [.ptr 103 0])) :: envP, (103, some (.cells [.d (.val (.string (bs s)))])) :: bxP (0, zeroC)⟩) ?_ ?_
  · exact SubI.of [] (by rw [href]; rfl) rfl ⟨⟨rfl, LeBx.rfl⟩, ⟨rfl, LeBx.rfl⟩, ⟨rfl, LeBx.rfl⟩, ⟨rfl, LeBx.rfl⟩, ⟨rfl, LeBx.rfl⟩, ⟨rfl, LeBx.rfl⟩, trivial⟩ ⟨⟨rfl, LeQ.rfl⟩, ⟨rfl, LeQ.rfl⟩, ⟨rfl, LeQ.rfl⟩, ⟨rfl, LeQ.rfl⟩, ⟨rfl, LeQ.rfl⟩, ⟨rfl, LeQ.rfl⟩, trivial⟩
  refine AWD.lines (ks := ksP) (env0 := envP) (x := 103) bxP (JP s) (fun b => retK tab [.cell 2 41, .cell 3 3, .cell 4 27] (rT (pRes s)) .ret ⟨envP, b⟩) (0, zeroC) hdf (by decide) rfl ?_ hksP ?_ (fun _ => rfl) hinP hallP (fun st x hx => by rw [href] at hx; cases hx) ⟨s, rfl, rfl, PS.zero _, .inr hne, by simp⟩ ?_ ?_ ?_
  · rw [bs_size]; omega
  · intro t
    by_cases ht : t = 19
    · subst ht; exact .inr rfl
    · refine .inl ?_
      show _ = getE ((19, _) :: envP) t
      rw [show getE ((19, AV.s (SV.clo 90 [CV.ptr 103 0])) :: envP) t = bif Nat.beq 19 t then _ else getE envP t from rfl, beqF (Ne.symm ht)]; rfl
  · rintro ⟨i, d⟩ r ⟨l, rfl, hp, ps, hz, hle⟩ hrz hrs cx' hcx
    simp only at hp ps hz hle
    rw [bs_size] at hrz
    generalize hks : ksP (i, d) = kk at *
    refine ex.sound (rc := []) tab_ok mix hcx _ ?_
    refine ⟨rfl, ?_⟩
    rcases first_cases 10 l with hno | ⟨a, b, rfl, hno⟩
    · have hr : rP s = (none, i + 1) := hp.trans (parL_part hno (by rintro rfl; simp at hrz))
      rw [lineOf_no hno]
      refine AW.block ?_
      refine AW.seq (ex.sound (rc := []) tab_ok mix hcx _ ?_)
      have hc := CutSuffix l [10] (by omega)
      rw [hasSuf_no hno] at hc
      refine callN hc ?_
      refine AW.seq (AW.seq (ex.sound (rc := [52]) tab_ok mix hcx _ ?_))
      refine And.intro (fun h => absurd h (by decide)) (fun _ => ?_)
      refine ex.sound (rc := []) tab_ok mix hcx _ ?_
      refine And.intro (by kernel_rfl) ?_
      rw [pRes_none hsz hr]
      have hw : w64 ((i : Int) + 1) = ((i + 1 : Nat) : Int) := w64_of (by omega) (by omega)
      refine SubR.t ⟨⟨LeD.refl _, LeD.nil, LeD.refl _, LeD.refl _, LeD.nil, trivial⟩, LeD.of_eq ?_, LeD.refl _, trivial⟩
      show dI (w64 ((i : Int) + 1)) = _
      rw [hw]
    · have hpl := parL_line (i := i) (d := d) (b := b) hno
      simp only [List.length_append, List.length_cons] at hle
      have hx := extend i d a (by omega) (by omega) ps
      rw [lineOf_at hno]
      refine AW.block ?_
      refine AW.seq (ex.sound (rc := []) tab_ok mix hcx _ ?_)
      have hc := CutSuffix (a ++ [10]) [10] (by simp; omega)
      rw [hasSuf_at, trimSuf_at] at hc
      refine callN hc ?_
      refine AW.seq (AW.seq (ex.sound (rc := [52]) tab_ok mix hcx _ ?_))
      repeat first | refine sk ?_ | refine st ?_ | refine sg ?_ | refine sh ?_ | refine su ?_ | refine sn1 ?_ | refine sn0 ?_ | refine And.intro (show imp none (gimp _ none) from trivial) ?_
      refine And.intro (fun hq => ?_) (fun hq => absurd hq (by decide))
      refine And.intro rfl (And.intro rfl ?_)
      cases hst : stepL i d (cutL 32 a) with
      | none =>
        have hr : rP s = (none, i + 1) := hp.trans (by rw [hpl, hst])
        rw [hst, kind0 hst] at hx
        have hw : w64 ((i : Int) + 1) = ((i + 1 : Nat) : Int) := w64_of (by omega) (by omega)
        obtain ⟨n, ax, o, f, rg⟩ := d
        cases ax with
        | nil =>
          cases rg with
          | nil =>
            refine ⟨[(0, 5), (1, 101), (2, 102)], _, _, _, _, hx, rfl, ⟨rfl, trivial⟩, rfl, ?_⟩
            repeat first | refine sk ?_ | refine st ?_ | refine sg ?_ | refine sh ?_ | refine su ?_ | refine sn1 ?_ | refine sn0 ?_ | refine And.intro (show imp none (gimp _ none) from trivial) ?_
            refine AW.cond ?_
            refine And.intro (fun h3 => ?_) (fun h3 => absurd h3 (by decide))
            refine ex.sound (rc := []) tab_ok mix hcx _ ?_
            refine And.intro (by kernel_rfl) ?_
            rw [pRes_none hsz hr]
            exact SubR.t ⟨⟨LeD.refl _, LeD.nil, LeD.refl _, LeD.refl _, LeD.nil, trivial⟩, LeD.of_eq (congrArg dI hw), LeD.refl _, trivial⟩
          | cons r t =>
            refine ⟨[(0, 5), (1, 101), (2, 102)], _, _, _, _, hx, rfl, ⟨rfl, rfl, trivial⟩, rfl, ?_⟩
            repeat first | refine sk ?_ | refine st ?_ | refine sg ?_ | refine sh ?_ | refine su ?_ | refine sn1 ?_ | refine sn0 ?_ | refine And.intro (show imp none (gimp _ none) from trivial) ?_
            refine AW.cond ?_
            refine And.intro (fun h3 => ?_) (fun h3 => absurd h3 (by decide))
            refine ex.sound (rc := []) tab_ok mix hcx _ ?_
            refine And.intro (by kernel_rfl) ?_
            rw [pRes_none hsz hr]
            exact SubR.t ⟨⟨LeD.refl _, LeD.nil, LeD.refl _, LeD.refl _, LeD.nil, trivial⟩, LeD.of_eq (congrArg dI hw), LeD.refl _, trivial⟩
        | cons y u =>
          cases rg with
          | nil =>
            refine ⟨[(0, 5), (1, 101), (2, 102)], _, _, _, _, hx, rfl, ⟨rfl, rfl, trivial⟩, rfl, ?_⟩
            repeat first | refine sk ?_ | refine st ?_ | refine sg ?_ | refine sh ?_ | refine su ?_ | refine sn1 ?_ | refine sn0 ?_ | refine And.intro (show imp none (gimp _ none) from trivial) ?_
            refine AW.cond ?_
            refine And.intro (fun h3 => ?_) (fun h3 => absurd h3 (by decide))
            refine ex.sound (rc := []) tab_ok mix hcx _ ?_
            refine And.intro (by kernel_rfl) ?_
            rw [pRes_none hsz hr]
            exact SubR.t ⟨⟨LeD.refl _, LeD.nil, LeD.refl _, LeD.refl _, LeD.nil, trivial⟩, LeD.of_eq (congrArg dI hw), LeD.refl _, trivial⟩
          | cons r t =>
            refine ⟨[(0, 5), (1, 101), (2, 102)], _, _, _, _, hx, rfl, ⟨rfl, rfl, rfl, trivial⟩, rfl, ?_⟩
            repeat first | refine sk ?_ | refine st ?_ | refine sg ?_ | refine sh ?_ | refine su ?_ | refine sn1 ?_ | refine sn0 ?_ | refine And.intro (show imp none (gimp _ none) from trivial) ?_
            refine AW.cond ?_
            refine And.intro (fun h3 => ?_) (fun h3 => absurd h3 (by decide))
            refine ex.sound (rc := []) tab_ok mix hcx _ ?_
            refine And.intro (by kernel_rfl) ?_
            rw [pRes_none hsz hr]
            exact SubR.t ⟨⟨LeD.refl _, LeD.nil, LeD.refl _, LeD.refl _, LeD.nil, trivial⟩, LeD.of_eq (congrArg dI hw), LeD.refl _, trivial⟩
      | some e =>
        have hr : rP s = parL (i + 1) e (cutL 10 b) := hp.trans (by rw [hpl, hst])
        rw [hst] at hx
        have hw : w64 ((i : Int) + 1) = ((i + 1 : Nat) : Int) := w64_of (by omega) (by omega)
        obtain ⟨c1, c2⟩ := cutL_len 32 a
        have hwl : ((cutL 32 a).getD 1 []).length ≤ 20001 := by
          rw [List.getD_eq_getElem?_getD]
          cases hq : (cutL 32 a)[1]? with
          | none => simp
          | some x => have := cutL_elem (List.mem_of_getElem? hq); simp only [Option.getD_some]; omega
        have hJ : JP s (i + 1, e) (bs b) := ⟨b, rfl, hr, ps.step hst (by omega) hwl, .inl (by simp), by simp only; omega⟩
        rcases step_kinds hst with ⟨hi, h1, h2⟩ | ⟨hi, hk, h1, h2⟩ | ⟨hi, hk, h1, h2⟩
        · subst hi
          rw [kind1 hst] at hx
          have q1 := ps.axis; have q2 := ps.regions
          obtain ⟨n, ax, o, f, rg⟩ := d
          obtain ⟨n', ax', o', f', rg'⟩ := e
          obtain rfl : ax = [] := List.length_eq_zero_iff.1 (by simpa using q1)
          obtain rfl : rg = [] := List.length_eq_zero_iff.1 (by simpa using q2)
          obtain rfl : ax' = [] := h1
          obtain rfl : rg' = [] := h2
          · refine ⟨[(0, 5), (1, 101), (2, 102)], _, _, _, _, hx, rfl, ⟨rfl, trivial⟩, rfl, ?_⟩
            repeat first | refine sk ?_ | refine st ?_ | refine sg ?_ | refine sh ?_ | refine su ?_ | refine sn1 ?_ | refine sn0 ?_ | refine And.intro (show imp none (gimp _ none) from trivial) ?_
            refine AW.cond ?_
            refine And.intro (fun h3 => Bool.noConfusion (show false = true from h3)) (fun h3 => ?_)
            refine ex.sound (rc := []) tab_ok mix hcx _ ?_
            refine ex.sound (rc := []) tab_ok mix hcx _ ?_
            refine ⟨_, hJ, [(2, some zC41), (3, some (.cells (zvs ty3.zero))), (4, some (.cells (zvs ty27.zero))), (5, some (.cells [.d (dS n'), nilV, .d (dI o'), .d (dI f'), nilV])), (6, some (.cells [.d (dI ((0 + 1 : Nat) : Int))]))], SubM.of_subI (SubI.of [] (by rw [hcx, ← hks]; rfl) rfl ⟨⟨rfl, LeBx.rfl⟩, ⟨rfl, LeBx.rfl⟩, ⟨rfl, LeBx.rfl⟩, ⟨rfl, LeBx.rfl⟩, ⟨rfl, LeBx.cells ⟨LeQ.int hw, trivial⟩⟩, trivial⟩ trivial), ?_⟩
            exact SubJ.of [] (by rw [href]; rfl) rfl ⟨⟨rfl, LeBx.rfl⟩, ⟨rfl, LeBx.rfl⟩, ⟨rfl, LeBx.rfl⟩, ⟨rfl, LeBx.rfl⟩, ⟨rfl, LeBx.rfl⟩, trivial⟩ ⟨⟨rfl, LeQ.rfl⟩, ⟨rfl, LeQ.rfl⟩, ⟨rfl, LeQ.rfl⟩, ⟨rfl, LeQ.rfl⟩, ⟨rfl, LeQ.rfl⟩, trivial⟩
        · rw [kind2 hst hi hk] at hx
          obtain ⟨n, ax, o, f, rg⟩ := d
          obtain ⟨n', ax', o', f', rg'⟩ := e
          obtain rfl : rg = [] := by simp at hk; exact hk.2
          obtain rfl : rg' = [] := h2
          obtain ⟨z, v, rfl⟩ : ∃ z v, ax' = z :: v := List.exists_cons_of_ne_nil h1
          cases ax with
          | nil =>
            refine ⟨[(0, 5), (1, 101), (2, 102), (3, 111)], _, _, _, _, hx, rfl, ⟨rfl, trivial⟩, rfl, ?_⟩
            repeat first | refine sk ?_ | refine st ?_ | refine sg ?_ | refine sh ?_ | refine su ?_ | refine sn1 ?_ | refine sn0 ?_ | refine And.intro (show imp none (gimp _ none) from trivial) ?_
            refine AW.cond ?_
            refine And.intro (fun h3 => Bool.noConfusion (show false = true from h3)) (fun h3 => ?_)
            refine ex.sound (rc := []) tab_ok mix hcx _ ?_
            refine ex.sound (rc := []) tab_ok mix hcx _ ?_
            refine ⟨_, hJ, [(2, some zC41), (3, some (.cells (zvs ty3.zero))), (4, some (.cells (zvs ty27.zero))), (5, some (.cells [.d (dS n'), .own 111, .d (dI o'), .d (dI f'), nilV])), (6, some (.cells [.d (dI ((i + 1 : Nat) : Int))])), (111, some (rowA ⟨n', z :: v, o', f', []⟩))], SubM.of_subI (SubI.of [] (by rw [hcx, ← hks]; rfl) rfl ⟨⟨rfl, LeBx.rfl⟩, ⟨rfl, LeBx.rfl⟩, ⟨rfl, LeBx.rfl⟩, ⟨rfl, LeBx.rfl⟩, ⟨rfl, LeBx.cells ⟨LeQ.int hw, trivial⟩⟩, ⟨rfl, LeBx.rfl⟩, trivial⟩ trivial), ?_⟩
            exact SubJ.of [(101, 111)] (by rw [href]; rfl) rfl ⟨⟨rfl, LeBx.rfl⟩, ⟨rfl, LeBx.rfl⟩, ⟨rfl, LeBx.rfl⟩, ⟨rfl, LeBx.rfl⟩, ⟨rfl, LeBx.rfl⟩, ⟨rfl, LeBx.rfl⟩, trivial⟩ ⟨⟨rfl, LeQ.rfl⟩, ⟨rfl, LeQ.rfl⟩, ⟨rfl, LeQ.rfl⟩, ⟨rfl, LeQ.rfl⟩, ⟨rfl, LeQ.rfl⟩, trivial⟩
          | cons y u =>
            refine ⟨[(0, 5), (1, 101), (2, 102), (3, 111)], _, _, _, _, hx, rfl, ⟨rfl, rfl, trivial⟩, rfl, ?_⟩
            repeat first | refine sk ?_ | refine st ?_ | refine sg ?_ | refine sh ?_ | refine su ?_ | refine sn1 ?_ | refine sn0 ?_ | refine And.intro (show imp none (gimp _ none) from trivial) ?_
            refine AW.cond ?_
            refine And.intro (fun h3 => Bool.noConfusion (show false = true from h3)) (fun h3 => ?_)
            refine ex.sound (rc := []) tab_ok mix hcx _ ?_
            refine ex.sound (rc := []) tab_ok mix hcx _ ?_
            refine ⟨_, hJ, [(2, some zC41), (3, some (.cells (zvs ty3.zero))), (4, some (.cells (zvs ty27.zero))), (5, some (.cells [.d (dS n'), .own 111, .d (dI o'), .d (dI f'), nilV])), (6, some (.cells [.d (dI ((i + 1 : Nat) : Int))])), (111, some (rowA ⟨n', z :: v, o', f', []⟩)), (101, none)], SubM.of_subI (SubI.of [] (by rw [hcx, ← hks]; rfl) rfl ⟨⟨rfl, LeBx.rfl⟩, ⟨rfl, LeBx.rfl⟩, ⟨rfl, LeBx.rfl⟩, ⟨rfl, LeBx.rfl⟩, ⟨rfl, LeBx.cells ⟨LeQ.int hw, trivial⟩⟩, ⟨rfl, LeBx.rfl⟩, trivial⟩ trivial), ?_⟩
            exact SubJ.of [(101, 111)] (by rw [href]; rfl) rfl ⟨⟨rfl, LeBx.rfl⟩, ⟨rfl, LeBx.rfl⟩, ⟨rfl, LeBx.rfl⟩, ⟨rfl, LeBx.rfl⟩, ⟨rfl, LeBx.rfl⟩, ⟨rfl, LeBx.rfl⟩, trivial⟩ ⟨⟨rfl, LeQ.rfl⟩, ⟨rfl, LeQ.rfl⟩, ⟨rfl, LeQ.rfl⟩, ⟨rfl, LeQ.rfl⟩, ⟨rfl, LeQ.rfl⟩, trivial⟩
        · rw [kind3 hst hi hk] at hx
          obtain ⟨n, ax, o, f, rg⟩ := d
          obtain ⟨n', ax', o', f', rg'⟩ := e
          obtain rfl : ax' = ax := h1
          obtain ⟨z, v, rfl⟩ : ∃ z v, rg' = z :: v := List.exists_cons_of_ne_nil h2
          cases ax' with
          | nil =>
           cases rg with
           | nil =>
            refine ⟨[(0, 5), (1, 101), (2, 102), (4, 112)], _, _, _, _, hx, rfl, ⟨rfl, trivial⟩, rfl, ?_⟩
            repeat first | refine sk ?_ | refine st ?_ | refine sg ?_ | refine sh ?_ | refine su ?_ | refine sn1 ?_ | refine sn0 ?_ | refine And.intro (show imp none (gimp _ none) from trivial) ?_
            refine AW.cond ?_
            refine And.intro (fun h3 => Bool.noConfusion (show false = true from h3)) (fun h3 => ?_)
            refine ex.sound (rc := []) tab_ok mix hcx _ ?_
            refine ex.sound (rc := []) tab_ok mix hcx _ ?_
            refine ⟨_, hJ, [(2, some zC41), (3, some (.cells (zvs ty3.zero))), (4, some (.cells (zvs ty27.zero))), (5, some (.cells [.d (dS n'), nilV, .d (dI o'), .d (dI f'), .own 112])), (6, some (.cells [.d (dI ((i + 1 : Nat) : Int))])), (112, some (rowR ⟨n', [], o', f', z :: v⟩))], SubM.of_subI (SubI.of [] (by rw [hcx, ← hks]; rfl) rfl ⟨⟨rfl, LeBx.rfl⟩, ⟨rfl, LeBx.rfl⟩, ⟨rfl, LeBx.rfl⟩, ⟨rfl, LeBx.rfl⟩, ⟨rfl, LeBx.cells ⟨LeQ.int hw, trivial⟩⟩, ⟨rfl, LeBx.rfl⟩, trivial⟩ trivial), ?_⟩
            exact SubJ.of [(102, 112)] (by rw [href]; rfl) rfl ⟨⟨rfl, LeBx.rfl⟩, ⟨rfl, LeBx.rfl⟩, ⟨rfl, LeBx.rfl⟩, ⟨rfl, LeBx.rfl⟩, ⟨rfl, LeBx.rfl⟩, ⟨rfl, LeBx.rfl⟩, trivial⟩ ⟨⟨rfl, LeQ.rfl⟩, ⟨rfl, LeQ.rfl⟩, ⟨rfl, LeQ.rfl⟩, ⟨rfl, LeQ.rfl⟩, ⟨rfl, LeQ.rfl⟩, trivial⟩
           | cons r t =>
            refine ⟨[(0, 5), (1, 101), (2, 102), (4, 112)], _, _, _, _, hx, rfl, ⟨rfl, rfl, trivial⟩, rfl, ?_⟩
            repeat first | refine sk ?_ | refine st ?_ | refine sg ?_ | refine sh ?_ | refine su ?_ | refine sn1 ?_ | refine sn0 ?_ | refine And.intro (show imp none (gimp _ none) from trivial) ?_
            refine AW.cond ?_
            refine And.intro (fun h3 => Bool.noConfusion (show false = true from h3)) (fun h3 => ?_)
            refine ex.sound (rc := []) tab_ok mix hcx _ ?_
            refine ex.sound (rc := []) tab_ok mix hcx _ ?_
            refine ⟨_, hJ, [(2, some zC41), (3, some (.cells (zvs ty3.zero))), (4, some (.cells (zvs ty27.zero))), (5, some (.cells [.d (dS n'), nilV, .d (dI o'), .d (dI f'), .own 112])), (6, some (.cells [.d (dI ((i + 1 : Nat) : Int))])), (112, some (rowR ⟨n', [], o', f', z :: v⟩)), (102, none)], SubM.of_subI (SubI.of [] (by rw [hcx, ← hks]; rfl) rfl ⟨⟨rfl, LeBx.rfl⟩, ⟨rfl, LeBx.rfl⟩, ⟨rfl, LeBx.rfl⟩, ⟨rfl, LeBx.rfl⟩, ⟨rfl, LeBx.cells ⟨LeQ.int hw, trivial⟩⟩, ⟨rfl, LeBx.rfl⟩, trivial⟩ trivial), ?_⟩
            exact SubJ.of [(102, 112)] (by rw [href]; rfl) rfl ⟨⟨rfl, LeBx.rfl⟩, ⟨rfl, LeBx.rfl⟩, ⟨rfl, LeBx.rfl⟩, ⟨rfl, LeBx.rfl⟩, ⟨rfl, LeBx.rfl⟩, ⟨rfl, LeBx.rfl⟩, trivial⟩ ⟨⟨rfl, LeQ.rfl⟩, ⟨rfl, LeQ.rfl⟩, ⟨rfl, LeQ.rfl⟩, ⟨rfl, LeQ.rfl⟩, ⟨rfl, LeQ.rfl⟩, trivial⟩
          | cons y u =>
           cases rg with
           | nil =>
            refine ⟨[(0, 5), (1, 101), (2, 102), (4, 112)], _, _, _, _, hx, rfl, ⟨rfl, rfl, trivial⟩, rfl, ?_⟩
            repeat first | refine sk ?_ | refine st ?_ | refine sg ?_ | refine sh ?_ | refine su ?_ | refine sn1 ?_ | refine sn0 ?_ | refine And.intro (show imp none (gimp _ none) from trivial) ?_
            refine AW.cond ?_
            refine And.intro (fun h3 => Bool.noConfusion (show false = true from h3)) (fun h3 => ?_)
            refine ex.sound (rc := []) tab_ok mix hcx _ ?_
            refine ex.sound (rc := []) tab_ok mix hcx _ ?_
            refine ⟨_, hJ, [(2, some zC41), (3, some (.cells (zvs ty3.zero))), (4, some (.cells (zvs ty27.zero))), (5, some (.cells [.d (dS n'), .own 101, .d (dI o'), .d (dI f'), .own 112])), (6, some (.cells [.d (dI ((i + 1 : Nat) : Int))])), (112, some (rowR ⟨n', y :: u, o', f', z :: v⟩)), (101, some (rowA ⟨n', y :: u, o', f', z :: v⟩))], SubM.of_subI (SubI.of [] (by rw [hcx, ← hks]; rfl) rfl ⟨⟨rfl, LeBx.rfl⟩, ⟨rfl, LeBx.rfl⟩, ⟨rfl, LeBx.rfl⟩, ⟨rfl, LeBx.rfl⟩, ⟨rfl, LeBx.cells ⟨LeQ.int hw, trivial⟩⟩, ⟨rfl, LeBx.rfl⟩, ⟨rfl, LeBx.rfl⟩, trivial⟩ trivial), ?_⟩
            exact SubJ.of [(102, 112)] (by rw [href]; rfl) rfl ⟨⟨rfl, LeBx.rfl⟩, ⟨rfl, LeBx.rfl⟩, ⟨rfl, LeBx.rfl⟩, ⟨rfl, LeBx.rfl⟩, ⟨rfl, LeBx.rfl⟩, ⟨rfl, LeBx.rfl⟩, ⟨rfl, LeBx.rfl⟩, trivial⟩ ⟨⟨rfl, LeQ.rfl⟩, ⟨rfl, LeQ.rfl⟩, ⟨rfl, LeQ.rfl⟩, ⟨rfl, LeQ.rfl⟩, ⟨rfl, LeQ.rfl⟩, trivial⟩
           | cons r t =>
            refine ⟨[(0, 5), (1, 101), (2, 102), (4, 112)], _, _, _, _, hx, rfl, ⟨rfl, rfl, rfl, trivial⟩, rfl, ?_⟩
            repeat first | refine sk ?_ | refine st ?_ | refine sg ?_ | refine sh ?_ | refine su ?_ | refine sn1 ?_ | refine sn0 ?_ | refine And.intro (show imp none (gimp _ none) from trivial) ?_
            refine AW.cond ?_
            refine And.intro (fun h3 => Bool.noConfusion (show false = true from h3)) (fun h3 => ?_)
            refine ex.sound (rc := []) tab_ok mix hcx _ ?_
            refine ex.sound (rc := []) tab_ok mix hcx _ ?_
            refine ⟨_, hJ, [(2, some zC41), (3, some (.cells (zvs ty3.zero))), (4, some (.cells (zvs ty27.zero))), (5, some (.cells [.d (dS n'), .own 101, .d (dI o'), .d (dI f'), .own 112])), (6, some (.cells [.d (dI ((i + 1 : Nat) : Int))])), (112, some (rowR ⟨n', y :: u, o', f', z :: v⟩)), (101, some (rowA ⟨n', y :: u, o', f', z :: v⟩)), (102, none)], SubM.of_subI (SubI.of [] (by rw [hcx, ← hks]; rfl) rfl ⟨⟨rfl, LeBx.rfl⟩, ⟨rfl, LeBx.rfl⟩, ⟨rfl, LeBx.rfl⟩, ⟨rfl, LeBx.rfl⟩, ⟨rfl, LeBx.cells ⟨LeQ.int hw, trivial⟩⟩, ⟨rfl, LeBx.rfl⟩, ⟨rfl, LeBx.rfl⟩, trivial⟩ trivial), ?_⟩
            exact SubJ.of [(102, 112)] (by rw [href]; rfl) rfl ⟨⟨rfl, LeBx.rfl⟩, ⟨rfl, LeBx.rfl⟩, ⟨rfl, LeBx.rfl⟩, ⟨rfl, LeBx.rfl⟩, ⟨rfl, LeBx.rfl⟩, ⟨rfl, LeBx.rfl⟩, ⟨rfl, LeBx.rfl⟩, trivial⟩ ⟨⟨rfl, LeQ.rfl⟩, ⟨rfl, LeQ.rfl⟩, ⟨rfl, LeQ.rfl⟩, ⟨rfl, LeQ.rfl⟩, ⟨rfl, LeQ.rfl⟩, trivial⟩
  · rintro ⟨i, d⟩ r ⟨l, rfl, hp, ps, hz, hle⟩ h0
    simp only at hp ps hz hle
    rw [bs_size] at h0
    obtain rfl : l = [] := List.length_eq_zero_iff.1 h0
    have hi : 0 < i := hz.resolve_right (by simp)
    have hr : rP s = (some d, 0) := hp.trans (parL_empty hi)
    have hck := gCheck d (ps.ok (by omega) (by omega))
    refine AWM.part (ks := ksP (i, d)) (hinP _) (hallP _) (fun x hx => by rw [href] at hx; cases hx) (fun cx' hcx => ?_)
    have hps := pRes_some hsz hr
    generalize hks : ksP (i, d) = kk at *
    obtain ⟨n, ax, o, f, rg⟩ := d
    cases ax with
    | nil =>
      cases rg with
      | nil =>
        refine AW.seq (AW.seq (ex.sound (rc := []) tab_ok mix hcx _ ?_))
        refine callN (hck.conv (args' := _) ⟨⟨LeD.refl _, LeD.nil, LeD.refl _, LeD.refl _, LeD.nil, trivial⟩, trivial⟩) ?_
        refine ex.sound (rc := []) tab_ok mix hcx _ ?_
        refine And.intro (fun h3 => ?_) (fun h3 => ?_)
        · rw [hps, show (errC _ != 0) = true from h3]
          exact SubR.t ⟨⟨LeD.refl _, LeD.nil, LeD.refl _, LeD.refl _, LeD.nil, trivial⟩, LeD.refl _, LeD.refl _, trivial⟩
        · rw [hps, show (errC _ != 0) = false from h3]
          refine ex.sound (rc := []) tab_ok mix hcx _ ?_
          exact SubR.t ⟨⟨LeD.refl _, LeD.nil, LeD.refl _, LeD.refl _, LeD.nil, trivial⟩, LeD.refl _, LeD.refl _, trivial⟩
      | cons r t =>
        refine AW.seq (AW.seq (ex.sound (rc := []) tab_ok mix hcx _ ?_))
        refine callN (hck.conv (args' := _) ⟨⟨LeD.refl _, LeD.nil, LeD.refl _, LeD.refl _, LeD.refl _, trivial⟩, trivial⟩) ?_
        refine ex.sound (rc := []) tab_ok mix hcx _ ?_
        refine And.intro (fun h3 => ?_) (fun h3 => ?_)
        · rw [hps, show (errC _ != 0) = true from h3]
          exact SubR.t ⟨⟨LeD.refl _, LeD.nil, LeD.refl _, LeD.refl _, LeD.nil, trivial⟩, LeD.refl _, LeD.refl _, trivial⟩
        · rw [hps, show (errC _ != 0) = false from h3]
          refine ex.sound (rc := []) tab_ok mix hcx _ ?_
          exact SubR.t ⟨⟨LeD.refl _, LeD.nil, LeD.refl _, LeD.refl _, LeD.refl _, trivial⟩, LeD.refl _, LeD.refl _, trivial⟩
    | cons y u =>
      cases rg with
      | nil =>
        refine AW.seq (AW.seq (ex.sound (rc := []) tab_ok mix hcx _ ?_))
        refine callN (hck.conv (args' := _) ⟨⟨LeD.refl _, LeD.refl _, LeD.refl _, LeD.refl _, LeD.nil, trivial⟩, trivial⟩) ?_
        refine ex.sound (rc := []) tab_ok mix hcx _ ?_
        refine And.intro (fun h3 => ?_) (fun h3 => ?_)
        · rw [hps, show (errC _ != 0) = true from h3]
          exact SubR.t ⟨⟨LeD.refl _, LeD.nil, LeD.refl _, LeD.refl _, LeD.nil, trivial⟩, LeD.refl _, LeD.refl _, trivial⟩
        · rw [hps, show (errC _ != 0) = false from h3]
          refine ex.sound (rc := []) tab_ok mix hcx _ ?_
          exact SubR.t ⟨⟨LeD.refl _, LeD.refl _, LeD.refl _, LeD.refl _, LeD.nil, trivial⟩, LeD.refl _, LeD.refl _, trivial⟩
      | cons r t =>
        refine AW.seq (AW.seq (ex.sound (rc := []) tab_ok mix hcx _ ?_))
        refine callN (hck.conv (args' := _) ⟨⟨LeD.refl _, LeD.refl _, LeD.refl _, LeD.refl _, LeD.refl _, trivial⟩, trivial⟩) ?_
        refine ex.sound (rc := []) tab_ok mix hcx _ ?_
        refine And.intro (fun h3 => ?_) (fun h3 => ?_)
        · rw [hps, show (errC _ != 0) = true from h3]
          exact SubR.t ⟨⟨LeD.refl _, LeD.nil, LeD.refl _, LeD.refl _, LeD.nil, trivial⟩, LeD.refl _, LeD.refl _, trivial⟩
        · rw [hps, show (errC _ != 0) = false from h3]
          refine ex.sound (rc := []) tab_ok mix hcx _ ?_
          exact SubR.t ⟨⟨LeD.refl _, LeD.refl _, LeD.refl _, LeD.refl _, LeD.refl _, trivial⟩, LeD.refl _, LeD.refl _, trivial⟩
  · exact fun b hb => hb
end Go.Ch

/- strings.Builder.WriteByte, channel.words. -/
namespace Go.Ch
open Go Go.Ax Go.Proofs Go.Proofs.Tryz
set_option maxRecDepth 100000
set_option pp.maxSteps 400
set_option maxHeartbeats 1000000

theorem copyCheck (l : List UInt8) : CallR Tryz.prog 106 [.s (.ptr 0 0)] (bld 1 l) (.t []) (bld 1 l) := by
  refine ⟨Tryz.call106, fun M β w vs _ hr hM hbx hkeys => ?_⟩
  match vs, hr with
  | [v1], ⟨⟨b, c, eb, hv1⟩, _⟩ =>
    subst hv1
    obtain ⟨b', c', cs, T, eb', hbk, hrl⟩ := hbx.rep 0 _ (List.mem_cons_self)
    rw [eb] at eb'; cases eb'
    match cs, hrl with
    | [x0, x1], ⟨⟨q0, q1, e0, hx0⟩, _⟩ =>
      rw [eb] at e0; cases e0
      subst hx0
      refine (Tryz.copyCheck_used b w (by rw [Lib.cell_of_heap hbk]; rfl)).mono ?_
      rintro e w' ⟨rfl, rfl⟩
      exact ⟨_, M, β, rfl, Nm.le_refl _, ⟨[], rfl, trivial⟩, Grow.refl _ _, hM, hbx, fun x b c hx e => .inr ⟨x, c, e⟩, rfl, rfl, rfl, Nat.le_refl _, fun _ _ _ => rfl⟩
theorem WB_used (l : List UInt8) (c : UInt8) (hlen : l.length ≤ 1000000) :
    CallR Tryz.prog 88 [.s (.ptr 0 0), .s (.d (.val (.int .u8 c.toNat)))] (bld 1 l) (.s (.d (.val .nilIface))) (bld 2 (l ++ [c])) := by
  refine callQR_of_aw (N := 17) (rs := [.tmp 4]) Tryz.func88 rfl rfl Tryz.call88 tab_ok rfl rfl rfl (fun cx href => ?_)
  refine AW.seq (ex.sound (rc := []) tab_ok mix href _ ?_)
  refine AW.seq (ex.sound (rc := [106]) tab_ok mix href _ ?_)
  refine ⟨[], _, _, _, _, copyCheck l, rfl, ⟨rfl, rfl, trivial⟩, rfl, ?_⟩
  refine AW.seq (ex.sound (rc := []) tab_ok mix href _ ?_)
  refine ob (by show (l.length + 1) * 1 ≤ 140737488355328; omega) ?_
  refine ob (fit1 (lt1 rfl)) ?_
  refine ex.sound (rc := []) tab_ok mix href _ ?_
  refine ⟨.inl rfl, ⟨[(4, .s (.d (.val .nilIface)))], [(0, some (.cells [.ptr 0 0, .own 2])), (2, some (.row 5 (l ++ [c]).length 1 (byteF (l ++ [c])))), (1, none)]⟩, _,
    SubM.of_subI (SubI.of [(2, 14)] (by rw [href]; rfl) rfl ⟨⟨rfl, LeBx.rfl⟩, ⟨rfl, ?_⟩, trivial⟩ ⟨⟨rfl, LeQ.rfl⟩, trivial⟩), rfl, LeQ.rfl, rfl, rfl, trivial⟩
  refine b1_of rfl ?_
  have h0 : RowIs 1 l.length (byteF l) (fun (x : UInt8) _ => DV.val (.int .u8 (x.toNat : Int))) l := ⟨rfl, fun _ _ _ _ => rfl⟩
  exact RowIs.row (RowIs.snoc h0 (lt1 rfl))

theorem numsT_take_le {l : List Int} (h : ∀ n ∈ l, sm8 n) (k : Nat) : (numsT (l.take k)).length ≤ 10 * l.length := by
  have := numsT_len (l := l.take k) (fun n hn => h n (List.mem_of_mem_take hn))
  have h2 : (l.take k).length ≤ l.length := by simp; omega
  omega
/-- At a builder that has been written to. -/
theorem words_used (t word : List UInt8) (l : List Int) (h : ∀ n ∈ l, sm8 n) (ht : t ≠ []) (h1 : t.length ≤ 100000) (h2 : word.length ≤ 1000) (h3 : l.length ≤ 1000) :
    CallR Tryz.prog 44 [.s (.ptr 0 0), vT word, vInts l] (bld 1 t) (.t []) (bld 2 (t ++ (word ++ numsT l ++ [10]))) := by
  refine callQR_of_aw (N := 25) (rs := []) Tryz.func44 rfl rfl Tryz.call44 tab_ok rfl rfl rfl (fun cx href => ?_)
  refine AW.seq (ex.sound (rc := [73]) tab_ok mix href _ ?_)
  refine ⟨[], _, _, _, _, WS_used t word ht (by omega), rfl, ⟨rfl, rfl, trivial⟩, rfl, ?_⟩
  refine AW.seq (AW.seq (ex.sound (rc := []) tab_ok mix href _ ?_))
  refine AW.block ?_
  let T : Nat → List UInt8 := fun k => t ++ (word ++ numsT (l.take k))
  have hT : ∀ k, (T k).length ≤ 101000 + 10 * l.length := fun k => by
    have := numsT_take_le h k
    simp only [T, List.length_append]; omega
  have hTn : ∀ k, T k ≠ [] := fun k => by simp [T, ht]
  refine AW.loopI (fun k : Nat => ⟨[(0, .s (.ptr 0 0)), (11, vInts l), (12, vI l.length), (13, vI k)], [(0, some (.cells [.ptr 0 0, .own 100])), (100, some (.row 5 (T k).length 1 (byteF (T k)))), (1, none)]⟩)
    (fun k => k ≤ l.length) (fun k => l.length - k) 0 (Nat.zero_le _) ?_ ?_
  · refine SubI.of [(100, 2)] (by rw [href]; rfl) rfl ⟨⟨rfl, LeBx.rfl⟩, ⟨rfl, ?_⟩, trivial⟩ ⟨⟨rfl, LeQ.rfl⟩, ⟨rfl, LeQ.rfl⟩, ⟨rfl, LeQ.rfl⟩, ⟨rfl, LeQ.rfl⟩, trivial⟩
    have : T 0 = t ++ word := by simp [T, numsT]
    rw [this]
    exact LeBx.rfl
  · intro k hk
    refine AW.seq (ex.sound (rc := []) tab_ok mix href _ ?_)
    refine AW.seq (ex.sound (rc := []) tab_ok mix href _ ?_)
    refine And.intro (fun h4 => ?_) (fun h4 => ?_)
    · have h4 : (k : Int) < (l.length : Int) := decT h4
      have h5 : k < l.length := by omega
      have hsm : sm8 (l.getD k 0) := h _ (by rw [List.getD_eq_getElem?_getD, List.getElem?_eq_getElem h5]; exact List.getElem_mem h5)
      have hl8 := itoa_len8 hsm
      have hi64 := i64_of_sm8 hsm
      refine AW.seq (AW.block (AW.seq (ex.sound (rc := []) tab_ok mix href _ ?_)))
      refine oi (show 0 ≤ (k : Int) ∧ (k : Int) < (l.length : Int) by omega) ?_
      refine ex.sound (rc := [73]) tab_ok mix href _ ?_
      refine callN (Itoa (l.getD k 0) (by have : (l.getD k 0).natAbs < 100000000 := hsm; omega) (by have : (l.getD k 0).natAbs < 100000000 := hsm; omega)) ?_
      refine oi (by rw [bs_size]; show 1 + _ ≤ _; omega) ?_
      refine ⟨[(1, 100), (2, 101)], _, _, _, _, WS_used (T k) (32 :: Lib.itoa (l.getD k 0)) (hTn k) (by have := hT k; simp only [List.length_cons]; omega), ?_, ⟨rfl, rfl, trivial⟩, rfl, ?_⟩
      · exact congrArg (fun x => [AV.s (SV.ptr 0 0), AV.s (.d (.val (.string x)))]) (bs_add [32] _)
      refine ex.sound (rc := []) tab_ok mix href _ ?_
      refine ⟨k + 1, by omega, by omega, ?_⟩
      have e : T (k + 1) = T k ++ (32 :: Lib.itoa (l.getD k 0)) := by simp only [T, numsT_succ l h5, List.append_assoc]
      refine SubI.of [(100, 101)] (by rw [href]; rfl) rfl ⟨⟨rfl, LeBx.rfl⟩, ⟨rfl, ?_⟩, trivial⟩ ⟨⟨rfl, LeQ.rfl⟩, ⟨rfl, LeQ.rfl⟩, ⟨rfl, LeQ.rfl⟩, ⟨rfl, LeQ.int ?_⟩, trivial⟩
      · rw [e]; exact LeBx.rfl
      · exact (w64_of (by omega) (by omega)).trans (by omega)
    · have h4 : ¬ (k : Int) < (l.length : Int) := decF h4
      obtain rfl : k = l.length := by omega
      refine ex.sound (rc := [88]) tab_ok mix href _ ?_
      have := hT l.length
      refine ⟨[(1, 100), (2, 101)], _, _, _, _, WB_used (T l.length) 10 (by omega), rfl, ⟨rfl, rfl, trivial⟩, rfl, ?_⟩
      have e : T l.length ++ [10] = t ++ (word ++ numsT l ++ [10]) := by simp [T]
      rw [← e]
      refine ⟨.inr rfl, ⟨[], [(0, some (.cells [.ptr 0 0, .own 2])), (2, some (.row 5 (T l.length ++ [10]).length 1 (byteF (T l.length ++ [10])))), (1, none)]⟩, _,
        SubM.of_subI (SubI.of [(2, 101)] (by rw [href]; rfl) rfl ⟨⟨rfl, LeBx.rfl⟩, ⟨rfl, b1_of rfl LeBx.rfl⟩, trivial⟩ trivial), rfl, LeQ.rfl, rfl, rfl, trivial⟩
/-- At a fresh builder. -/
theorem words_fresh (word : List UInt8) (l : List Int) (h : ∀ n ∈ l, sm8 n) (ht : word ≠ []) (h2 : word.length ≤ 1000) (h3 : l.length ≤ 1000) :
    CallR Tryz.prog 44 [.s (.ptr 0 0), vT word, vInts l] [(0, .fresh 95 [.pointer none, .slice none 0 0])] (.t []) (bld 2 (word ++ numsT l ++ [10])) := by
  refine callQR_of_aw (N := 25) (rs := []) Tryz.func44 rfl rfl Tryz.call44 tab_ok rfl rfl rfl (fun cx href => ?_)
  refine AW.seq (ex.sound (rc := [73]) tab_ok mix href _ ?_)
  refine ⟨[], _, _, _, _, WS_fresh word ht (by omega), rfl, ⟨rfl, trivial⟩, rfl, ?_⟩
  refine AW.seq (AW.seq (ex.sound (rc := []) tab_ok mix href _ ?_))
  refine AW.block ?_
  let T : Nat → List UInt8 := fun k => word ++ numsT (l.take k)
  have hT : ∀ k, (T k).length ≤ 101000 + 10 * l.length := fun k => by
    have := numsT_take_le h k
    simp only [T, List.length_append]; omega
  have hTn : ∀ k, T k ≠ [] := fun k => by simp [T, ht]
  refine AW.loopI (fun k : Nat => ⟨[(0, .s (.ptr 0 0)), (11, vInts l), (12, vI l.length), (13, vI k)], [(0, some (.cells [.ptr 0 0, .own 100])), (100, some (.row 5 (T k).length 1 (byteF (T k))))]⟩)
    (fun k => k ≤ l.length) (fun k => l.length - k) 0 (Nat.zero_le _) ?_ ?_
  · refine SubI.of [(100, 2)] (by rw [href]; rfl) rfl ⟨⟨rfl, LeBx.rfl⟩, ⟨rfl, ?_⟩, trivial⟩ ⟨⟨rfl, LeQ.rfl⟩, ⟨rfl, LeQ.rfl⟩, ⟨rfl, LeQ.rfl⟩, ⟨rfl, LeQ.rfl⟩, trivial⟩
    have : T 0 = word := by simp [T, numsT]
    rw [this]
    exact LeBx.rfl
  · intro k hk
    refine AW.seq (ex.sound (rc := []) tab_ok mix href _ ?_)
    refine AW.seq (ex.sound (rc := []) tab_ok mix href _ ?_)
    refine And.intro (fun h4 => ?_) (fun h4 => ?_)
    · have h4 : (k : Int) < (l.length : Int) := decT h4
      have h5 : k < l.length := by omega
      have hsm : sm8 (l.getD k 0) := h _ (by rw [List.getD_eq_getElem?_getD, List.getElem?_eq_getElem h5]; exact List.getElem_mem h5)
      have hl8 := itoa_len8 hsm
      have hi64 := i64_of_sm8 hsm
      refine AW.seq (AW.block (AW.seq (ex.sound (rc := []) tab_ok mix href _ ?_)))
      refine oi (show 0 ≤ (k : Int) ∧ (k : Int) < (l.length : Int) by omega) ?_
      refine ex.sound (rc := [73]) tab_ok mix href _ ?_
      refine callN (Itoa (l.getD k 0) (by have : (l.getD k 0).natAbs < 100000000 := hsm; omega) (by have : (l.getD k 0).natAbs < 100000000 := hsm; omega)) ?_
      refine oi (by rw [bs_size]; show 1 + _ ≤ _; omega) ?_
      refine ⟨[(1, 100), (2, 101)], _, _, _, _, WS_used (T k) (32 :: Lib.itoa (l.getD k 0)) (hTn k) (by have := hT k; simp only [List.length_cons]; omega), ?_, ⟨rfl, rfl, trivial⟩, rfl, ?_⟩
      · exact congrArg (fun x => [AV.s (SV.ptr 0 0), AV.s (.d (.val (.string x)))]) (bs_add [32] _)
      refine ex.sound (rc := []) tab_ok mix href _ ?_
      refine ⟨k + 1, by omega, by omega, ?_⟩
      have e : T (k + 1) = T k ++ (32 :: Lib.itoa (l.getD k 0)) := by simp only [T, numsT_succ l h5, List.append_assoc]
      refine SubI.of [(100, 101)] (by rw [href]; rfl) rfl ⟨⟨rfl, LeBx.rfl⟩, ⟨rfl, ?_⟩, trivial⟩ ⟨⟨rfl, LeQ.rfl⟩, ⟨rfl, LeQ.rfl⟩, ⟨rfl, LeQ.rfl⟩, ⟨rfl, LeQ.int ?_⟩, trivial⟩
      · rw [e]; exact LeBx.rfl
      · exact (w64_of (by omega) (by omega)).trans (by omega)
    · have h4 : ¬ (k : Int) < (l.length : Int) := decF h4
      obtain rfl : k = l.length := by omega
      refine ex.sound (rc := [88]) tab_ok mix href _ ?_
      have := hT l.length
      refine ⟨[(1, 100), (2, 101)], _, _, _, _, WB_used (T l.length) 10 (by omega), rfl, ⟨rfl, rfl, trivial⟩, rfl, ?_⟩
      have e : T l.length ++ [10] = word ++ numsT l ++ [10] := by simp [T]
      rw [← e]
      refine ⟨.inr rfl, ⟨[], [(0, some (.cells [.ptr 0 0, .own 2])), (2, some (.row 5 (T l.length ++ [10]).length 1 (byteF (T l.length ++ [10]))))]⟩, _,
        SubM.of_subI (SubI.of [(2, 101)] (by rw [href]; rfl) rfl ⟨⟨rfl, LeBx.rfl⟩, ⟨rfl, b1_of rfl LeBx.rfl⟩, trivial⟩ trivial), rfl, LeQ.rfl, rfl, rfl, trivial⟩
end Go.Ch

/- channel.Print. -/
namespace Go.Ax
open Go.RowKit
def LeRs : List AV → List AV → Prop
  | [], [] => True
  | x :: r, y :: q => LeQ x y ∧ LeRs r q
  | _, _ => False
theorem LeRs.rep {M : Mem} {β : Nm} : ∀ {l l' : List AV} {vs : List Value}, LeRs l l' → RepAs M β l vs → RepAs M β l' vs
  | [], [], _, _, h => h
  | _ :: _, _ :: _, [], _, h => h.elim
  | _ :: _, _ :: _, _ :: _, k, h => ⟨k.1 _ _ _ h.1, LeRs.rep k.2 h.2⟩
theorem CallR.conv {P : Program} {f : FuncId} {args args' : List AV} {bx : BoxL} {r : AV} {bx' : BoxL} (h : CallR P f args bx r bx') (le : LeRs args' args) : CallR P f args' bx r bx' :=
  ⟨h.1, fun M β w vs hg hr => h.2 M β w vs hg (le.rep hr)⟩
end Go.Ax
namespace Go.Ch
open Go Go.Ax Go.Proofs Go.Proofs.Tryz
set_option maxRecDepth 100000
set_option pp.maxSteps 400
set_option maxHeartbeats 4000000

def prC (c : Chan) : List UInt8 := bif errC c != 0 then [] else textC c
abbrev bldB (x : Nat) (l : List UInt8) : List (Nat × Option Box) := [(5, some (.cells [.ptr 5 0, .own x])), (x, some (.row 5 l.length 1 (byteF l)))]
theorem app_eq {w : ByteArray} {p : List UInt8} : bs p ++ w = bs (p ++ nmL w) := by
  have := bs_add p (nmL w)
  rwa [bs_nmL] at this
theorem textA_len {c : Chan} (v : TxC c) (k : Nat) : (textA c k).length ≤ 1200 := v.a_len k
theorem textB_len {c : Chan} (v : TxC c) (k : Nat) : (textB c k).length ≤ 19000 := v.b_len k
theorem textA_ne (c : Chan) (k : Nat) : textA c k ≠ [] := by simp [textA]
theorem textB_ne (c : Chan) (k : Nat) : textB c k ≠ [] := by simp [textB, textA]
theorem Print (c : Chan) (hc : c.ok) : CallP Tryz.prog 16 [chan c] (.t [.s (.d (dT (prC c))), .s (.d (dI (errC c)))]) := by
  refine callP_of_aw (N := 80) Tryz.func16 rfl rfl Tryz.call16 tab_ok rfl rfl (fun cx href => ?_)
  refine AW.seq (ex.sound (rc := []) tab_ok mix href _ ?_)
  refine AW.seq (ex.sound (rc := []) tab_ok mix href _ ?_)
  refine callN (gCheck c hc) ?_
  refine And.intro (fun h => ?_) (fun h => ?_)
  · have h : (errC c != 0) = true := h
    unfold prC
    rw [h]
    exact SubR.refl _
  have h : (errC c != 0) = false := h
  have he : errC c = 0 := by simpa using h
  have v := TxC.of he
  have ep : prC c = textC c := by unfold prC; rw [h]; rfl
  rw [ep, he]
  have hA := textA_len v
  have hB := textB_len v
  have v1 := v.name
  refine AW.seq (ex.sound (rc := []) tab_ok mix href _ ?_)
  refine AW.seq (ex.sound (rc := [44, 3000026]) tab_ok mix href _ ?_)
  refine oi (show (bs (chanW ++ [32])).size + c.name.size ≤ 9223372036854775807 by rw [bs_size]; simp [chanW]; omega) ?_
  have hsm : ∀ n ∈ [c.over, c.buffer], sm8 n := by
    intro n hn
    simp only [List.mem_cons, List.not_mem_nil, or_false] at hn
    rcases hn with rfl | rfl
    · exact v.over
    · exact v.buffer
  have hnl : (nmL c.name).length ≤ 12 := by rw [nmL_size]; omega
  refine ⟨[25], [(0, 5), (2, 200)], _, _, _, _, (words_fresh (chanW ++ [32] ++ nmL c.name) [c.over, c.buffer] hsm (by simp [chanW]) (by simp [chanW]; omega) (by show 2 ≤ 1000; decide)).conv (args' := [.s (.ptr 0 0), .s (.d _), .s (.d _)]) ⟨LeQ.rfl, LeQ.d (LeD.of_eq ?_), LeQ.d ?_, trivial⟩, rfl, ⟨rfl, trivial⟩, rfl, ?_⟩
  · exact congrArg (fun x => DV.val (.string x)) app_eq
  · exact LeD.slc' rfl (fun i j hi hj => LeD.of_eq (by
      obtain rfl : j = 0 := by have : j < 1 := hj; omega
      match i, hi with
      | 0, _ => rfl
      | 1, _ => rfl))
  have e0 : chanW ++ [32] ++ nmL c.name ++ numsT [c.over, c.buffer] ++ [10] = textA c 0 := by
    have hne : (nmL c.name).isEmpty = false := by
      cases h : nmL c.name with
      | nil => have := nmL_size c.name; rw [h] at this; simp at this; omega
      | cons _ _ => rfl
    simp [textA, chanB', lineB, hne]
  rw [e0]
  refine AW.seq (AW.seq (ex.sound (rc := []) tab_ok mix href _ ?_))
  refine AW.block ?_
  have hn20 := v.axn
  refine AW.loopI (fun i : Nat => ⟨[(1, .s (.ptr 1 0)), (5, .s (.ptr 5 0)), (28, .s (.d (dAps c.axis))), (29, vI c.axis.length), (30, vI i)], (1, some (chanB c)) :: bldB 200 (textA c i)⟩) (fun i => i ≤ c.axis.length) (fun i => c.axis.length - i) 0 (Nat.zero_le _) ?_ ?_
  · exact SubI.of0 href [] rfl ⟨⟨rfl, LeBx.rfl⟩, ⟨rfl, LeBx.rfl⟩, ⟨rfl, LeBx.rfl⟩, trivial⟩ ⟨⟨rfl, LeQ.rfl⟩, ⟨rfl, LeQ.rfl⟩, ⟨rfl, LeQ.rfl⟩, ⟨rfl, LeQ.rfl⟩, ⟨rfl, LeQ.rfl⟩, trivial⟩
  · intro i hi
    refine AW.seq (ex.sound (rc := []) tab_ok mix href _ ?_)
    refine AW.seq (ex.sound (rc := []) tab_ok mix href _ ?_)
    refine And.intro (fun h4 => ?_) (fun h4 => ?_)
    · have h4 : (i : Int) < (c.axis.length : Int) := decT h4
      have h5 : i < c.axis.length := by omega
      have hm : c.axis.getD i default ∈ c.axis := by rw [getD_of h5]; exact List.getElem_mem h5
      refine AW.seq (AW.block (AW.seq (ex.sound (rc := []) tab_ok mix href _ ?_)))
      refine oi (show 0 ≤ (i : Int) ∧ (i : Int) < (c.axis.length : Int) by omega) ?_
      refine ex.sound (rc := [44, 3000045]) tab_ok mix href _ ?_
      have h1 := hA i
      refine ⟨[44], [(0, 5), (1, 200), (2, 201)], _, _, _, _, (words_used (textA c i) axW (apN (c.axis.getD i default)) (v.aps _ hm) (textA_ne c i) (by omega) (by decide) (by show 5 ≤ 1000; decide)).conv (args' := [.s (.ptr 0 0), .s (.d _), .s (.d _)]) ⟨LeQ.rfl, LeQ.d (LeD.refl _), LeQ.d ?_, trivial⟩, rfl, ⟨rfl, rfl, trivial⟩, rfl, ?_⟩
      · exact LeD.slc' rfl (fun i j hi hj => LeD.of_eq (by
          obtain rfl : j = 0 := by have : j < 1 := hj; omega
          match i, hi with
          | 0, _ => rfl
          | 1, _ => rfl
          | 2, _ => rfl
          | 3, _ => rfl
          | 4, _ => rfl))
      have e1 : textA c i ++ (axW ++ numsT (apN (c.axis.getD i default)) ++ [10]) = textA c (i + 1) := by rw [textA_succ c h5]; rfl
      rw [e1]
      refine ex.sound (rc := []) tab_ok mix href _ ?_
      refine ⟨i + 1, by omega, by omega, SubI.of0 href [(200, 201)] rfl ⟨⟨rfl, LeBx.rfl⟩, ⟨rfl, LeBx.rfl⟩, ⟨rfl, LeBx.rfl⟩, trivial⟩ ⟨⟨rfl, LeQ.rfl⟩, ⟨rfl, LeQ.rfl⟩, ⟨rfl, LeQ.rfl⟩, ⟨rfl, LeQ.rfl⟩, ⟨rfl, LeQ.int (w64_of (by omega) (by omega))⟩, trivial⟩⟩
    · have h4 : ¬ (i : Int) < (c.axis.length : Int) := decF h4
      obtain rfl : i = c.axis.length := by omega
      have e2 : textA c c.axis.length = textB c 0 := by simp [textB]
      rw [e2]
      refine AW.seq (AW.seq (ex.sound (rc := []) tab_ok mix href _ ?_))
      refine AW.block ?_
      have hr20 := v.regn
      refine AW.loopI (fun i : Nat => ⟨[(1, .s (.ptr 1 0)), (5, .s (.ptr 5 0)), (48, .s (.d (dRegs c.regions))), (49, vI c.regions.length), (50, vI i)], (1, some (chanB c)) :: bldB 200 (textB c i)⟩) (fun i => i ≤ c.regions.length) (fun i => c.regions.length - i) 0 (Nat.zero_le _) ?_ ?_
      · exact SubI.of0 href [] rfl ⟨⟨rfl, LeBx.rfl⟩, ⟨rfl, LeBx.rfl⟩, ⟨rfl, LeBx.rfl⟩, trivial⟩ ⟨⟨rfl, LeQ.rfl⟩, ⟨rfl, LeQ.rfl⟩, ⟨rfl, LeQ.rfl⟩, ⟨rfl, LeQ.rfl⟩, ⟨rfl, LeQ.rfl⟩, trivial⟩
      · intro i hi
        refine AW.seq (ex.sound (rc := []) tab_ok mix href _ ?_)
        refine AW.seq (ex.sound (rc := []) tab_ok mix href _ ?_)
        refine And.intro (fun h4 => ?_) (fun h4 => ?_)
        · have h4 : (i : Int) < (c.regions.length : Int) := decT h4
          have h5 : i < c.regions.length := by omega
          have hm : c.regions.getD i default ∈ c.regions := by rw [getD_of h5]; exact List.getElem_mem h5
          have g1 := v.rname _ hm
          have g2 := v.corners _ hm
          have g3 := v.regs _ hm
          have hs := textB_succ c h5
          have b1 := hB i
          generalize hr : c.regions.getD i default = r at *
          refine AW.seq (AW.block (AW.seq (ex.sound (rc := []) tab_ok mix href _ ?_)))
          refine oi (show 0 ≤ (i : Int) ∧ (i : Int) < (c.regions.length : Int) by omega) ?_
          refine AW.seq (ex.sound (rc := []) tab_ok mix href _ ?_)
          refine AW.seq (AW.seq (ex.sound (rc := []) tab_ok mix href _ ?_))
          refine AW.block ?_
          refine AW.loopI (fun k : Nat => ⟨[(1, .s (.ptr 1 0)), (5, .s (.ptr 5 0)), (48, .s (.d (dRegs c.regions))), (49, vI c.regions.length), (50, vI i), (9, .s (.ptr 9 0)), (10, .s (.mo (ptsN (r.corners.take k)).isEmpty 100)), (55, .s (.d (dPts r.corners))), (56, vI r.corners.length), (57, vI k)],
              [(1, some (chanB c)), (9, some (.cells [.d (dS r.name), .d (dI r.kind), .d (dPts r.corners)])), (100, some (.mrow 3 (ptsN (r.corners.take k)).length 1 (intEl (ptsN (r.corners.take k)))))] ++ bldB 200 (textB c i)⟩)
            (fun k => k ≤ r.corners.length) (fun k => r.corners.length - k) 0 (Nat.zero_le _) ?_ ?_
          · rw [← hr]
            exact SubI.of0 href [] rfl ⟨⟨rfl, LeBx.rfl⟩, ⟨rfl, LeBx.rfl⟩, ⟨rfl, rfl⟩, ⟨rfl, LeBx.rfl⟩, ⟨rfl, LeBx.rfl⟩, trivial⟩ ⟨⟨rfl, LeQ.rfl⟩, ⟨rfl, LeQ.rfl⟩, ⟨rfl, LeQ.rfl⟩, ⟨rfl, LeQ.rfl⟩, ⟨rfl, LeQ.rfl⟩, ⟨rfl, LeQ.rfl⟩, ⟨rfl, LeQ.nil rfl⟩, ⟨rfl, LeQ.rfl⟩, ⟨rfl, LeQ.rfl⟩, ⟨rfl, LeQ.rfl⟩, trivial⟩
          · intro k hk
            have hpl := ptsN_len (r.corners.take k)
            have htl : (r.corners.take k).length = k := by rw [List.length_take]; omega
            refine AW.seq (ex.sound (rc := []) tab_ok mix href _ ?_)
            refine AW.seq (ex.sound (rc := []) tab_ok mix href _ ?_)
            refine And.intro (fun h6 => ?_) (fun h6 => ?_)
            · have h6 : (k : Int) < (r.corners.length : Int) := decT h6
              have h7 : k < r.corners.length := by omega
              refine AW.seq (AW.block (AW.seq (ex.sound (rc := []) tab_ok mix href _ ?_)))
              refine oi (show 0 ≤ (k : Int) ∧ (k : Int) < (r.corners.length : Int) by omega) ?_
              refine ex.sound (rc := []) tab_ok mix href _ ?_
              refine ob (by decide) ?_
              refine ob (by rw [bif_len]; show (_ + 2) * 8 ≤ _; rw [hpl, htl]; omega) ?_
              refine ob (fun a j ha hj => by
                match a, ha with
                | 0, _ => match j, hj with | 0, _ => rfl
                | 1, _ => match j, hj with | 0, _ => rfl) ?_
              refine ex.sound (rc := []) tab_ok mix href _ ?_
              refine ⟨k + 1, by omega, by omega, ?_⟩
              have e : ptsN (r.corners.take (k + 1)) = ptsN (r.corners.take k) ++ [(r.corners.getD k default).x, (r.corners.getD k default).y] := ptsN_take _ h7
              refine SubI.of0 href [(100, 67)] rfl ⟨⟨rfl, LeBx.rfl⟩, ⟨rfl, LeBx.rfl⟩, ⟨rfl, ?_⟩, ⟨rfl, LeBx.rfl⟩, ⟨rfl, LeBx.rfl⟩, trivial⟩ ⟨⟨rfl, LeQ.rfl⟩, ⟨rfl, LeQ.rfl⟩, ⟨rfl, LeQ.rfl⟩, ⟨rfl, LeQ.rfl⟩, ⟨rfl, LeQ.rfl⟩, ⟨rfl, LeQ.rfl⟩, ⟨rfl, LeQ.mo (by rw [e]; simp)⟩, ⟨rfl, LeQ.rfl⟩, ⟨rfl, LeQ.rfl⟩, ⟨rfl, LeQ.int (w64_of (by omega) (by omega))⟩, trivial⟩
              show LeBx _ (.mrow 3 (ptsN (r.corners.take (k + 1))).length 1 (intEl (ptsN (r.corners.take (k + 1)))))
              rw [e]
              exact RowIs.mrow (el := fun x _ => dI x) (intRow2 (l := ptsN (r.corners.take k)) ⟨bif_len _, fun _ _ _ _ => rfl⟩ rfl rfl)
            · have h6 : ¬ (k : Int) < (r.corners.length : Int) := decF h6
              obtain rfl : k = r.corners.length := by omega
              rw [List.take_length] at hpl ⊢
              refine AW.subM (σ' := ⟨[(1, .s (.ptr 1 0)), (5, .s (.ptr 5 0)), (48, .s (.d (dRegs c.regions))), (49, vI c.regions.length), (50, vI i), (9, .s (.ptr 9 0)), (10, vInts (ptsN r.corners))],
                [(1, some (chanB c)), (9, some (.cells [.d (dS r.name), .d (dI r.kind), .d (dPts r.corners)]))] ++ bldB 200 (textB c i)⟩) ?_ ?_
              · cases hz : (ptsN r.corners).isEmpty with
                | true =>
                  have hz0 : ptsN r.corners = [] := by simpa using hz
                  rw [hz0]
                  exact SubM.of_subI (SubI.of0 href [] rfl ⟨⟨rfl, LeBx.rfl⟩, ⟨rfl, LeBx.rfl⟩, ⟨rfl, LeBx.rfl⟩, ⟨rfl, LeBx.rfl⟩, trivial⟩ ⟨⟨rfl, LeQ.rfl⟩, ⟨rfl, LeQ.rfl⟩, ⟨rfl, LeQ.rfl⟩, ⟨rfl, LeQ.rfl⟩, ⟨rfl, LeQ.rfl⟩, ⟨rfl, LeQ.rfl⟩, ⟨rfl, fun M β v r => LeD.nil M v (LeQ.toNil rfl M β v r)⟩, trivial⟩)
                | false =>
                  refine SubM.trans (SubM.of_subI (SubI.own 10 100 rfl rfl rfl)) ?_
                  exact SubM.of href [] [100] rfl rfl rfl ⟨⟨rfl, LeBxf.rfl⟩, ⟨rfl, LeBxf.rfl⟩, ⟨rfl, LeBxf.rfl⟩, ⟨rfl, LeBxf.rfl⟩, trivial⟩ ⟨⟨rfl, LeQf.rfl⟩, ⟨rfl, LeQf.rfl⟩, ⟨rfl, LeQf.rfl⟩, ⟨rfl, LeQf.rfl⟩, ⟨rfl, LeQf.rfl⟩, ⟨rfl, LeQf.rfl⟩, ⟨rfl, LeQf.own (by simp) rfl⟩, trivial⟩
              refine AW.drawLast (rc := []) tab_ok (fun _ _ => href) mix [44, 3000077] href 8 rfl rfl rfl ?_
              refine oi (show (bs (regW ++ [32])).size + r.name.size ≤ 9223372036854775807 by rw [bs_size]; simp [regW]; omega) ?_
              refine ob (by show (1 + (ptsN r.corners).length) * 8 ≤ 140737488355328; omega) ?_
              refine ob (fun a j _ _ => rfl) ?_
              refine ob (by kernel_rfl) ?_
              have hrl : (nmL r.name).length ≤ 12 := by rw [nmL_size]; omega
              refine ⟨[76], [(0, 5), (1, 200), (2, 201)], _, _, _, _, (words_used (textB c i) (regW ++ [32] ++ nmL r.name) (regNs r) g3 (textB_ne c i) (by omega) (by simp [regW]; omega) (by show (ptsN r.corners).length + 1 ≤ 1000; omega)).conv (args' := [.s (.ptr 0 0), .s (.d _), .s (.d _)]) ⟨LeQ.rfl, LeQ.d (LeD.of_eq ?_), LeQ.d ?_, trivial⟩, rfl, ⟨rfl, rfl, trivial⟩, rfl, ?_⟩
              · exact congrArg (fun x => DV.val (.string x)) app_eq
              · refine LeD.slc' (Nat.add_comm _ _) (fun a j ha hj => LeD.of_eq ?_)
                obtain rfl : j = 0 := by have : j < 1 := hj; omega
                cases a with
                | zero => rfl
                | succ a => rfl
              have e1 : textB c i ++ (regW ++ [32] ++ nmL r.name ++ numsT (regNs r) ++ [10]) = textB c (i + 1) := by
                have hne : (nmL r.name).isEmpty = false := by
                  cases h : nmL r.name with
                  | nil => have := nmL_size r.name; rw [h] at this; simp at this; omega
                  | cons _ _ => rfl
                rw [hs]
                simp [regB, lineB, hne]
              rw [e1]
              refine ex.sound (rc := []) tab_ok mix href _ ?_
              refine ⟨i + 1, by omega, by omega, SubI.of0 href [(200, 201)] rfl ⟨⟨rfl, LeBx.rfl⟩, ⟨rfl, LeBx.rfl⟩, ⟨rfl, LeBx.rfl⟩, trivial⟩ ⟨⟨rfl, LeQ.rfl⟩, ⟨rfl, LeQ.rfl⟩, ⟨rfl, LeQ.rfl⟩, ⟨rfl, LeQ.rfl⟩, ⟨rfl, LeQ.int (w64_of (by omega) (by omega))⟩, trivial⟩⟩
        · have h4 : ¬ (i : Int) < (c.regions.length : Int) := decF h4
          obtain rfl : i = c.regions.length := by omega
          refine ex.sound (rc := [45]) tab_ok mix href _ ?_
          refine ⟨[(0, 5), (1, 200)], _, _, _, _, BString (textB c c.regions.length) (textB_ne _ _), rfl, ⟨rfl, rfl, trivial⟩, rfl, ?_⟩
          exact SubR.refl _
end Go.Ch

/- ChannelTexts: the law's own function. -/
namespace Go.Ch
open Go Go.Ax Go.Proofs Go.Proofs.Tryz
set_option maxRecDepth 100000
set_option pp.maxSteps 400
set_option maxHeartbeats 4000000

theorem parL_ps {m : Nat} : ∀ (L : List (List UInt8)) (i : Nat) (d e : Chan) (k : Nat), PS m i d → (∀ w ∈ L, w.length + 1 ≤ m) → parL i d L = (some e, k) → ∃ j, j ≤ i + L.length ∧ PS m j e
  | [], i, d, e, k, _, _, h => by simp [parL] at h
  | [w], i, d, e, k, hp, _, h => by
    have h : (bif w.isEmpty && decide (0 < i) then (some d, 0) else (none, i + 1)) = (some e, k) := h
    cases hb : w.isEmpty && decide (0 < i) with
    | false => rw [hb] at h; cases h
    | true =>
      rw [hb] at h
      cases h
      exact ⟨i, by omega, hp⟩
  | w :: v :: t, i, d, e, k, hp, hw, h => by
    rw [parL_cons (by simp)] at h
    cases hs : stepL i d (cutL 32 w) with
    | none => rw [hs] at h; cases h
    | some d' =>
      rw [hs] at h
      have h0 := hw w (by simp)
      obtain ⟨c1, c2⟩ := cutL_len 32 w
      have hwl : ((cutL 32 w).getD 1 []).length ≤ m := by
        rw [List.getD_eq_getElem?_getD]
        cases hq : (cutL 32 w)[1]? with
        | none => simp
        | some x => have := cutL_elem (List.mem_of_getElem? hq); simp only [Option.getD_some]; omega
      obtain ⟨j, h1, h2⟩ := parL_ps (v :: t) (i + 1) d' e k (hp.step hs (by omega) hwl) (fun x hx => hw x (by simp [hx])) h
      exact ⟨j, by simp only [List.length_cons] at h1 ⊢; omega, h2⟩
theorem rP_ps {s : List UInt8} {d : Chan} {k : Nat} (hs : s.length ≤ 20000) (h : rP s = (some d, k)) : ∃ j, j ≤ 20001 ∧ PS 20001 j d := by
  obtain ⟨c1, c2⟩ := cutL_len 10 s
  obtain ⟨j, h1, h2⟩ := parL_ps (cutL 10 s) 0 zeroC d k (PS.zero 20001) (fun w hw => by have := cutL_elem hw; omega) h
  exact ⟨j, by omega, h2⟩
theorem PS.same {j : Nat} {d : Chan} (h : PS 20001 j d) (hj : j ≤ 20001) : CallP Tryz.prog 21 [chan d, chan d] (vB true) := by
  have h1 := h.axis; have h2 := h.regions
  exact rSameEq d (by omega) (by omega) (fun i hi => by
    have := (h.regs (d.regions.getD i default) (by rw [getD_of hi]; exact List.getElem_mem hi)).2.2.1
    omega)
theorem pRes_text {c : Chan} (v : TxC c) (he : errC c = 0) : pRes (textC c) = (c, 0, 0) := by
  have hl := v.len
  rw [pRes_some (d := c) (n := 0) (by omega) (read_back v), he]; rfl
attribute [local irreducible] errC small in
theorem Law (c : Chan) (hc : c.ok) (s : List UInt8) : CallP Tryz.prog 4 [chan c, vT s] (vB true) := by
  refine callP_of_aw (N := 149) Tryz.func4 rfl rfl Tryz.call4 tab_ok rfl rfl (fun cx href => ?_)
  refine AW.seq (ex.sound (rc := []) tab_ok mix href _ ?_)
  refine AW.seq (ex.sound (rc := []) tab_ok mix href _ ?_)
  refine callN awake ?_
  refine And.intro (fun h => Bool.noConfusion (show false = true from h)) (fun _ => ?_)
  refine AW.seq (ex.sound (rc := []) tab_ok mix href _ ?_)
  refine callN (Small c hc) ?_
  repeat first | refine sk ?_ | refine st ?_ | refine sg ?_ | refine sh ?_ | refine su ?_ | refine sn1 ?_ | refine sn0 ?_ | refine And.intro (show imp none (gimp _ none) from trivial) ?_
  refine And.intro (fun h => ?_) (fun h => ?_)
  · exact SubR.lit rfl
  have h : ((!(small c) || (decide (((bs s).size : Int) > 500) && decide (((bs s).size : Int) ≤ 20000))) || decide (((bs s).size : Int) > 20100)) = false := h
  rw [bs_size] at h
  simp only [Bool.or_eq_false_iff, decide_eq_false_iff_not, Bool.not_eq_false'] at h
  obtain ⟨⟨hf, hm⟩, hx⟩ := h
  have sm := Sm.of hf
  have hs : s.length ≤ 100000 := by omega
  refine AW.seq (ex.sound (rc := []) tab_ok mix href _ ?_)
  refine callN (Copied c sm) ?_
  refine callN (Print c hc) ?_
  refine AW.cut (σ' := ⟨[(1, vT s), (2, .s (.ptr 2 0))], [(2, some (chanB c))]⟩) (ex.sound (rc := []) tab_ok mix href _ ?_) ?_
  · refine callN (rCheck c hc) ?_
    refine And.intro (fun h => ?_) (fun h => ?_)
    · have h : (errC c != 0) = true := h
      have hp : prC c = [] := by unfold prC; rw [h]; rfl
      rw [hp]
      repeat first | refine sk ?_ | refine st ?_ | refine sg ?_ | refine sh ?_ | refine su ?_ | refine sn1 ?_ | refine sn0 ?_ | refine And.intro (show imp none (gimp _ none) from trivial) ?_
      refine And.intro (fun h2 => ?_) (fun h2 => ?_)
      · have h2 : ((errC c != errC c) || !((bs []).toList == (bs []).toList)) = true := h2
        simp at h2
      · exact ⟨rfl, SubI.of0 href [] rfl ⟨⟨rfl, LeBx.rfl⟩, trivial⟩ ⟨⟨rfl, LeQ.rfl⟩, ⟨rfl, LeQ.rfl⟩, trivial⟩⟩
    · have h : (errC c != 0) = false := h
      have he : errC c = 0 := by simpa using h
      have v := TxC.of he
      have hp : prC c = textC c := by unfold prC; rw [h]; rfl
      have hml := v.len
      have hb := Parse (textC c) (by omega)
      rw [pRes_text v he] at hb
      rw [hp]
      refine callN hb ?_
      repeat first | refine sk ?_ | refine st ?_ | refine sg ?_ | refine sh ?_ | refine su ?_ | refine sn1 ?_ | refine sn0 ?_ | refine And.intro (show imp none (gimp _ none) from trivial) ?_
      refine callG (rPrint c v) ?_
      repeat first | refine sk ?_ | refine st ?_ | refine sg ?_ | refine sh ?_ | refine su ?_ | refine sn1 ?_ | refine sn0 ?_ | refine And.intro (show imp none (gimp _ none) from trivial) ?_
      refine callG (rSameEq c (by have := sm.axis; omega) (by have := sm.regions; omega) (fun i hi => by have := sm.corners i hi; omega)) ?_
      repeat first | refine sk ?_ | refine st ?_ | refine sg ?_ | refine sh ?_ | refine su ?_ | refine sn1 ?_ | refine sn0 ?_ | refine And.intro (show imp none (gimp _ none) from trivial) ?_
      refine And.intro (fun h2 => ?_) (fun h2 => ?_)
      · have h2 : ((((errC c != 0) || !((bs (textC c)).toList == (bs (textC c)).toList)) || ((0 : Int) != 0)) || ((0 : Int) != 0) || !true) = true := h2
        rw [h] at h2
        simp at h2
      · exact ⟨rfl, SubI.of0 href [] rfl ⟨⟨rfl, LeBx.rfl⟩, trivial⟩ ⟨⟨rfl, LeQ.rfl⟩, ⟨rfl, LeQ.rfl⟩, trivial⟩⟩
  · have hb := Parse s hs
    refine AW.seq (ex.sound (rc := []) tab_ok mix href _ ?_)
    by_cases hbig : s.length > 20000
    · rw [pRes_big hbig] at hb
      refine callN hb ?_
      refine AW.seq (ex.sound (rc := []) tab_ok mix href _ ?_)
      refine And.intro (fun h2 => ?_) (fun h2 => ?_)
      · repeat first | refine sk ?_ | refine st ?_ | refine sg ?_ | refine sh ?_ | refine su ?_ | refine sn1 ?_ | refine sn0 ?_ | refine And.intro (show imp none (gimp _ none) from trivial) ?_
        refine callG sameZero ?_
        repeat first | refine sk ?_ | refine st ?_ | refine sg ?_ | refine sh ?_ | refine su ?_ | refine sn1 ?_ | refine sn0 ?_ | refine And.intro (show imp none (gimp _ none) from trivial) ?_
        exact SubR.refl _
      · have h2 : decide (((bs s).size : Int) > 20000) = false := h2
        rw [bs_size] at h2
        simp at h2
        omega
    have hr := rParse s (by omega)
    have skip : ∀ {p : Prop}, decide (((bs s).size : Int) > 20000) = true → p := fun h2 => by
      rw [bs_size] at h2
      simp at h2
      omega
    cases hq : rP s with
    | mk o k =>
    rw [hq] at hr
    cases o with
    | none =>
      rw [pRes_none hbig hq] at hb
      refine callN hb ?_
      refine AW.seq (ex.sound (rc := []) tab_ok mix href _ ?_)
      refine And.intro (fun h2 => skip h2) (fun h2 => ?_)
      refine AW.seq (ex.sound (rc := []) tab_ok mix href _ ?_)
      refine callN hr ?_
      refine AW.seq (ex.sound (rc := []) tab_ok mix href _ ?_)
      refine And.intro (fun h3 => ?_) (fun h3 => Bool.noConfusion (show true = false from h3))
      repeat first | refine sk ?_ | refine st ?_ | refine sg ?_ | refine sh ?_ | refine su ?_ | refine sn1 ?_ | refine sn0 ?_ | refine And.intro (show imp none (gimp _ none) from trivial) ?_
      refine callG sameZero ?_
      repeat first | refine sk ?_ | refine st ?_ | refine sg ?_ | refine sh ?_ | refine su ?_ | refine sn1 ?_ | refine sn0 ?_ | refine And.intro (show imp none (gimp _ none) from trivial) ?_
      exact SubR.of_eq (congrArg vB (show ((((7 : Int) == 7) && ((k : Int) == (k : Int))) && true) = true by simp))
    | some d =>
      obtain ⟨j, hj, ps⟩ := rP_ps (by omega) hq
      have dok := ps.ok (by omega) (by omega)
      rw [pRes_some hbig hq] at hb
      cases he : errC d != 0 with
      | true =>
        rw [he] at hb
        refine callN hb ?_
        refine AW.seq (ex.sound (rc := []) tab_ok mix href _ ?_)
        refine And.intro (fun h2 => skip h2) (fun h2 => ?_)
        refine AW.seq (ex.sound (rc := []) tab_ok mix href _ ?_)
        refine callN hr ?_
        refine AW.seq (ex.sound (rc := []) tab_ok mix href _ ?_)
        refine And.intro (fun h3 => Bool.noConfusion (show false = true from h3)) (fun h3 => ?_)
        refine AW.seq (ex.sound (rc := []) tab_ok mix href _ ?_)
        refine callN (rCheck d dok) ?_
        refine And.intro (fun h4 => ?_) (fun h4 => ?_)
        · repeat first | refine sk ?_ | refine st ?_ | refine sg ?_ | refine sh ?_ | refine su ?_ | refine sn1 ?_ | refine sn0 ?_ | refine And.intro (show imp none (gimp _ none) from trivial) ?_
          refine callG sameZero ?_
          repeat first | refine sk ?_ | refine st ?_ | refine sg ?_ | refine sh ?_ | refine su ?_ | refine sn1 ?_ | refine sn0 ?_ | refine And.intro (show imp none (gimp _ none) from trivial) ?_
          exact SubR.of_eq (congrArg vB (show (((errC d == errC d) && ((0 : Int) == 0)) && true) = true by simp))
        · have h4 : (errC d != 0) = false := h4
          rw [he] at h4; cases h4
      | false =>
        rw [he] at hb
        refine callN hb ?_
        refine AW.seq (ex.sound (rc := []) tab_ok mix href _ ?_)
        refine And.intro (fun h2 => skip h2) (fun h2 => ?_)
        refine AW.seq (ex.sound (rc := []) tab_ok mix href _ ?_)
        refine callN hr ?_
        refine AW.seq (ex.sound (rc := []) tab_ok mix href _ ?_)
        refine And.intro (fun h3 => Bool.noConfusion (show false = true from h3)) (fun h3 => ?_)
        refine AW.seq (ex.sound (rc := []) tab_ok mix href _ ?_)
        refine callN (rCheck d dok) ?_
        refine And.intro (fun h4 => ?_) (fun h4 => ?_)
        · have h4 : (errC d != 0) = true := h4
          rw [he] at h4; cases h4
        · refine ex.sound (rc := []) tab_ok mix href _ ?_
          repeat first | refine sk ?_ | refine st ?_ | refine sg ?_ | refine sh ?_ | refine su ?_ | refine sn1 ?_ | refine sn0 ?_ | refine And.intro (show imp none (gimp _ none) from trivial) ?_
          refine callG (ps.same hj) ?_
          repeat first | refine sk ?_ | refine st ?_ | refine sg ?_ | refine sh ?_ | refine su ?_ | refine sn1 ?_ | refine sn0 ?_ | refine And.intro (show imp none (gimp _ none) from trivial) ?_
          exact SubR.of_eq (congrArg vB (show ((((0 : Int) == 0) && ((0 : Int) == 0)) && true) = true by simp))
end Go.Ch
