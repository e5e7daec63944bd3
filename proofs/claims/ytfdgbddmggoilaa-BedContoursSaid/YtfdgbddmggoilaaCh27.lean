/- Part Ch27: lemmas that the proofs of this seat share; by itself it claims nothing. -/
import Derived.Test.YtfdgbddmggoilaaCh26
/- At each place as many sides of a contour begin as end. -/
namespace Go.Ch
open Go Go.Ax Go.Proofs Go.Proofs.Try
set_option maxRecDepth 100000
set_option maxHeartbeats 1000000

def eqP (a b : Pt) : Bool := a.x == b.x && a.y == b.y
def one (p q : Pt) : Int := bif eqP q p then 1 else 0
def wt (p : Pt) (s : Sd) : Int := one p s.a - one p s.b
def balL (p : Pt) : List Sd → Int
  | [] => 0
  | s :: r => wt p s + balL p r
theorem balL_snoc (p : Pt) (s : Sd) : ∀ l : List Sd, balL p (l ++ [s]) = balL p l + wt p s
  | [] => by simp [balL]
  | t :: r => by rw [List.cons_append, balL, balL_snoc p s r, balL]; omega
def sumN (f : Nat → Int) : Nat → Int
  | 0 => 0
  | n + 1 => sumN f n + f n
theorem sumN_shift1 (f : Nat → Int) (m : Nat) : ∀ c, sumN (fun j => f (m + 1 + j) - f j) c = sumN (fun j => f (m + j) - f j) c + f (m + c) - f m
  | 0 => by simp [sumN]
  | c + 1 => by
    rw [sumN, sumN_shift1 f m c, sumN, show m + 1 + c = m + (c + 1) by omega]
    omega
theorem sumN_zero (f : Nat → Int) (n : Nat) (h : ∀ i, i < n → f i = 0) : sumN f n = 0 := by
  induction n with
  | zero => rfl
  | succ n ih => rw [sumN, ih fun i hi => h i (by omega), h n (by omega)]; rfl
theorem sumN_shift (f : Nat → Int) (c : Nat) : ∀ m, sumN (fun i => f (i + c) - f i) m = sumN (fun j => f (m + j) - f j) c
  | 0 => by
    rw [sumN, sumN_zero]
    intro i _
    rw [Nat.zero_add]; omega
  | m + 1 => by
    rw [sumN, sumN_shift f c m, sumN_shift1]
    omega
def latQ (g : Grid) (x y : Int) : Pt := ⟨g.x + x * g.side, g.y + y * g.side⟩
def hE (g : Grid) (p : Pt) (x y : Int) : Int := one p (latQ g x y) - one p (latQ g (x + 1) y)
def vE (g : Grid) (p : Pt) (x y : Int) : Int := one p (latQ g x y) - one p (latQ g x (y + 1))
def ind (b : Bool) (n : Int) : Int := bif b then n else 0
/-- What two high cells, one beyond the other, leave out between them. -/
def aE (g : Grid) (lv : Int) (p : Pt) (x y : Int) : Int := ind (highB g lv x y && highB g lv x (y - 1)) (hE g p x y)
def bE (g : Grid) (lv : Int) (p : Pt) (x y : Int) : Int := ind (highB g lv x y && highB g lv (x - 1) y) (vE g p x y)
theorem contK_bal {g : Grid} {lv x y : Int} {p : Pt} {l : List Sd} (h : highB g lv x y = true) :
    balL p (contK g lv x y l 4) = balL p l + (aE g lv p x (y + 1) - aE g lv p x y) + (bE g lv p x y - bE g lv p (x + 1) y) := by
  have step : ∀ k, balL p (contK g lv x y l (k + 1)) = balL p (contK g lv x y l k) + ind (!highB g lv (x + nbx k) (y + nby k)) (wt p (sideC g x y k)) := by
    intro k
    rw [contK]
    cases highB g lv (x + nbx k) (y + nby k) with
    | true => simp [ind]
    | false => simp [ind, balL_snoc]
  have w0 : wt p (sideC g x y 0) = hE g p x y := by simp [wt, sideC, hE, cornP, latQ, dxk, dyk]
  have w1 : wt p (sideC g x y 1) = vE g p (x + 1) y := by simp [wt, sideC, vE, cornP, latQ, dxk, dyk]
  have w2 : wt p (sideC g x y 2) = - hE g p x (y + 1) := by simp [wt, sideC, hE, cornP, latQ, dxk, dyk]; omega
  have w3 : wt p (sideC g x y 3) = - vE g p x y := by simp [wt, sideC, vE, cornP, latQ, dxk, dyk]; omega
  rw [step 3, step 2, step 1, step 0, w0, w1, w2, w3]
  simp only [contK, nbx, nby, Int.add_zero]
  unfold aE bE
  rw [show y + 1 - 1 = y by omega, show x + 1 - 1 = x by omega, show x + -1 = x - 1 by omega, show y + -1 = y - 1 by omega, h]
  have z : hE g p x y + vE g p (x + 1) y - hE g p x (y + 1) - vE g p x y = 0 := by unfold hE vE; omega
  generalize hE g p x y = a at *
  generalize vE g p (x + 1) y = b at *
  generalize hE g p x (y + 1) = c at *
  generalize vE g p x y = d at *
  cases highB g lv x (y - 1) <;> cases highB g lv (x + 1) y <;> cases highB g lv x (y + 1) <;> cases highB g lv (x - 1) y <;> simp [ind] <;> omega
theorem high_out {g : Grid} {lv x y : Int} (h : x < 0 ∨ g.cols ≤ x ∨ y < 0 ∨ g.rows ≤ y) : highB g lv x y = false := by
  cases hb : highB g lv x y with
  | false => rfl
  | true =>
    unfold highB within at hb
    simp at hb
    omega
theorem xi_nat (g : Grid) (h : 0 < g.cols) (i : Nat) : xi g i = ((i % g.cols.toNat : Nat) : Int) := by
  unfold xi
  rw [Int.tmod_eq_emod_of_nonneg (by omega)]
  have : g.cols = (g.cols.toNat : Int) := by omega
  rw [this, Int.natCast_emod]
  simp
theorem yi_nat (g : Grid) (h : 0 < g.cols) (i : Nat) : yi g i = ((i / g.cols.toNat : Nat) : Int) := by
  unfold yi
  rw [Int.tdiv_eq_ediv_of_nonneg (by omega)]
  have : g.cols = (g.cols.toNat : Int) := by omega
  rw [this, Int.natCast_ediv]
  simp
theorem aE_out {g : Grid} {lv x y : Int} {p : Pt} (h : y ≤ 0 ∨ g.rows ≤ y) : aE g lv p x y = 0 := by
  unfold aE
  rcases h with h | h
  · rw [high_out (y := y - 1) (by omega), Bool.and_false]; rfl
  · rw [high_out (y := y) (by omega), Bool.false_and]; rfl
theorem bE_out {g : Grid} {lv x y : Int} {p : Pt} (h : x ≤ 0 ∨ g.cols ≤ x) : bE g lv p x y = 0 := by
  unfold bE
  rcases h with h | h
  · rw [high_out (x := x - 1) (by omega), Bool.and_false]; rfl
  · rw [high_out (x := x) (by omega), Bool.false_and]; rfl
theorem contL_bal {g : Grid} (gv : GVal g) {lv : Int} {p : Pt} : ∀ m, balL p (contL g lv m) =
    sumN (fun i => aE g lv p (xi g (i + g.cols.toNat)) (yi g (i + g.cols.toNat)) - aE g lv p (xi g i) (yi g i)) m + (bE g lv p (xi g 0) (yi g 0) - bE g lv p (xi g m) (yi g m))
  | 0 => by simp [contL, balL, sumN]
  | m + 1 => by
    have hc : 0 < g.cols := by have := gv.cols; omega
    have hcn : 0 < g.cols.toNat := by omega
    have ih := contL_bal gv (lv := lv) (p := p) m
    have e1 : xi g (m + g.cols.toNat) = xi g m := by rw [xi_nat g hc, xi_nat g hc, Nat.add_mod_right]
    have e2 : yi g (m + g.cols.toNat) = yi g m + 1 := by rw [yi_nat g hc, yi_nat g hc, Nat.add_div_right _ hcn]; rfl
    have e3 : bE g lv p (xi g (m + 1)) (yi g (m + 1)) = bE g lv p (xi g m + 1) (yi g m) := by
      by_cases h : m % g.cols.toNat + 1 < g.cols.toNat
      · have a1 : xi g (m + 1) = xi g m + 1 := by
          rw [xi_nat g hc, xi_nat g hc, ← Nat.mod_add_mod, Nat.mod_eq_of_lt h]; rfl
        have a2 : yi g (m + 1) = yi g m := by
          rw [yi_nat g hc, yi_nat g hc]
          congr 1
          have := Nat.div_add_mod m g.cols.toNat
          rw [Nat.div_eq_of_lt_le]
          · rw [Nat.mul_comm]; omega
          · rw [Nat.add_mul, Nat.mul_comm]; omega
        rw [a1, a2]
      · have hl := Nat.mod_lt m hcn
        have h0 : m % g.cols.toNat + 1 = g.cols.toNat := by omega
        have a1 : xi g (m + 1) = 0 := by
          rw [xi_nat g hc, ← Nat.mod_add_mod, h0, Nat.mod_self]; rfl
        have a2 : xi g m + 1 = g.cols := by rw [xi_nat g hc]; omega
        rw [bE_out (.inl (by omega)), bE_out (.inr (by omega))]
    rw [sumN, e3, contL]
    have key : balL p (bif highB g lv (xi g m) (yi g m) then contK g lv (xi g m) (yi g m) (contL g lv m) 4 else contL g lv m) = balL p (contL g lv m) + (aE g lv p (xi g m) (yi g m + 1) - aE g lv p (xi g m) (yi g m)) + (bE g lv p (xi g m) (yi g m) - bE g lv p (xi g m + 1) (yi g m)) := by
      cases h : highB g lv (xi g m) (yi g m) with
      | true => exact contK_bal h
      | false =>
        have z1 : aE g lv p (xi g m) (yi g m) = 0 := by unfold aE; rw [h, Bool.false_and]; rfl
        have z2 : bE g lv p (xi g m) (yi g m) = 0 := by unfold bE; rw [h, Bool.false_and]; rfl
        have z3 : aE g lv p (xi g m) (yi g m + 1) = 0 := by unfold aE; rw [show yi g m + 1 - 1 = yi g m by omega, h, Bool.and_false]; rfl
        have z4 : bE g lv p (xi g m + 1) (yi g m) = 0 := by unfold bE; rw [show xi g m + 1 - 1 = xi g m by omega, h, Bool.and_false]; rfl
        rw [z1, z2, z3, z4]
        simp
    rw [key, ih, e1, e2]
    omega
theorem contL_zero {g : Grid} (gv : GVal g) (lv : Int) (p : Pt) : balL p (contL g lv g.levels.length) = 0 := by
  have hc : 0 < g.cols := by have := gv.cols; omega
  have hcn : 0 < g.cols.toNat := by omega
  have hlen : g.levels.length = g.rows.toNat * g.cols.toNat := by
    have h1 := gv.len
    have h2 := gv.rows
    have : (g.levels.length : Int) = g.rows * g.cols := by rw [h1, Int.mul_comm]
    have e1 : g.cols = (g.cols.toNat : Int) := by omega
    have e2 : g.rows = (g.rows.toNat : Int) := by omega
    rw [e1, e2] at this
    exact_mod_cast this
  rw [contL_bal gv, sumN_shift (fun i => aE g lv p (xi g i) (yi g i)), sumN_zero, bE_out, bE_out]
  · rfl
  · left; rw [xi_nat g hc, hlen, Nat.mul_mod_left]; exact Int.le_refl _
  · left; rw [xi_nat g hc, Nat.zero_mod]; exact Int.le_refl _
  · intro j hj
    rw [aE_out, aE_out]
    · rfl
    · left; rw [yi_nat g hc, Nat.div_eq_of_lt hj]; exact Int.le_refl _
    · right
      rw [yi_nat g hc, hlen, Nat.add_comm, Nat.add_mul_div_right _ _ hcn, Nat.div_eq_of_lt hj]
      have := gv.rows
      omega
end Go.Ch

namespace Go.Ch
open Go Go.Ax Go.Proofs Go.Proofs.Try
set_option maxRecDepth 100000
set_option pp.maxSteps 400
set_option maxHeartbeats 2000000

def balN (p : Pt) (l : List Sd) : Nat → Int
  | 0 => 0
  | k + 1 => balN p l k + wt p (l.getD k default)
theorem balN_take (p : Pt) (l : List Sd) : ∀ k, k ≤ l.length → balN p l k = balL p (l.take k)
  | 0, _ => by simp [balN, balL]
  | k + 1, h => by
    rw [balN, balN_take p l k (by omega), List.take_succ_eq_append_getElem (by omega), balL_snoc, List.getD_eq_getElem?_getD, List.getElem?_eq_getElem (by omega)]
    rfl
theorem balN_all (p : Pt) (l : List Sd) : balN p l l.length = balL p l := by rw [balN_take p l _ (Nat.le_refl _), List.take_length]
theorem one_le (p q : Pt) : 0 ≤ one p q ∧ one p q ≤ 1 := by unfold one; cases eqP q p <;> simp
theorem balN_le (p : Pt) (l : List Sd) : ∀ k : Nat, -(k : Int) ≤ balN p l k ∧ balN p l k ≤ (k : Int)
  | 0 => by simp [balN]
  | k + 1 => by
    have h := balN_le p l k
    have h1 := one_le p (l.getD k default).a
    have h2 := one_le p (l.getD k default).b
    rw [balN]
    unfold wt
    omega
attribute [local irreducible] errG few contL in
theorem Contours (g : Grid) (lv : Int) (hg : g.ok) : CallP Try.prog 12 [grid g, vI lv] (vB true) := by
  refine callP_of_ex (rc := []) (N := 103) Try.func12 rfl rfl Try.call12 tab_ok mix rfl rfl (fun cx href => ?_)
  refine callN bawake ?_
  refine And.intro (fun h => by cases h) (fun _ => ?_)
  refine callN (Few g hg.levels) ?_
  refine And.intro (fun _ => SubR.lit rfl) (fun h1 => ?_)
  refine callN (gContour g lv hg) ?_
  refine callN (RCheck g hg.levels) ?_
  repeat first | refine sk ?_ | refine st ?_ | refine sg ?_ | refine sh ?_ | refine su ?_ | refine sn1 ?_ | refine sn0 ?_
  refine callG (Leveled lv) ?_
  repeat first | refine sk ?_ | refine st ?_ | refine sg ?_ | refine sh ?_ | refine su ?_ | refine sn1 ?_ | refine sn0 ?_
  refine And.intro (fun h2 => ?_) (fun h2 => ?_)
  · have h2 : ((errG g == 0) && !within lv (-20000) 20000) = true := h2
    rw [Bool.and_eq_true] at h2
    have e0 : errG g = 0 := by simpa using h2.1
    have e : contE g lv = ([], 2) := by unfold contE; rw [e0, h2.2]; rfl
    rw [e]
    refine And.intro (fun _ => ?_) (fun h => by cases h)
    repeat first | refine sk ?_ | refine st ?_ | refine sg ?_ | refine sh ?_ | refine su ?_ | refine sn1 ?_ | refine sn0 ?_
    exact SubR.lit rfl
  · have h2 : ((errG g == 0) && !within lv (-20000) 20000) = false := h2
    refine And.intro (fun h3 => ?_) (fun h3 => ?_)
    · have h3 : (errG g != 0) = true := h3
      have e : contE g lv = ([], errG g) := by unfold contE; rw [h3]; rfl
      rw [e]
      repeat first | refine sk ?_ | refine st ?_ | refine sg ?_ | refine sh ?_ | refine su ?_ | refine sn1 ?_ | refine sn0 ?_
      refine SubR.of_eq ?_
      show vB ((errG g == errG g) && ((0 : Int) == 0)) = vB true
      simp
    · have h3 : (errG g != 0) = false := h3
      have e0 : errG g = 0 := by simpa using h3
      have gv := GVal.of e0
      have hn := gv.n
      have hw : (!within lv (-20000) 20000) = false := by
        rw [e0] at h2; simpa using h2
      have e : contE g lv = (contL g lv g.levels.length, 0) := by unfold contE; rw [h3, hw]; rfl
      rw [e]
      refine callN (rContour g lv gv) ?_
      have hlen := contL_len (g := g) (lv := lv) g.levels.length
      have hz := fun p => contL_zero gv lv p
      revert hlen hz
      generalize contL g lv g.levels.length = L
      intro hlen hz
      repeat first | refine sk ?_ | refine st ?_ | refine sg ?_ | refine sh ?_ | refine su ?_ | refine sn1 ?_ | refine sn0 ?_
      refine And.intro (fun h4 => ?_) (fun _ => ?_)
      · have h4 : ((L.length : Int) != (L.length : Int)) = true := h4
        simp at h4
      refine AW.loopI (fun i : Nat => ⟨[(5, vSides L), (8, vSides L), (9, vI i)], [(2, some (gridB g))]⟩)
        (fun i => i ≤ L.length) (fun i => L.length - i) 0 (Nat.zero_le _) ?_ ?_
      · exact SubI.of0 href [] rfl ⟨⟨rfl, LeBx.rfl⟩, trivial⟩ ⟨⟨rfl, LeQ.rfl⟩, ⟨rfl, LeQ.rfl⟩, ⟨rfl, LeQ.rfl⟩, trivial⟩
      · intro i hi
        refine ex.sound (rc := []) tab_ok mix href _ ?_
        refine And.intro (fun h => ?_) (fun h => ?_)
        · have h : (i : Int) < L.length := decT h
          refine oi ⟨by omega, by show (i : Int) < L.length; omega⟩ ?_
          refine oi ⟨by omega, by show (i : Int) < L.length; omega⟩ ?_
          refine And.intro (by kernel_rfl) ?_
          refine And.intro (fun h5 => ?_) (fun _ => ?_)
          · simp at h5
          refine AW.loopI (fun k : Nat => ⟨[(5, vSides L), (8, vSides L), (9, vI i), (10, vI (balN (L.getD i default).a L k)), (11, vI k)], [(2, some (gridB g))]⟩)
            (fun k => k ≤ L.length) (fun k => L.length - k) 0 (Nat.zero_le _) ?_ ?_
          · exact SubI.of0 href [] rfl ⟨⟨rfl, LeBx.rfl⟩, trivial⟩ ⟨⟨rfl, LeQ.rfl⟩, ⟨rfl, LeQ.rfl⟩, ⟨rfl, LeQ.rfl⟩, ⟨rfl, LeQ.rfl⟩, ⟨rfl, LeQ.rfl⟩, trivial⟩
          · intro k hk
            have hb := balN_le (L.getD i default).a L k
            have hs : balN (L.getD i default).a L (k + 1) = balN (L.getD i default).a L k + (one (L.getD i default).a (L.getD k default).a - one (L.getD i default).a (L.getD k default).b) := rfl
            refine ex.sound (rc := []) tab_ok mix href _ ?_
            refine And.intro (fun h => ?_) (fun h => ?_)
            · have h : (k : Int) < L.length := decT h
              refine oi ⟨by omega, by show (k : Int) < L.length; omega⟩ ?_
              refine oi ⟨by omega, by show (i : Int) < L.length; omega⟩ ?_
              refine And.intro (by kernel_rfl) ?_
              refine And.intro (fun h5 => ?_) (fun h5 => ?_)
              · refine oi ⟨by omega, by show (k : Int) < L.length; omega⟩ ?_
                refine oi ⟨by omega, by show (i : Int) < L.length; omega⟩ ?_
                refine And.intro (by kernel_rfl) ?_
                have h5 : eqP (L.getD k default).a (L.getD i default).a = true := by simpa [eqP] using h5
                have v1 : one (L.getD i default).a (L.getD k default).a = 1 := by unfold one; rw [h5]; rfl
                refine And.intro (fun h6 => ?_) (fun h6 => ?_)
                · have h6 : eqP (L.getD k default).b (L.getD i default).a = true := by simpa [eqP] using h6
                  have v2 : one (L.getD i default).a (L.getD k default).b = 1 := by unfold one; rw [h6]; rfl
                  refine ⟨k + 1, by omega, by omega, ?_⟩
                  exact SubI.of0 href [] rfl ⟨⟨rfl, LeBx.rfl⟩, trivial⟩ ⟨⟨rfl, LeQ.rfl⟩, ⟨rfl, LeQ.rfl⟩, ⟨rfl, LeQ.rfl⟩, ⟨rfl, LeQ.int (by rw [hs, v1, v2]; show w64 (w64 (balN (L.getD i default).a L k + 1) - 1) = _; rw [w64_of (n := balN (L.getD i default).a L k + 1) (by omega) (by omega), w64_of (by omega) (by omega)]; omega)⟩, ⟨rfl, LeQ.int (w64_of (by omega) (by omega))⟩, trivial⟩
                · have h6 : eqP (L.getD k default).b (L.getD i default).a = false := by simpa [eqP] using h6
                  have v2 : one (L.getD i default).a (L.getD k default).b = 0 := by unfold one; rw [h6]; rfl
                  refine ⟨k + 1, by omega, by omega, ?_⟩
                  exact SubI.of0 href [] rfl ⟨⟨rfl, LeBx.rfl⟩, trivial⟩ ⟨⟨rfl, LeQ.rfl⟩, ⟨rfl, LeQ.rfl⟩, ⟨rfl, LeQ.rfl⟩, ⟨rfl, LeQ.int (by rw [hs, v1, v2]; show w64 (balN (L.getD i default).a L k + 1) = _; rw [w64_of (by omega) (by omega)]; omega)⟩, ⟨rfl, LeQ.int (w64_of (by omega) (by omega))⟩, trivial⟩
              · refine oi ⟨by omega, by show (k : Int) < L.length; omega⟩ ?_
                refine oi ⟨by omega, by show (i : Int) < L.length; omega⟩ ?_
                refine And.intro (by kernel_rfl) ?_
                have h5 : eqP (L.getD k default).a (L.getD i default).a = false := by simpa [eqP] using h5
                have v1 : one (L.getD i default).a (L.getD k default).a = 0 := by unfold one; rw [h5]; rfl
                refine And.intro (fun h6 => ?_) (fun h6 => ?_)
                · have h6 : eqP (L.getD k default).b (L.getD i default).a = true := by simpa [eqP] using h6
                  have v2 : one (L.getD i default).a (L.getD k default).b = 1 := by unfold one; rw [h6]; rfl
                  refine ⟨k + 1, by omega, by omega, ?_⟩
                  exact SubI.of0 href [] rfl ⟨⟨rfl, LeBx.rfl⟩, trivial⟩ ⟨⟨rfl, LeQ.rfl⟩, ⟨rfl, LeQ.rfl⟩, ⟨rfl, LeQ.rfl⟩, ⟨rfl, LeQ.int (by rw [hs, v1, v2]; show w64 (balN (L.getD i default).a L k - 1) = _; rw [w64_of (by omega) (by omega)]; omega)⟩, ⟨rfl, LeQ.int (w64_of (by omega) (by omega))⟩, trivial⟩
                · have h6 : eqP (L.getD k default).b (L.getD i default).a = false := by simpa [eqP] using h6
                  have v2 : one (L.getD i default).a (L.getD k default).b = 0 := by unfold one; rw [h6]; rfl
                  refine ⟨k + 1, by omega, by omega, ?_⟩
                  exact SubI.of0 href [] rfl ⟨⟨rfl, LeBx.rfl⟩, trivial⟩ ⟨⟨rfl, LeQ.rfl⟩, ⟨rfl, LeQ.rfl⟩, ⟨rfl, LeQ.rfl⟩, ⟨rfl, LeQ.int (by rw [hs, v1, v2]; omega)⟩, ⟨rfl, LeQ.int (w64_of (by omega) (by omega))⟩, trivial⟩
            · have h : ¬ (k : Int) < L.length := decF h
              obtain rfl : k = L.length := by omega
              rw [balN_all, hz]
              refine And.intro (fun h => by cases h) (fun _ => ?_)
              refine ⟨i + 1, by omega, by omega, ?_⟩
              exact SubI.of0 href [] rfl ⟨⟨rfl, LeBx.rfl⟩, trivial⟩ ⟨⟨rfl, LeQ.rfl⟩, ⟨rfl, LeQ.rfl⟩, ⟨rfl, LeQ.int (w64_of (by omega) (by omega))⟩, trivial⟩
        · exact SubR.lit rfl
end Go.Ch
