/- Part Ch27: lemmas that the proofs of this seat share; by itself it claims nothing. -/
import Derived.Test.YtfdgbddmggoilaaCh26
/- At each place as many sides of a contour begin as end. -/
namespace Go.Ch
open Go Go.Ax Go.Proofs Go.Proofs.Try
set_option maxRecDepth 100000
set_option maxHeartbeats 1000000

def eqP (a b : Pt) : Bool := a.x == b.x && a.y == b.y
def one (p q : Pt) : Int := bif eqP q p then 1 else 0
def wt (p : Pt) (s : Sd) : Int := one p s.a - one p s.b
def balL (p : Pt) : List Sd → Int
  | [] => 0
  | s :: r => wt p s + balL p r
theorem balL_snoc (p : Pt) (s : Sd) : ∀ l : List Sd, balL p (l ++ [s]) = balL p l + wt p s
  | [] => by simp [balL]
  | t :: r => by rw [List.cons_append, balL, balL_snoc p s r, balL]; omega
def sumN (f : Nat → Int) : Nat → Int
  | 0 => 0
  | n + 1 => sumN f n + f n
theorem sumN_shift1 (f : Nat → Int) (m : Nat) : ∀ c, sumN (fun j => f (m + 1 + j) - f j) c = sumN (fun j => f (m + j) - f j) c + f (m + c) - f m
  | 0 => by simp [sumN]
  | c + 1 => by
    rw [sumN, sumN_shift1 f m c, sumN, show m + 1 + c = m + (c + 1) by omega]
    omega
theorem sumN_zero (f : Nat → Int) (n : Nat) (h : ∀ i, i < n → f i = 0) : sumN f n = 0 := by
  induction n with
  | zero => rfl
  | succ n ih => rw [sumN, ih fun i hi => h i (by omega), h n (by omega)]; rfl
theorem sumN_shift (f : Nat → Int) (c : Nat) : ∀ m, sumN (fun i => f (i + c) - f i) m = sumN (fun j => f (m + j) - f j) c
  | 0 => by
    rw [sumN, sumN_zero]
    intro i _
    rw [Nat.zero_add]; omega
  | m + 1 => by
    rw [sumN, sumN_shift f c m, sumN_shift1]
    omega
def latQ (g : Grid) (x y : Int) : Pt := ⟨g.x + x * g.side, g.y + y * g.side⟩
def hE (g : Grid) (p : Pt) (x y : Int) : Int := one p (latQ g x y) - one p (latQ g (x + 1) y)
def vE (g : Grid) (p : Pt) (x y : Int) : Int := one p (latQ g x y) - one p (latQ g x (y + 1))
def ind (b : Bool) (n : Int) : Int := bif b then n else 0
/-- What two high cells, one beyond the other, leave out between them. -/
def aE (g : Grid) (lv : Int) (p : Pt) (x y : Int) : Int := ind (highB g lv x y && highB g lv x (y - 1)) (hE g p x y)
def bE (g : Grid) (lv : Int) (p : Pt) (x y : Int) : Int := ind (highB g lv x y && highB g lv (x - 1) y) (vE g p x y)
theorem contK_bal {g : Grid} {lv x y : Int} {p : Pt} {l : List Sd} (h : highB g lv x y = true) :
    balL p (contK g lv x y l 4) = balL p l + (aE g lv p x (y + 1) - aE g lv p x y) + (bE g lv p x y - bE g lv p (x + 1) y) := by
  have step : ∀ k, balL p (contK g lv x y l (k + 1)) = balL p (contK g lv x y l k) + ind (!highB g lv (x + nbx k) (y + nby k)) (wt p (sideC g x y k)) := by
    intro k
    rw [contK]
    cases highB g lv (x + nbx k) (y + nby k) with
    | true => simp [ind]
    | false => simp [ind, balL_snoc]
  have w0 : wt p (sideC g x y 0) = hE g p x y := by simp [wt, sideC, hE, cornP, latQ, dxk, dyk]
  have w1 : wt p (sideC g x y 1) = vE g p (x + 1) y := by simp [wt, sideC, vE, cornP, latQ, dxk, dyk]
  have w2 : wt p (sideC g x y 2) = - hE g p x (y + 1) := by simp [wt, sideC, hE, cornP, latQ, dxk, dyk]; omega
  have w3 : wt p (sideC g x y 3) = - vE g p x y := by simp [wt, sideC, vE, cornP, latQ, dxk, dyk]; omega
  rw [step 3, step 2, step 1, step 0, w0, w1, w2, w3]
  simp only [contK, nbx, nby, Int.add_zero]
  unfold aE bE
  rw [show y + 1 - 1 = y by omega, show x + 1 - 1 = x by omega, show x + -1 = x - 1 by omega, show y + -1 = y - 1 by omega, h]
  have z : hE g p x y + vE g p (x + 1) y - hE g p x (y + 1) - vE g p x y = 0 := by unfold hE vE; omega
  generalize hE g p x y = a at *
  generalize vE g p (x + 1) y = b at *
  generalize hE g p x (y + 1) = c at *
  generalize vE g p x y = d at *
  cases highB g lv x (y - 1) <;> cases highB g lv (x + 1) y <;> cases highB g lv x (y + 1) <;> cases highB g lv (x - 1) y <;> simp [ind] <;> omega
theorem high_out {g : Grid} {lv x y : Int} (h : x < 0 ∨ g.cols ≤ x ∨ y < 0 ∨ g.rows ≤ y) : highB g lv x y = false := by
  cases hb : highB g lv x y with
  | false => rfl
  | true =>
    unfold highB within at hb
    simp at hb
    omega
theorem xi_nat (g : Grid) (h : 0 < g.cols) (i : Nat) : xi g i = ((i % g.cols.toNat : Nat) : Int) := by
  unfold xi
  rw [Int.tmod_eq_emod_of_nonneg (by omega)]
  have : g.cols = (g.cols.toNat : Int) := by omega
  rw [this, Int.natCast_emod]
  simp
theorem yi_nat (g : Grid) (h : 0 < g.cols) (i : Nat) : yi g i = ((i / g.cols.toNat : Nat) : Int) := by
  unfold yi
  rw [Int.tdiv_eq_ediv_of_nonneg (by omega)]
  have : g.cols = (g.cols.toNat : Int) := by omega
  rw [this, Int.natCast_ediv]
  simp
theorem aE_out {g : Grid} {lv x y : Int} {p : Pt} (h : y ≤ 0 ∨ g.rows ≤ y) : aE g lv p x y = 0 := by
  unfold aE
  rcases h with h | h
  · rw [high_out (y := y - 1) (by omega), Bool.and_false]; rfl
  · rw [high_out (y := y) (by omega), Bool.false_and]; rfl
theorem bE_out {g : Grid} {lv x y : Int} {p : Pt} (h : x ≤ 0 ∨ g.cols ≤ x) : bE g lv p x y = 0 := by
  unfold bE
  rcases h with h | h
  · rw [high_out (x := x - 1) (by omega), Bool.and_false]; rfl
  · rw [high_out (x := x) (by omega), Bool.false_and]; rfl
theorem contL_bal {g : Grid} (gv : GVal g) {lv : Int} {p : Pt} : ∀ m, balL p (contL g lv m) =
    sumN (fun i => aE g lv p (xi g (i + g.cols.toNat)) (yi g (i + g.cols.toNat)) - aE g lv p (xi g i) (yi g i)) m + (bE g lv p (xi g 0) (yi g 0) - bE g lv p (xi g m) (yi g m))
  | 0 => by simp [contL, balL, sumN]
  | m + 1 => by
    have hc : 0 < g.cols := by have := gv.cols; omega
    have hcn : 0 < g.cols.toNat := by omega
    have ih := contL_bal gv (lv := lv) (p := p) m
    have e1 : xi g (m + g.cols.toNat) = xi g m := by rw [xi_nat g hc, xi_nat g hc, Nat.add_mod_right]
    have e2 : yi g (m + g.cols.toNat) = yi g m + 1 := by rw [yi_nat g hc, yi_nat g hc, Nat.add_div_right _ hcn]; rfl
    have e3 : bE g lv p (xi g (m + 1)) (yi g (m + 1)) = bE g lv p (xi g m + 1) (yi g m) := by
      by_cases h : m % g.cols.toNat + 1 < g.cols.toNat
      · have a1 : xi g (m + 1) = xi g m + 1 := by
          rw [xi_nat g hc, xi_nat g hc, ← Nat.mod_add_mod, Nat.mod_eq_of_lt h]; rfl
        have a2 : yi g (m + 1) = yi g m := by
          rw [yi_nat g hc, yi_nat g hc]
          congr 1
          have := Nat.div_add_mod m g.cols.toNat
          rw [Nat.div_eq_of_lt_le]
          · rw [Nat.mul_comm]; omega
          · rw [Nat.add_mul, Nat.mul_comm]; omega
        rw [a1, a2]
      · have hl := Nat.mod_lt m hcn
        have h0 : m % g.cols.toNat + 1 = g.cols.toNat := by omega
        have a1 : xi g (m + 1) = 0 := by
          rw [xi_nat g hc, ← Nat.mod_add_mod, h0, Nat.mod_self]; rfl
        have a2 : xi g m + 1 = g.cols := by rw [xi_nat g hc]; omega
        rw [bE_out (.inl (by omega)), bE_out (.inr (by omega))]
    rw [sumN, e3, contL]
    have key : balL p (bif highB g lv (xi g m) (yi g m) then contK g lv (xi g m) (yi g m) (contL g lv m) 4 else contL g lv m) = balL p (contL g lv m) + (aE g lv p (xi g m) (yi g m + 1) - aE g lv p (xi g m) (yi g m)) + (bE g lv p (xi g m) (yi g m) - bE g lv p (xi g m + 1) (yi g m)) := by
      cases h : highB g lv (xi g m) (yi g m) with
      | true => exact contK_bal h
      | false =>
        have z1 : aE g lv p (xi g m) (yi g m) = 0 := by unfold aE; rw [h, Bool.false_and]; rfl
        have z2 : bE g lv p (xi g m) (yi g m) = 0 := by unfold bE; rw [h, Bool.false_and]; rfl
        have z3 : aE g lv p (xi g m) (yi g m + 1) = 0 := by unfold aE; rw [show yi g m + 1 - 1 = yi g m by omega, h, Bool.and_false]; rfl
        have z4 : bE g lv p (xi g m + 1) (yi g m) = 0 := by unfold bE; rw [show xi g m + 1 - 1 = xi g m by omega, h, Bool.and_false]; rfl
        rw [z1, z2, z3, z4]
        simp
    rw [key, ih, e1, e2]
    omega
theorem contL_zero {g : Grid} (gv : GVal g) (lv : Int) (p : Pt) : balL p (contL g lv g.levels.length) = 0 := by
  have hc : 0 < g.cols := by have := gv.cols; omega
  have hcn : 0 < g.cols.toNat := by omega
  have hlen : g.levels.length = g.rows.toNat * g.cols.toNat := by
    have h1 := gv.len
    have h2 := gv.rows
    have : (g.levels.length : Int) = g.rows * g.cols := by rw [h1, Int.mul_comm]
    have e1 : g.cols = (g.cols.toNat : Int) := by omega
    have e2 : g.rows = (g.rows.toNat : Int) := by omega
    rw [e1, e2] at this
    exact_mod_cast this
  rw [contL_bal gv, sumN_shift (fun i => aE g lv p (xi g i) (yi g i)), sumN_zero, bE_out, bE_out]
  · rfl
  · left; rw [xi_nat g hc, hlen, Nat.mul_mod_left]; exact Int.le_refl _
  · left; rw [xi_nat g hc, Nat.zero_mod]; exact Int.le_refl _
  · intro j hj
    rw [aE_out, aE_out]
    · rfl
    · left; rw [yi_nat g hc, Nat.div_eq_of_lt hj]; exact Int.le_refl _
    · right
      rw [yi_nat g hc, hlen, Nat.add_comm, Nat.add_mul_div_right _ _ hcn, Nat.div_eq_of_lt hj]
      have := gv.rows
      omega
end Go.Ch

namespace Go.Ch
open Go Go.Ax Go.Proofs Go.Proofs.Try
set_option maxRecDepth 100000
set_option pp.maxSteps 400
set_option maxHeartbeats 2000000

def balN (p : Pt) (l : List Sd) : Nat → Int
  | 0 => 0
  | k + 1 => balN p l k + wt p (l.getD k default)
theorem balN_take (p : Pt) (l : List Sd) : ∀ k, k ≤ l.length → balN p l k = balL p (l.take k)
  | 0, _ => by simp [balN, balL]
  | k + 1, h => by
    rw [balN, balN_take p l k (by omega), List.take_succ_eq_append_getElem (by omega), balL_snoc, List.getD_eq_getElem?_getD, List.getElem?_eq_getElem (by omega)]
    rfl
theorem balN_all (p : Pt) (l : List Sd) : balN p l l.length = balL p l := by rw [balN_take p l _ (Nat.le_refl _), List.take_length]
theorem one_le (p q : Pt) : 0 ≤ one p q ∧ one p q ≤ 1 := by unfold one; cases eqP q p <;> simp
theorem balN_le (p : Pt) (l : List Sd) : ∀ k : Nat, -(k : Int) ≤ balN p l k ∧ balN p l k ≤ (k : Int)
  | 0 => by simp [balN]
  | k + 1 => by
    have h := balN_le p l k
    have h1 := one_le p (l.getD k default).a
    have h2 := one_le p (l.getD k default).b
    rw [balN]
    unfold wt
    omega
attribute [local irreducible] errG few contL in
theorem Contours (g : Grid) (lv : Int) (hg : g.ok) : CallP Try.prog 12 [grid g, vI lv] (vB true) := by
  refine callP_of_ex (rc := []) (N := 103) Try.func12 rfl rfl Try.call12 tab_ok mix rfl rfl (fun cx href => ?_)
  refine callN bawake ?_
  refine And.intro (fun h => by cases h) (fun _ => ?_)
  refine callN (Few g hg.levels) ?_
  refine And.intro (fun _ => SubR.lit rfl) (fun h1 => ?_)
  refine callN (gContour g lv hg) ?_
  refine callN (RCheck g hg.levels) ?_
  repeat first | refine sk ?_ | refine st ?_ | refine sg ?_ | refine sh ?_ | refine su ?_ | refine sn1 ?_ | refine sn0 ?_
  refine callG (Leveled lv) ?_
  repeat first | refine sk ?_ | refine st ?_ | refine sg ?_ | refine sh ?_ | refine su ?_ | refine sn1 ?_ | refine sn0 ?_
  refine And.intro (fun h2 => ?_) (fun h2 => ?_)
  · have h2 : ((errG g == 0) && !within lv (-20000) 20000) = true := h2
    rw [Bool.and_eq_true] at h2
    have e0 : errG g = 0 := by simpa using h2.1
    have e : contE g lv = ([], 2) := by unfold contE; rw [e0, h2.2]; rfl
    rw [e]
    refine And.intro (fun _ => ?_) (fun h => by cases h)
    repeat first | refine sk ?_ | refine st ?_ | refine sg ?_ | refine sh ?_ | refine su ?_ | refine sn1 ?_ | refine sn0 ?_
    exact SubR.lit rfl
  · have h2 : ((errG g == 0) && !within lv (-20000) 20000) = false := h2
    refine And.intro (fun h3 => ?_) (fun h3 => ?_)
    · have h3 : (errG g != 0) = true := h3
      have e : contE g lv = ([], errG g) := by unfold contE; rw [h3]; rfl
      rw [e]
      repeat first | refine sk ?_ | refine st ?_ | refine sg ?_ | refine sh ?_ | refine su ?_ | refine sn1 ?_ | refine sn0 ?_
      refine SubR.of_eq ?_
      show vB ((errG g == errG g) && ((0 : Int) == 0)) = vB true
      simp
    · have h3 : (errG g != 0) = false := h3
      have e0 : errG g = 0 := by simpa using h3
      have gv := GVal.of e0
      have hn := gv.n
      have hw : (!within lv (-20000) 20000) = false := by
        rw [e0] at h2; simpa using h2
      have e : contE g lv = (contL g lv g.levels.length, 0) := by unfold contE; rw [h3, hw]; rfl
      rw [e]
      refine callN (rContour g lv gv) ?_
      have hlen := contL_len (g := g) (lv := lv) g.levels.length
      have hz := fun p => contL_zero gv lv p
      revert hlen hz
      generalize contL g lv g.levels.length = L
      intro hlen hz
      repeat first | refine sk ?_ | refine st ?_ | refine sg ?_ | refine sh ?_ | refine su ?_ | refine sn1 ?_ | refine sn0 ?_
      refine And.intro (fun h4 => ?_) (fun _ => ?_)
      · have h4 : ((L.length : Int) != (L.length : Int)) = true := h4
        simp at h4
      refine AW.loopI (fun i : Nat => ⟨[(5, vSides L), (8, vSides L), (9, vI i)], [(2, some (gridB g))]⟩)
        (fun i => i ≤ L.length) (fun i => L.length - i) 0 (Nat.zero_le _) ?_ ?_
      · exact SubI.of0 href [] rfl ⟨⟨rfl, LeBx.rfl⟩, trivial⟩ ⟨⟨rfl, LeQ.rfl⟩, ⟨rfl, LeQ.rfl⟩, ⟨rfl, LeQ.rfl⟩, trivial⟩
      · intro i hi
        refine ex.sound (rc := []) tab_ok mix href _ ?_
        refine And.intro (fun h => ?_) (fun h => ?_)
        · have h : (i : Int) < L.length := decT h
          refine oi ⟨by omega, by show (i : Int) < L.length; omega⟩ ?_
          refine oi ⟨by omega, by show (i : Int) < L.length; omega⟩ ?_
          refine And.intro (by kernel_rfl) ?_
          refine And.intro (fun h5 => ?_) (fun _ => ?_)
          · simp at h5
          refine AW.loopI (fun k : Nat => ⟨[(5, vSides L), (8, vSides L), (9, vI i), (10, vI (balN (L.getD i default).a L k)), (11, vI k)], [(2, some (gridB g))]⟩)
            (fun k => k ≤ L.length) (fun k => L.length - k) 0 (Nat.zero_le _) ?_ ?_
          · exact SubI.of0 href [] rfl ⟨⟨rfl, LeBx.rfl⟩, trivial⟩ ⟨⟨rfl, LeQ.rfl⟩, ⟨rfl, LeQ.rfl⟩, ⟨rfl, LeQ.rfl⟩, ⟨rfl, LeQ.rfl⟩, ⟨rfl, LeQ.rfl⟩, trivial⟩
          · intro k hk
            have hb := balN_le (L.getD i default).a L k
            have hs : balN (L.getD i default).a L (k + 1) = balN (L.getD i default).a L k + (one (L.getD i default).a (L.getD k default).a - one (L.getD i default).a (L.getD k default).b) := rfl
            refine ex.sound (rc := []) tab_ok mix href _ ?_
            refine And.intro (fun h => ?_) (fun h => ?_)
            · have h : (k : Int) < L.length := decT h
              refine oi ⟨by omega, by show (k : Int) < L.length; omega⟩ ?_
              refine oi ⟨by omega, by show (i : Int) < L.length; omega⟩ ?_
              refine And.intro (by kernel_rfl) ?_
              refine And.intro (fun h5 => ?_) (fun h5 => ?_)
              · refine oi ⟨by omega, by show (k : Int) < L.length; omega⟩ ?_
                refine oi ⟨by omega, by show (i : Int) < L.length; omega⟩ ?_
                refine And.intro (by kernel_rfl) ?_
                have h5 : eqP (L.getD k default).a (L.getD i default).a = true := by simpa [eqP] using h5
                have v1 : one (L.getD i default).a (L.getD k default).a = 1 := by unfold one; rw [h5]; rfl
                refine And.intro (fun h6 => ?_) (fun h6 => ?_)
                · have h6 : eqP (L.getD k default).b (L.getD i default).a = true := by simpa [eqP] using h6
                  have v2 : one (L.getD i default).a (L.getD k default).b = 1 := by unfold one; rw [h6]; rfl
                  refine ⟨k + 1, by omega, by omega, ?_⟩
                  exact SubI.of0 href [] rfl ⟨⟨rfl, LeBx.rfl⟩, trivial⟩ ⟨⟨rfl, LeQ.rfl⟩, ⟨rfl, LeQ.rfl⟩, ⟨rfl, LeQ.rfl⟩, ⟨rfl, LeQ.int (by rw [hs, v1, v2]; show w64 (w64 (balN (L.getD i default).a L k + 1) - 1) = _; rw [w64_of (n := balN (L.getD i default).a L k + 1) (by omega) (by omega), w64_of (by omega) (by omega)]; omega)⟩, ⟨rfl, LeQ.int (w64_of (by omega) (by omega))⟩, trivial⟩
                · have h6 : eqP (L.getD k default).b (L.getD i default).a = false := by simpa [eqP] using h6
                  have v2 : one (L.getD i default).a (L.getD k default).b = 0 := by unfold one; rw [h6]; rfl
                  refine ⟨k + 1, by omega, by omega, ?_⟩
                  exact SubI.of0 href [] rfl ⟨⟨rfl, LeBx.rfl⟩, trivial⟩ ⟨⟨rfl, LeQ.rfl⟩, ⟨rfl, LeQ.rfl⟩, ⟨rfl, LeQ.rfl⟩, ⟨rfl, LeQ.int (by rw [hs, v1, v2]; show w64 (balN (L.getD i default).a L k + 1) = _; rw [w64_of (by omega) (by omega)]; omega)⟩, ⟨rfl, LeQ.int (w64_of (by omega) (by omega))⟩, trivial⟩
              · refine oi ⟨by omega, by show (k : Int) < L.length; omega⟩ ?_
                refine oi ⟨by omega, by show (i : Int) < L.length; omega⟩ ?_
                refine And.intro (by kernel_rfl) ?_
                have h5 : eqP (L.getD k default).a (L.getD i default).a = false := by simpa [eqP] using h5
                have v1 : one (L.getD i default).a (L.getD k default).a = 0 := by unfold one; rw [h5]; rfl
                refine And.intro (fun h6 => ?_) (fun h6 => ?_)
                · have h6 : eqP (L.getD k default).b (L.getD i default).a = true := by simpa [eqP] using h6
                  have v2 : one (L.getD i default).a (L.getD k default).b = 1 := by unfold one; rw [h6]; rfl
                  refine ⟨k + 1, by omega, by omega, ?_⟩
                  exact SubI.of0 href [] rfl ⟨⟨rfl, LeBx.rfl⟩, trivial⟩ ⟨⟨rfl, LeQ.rfl⟩, ⟨rfl, LeQ.rfl⟩, ⟨rfl, LeQ.rfl⟩, ⟨rfl, LeQ.int (by rw [hs, v1, v2]; show w64 (balN (L.getD i default).a L k - 1) = _; rw [w64_of (by omega) (by omega)]; omega)⟩, ⟨rfl, LeQ.int (w64_of (by omega) (by omega))⟩, trivial⟩
                · have h6 : eqP (L.getD k default).b (L.getD i default).a = false := by simpa [eqP] using h6
                  have v2 : one (L.getD i default).a (L.getD k default).b = 0 := by unfold one; rw [h6]; rfl
                  refine ⟨k + 1, by omega, by omega, ?_⟩
                  exact SubI.of0 href [] rfl ⟨⟨rfl, LeBx.rfl⟩, trivial⟩ ⟨⟨rfl, LeQ.rfl⟩, ⟨rfl, LeQ.rfl⟩, ⟨rfl, LeQ.rfl⟩, ⟨rfl, LeQ.int (by rw [hs, v1, v2]; omega)⟩, ⟨rfl, LeQ.int (w64_of (by omega) (by omega))⟩, trivial⟩
            · have h : ¬ (k : Int) < L.length := decF h
              obtain rfl : k = L.length := by omega
              rw [balN_all, hz]
              refine And.intro (fun h => by cases h) (fun _ => ?_)
              refine ⟨i + 1, by omega, by omega, ?_⟩
              exact SubI.of0 href [] rfl ⟨⟨rfl, LeBx.rfl⟩, trivial⟩ ⟨⟨rfl, LeQ.rfl⟩, ⟨rfl, LeQ.rfl⟩, ⟨rfl, LeQ.int (w64_of (by omega) (by omega))⟩, trivial⟩
        · exact SubR.lit rfl
end Go.Ch

/- Contracts whose result is an own row: with, Blank, Latest, Shoalest. -/
namespace Go.Ch
open Go Go.Ax Go.Proofs Go.Proofs.Try
set_option maxRecDepth 100000
set_option pp.maxSteps 400
set_option maxHeartbeats 1000000

abbrev cellsO (g : Grid) (x : Nat) : List SV := [.d (dI g.x), .d (dI g.y), .d (dI g.side), .d (dI g.cols), .d (dI g.rows), .own x]
abbrev zeroC : List SV := [.d (dI 0), .d (dI 0), .d (dI 0), .d (dI 0), .d (dI 0), nilS]
theorem withO2 (g : Grid) (a b : Grid) (f : Nat) (lv : Nat → Int) (h0 : 0 < g.levels.length) (hn : g.levels.length ≤ 1024) (hp : ∀ i, i < g.levels.length → ∀ p q, (∀ j, j < 6 → p j = gD6 b j) → (∀ j, j < 6 → q j = gD6 a j) → CallP Try.prog f [vI i, .s (.d (.rp 6 p)), .s (.d (.rp 6 q))] (vI (lv i))) :
    CallR Try.prog 82 [grid g, .s (.clo f [.ptr 1001 0, .ptr 1002 0])] [(1001, gridB b), (1002, gridB a)] (.g (cellsO g 11)) [(1001, gridB b), (1002, gridB a), (11, .row 3 g.levels.length 1 (wF lv g.levels.length))] := by
  refine callO_of_ex (rc := []) (N := 28) Try.func82 rfl rfl Try.call82 tab_ok mix rfl rfl rfl rfl (fun cx href => ?_)
  refine ob (by omega) ?_
  refine ob (by omega) ?_
  refine ob (by show (8 : Int) * (g.levels.length : Int) ≤ 281474976710656; omega) ?_
  refine AW.loopI (fun i : Nat => ⟨[(1, .s (.clo f [.ptr 1001 0, .ptr 1002 0])), (2, .s (.ptr 2 0)), (4, .s (.ptr 4 0)), (5, .s (.ptr 5 0)), (15, vI g.levels.length), (16, vI i)],
      [(1001, some (gridB b)), (1002, some (gridB a)), (2, some (gridB g)), (4, some (.cells [.d (dI 0), .d (dI 0), .d (dI 0), .d (dI 0), .d (dI 0), nilS])), (5, some (.cells (cellsO g 11))), (11, some (.row 3 g.levels.length 1 (wF lv i)))]⟩)
    (fun i => i ≤ g.levels.length) (fun i => g.levels.length - i) 0 (Nat.zero_le _) ?_ ?_
  · refine SubI.of [] (by rw [href]; rfl) rfl ⟨⟨rfl, LeBx.rfl⟩, ⟨rfl, LeBx.rfl⟩, ⟨rfl, LeBx.rfl⟩, ⟨rfl, LeBx.rfl⟩, ⟨rfl, LeBx.rfl⟩, ⟨rfl, LeBx.row rfl fun i j _ hj => LeD.of_eq ?_⟩, trivial⟩ ⟨⟨rfl, LeQ.rfl⟩, ⟨rfl, LeQ.rfl⟩, ⟨rfl, LeQ.rfl⟩, ⟨rfl, LeQ.rfl⟩, ⟨rfl, LeQ.rfl⟩, ⟨rfl, LeQ.rfl⟩, trivial⟩
    have hj : j < 1 := hj
    obtain rfl : j = 0 := by omega
    rfl
  · intro i hi
    refine ex.sound (rc := []) tab_ok mix href _ ?_
    refine And.intro (fun h => ?_) (fun h => ?_)
    · have h : (i : Int) < g.levels.length := decT h
      refine callN (hp i (by omega) _ _ (six rfl rfl rfl rfl rfl rfl) (six rfl rfl rfl rfl rfl rfl)) ?_
      refine oi ⟨by omega, by omega⟩ ?_
      refine ob (show (i : Int).toNat < g.levels.length by omega) ?_
      refine And.intro (by kernel_rfl) ?_
      refine ⟨i + 1, by omega, by omega, ?_⟩
      refine SubI.of [] (by rw [href]; rfl) rfl ⟨⟨rfl, LeBx.rfl⟩, ⟨rfl, LeBx.rfl⟩, ⟨rfl, LeBx.rfl⟩, ⟨rfl, LeBx.rfl⟩, ⟨rfl, LeBx.rfl⟩, ⟨rfl, LeBx.row rfl fun k j hk hj => LeD.of_eq ?_⟩, trivial⟩ ⟨⟨rfl, LeQ.rfl⟩, ⟨rfl, LeQ.rfl⟩, ⟨rfl, LeQ.rfl⟩, ⟨rfl, LeQ.rfl⟩, ⟨rfl, LeQ.rfl⟩, ⟨rfl, LeQ.int (w64_of (by omega) (by omega))⟩, trivial⟩
      obtain rfl : j = 0 := by omega
      by_cases hki : k = i
      · subst hki
        refine rowSet_self.trans ?_
        unfold wF
        rw [if_pos (Nat.lt_succ_self _)]
      · refine (rowSet_ne hki).trans ?_
        unfold wF
        by_cases hlt : k < i
        · rw [if_pos hlt, if_pos (by omega)]
        · rw [if_neg hlt, if_neg (by omega)]
    · have h : ¬ (i : Int) < g.levels.length := decF h
      obtain rfl : i = g.levels.length := by omega
      exact ⟨LeQ.rfl, ⟨rfl, rfl, rfl, trivial⟩⟩
theorem withO0 (g : Grid) (f : Nat) (lv : Nat → Int) (h0 : 0 < g.levels.length) (hn : g.levels.length ≤ 1024) (hp : ∀ i : Nat, CallP Try.prog f [vI i] (vI (lv i))) :
    CallR Try.prog 82 [grid g, .s (.clo f [])] [] (.g (cellsO g 11)) [(11, .row 3 g.levels.length 1 (wF lv g.levels.length))] := by
  refine callO_of_ex (rc := []) (N := 28) Try.func82 rfl rfl Try.call82 tab_ok mix rfl rfl rfl rfl (fun cx href => ?_)
  refine ob (by omega) ?_
  refine ob (by omega) ?_
  refine ob (by show (8 : Int) * (g.levels.length : Int) ≤ 281474976710656; omega) ?_
  refine AW.loopI (fun i : Nat => ⟨[(1, .s (.clo f [])), (2, .s (.ptr 2 0)), (4, .s (.ptr 4 0)), (5, .s (.ptr 5 0)), (15, vI g.levels.length), (16, vI i)],
      [(2, some (gridB g)), (4, some (.cells [.d (dI 0), .d (dI 0), .d (dI 0), .d (dI 0), .d (dI 0), nilS])), (5, some (.cells (cellsO g 11))), (11, some (.row 3 g.levels.length 1 (wF lv i)))]⟩)
    (fun i => i ≤ g.levels.length) (fun i => g.levels.length - i) 0 (Nat.zero_le _) ?_ ?_
  · refine SubI.of [] (by rw [href]; rfl) rfl ⟨⟨rfl, LeBx.rfl⟩, ⟨rfl, LeBx.rfl⟩, ⟨rfl, LeBx.rfl⟩, ⟨rfl, LeBx.row rfl fun i j _ hj => LeD.of_eq ?_⟩, trivial⟩ ⟨⟨rfl, LeQ.rfl⟩, ⟨rfl, LeQ.rfl⟩, ⟨rfl, LeQ.rfl⟩, ⟨rfl, LeQ.rfl⟩, ⟨rfl, LeQ.rfl⟩, ⟨rfl, LeQ.rfl⟩, trivial⟩
    have hj : j < 1 := hj
    obtain rfl : j = 0 := by omega
    rfl
  · intro i hi
    refine ex.sound (rc := []) tab_ok mix href _ ?_
    refine And.intro (fun h => ?_) (fun h => ?_)
    · have h : (i : Int) < g.levels.length := decT h
      refine callN (hp i) ?_
      refine oi ⟨by omega, by omega⟩ ?_
      refine ob (show (i : Int).toNat < g.levels.length by omega) ?_
      refine And.intro (by kernel_rfl) ?_
      refine ⟨i + 1, by omega, by omega, ?_⟩
      refine SubI.of [] (by rw [href]; rfl) rfl ⟨⟨rfl, LeBx.rfl⟩, ⟨rfl, LeBx.rfl⟩, ⟨rfl, LeBx.rfl⟩, ⟨rfl, LeBx.row rfl fun k j hk hj => LeD.of_eq ?_⟩, trivial⟩ ⟨⟨rfl, LeQ.rfl⟩, ⟨rfl, LeQ.rfl⟩, ⟨rfl, LeQ.rfl⟩, ⟨rfl, LeQ.rfl⟩, ⟨rfl, LeQ.rfl⟩, ⟨rfl, LeQ.int (w64_of (by omega) (by omega))⟩, trivial⟩
      obtain rfl : j = 0 := by omega
      by_cases hki : k = i
      · subst hki
        refine rowSet_self.trans ?_
        unfold wF
        rw [if_pos (Nat.lt_succ_self _)]
      · refine (rowSet_ne hki).trans ?_
        unfold wF
        by_cases hlt : k < i
        · rw [if_pos hlt, if_pos (by omega)]
        · rw [if_neg hlt, if_neg (by omega)]
    · have h : ¬ (i : Int) < g.levels.length := decF h
      obtain rfl : i = g.levels.length := by omega
      exact ⟨LeQ.rfl, ⟨rfl, trivial⟩⟩
theorem blankO (g : Grid) (he : errG g = 0) : CallR Try.prog 29 [grid g] [] (.t [.g (cellsO g 211), .s (.d (dI 0))]) [(211, .row 3 g.levels.length 1 (wF (fun _ => 30000) g.levels.length))] := by
  refine callO_of_ex (rc := [82]) (N := 13) Try.func29 rfl rfl Try.call29 tab_ok mix rfl rfl rfl rfl (fun cx _ => ?_)
  have gv := GVal.of he
  have hn := gv.n
  refine callN (bcheck g (by omega)) ?_
  rw [he]
  refine And.intro (fun h => by cases h) (fun _ => ?_)
  refine ⟨[(11, 211)], _, _, _, _, withO0 g 83 (fun _ => 30000) gv.pos gv.n (fun i => blank1 i), rfl, trivial, rfl, ?_⟩
  exact ⟨LeQ.rfl, rfl, trivial⟩
theorem blankE (g : Grid) (hg : g.ok) (h : errG g ≠ 0) : CallP Try.prog 29 [grid g] (.t [.g zeroC, .s (.d (dI (errG g)))]) := by
  refine callP_of_ex (rc := []) (N := 13) Try.func29 rfl rfl Try.call29 tab_ok mix rfl rfl (fun cx _ => ?_)
  refine callN (bcheck g hg.levels) ?_
  refine And.intro (fun _ => SubR.refl _) (fun h1 => ?_)
  have h1 : (errG g != 0) = false := h1
  simp [h] at h1
theorem latestO (a b : Grid) (ha : a.ok) (hb : b.ok) (he : err2 a b = 0) : CallR Try.prog 47 [grid a, grid b] [] (.t [.g (cellsO a 211), .s (.d (dI 0))]) [(211, .row 3 a.levels.length 1 (wF (latP a b) a.levels.length))] := by
  refine callO_of_ex (rc := [82]) (N := 17) Try.func47 rfl rfl Try.call47 tab_ok mix rfl rfl rfl rfl (fun cx href => ?_)
  refine callN (bboth a b ha hb) ?_
  rw [he]
  refine And.intro (fun h => by cases h) (fun _ => ?_)
  obtain ⟨e1, e2, e3⟩ := err2_zero he
  have ga := GVal.of e1
  have gb := GVal.of e2
  have hl := sameC_len ga gb e3
  refine ⟨[(1001, 3), (1002, 2), (11, 211)], _, _, _, _, withO2 a a b 99 (latP a b) ga.pos ga.n (fun i hi p q h1 h2 => latest1 a b i hi (by omega) gb.n p q h1 h2), rfl, ⟨rfl, rfl, trivial⟩, rfl, ?_⟩
  exact ⟨LeQ.rfl, rfl, trivial⟩
theorem latestE (a b : Grid) (ha : a.ok) (hb : b.ok) (he : err2 a b ≠ 0) : CallP Try.prog 47 [grid a, grid b] (.t [.g zeroC, .s (.d (dI (err2 a b)))]) := by
  refine callP_of_ex (rc := []) (N := 17) Try.func47 rfl rfl Try.call47 tab_ok mix rfl rfl (fun cx href => ?_)
  refine callN (bboth a b ha hb) ?_
  refine And.intro (fun _ => SubR.refl _) (fun h1 => ?_)
  have h1 : (err2 a b != 0) = false := h1
  simp [he] at h1
theorem shoalO (a b : Grid) (ha : a.ok) (hb : b.ok) (he : err2 a b = 0) : CallR Try.prog 48 [grid a, grid b] [] (.t [.g (cellsO a 211), .s (.d (dI 0))]) [(211, .row 3 a.levels.length 1 (wF (shoP a b) a.levels.length))] := by
  refine callO_of_ex (rc := [82]) (N := 17) Try.func48 rfl rfl Try.call48 tab_ok mix rfl rfl rfl rfl (fun cx href => ?_)
  refine callN (bboth a b ha hb) ?_
  rw [he]
  refine And.intro (fun h => by cases h) (fun _ => ?_)
  obtain ⟨e1, e2, e3⟩ := err2_zero he
  have ga := GVal.of e1
  have gb := GVal.of e2
  have hl := sameC_len ga gb e3
  refine ⟨[(1001, 3), (1002, 2), (11, 211)], _, _, _, _, withO2 a a b 100 (shoP a b) ga.pos ga.n (fun i hi p q h1 h2 => shoal1 a b i hi (by omega) ga.n gb.n p q h1 h2), rfl, ⟨rfl, rfl, trivial⟩, rfl, ?_⟩
  exact ⟨LeQ.rfl, rfl, trivial⟩
theorem shoalE (a b : Grid) (ha : a.ok) (hb : b.ok) (he : err2 a b ≠ 0) : CallP Try.prog 48 [grid a, grid b] (.t [.g zeroC, .s (.d (dI (err2 a b)))]) := by
  refine callP_of_ex (rc := []) (N := 17) Try.func48 rfl rfl Try.call48 tab_ok mix rfl rfl (fun cx href => ?_)
  refine callN (bboth a b ha hb) ?_
  refine And.intro (fun _ => SubR.refl _) (fun h1 => ?_)
  have h1 : (err2 a b != 0) = false := h1
  simp [he] at h1
end Go.Ch

/- A way that is not empty, in memory of its own. -/
namespace Go.Ch
open Go Go.Ax Go.Proofs Go.Proofs.Try
set_option maxRecDepth 100000
set_option pp.maxSteps 400
set_option maxHeartbeats 1000000
set_option linter.unusedVariables false

theorem wayClearO (g : Grid) (most : Int) (fr to : List Int) (hg : GVal g) (hf : fr.length ≤ 1000) (ht : to.length ≤ 1000) (hne : wayL g.levels.length (okMost g most) (nearL g) fr to ≠ []) :
    CallR Try.prog 115 [grid g, vInts fr, vInts to, .s (.clo 116 [.ptr 1001 0, .ptr 1002 0])] [(1001, gridB g), (1002, .cells [.d (dI most)])] (.s (.own 200)) [(1001, gridB g), (1002, .cells [.d (dI most)]), (200, .row 3 (wayL g.levels.length (okMost g most) (nearL g) fr to).length 1 (revF (wayL g.levels.length (okMost g most) (nearL g) fr to).reverse ((wayL g.levels.length (okMost g most) (nearL g) fr to).length / 2)))] := by
  have hn := hg.n
  have hok : ∀ i, (okMost g most) i = true → 0 ≤ i ∧ i < g.levels.length := fun i h => there_iff.1 (okMost_known h)
  refine callO_of_aw Try.func115 rfl rfl Try.call115 tab_ok rfl rfl rfl rfl (fun cx href => ?_)
  refine AW.seq (ex.sound (rc := [147]) tab_ok mix href _ ?_)
  refine AW.scope ?_
  refine AW.seq (ex.sound (rc := [147]) tab_ok mix href _ ?_)
  refine AW.seq (ex.sound (rc := [147]) tab_ok mix href _ ?_)
  refine AW.cut (σ' := wayClear1 g most fr to ((fr.take fr.length).foldl (seedS (okMost g most)) ([], [])) fr.length) (ex.sound (rc := [147]) tab_ok mix href _ ?_) ?_
  · refine AW.loopI (fun i => wayClear1 g most fr to ((fr.take i).foldl (seedS (okMost g most)) ([], [])) i) (fun i => i ≤ fr.length) (fun i => fr.length - i) 0 (Nat.zero_le _) ?_ ?_
    · exact SubI.of [(100, 1000)] (by rw [href]; rfl) rfl ⟨⟨rfl, LeBx.rfl⟩, ⟨rfl, LeBx.rfl⟩, ⟨rfl, LeBx.rfl⟩, ⟨rfl, LeBx.rfl⟩, ⟨rfl, rfl⟩, trivial⟩ ⟨⟨rfl, LeQ.rfl⟩, ⟨rfl, LeQ.rfl⟩, ⟨rfl, LeQ.rfl⟩, ⟨rfl, LeQ.rfl⟩, ⟨rfl, LeQ.nil rfl⟩, ⟨rfl, LeQ.rfl⟩, ⟨rfl, LeQ.rfl⟩, ⟨rfl, LeQ.rfl⟩, trivial⟩
    · intro i hi
      have hw := Bw.seeds hok (l := fr) i hi
      refine ex.sound (rc := [147]) tab_ok mix href _ ?_
      refine And.intro (fun h => ?_) (fun h => ?_)
      · have h : (i : Int) < fr.length := decT h
        have hi' : i < fr.length := by omega
        have hs := foldl_take (f := seedS (okMost g most)) (b := ([], [])) hi'
        have hx : fr[i] = fr.getD i 0 := by simp [hi']
        rw [hx] at hs
        generalize (fr.take i).foldl (seedS (okMost g most)) ([], []) = s at hw hs
        have hl : s.2.length ≤ 1024 := by have := hw.2; unfold muS at this; omega
        refine oi ⟨by omega, by omega⟩ ?_
        repeat first | refine sk ?_ | refine st ?_ | refine sg ?_ | refine sh ?_ | refine su ?_ | refine sn1 ?_ | refine sn0 ?_
        refine callG (knownI g (fr.getD i 0) (by omega)) ?_
        repeat first | refine sk ?_ | refine st ?_ | refine sg ?_ | refine sh ?_ | refine su ?_ | refine sn1 ?_ | refine sn0 ?_
        refine callGo (fun hk => clear1 g most _ (and_right hk) _ _ rfl rfl) ?_
        repeat first | refine sk ?_ | refine st ?_ | refine sg ?_ | refine sh ?_ | refine su ?_ | refine sn1 ?_ | refine sn0 ?_
        refine And.intro (fun h2 => ?_) (fun h2 => ?_)
        · have h2 : ((!hasM s.1 (fr.getD i 0) && knownG g (fr.getD i 0)) && decide (levelAt g (fr.getD i 0) ≤ most)) = true := h2
          rw [Bool.and_assoc] at h2
          have hs : (fr.take (i + 1)).foldl (seedS (okMost g most)) ([], []) = (setM s.1 (fr.getD i 0) (fr.getD i 0), s.2 ++ [fr.getD i 0]) := by
            rw [hs]
            show (bif !hasM s.1 (fr.getD i 0) && (knownG g (fr.getD i 0) && decide (levelAt g (fr.getD i 0) ≤ most)) then _ else _) = _
            rw [h2]; rfl
          refine ob (by decide) ?_
          refine ob (by rw [bif_len]; show _ * 8 ≤ _; omega) ?_
          refine ob (fit1 (lt1 rfl)) ?_
          refine ⟨i + 1, by omega, by omega, ?_⟩
          show SubI cx _ _ (wayClear1 g most fr to ((fr.take (i + 1)).foldl (seedS (okMost g most)) ([], [])) (i + 1))
          rw [hs]
          exact SubI.of [(100, 53)] (by rw [href]; rfl) rfl ⟨⟨rfl, LeBx.rfl⟩, ⟨rfl, LeBx.rfl⟩, ⟨rfl, LeBx.rfl⟩, ⟨rfl, LeBx.rfl⟩, ⟨rfl, nearRow intRow rfl⟩, trivial⟩ ⟨⟨rfl, LeQ.rfl⟩, ⟨rfl, LeQ.rfl⟩, ⟨rfl, LeQ.rfl⟩, ⟨rfl, LeQ.rfl⟩, ⟨rfl, LeQ.mo (isEmpty_snoc _ _)⟩, ⟨rfl, LeQ.rfl⟩, ⟨rfl, LeQ.rfl⟩, ⟨rfl, LeQ.int (w64_of (by omega) (by omega))⟩, trivial⟩
        · have h2 : ((!hasM s.1 (fr.getD i 0) && knownG g (fr.getD i 0)) && decide (levelAt g (fr.getD i 0) ≤ most)) = false := h2
          rw [Bool.and_assoc] at h2
          have hs : (fr.take (i + 1)).foldl (seedS (okMost g most)) ([], []) = s := by
            rw [hs]
            show (bif !hasM s.1 (fr.getD i 0) && (knownG g (fr.getD i 0) && decide (levelAt g (fr.getD i 0) ≤ most)) then _ else _) = _
            rw [h2]; rfl
          refine ⟨i + 1, by omega, by omega, ?_⟩
          show SubI cx _ _ (wayClear1 g most fr to ((fr.take (i + 1)).foldl (seedS (okMost g most)) ([], [])) (i + 1))
          rw [hs]
          exact SubI.of [] (by rw [href]; rfl) rfl ⟨⟨rfl, LeBx.rfl⟩, ⟨rfl, LeBx.rfl⟩, ⟨rfl, LeBx.rfl⟩, ⟨rfl, LeBx.rfl⟩, ⟨rfl, LeBx.rfl⟩, trivial⟩ ⟨⟨rfl, LeQ.rfl⟩, ⟨rfl, LeQ.rfl⟩, ⟨rfl, LeQ.rfl⟩, ⟨rfl, LeQ.rfl⟩, ⟨rfl, LeQ.rfl⟩, ⟨rfl, LeQ.rfl⟩, ⟨rfl, LeQ.rfl⟩, ⟨rfl, LeQ.int (w64_of (by omega) (by omega))⟩, trivial⟩
      · have h : ¬ (i : Int) < fr.length := decF h
        obtain rfl : i = fr.length := by omega
        exact ⟨rfl, SubI.of [] (by rw [href]; rfl) rfl ⟨⟨rfl, LeBx.rfl⟩, ⟨rfl, LeBx.rfl⟩, ⟨rfl, LeBx.rfl⟩, ⟨rfl, LeBx.rfl⟩, ⟨rfl, LeBx.rfl⟩, trivial⟩ ⟨⟨rfl, LeQ.rfl⟩, ⟨rfl, LeQ.rfl⟩, ⟨rfl, LeQ.rfl⟩, ⟨rfl, LeQ.rfl⟩, ⟨rfl, LeQ.rfl⟩, ⟨rfl, LeQ.rfl⟩, ⟨rfl, LeQ.rfl⟩, ⟨rfl, LeQ.rfl⟩, trivial⟩⟩
  rw [List.take_length]
  have h0 := Bw.seeds hok (l := fr) fr.length (Nat.le_refl _)
  rw [List.take_length] at h0
  have hwl := wayL_eq (n := g.levels.length) (ok := (okMost g most)) (nr := nearL g) (fr := fr) (to := to) (s := searchL (okMost g most) (nearL g) to g.levels.length (fr.foldl (seedS (okMost g most)) ([], []))) rfl
  rw [hwl] at hne
  rw [hwl]
  clear hwl
  revert hne
  generalize fr.foldl (seedS (okMost g most)) ([], []) = s0 at h0 ⊢
  intro hne
  refine AW.seq (AW.label ?_)
  cases hz : s0.2.isEmpty with
  | true =>
    have hs0 : s0 = (s0.1, []) := Prod.ext rfl (List.isEmpty_iff.1 hz)
    rw [hs0, searchL_nil] at hne
    exact absurd rfl hne
  | false =>
    have hrow : SubI cx Try.f115.ntmps (wayClear1 g most fr to s0 fr.length) (wayClear2 g most to 0 (fun j => s0.2.getD j 0) s0) := by
      refine SubI.trans (SubI.osl (e := 3) (n := s0.2.length) (s := 1) (f := intEl s0.2) (z := s0.2.isEmpty) 10 100 rfl hz rfl) ?_
      exact SubI.of [] (by rw [href]; rfl) rfl ⟨⟨rfl, LeBx.rfl⟩, ⟨rfl, LeBx.rfl⟩, ⟨rfl, LeBx.rfl⟩, ⟨rfl, LeBx.rfl⟩, ⟨rfl, LeBx.row (Nat.zero_add _).symm fun i j _ _ => LeD.refl _⟩, trivial⟩ ⟨⟨rfl, LeQ.rfl⟩, ⟨rfl, LeQ.rfl⟩, ⟨rfl, LeQ.rfl⟩, ⟨rfl, LeQ.rfl⟩, ⟨rfl, LeQ.rfl⟩, trivial⟩
    refine AW.subI hrow ?_
    clear hrow hz
    refine AW.cutE (fun q : Nat × (Nat → Int) => wayClear2 g most to q.1 q.2 (searchL (okMost g most) (nearL g) to g.levels.length s0)) (fun q => Bw g.levels.length (okMost g most) (searchL (okMost g most) (nearL g) to g.levels.length s0) ∧ ∀ j, j < (searchL (okMost g most) (nearL g) to g.levels.length s0).2.length → q.2 (q.1 + j) = (searchL (okMost g most) (nearL g) to g.levels.length s0).2.getD j 0) (ex.sound (rc := [147]) tab_ok mix href _ ?_) ?_
    · refine AW.loopI (fun q : Nat × (Nat → Int) × BS × Nat => wayClear2 g most to q.1 q.2.1 q.2.2.1)
        (fun q => searchL (okMost g most) (nearL g) to g.levels.length s0 = searchL (okMost g most) (nearL g) to q.2.2.2 q.2.2.1 ∧ muS g.levels.length q.2.2.1 ≤ q.2.2.2 ∧ Bw g.levels.length (okMost g most) q.2.2.1 ∧ q.1 + muS g.levels.length q.2.2.1 ≤ g.levels.length ∧ ∀ j, j < q.2.2.1.2.length → q.2.1 (q.1 + j) = q.2.2.1.2.getD j 0)
        (fun q => q.2.2.2) (0, (fun j => s0.2.getD j 0), s0, g.levels.length) ⟨rfl, h0.2, h0.1, by simp only; have := h0.2; omega, fun j _ => by simp only [Nat.zero_add]⟩ ?_ ?_
      · exact SubI.of [] (by rw [href]; rfl) rfl ⟨⟨rfl, LeBx.rfl⟩, ⟨rfl, LeBx.rfl⟩, ⟨rfl, LeBx.rfl⟩, ⟨rfl, LeBx.rfl⟩, ⟨rfl, LeBx.rfl⟩, trivial⟩ ⟨⟨rfl, LeQ.rfl⟩, ⟨rfl, LeQ.rfl⟩, ⟨rfl, LeQ.rfl⟩, ⟨rfl, LeQ.rfl⟩, ⟨rfl, LeQ.rfl⟩, trivial⟩
      · rintro ⟨lo, h, ⟨b, t⟩, m⟩ ⟨he, hm, hw, hlo, hh⟩
        simp only at he hm hw hlo hh ⊢
        refine ex.sound (rc := [147]) tab_ok mix href _ ?_
        refine And.intro (fun h1 => ?_) (fun h1 => ?_)
        · have h1 : (t.length : Int) > 0 := decT h1
          match t, m with
          | [], _ => simp at h1
          | i :: r, 0 => exfalso; unfold muS at hm; simp at hm
          | i :: r, m + 1 =>
            have hi0 : h (lo + 0) = i := hh 0 (by simp)
            subst hi0
            have hlen : (h (lo + 0) :: r).length ≤ 1024 := by unfold muS at hlo; simp only at hlo; omega
            have hix := hw.mem (h (lo + 0)) (List.mem_cons_self ..)
            have hxr := hok _ (hw.key _ hix)
            refine oi ⟨by omega, by omega⟩ ?_
            refine oi (show lo + 0 < lo + (h (lo + 0) :: r).length by simp) ?_
            refine callN (ContainsI to (h (lo + 0)) (by omega)) ?_
            refine And.intro (fun h2 => ?_) (fun h2 => ?_)
            · have h2 : to.contains (h (lo + 0)) = true := h2
              rw [searchL, h2, cond_true] at he
              rw [he]
              refine ⟨rfl, (lo, h), ⟨hw, hh⟩, ?_⟩
              exact SubI.of [] (by rw [href]; rfl) rfl ⟨⟨rfl, LeBx.rfl⟩, ⟨rfl, LeBx.rfl⟩, ⟨rfl, LeBx.rfl⟩, ⟨rfl, LeBx.rfl⟩, ⟨rfl, LeBx.rfl⟩, trivial⟩ ⟨⟨rfl, LeQ.rfl⟩, ⟨rfl, LeQ.rfl⟩, ⟨rfl, LeQ.rfl⟩, ⟨rfl, LeQ.rfl⟩, ⟨rfl, LeQ.rfl⟩, trivial⟩
            · have h2 : to.contains (h (lo + 0)) = false := h2
              rw [searchL, h2, cond_false] at he
              refine callN (near g (h (lo + 0)) hg hxr.1 hxr.2) ?_
              have hnl : (nearL g (h (lo + 0))).length ≤ 1000000 := Nat.le_trans nearL_len (by decide)
              have hpw : ∀ j, j ≤ (nearL g (h (lo + 0))).length → _ := fun j hj => hw.pushes hok hix (l := nearL g (h (lo + 0))) j hj
              have hph : ∀ j, _ := fun j => pushes_head (ok := (okMost g most)) (c := h (lo + 0)) (s := (b, h (lo + 0) :: r)) rfl ((nearL g (h (lo + 0))).take j)
              have hpl : pushL (okMost g most) (h (lo + 0)) (nearL g (h (lo + 0))) (b, h (lo + 0) :: r) = ((nearL g (h (lo + 0))).take (nearL g (h (lo + 0))).length).foldl (pushS (okMost g most) (h (lo + 0))) (b, h (lo + 0) :: r) := by rw [List.take_length]; rfl
              rw [hpl] at he
              generalize hx : h (lo + 0) = x at *
              generalize nearL g x = nr at *
              refine AW.loopI (fun q : Nat × (Nat → Int) × Nat => wayClear4 g most to x nr q.1 q.2.1 ((nr.take q.2.2).foldl (pushS (okMost g most) x) (b, x :: r)) q.2.2)
                (fun q => q.2.2 ≤ nr.length ∧ q.1 + muS g.levels.length ((nr.take q.2.2).foldl (pushS (okMost g most) x) (b, x :: r)) ≤ g.levels.length ∧ ∀ j, j < ((nr.take q.2.2).foldl (pushS (okMost g most) x) (b, x :: r)).2.length → q.2.1 (q.1 + j) = ((nr.take q.2.2).foldl (pushS (okMost g most) x) (b, x :: r)).2.getD j 0)
                (fun q => nr.length - q.2.2) (lo, h, 0) ⟨Nat.zero_le _, hlo, hh⟩ ?_ ?_
              · exact SubI.of [] (by rw [href]; rfl) rfl ⟨⟨rfl, LeBx.rfl⟩, ⟨rfl, LeBx.rfl⟩, ⟨rfl, LeBx.rfl⟩, ⟨rfl, LeBx.rfl⟩, ⟨rfl, LeBx.rfl⟩, trivial⟩ ⟨⟨rfl, LeQ.rfl⟩, ⟨rfl, LeQ.rfl⟩, ⟨rfl, LeQ.rfl⟩, ⟨rfl, LeQ.rfl⟩, ⟨rfl, LeQ.rfl⟩, ⟨rfl, LeQ.int hx⟩, ⟨rfl, LeQ.rfl⟩, ⟨rfl, LeQ.rfl⟩, ⟨rfl, LeQ.rfl⟩, trivial⟩
              · rintro ⟨lo, h, j⟩ ⟨hj, hlo, hh⟩
                simp only at hj hlo hh ⊢
                have hpj := hpw j hj
                obtain ⟨r', hr'⟩ := hph j
                refine ex.sound (rc := [147]) tab_ok mix href _ ?_
                refine And.intro (fun h3 => ?_) (fun h3 => ?_)
                · have h3 : (j : Int) < nr.length := decT h3
                  have hj' : j < nr.length := by omega
                  have hs := foldl_take (f := pushS (okMost g most) x) (b := (b, x :: r)) hj'
                  have hk : nr[j] = nr.getD j 0 := by simp [hj']
                  rw [hk] at hs
                  generalize (nr.take j).foldl (pushS (okMost g most) x) (b, x :: r) = s at hlo hh hpj hr' hs
                  have hsl : s.2.length ≤ g.levels.length - lo := by unfold muS at hlo; omega
                  refine oi ⟨by omega, by omega⟩ ?_
                  repeat first | refine sk ?_ | refine st ?_ | refine sg ?_ | refine sh ?_ | refine su ?_ | refine sn1 ?_ | refine sn0 ?_
                  refine callG (knownI g (nr.getD j 0) (by omega)) ?_
                  repeat first | refine sk ?_ | refine st ?_ | refine sg ?_ | refine sh ?_ | refine su ?_ | refine sn1 ?_ | refine sn0 ?_
                  refine callGo (fun hk => clear1 g most _ (or_right hk) _ _ rfl rfl) ?_
                  repeat first | refine sk ?_ | refine st ?_ | refine sg ?_ | refine sh ?_ | refine su ?_ | refine sn1 ?_ | refine sn0 ?_
                  refine And.intro (fun h4 => ?_) (fun h4 => ?_)
                  · have h4 : ((hasM s.1 (nr.getD j 0) || !knownG g (nr.getD j 0)) || !decide (levelAt g (nr.getD j 0) ≤ most)) = true := h4
                    rw [Bool.or_assoc, ← Bool.not_and] at h4
                    have hs : (nr.take (j + 1)).foldl (pushS (okMost g most) x) (b, x :: r) = s := by
                      rw [hs]
                      show (bif hasM s.1 (nr.getD j 0) || !(knownG g (nr.getD j 0) && decide (levelAt g (nr.getD j 0) ≤ most)) then _ else _) = _
                      rw [h4]; rfl
                    refine ⟨(lo, h, j + 1), ⟨by simp only; omega, by simp only; rw [hs]; exact hlo, by simp only; rw [hs]; exact hh⟩, by simp only; omega, ?_⟩
                    show SubI cx _ _ (wayClear4 g most to x nr lo h ((nr.take (j + 1)).foldl (pushS (okMost g most) x) (b, x :: r)) (j + 1))
                    rw [hs]
                    exact SubI.of [] (by rw [href]; rfl) rfl ⟨⟨rfl, LeBx.rfl⟩, ⟨rfl, LeBx.rfl⟩, ⟨rfl, LeBx.rfl⟩, ⟨rfl, LeBx.rfl⟩, ⟨rfl, LeBx.rfl⟩, trivial⟩ ⟨⟨rfl, LeQ.rfl⟩, ⟨rfl, LeQ.rfl⟩, ⟨rfl, LeQ.rfl⟩, ⟨rfl, LeQ.rfl⟩, ⟨rfl, LeQ.rfl⟩, ⟨rfl, LeQ.rfl⟩, ⟨rfl, LeQ.rfl⟩, ⟨rfl, LeQ.rfl⟩, ⟨rfl, LeQ.int (w64_of (by omega) (by omega))⟩, trivial⟩
                  · have h4 : ((hasM s.1 (nr.getD j 0) || !knownG g (nr.getD j 0)) || !decide (levelAt g (nr.getD j 0) ≤ most)) = false := h4
                    rw [Bool.or_assoc, ← Bool.not_and] at h4
                    have hs : (nr.take (j + 1)).foldl (pushS (okMost g most) x) (b, x :: r) = (setM s.1 (nr.getD j 0) x, s.2 ++ [nr.getD j 0]) := by
                      rw [hs]
                      show (bif hasM s.1 (nr.getD j 0) || !(knownG g (nr.getD j 0) && decide (levelAt g (nr.getD j 0) ≤ most)) then _ else _) = _
                      rw [h4]; rfl
                    have hmu : muS g.levels.length ((nr.take (j + 1)).foldl (pushS (okMost g most) x) (b, x :: r)) ≤ muS g.levels.length s := by
                      have hh1 : ((hasM s.1 (nr.getD j 0)) || !((okMost g most) (nr.getD j 0))) = false := h4
                      rw [Bool.or_eq_false_iff] at hh1
                      rw [hs]
                      exact (hpj.1.put hok (by simpa using hh1.2) hh1.1 (.inr hpj.2.2)).2
                    rw [hs] at hmu
                    refine ob (by decide) ?_
                    refine ob (show (lo + s.2.length + 1) * 8 ≤ _ by omega) ?_
                    refine ob (fit1 (lt1 rfl)) ?_
                    refine And.intro ?_ ?_
                    · refine ⟨(lo, snocF h (lo + s.2.length) (nr.getD j 0), j + 1), ⟨by simp only; omega, by simp only; rw [hs]; omega, ?_⟩, by simp only; omega, ?_⟩
                      · simp only
                        rw [hs]
                        intro k hk
                        rw [List.length_append, List.length_singleton] at hk
                        show (if lo + k < lo + s.2.length then h (lo + k) else nr.getD j 0) = (s.2 ++ [nr.getD j 0]).getD k 0
                        rw [getD_app]
                        by_cases e : k < s.2.length
                        · rw [if_pos (by omega), if_pos e]; exact hh k e
                        · rw [if_neg (by omega), if_neg e, if_pos (by omega)]
                      · show SubI cx _ _ (wayClear4 g most to x nr lo (snocF h (lo + s.2.length) (nr.getD j 0)) ((nr.take (j + 1)).foldl (pushS (okMost g most) x) (b, x :: r)) (j + 1))
                        rw [hs]
                        exact SubI.of [(100, 99)] (by rw [href]; rfl) rfl ⟨⟨rfl, LeBx.rfl⟩, ⟨rfl, LeBx.rfl⟩, ⟨rfl, LeBx.rfl⟩, ⟨rfl, LeBx.rfl⟩, ⟨rfl, LeBx.snocI rfl (by rw [List.length_append, List.length_singleton]; omega)⟩, trivial⟩ ⟨⟨rfl, LeQ.rfl⟩, ⟨rfl, LeQ.rfl⟩, ⟨rfl, LeQ.rfl⟩, ⟨rfl, LeQ.rfl⟩, ⟨rfl, LeQ.of_eq (by rw [List.length_append, List.length_singleton]; rfl)⟩, ⟨rfl, LeQ.rfl⟩, ⟨rfl, LeQ.rfl⟩, ⟨rfl, LeQ.rfl⟩, ⟨rfl, LeQ.int (w64_of (by omega) (by omega))⟩, trivial⟩
                    · refine ⟨(0, snocF (fun i => h (lo + i)) s.2.length (nr.getD j 0), j + 1), ⟨by simp only; omega, by simp only; rw [hs]; omega, ?_⟩, by simp only; omega, ?_⟩
                      · simp only
                        rw [hs]
                        intro k hk
                        rw [List.length_append, List.length_singleton] at hk
                        show (if 0 + k < s.2.length then h (lo + (0 + k)) else nr.getD j 0) = (s.2 ++ [nr.getD j 0]).getD k 0
                        rw [getD_app, Nat.zero_add]
                        by_cases e : k < s.2.length
                        · rw [if_pos e, if_pos e]; exact hh k e
                        · rw [if_neg e, if_neg e, if_pos (by omega)]
                      · show SubI cx _ _ (wayClear4 g most to x nr 0 (snocF (fun i => h (lo + i)) s.2.length (nr.getD j 0)) ((nr.take (j + 1)).foldl (pushS (okMost g most) x) (b, x :: r)) (j + 1))
                        rw [hs]
                        exact SubI.of [(100, 99)] (by rw [href]; rfl) rfl ⟨⟨rfl, LeBx.rfl⟩, ⟨rfl, LeBx.rfl⟩, ⟨rfl, LeBx.rfl⟩, ⟨rfl, LeBx.rfl⟩, ⟨rfl, LeBx.snocI rfl (by rw [List.length_append, List.length_singleton]; omega)⟩, trivial⟩ ⟨⟨rfl, LeQ.rfl⟩, ⟨rfl, LeQ.rfl⟩, ⟨rfl, LeQ.rfl⟩, ⟨rfl, LeQ.rfl⟩, ⟨rfl, LeQ.of_eq (by rw [List.length_append, List.length_singleton]; rfl)⟩, ⟨rfl, LeQ.rfl⟩, ⟨rfl, LeQ.rfl⟩, ⟨rfl, LeQ.rfl⟩, ⟨rfl, LeQ.int (w64_of (by omega) (by omega))⟩, trivial⟩
                · have h3 : ¬ (j : Int) < nr.length := decF h3
                  obtain rfl : j = nr.length := by omega
                  generalize (nr.take nr.length).foldl (pushS (okMost g most) x) (b, x :: r) = s at hlo hh hpj hr' he
                  obtain ⟨b', t'⟩ := s
                  simp only at hr'
                  subst hr'
                  have hmt : muS g.levels.length (b', x :: r') = muS g.levels.length (b', r') + 1 := by unfold muS; simp only [List.length_cons]; omega
                  have hmp := hpj.2.1
                  refine oi ⟨by decide, by show (1 : Int) ≤ ((x :: r').length : Int); simp only [List.length_cons]; omega, Int.le_refl _⟩ ?_
                  refine ⟨(lo + 1, h, (b', r'), m), ⟨he, by simp only; omega, hpj.1.tail, by simp only; omega, fun k hk => ?_⟩, by simp only; omega, ?_⟩
                  · have := hh (k + 1) (by simp only [List.length_cons]; simp only at hk; omega)
                    show h (lo + 1 + k) = r'.getD k 0
                    rw [show lo + 1 + k = lo + (k + 1) by omega, this]; rfl
                  · exact SubI.of [] (by rw [href]; rfl) rfl ⟨⟨rfl, LeBx.rfl⟩, ⟨rfl, LeBx.rfl⟩, ⟨rfl, LeBx.rfl⟩, ⟨rfl, LeBx.rfl⟩, ⟨rfl, LeBx.row (by simp only [List.length_cons]; omega) fun _ _ _ _ => LeD.refl _⟩, trivial⟩ ⟨⟨rfl, LeQ.rfl⟩, ⟨rfl, LeQ.rfl⟩, ⟨rfl, LeQ.rfl⟩, ⟨rfl, LeQ.rfl⟩, ⟨rfl, LeQ.rfl⟩, trivial⟩
        · have h1 : ¬ (t.length : Int) > 0 := decF h1
          obtain rfl : t = [] := List.eq_nil_of_length_eq_zero (by omega)
          rw [searchL_nil] at he
          rw [he]
          refine ⟨rfl, (lo, h), ⟨hw, hh⟩, ?_⟩
          exact SubI.of [] (by rw [href]; rfl) rfl ⟨⟨rfl, LeBx.rfl⟩, ⟨rfl, LeBx.rfl⟩, ⟨rfl, LeBx.rfl⟩, ⟨rfl, LeBx.rfl⟩, ⟨rfl, LeBx.rfl⟩, trivial⟩ ⟨⟨rfl, LeQ.rfl⟩, ⟨rfl, LeQ.rfl⟩, ⟨rfl, LeQ.rfl⟩, ⟨rfl, LeQ.rfl⟩, ⟨rfl, LeQ.rfl⟩, trivial⟩
    · revert hne
      generalize searchL (okMost g most) (nearL g) to g.levels.length s0 = s
      intro hne
      rintro ⟨lo, h⟩ ⟨hw, hh⟩
      simp only at hw hh ⊢
      refine ex.sound (rc := [147]) tab_ok mix href _ ?_
      obtain ⟨b, t⟩ := s
      match t with
      | [] =>
        exact absurd rfl hne
      | i :: r =>
        have hi0 : h (lo + 0) = i := hh 0 (by simp)
        refine And.intro (fun h => ?_) (fun _ => ?_)
        · exfalso
          have h : (((i :: r).length : Int) == 0) = true := h
          rw [len0] at h; cases h
        have hm := hw.mem i (List.mem_cons_self ..)
        have hpl := posM_lt hm
        have hcn := hw.cnt
        simp only at hm hpl hcn
        refine oi ⟨Int.le_refl _, by show (0 : Int) < ((i :: r).length : Int); simp only [List.length_cons]; omega⟩ ?_
        refine oi (show lo + 0 < lo + (i :: r).length by simp) ?_
        refine oi ⟨Int.le_refl _, by show (0 : Int) < ((i :: r).length : Int); simp only [List.length_cons]; omega⟩ ?_
        refine oi (show lo + 0 < lo + (i :: r).length by simp) ?_
        refine AW.loopI (fun q : Int × List Int × Nat => wayClear5 g most b q.1 q.2.1)
          (fun q => backL b b.length i [i] = backL b q.2.2 q.1 q.2.1 ∧ hasM b q.1 = true ∧ posM b q.1 ≤ q.2.2 ∧ 0 < q.2.1.length ∧ q.2.1.length + posM b q.1 ≤ 1025)
          (fun q => posM b q.1) (i, [i], b.length) ⟨rfl, hm, Nat.le_of_lt hpl, by simp, by simp only [List.length_singleton]; omega⟩ ?_ ?_
        · refine SubI.of [(200, 107)] (by rw [href]; rfl) rfl ⟨⟨rfl, LeBx.rfl⟩, ⟨rfl, LeBx.rfl⟩, ⟨rfl, LeBx.rfl⟩, ⟨rfl, LeBx.row rfl fun k j hk hj => LeD.of_eq ?_⟩, trivial⟩ ⟨⟨rfl, LeQ.rfl⟩, ⟨rfl, LeQ.rfl⟩, ⟨rfl, LeQ.int hi0⟩, trivial⟩
          have hk : k < 1 := hk
          obtain rfl : k = 0 := by omega
          have hj : j < 1 := hj
          obtain rfl : j = 0 := by omega
          exact congrArg dI hi0
        · generalize hi00 : i = i0
          rintro ⟨i, out, m⟩ ⟨he, hm, hpos, ho0, hol⟩
          simp only at he hm hpos ho0 hol ⊢
          refine ex.sound (rc := [147]) tab_ok mix href _ ?_
          refine oi hm ?_
          refine And.intro (fun h => ?_) (fun h => ?_)
          · have h : (getM b i != i) = true := h
            have hne : getM b i ≠ i := by simpa using h
            have hp := (hw.par i hm).resolve_left hne
            simp only at hp
            match m with
            | 0 => omega
            | m + 1 =>
              rw [backL, beq_eq_false_iff_ne.2 hne, cond_false] at he
              refine oi hm ?_
              refine ob (show (out.length + 1) * 8 ≤ _ by omega) ?_
              refine ob (fit1 (lt1 rfl)) ?_
              refine oi hm ?_
              refine ⟨(getM b i, out ++ [getM b i], m), ⟨he, hp.1, by simp only; omega, by simp, by simp only [List.length_append, List.length_singleton]; omega⟩, hp.2, ?_⟩
              exact SubI.of [(200, 124)] (by rw [href]; rfl) rfl ⟨⟨rfl, LeBx.rfl⟩, ⟨rfl, LeBx.rfl⟩, ⟨rfl, LeBx.rfl⟩, ⟨rfl, RowIs.row (el := fun x _ => dI x) (RowIs.snoc intRow1 (lt1 rfl))⟩, trivial⟩ ⟨⟨rfl, LeQ.rfl⟩, ⟨rfl, LeQ.rfl⟩, ⟨rfl, LeQ.rfl⟩, trivial⟩
          · have h : (getM b i != i) = false := h
            have heq : (getM b i == i) = true := by simpa using h
            have hres : backL b b.length i0 [i0] = out := by
              rw [he]
              cases m with
              | zero => rfl
              | succ m => rw [backL, heq, cond_true]
            simp only
            rw [hres]
            refine ⟨[(1001, 200)], _, _, _, _, ReverseR out (intEl out) (fun i j _ hj => ?_) ho0 (by omega), rfl, ⟨rfl, trivial⟩, rfl, ?_⟩
            · obtain rfl : j = 0 := by omega
              exact LeD.refl _
            · refine ⟨LeQ.rfl, rfl, rfl, ?_, trivial⟩
              show some (some (Box.row 3 out.length 1 (revF out (out.length / 2)))) = some (some (Box.row 3 out.reverse.length 1 (revF out.reverse.reverse (out.reverse.length / 2))))
              rw [List.reverse_reverse, List.length_reverse]
end Go.Ch

/- Clear, whose route lies in memory of its own. -/
namespace Go.Ch
open Go Go.Ax Go.Proofs Go.Proofs.Try
set_option maxRecDepth 100000
set_option pp.maxSteps 400
set_option maxHeartbeats 1000000

theorem LeQ.unmo {x : Nat} : LeQ (.s (.mo false x)) (.s (.own x)) := fun _ _ _ r => r.2 rfl
theorem LeQ.unmo' {x : Nat} {z : Bool} (h : z = false) : LeQ (.s (.mo z x)) (.s (.own x)) := fun _ _ _ r => r.2 h
theorem LeQ.unnil {x : Nat} : LeQ (.s (.mo true x)) (.s nilS) := fun _ _ _ r => r.1 rfl
theorem SubI.rowC {cx : Cx} {N : Nat} {σ : St} {e n s : Nat} {f : Nat → Nat → DV} {cs : List SV} (y x k : Nat) (hc : getB σ.box y = some (some (.cells cs))) (hk : cs[k]? = some (.mo false x)) (hb : getB σ.box x = some (some (.mrow e n s f))) :
    SubI cx N σ ⟨σ.env, (x, some (.row e n s f)) :: σ.box⟩ := by
  intro M β a w i
  obtain ⟨by1, cy, vs, ty, _, _, hrl⟩ := i.box y _ hc
  obtain ⟨v, _, hv⟩ := hrl.get hk
  obtain ⟨b, c, hx, _, hc'⟩ := hv.2 rfl
  obtain ⟨cur, h1, h2, h3, h4, h5, h6⟩ := i.box x _ hb b c hx
  have live : ∀ y bc, getB ((x, some (.row e n s f)) :: σ.box) y = some (some bc) → ∃ bc, getB σ.box y = some (some bc) := by
    intro y bc h
    rw [getB_cons] at h
    by_cases hy : x = y
    · subst hy; exact ⟨_, hb⟩
    · rw [if_neg hy] at h; exact ⟨_, h⟩
  refine ⟨β, i.defers, i.tmps, i.heap, i.env, i.mem, ?_, ?_, ?_, ?_, ?_, i.ref⟩
  · intro y p h
    obtain ⟨z, hz⟩ := i.keys y p h
    show ∃ y', getB ((x, _) :: σ.box) y = some y'
    rw [getB_cons]
    by_cases hy : x = y
    · rw [if_pos hy]; exact ⟨_, rfl⟩
    · rw [if_neg hy]; exact ⟨z, hz⟩
  · intro y bc h
    have h : getB ((x, some (.row e n s f)) :: σ.box) y = some (some bc) := h
    rw [getB_cons] at h
    by_cases hy : x = y
    · subst hy
      rw [if_pos rfl] at h
      cases h
      exact ⟨b, c, cur, hx, h1, h2, h3, h4, h5, h6⟩
    · rw [if_neg hy] at h; exact i.box y bc h
  · intro y y' bx bx' b1 c1 c2 e1 e2 g1 g2
    obtain ⟨_, e1⟩ := live _ _ e1
    obtain ⟨_, e2⟩ := live _ _ e2
    exact i.inj y y' _ _ b1 c1 c2 e1 e2 g1 g2
  · intro y bx b1 c1 e1 g1
    obtain ⟨_, e1⟩ := live _ _ e1
    exact i.apart y _ b1 c1 e1 g1
  · intro y bx b1 c1 e1 g1
    obtain ⟨_, e1⟩ := live _ _ e1
    exact i.low y _ b1 c1 e1 g1

abbrev wayO (W : List Int) : Nat → Nat → DV := revF W.reverse (W.length / 2)
abbrev clO2 (g : Grid) (m : Int) (p : List Int) (i : Nat) : St := ⟨[(3, .s (.ptr 3 0)), (10, .s (.ptr 10 0)), (6, .s (.ptr 6 0)), (12, .s (.ptr 12 0)), (42, vInts g.levels), (43, vI g.levels.length), (44, vI i)],
  [(3, some (gridB g)), (10, some (.cells [.d (dI m)])), (6, some (.cells [.d (dI 0), nilS, nilS])), (12, some (.cells [.d (dI m), .own 201, .mo (barL g m i).isEmpty 202])), (201, some (.row 3 p.length 1 (wayO p))), (202, some (.mrow 3 (barL g m i).length 1 (intEl (barL g m i))))]⟩
abbrev clO3 (g : Grid) (m : Int) (p : List Int) : St := ⟨[(6, .s (.ptr 6 0)), (12, .s (.ptr 12 0))],
  [(6, some (.cells [.d (dI 0), nilS, nilS])), (12, some (.cells [.d (dI m), .own 201, .own 202])), (201, some (.row 3 p.length 1 (wayO p))), (202, some (.row 3 (barL g m g.levels.length).length 1 (intEl (barL g m g.levels.length))))]⟩
abbrev bxR (g : Grid) (m : Int) (p : List Int) : BoxL := [(201, .row 3 p.length 1 (wayO p)), (202, .row 3 (barL g m g.levels.length).length 1 (intEl (barL g m g.levels.length)))]
theorem clearO (g : Grid) (fr to : List Int) (hg : g.ok) (hf : fr.length ≤ 1000) (ht : to.length ≤ 1000) (m : Int) (he : endsG g fr to = 0) (hl : clearL g fr to (levelsL g.levels) = (m, wayM g m fr to, barL g m g.levels.length, 0)) (hbar : (barL g m g.levels.length).isEmpty = false) :
    CallR Try.prog 62 [grid g, vInts fr, vInts to] [] (.t [.g [.d (dI m), .own 201, .own 202], .s (.d (dI 0))]) (bxR g m (wayM g m fr to)) := by
  refine callO_of_ex (rc := [115]) (N := 67) Try.func62 rfl rfl Try.call62 tab_ok mix rfl rfl rfl rfl (fun cx href => ?_)
  refine callN (ends g fr to hg hf ht) ?_
  rw [he]
  refine And.intro (fun h => by cases h) (fun _ => ?_)
  have hv : GVal g := GVal.of (endsG_zero he).1
  have hn := hv.n
  refine callN (levels g hn) ?_
  have hll := levelsL_len (lv := g.levels)
  generalize levelsL g.levels = ls at hll hl ⊢
  refine AW.loopI (clS g fr to ls) (fun i => i ≤ ls.length ∧ clearL g fr to (ls.drop i) = (m, wayM g m fr to, barL g m g.levels.length, 0)) (fun i => ls.length - i) 0 ⟨Nat.zero_le _, hl⟩ ?_ ?_
  · exact SubI.of0 href [] rfl ⟨⟨rfl, LeBx.rfl⟩, ⟨rfl, LeBx.rfl⟩, trivial⟩ ⟨⟨rfl, LeQ.rfl⟩, ⟨rfl, LeQ.rfl⟩, ⟨rfl, LeQ.rfl⟩, ⟨rfl, LeQ.rfl⟩, ⟨rfl, LeQ.rfl⟩, ⟨rfl, LeQ.rfl⟩, ⟨rfl, LeQ.rfl⟩, trivial⟩
  · rintro i ⟨hi, hj⟩
    refine AW.seq (ex.sound (rc := [115]) tab_ok mix href _ ?_)
    refine AW.seq (AW.cond ?_)
    refine And.intro (fun h1 => ?_) (fun h1 => ?_)
    · have h1 : (i : Int) < ls.length := decT h1
      have hi' : i < ls.length := by omega
      rw [List.drop_eq_getElem_cons hi', clearL] at hj
      have hx : ls[i] = ls.getD i 0 := by simp [hi']
      rw [hx] at hj
      refine AW.skip ?_
      refine AW.seq (AW.block ?_)
      refine AW.seq (ex.sound (rc := []) tab_ok mix href _ ?_)
      refine oi ⟨by omega, by omega⟩ ?_
      by_cases hw : wayM g (ls.getD i 0) fr to = []
      · rw [hw] at hj
        have hj : clearL g fr to (ls.drop (i + 1)) = (m, wayM g m fr to, barL g m g.levels.length, 0) := hj
        refine ex.sound (rc := [115]) tab_ok mix href _ ?_
        refine ⟨[(1001, 3), (1002, 10)], _, _, _, _, wayClear g (ls.getD i 0) fr to hv hf ht, rfl, ⟨rfl, rfl, trivial⟩, rfl, ?_⟩
        rw [show wayL g.levels.length (okMost g (ls.getD i 0)) (nearL g) fr to = [] from hw]
        refine And.intro (fun _ => ?_) (fun h => by cases h)
        refine ex.sound (rc := []) tab_ok mix href _ ?_
        refine ⟨i + 1, ⟨by omega, hj⟩, by omega, ?_⟩
        exact SubI.of0 href [] rfl ⟨⟨rfl, LeBx.rfl⟩, ⟨rfl, LeBx.rfl⟩, trivial⟩ ⟨⟨rfl, LeQ.rfl⟩, ⟨rfl, LeQ.rfl⟩, ⟨rfl, LeQ.rfl⟩, ⟨rfl, LeQ.rfl⟩, ⟨rfl, LeQ.rfl⟩, ⟨rfl, LeQ.rfl⟩, ⟨rfl, LeQ.int (w64_of (by omega) (by omega))⟩, trivial⟩
      · have hwe : (wayM g (ls.getD i 0) fr to).isEmpty = false := by
          cases h : wayM g (ls.getD i 0) fr to with
          | nil => exact absurd h hw
          | cons _ _ => rfl
        rw [hwe, cond_false] at hj
        have hm : ls.getD i 0 = m := congrArg (·.1) hj
        subst hm
        refine AW.seq (ex.sound (rc := [115]) tab_ok mix href _ ?_)
        refine ⟨[(1001, 3), (1002, 10), (200, 201)], _, _, _, _, wayClearO g (ls.getD i 0) fr to hv hf ht hw, rfl, ⟨rfl, rfl, trivial⟩, rfl, ?_⟩
        refine AW.seq (ex.sound (rc := []) tab_ok mix href _ ?_)
        refine And.intro (fun h => ?_) (fun _ => ?_)
        · exfalso
          have h : (((wayM g (ls.getD i 0) fr to).length : Int) == 0) = true := h
          rw [len0, hwe] at h
          cases h
        refine AW.seq (ex.sound (rc := []) tab_ok mix href _ ?_)
        generalize ls.getD i 0 = m at *
        refine AW.cut (σ' := clO3 g m (wayM g m fr to)) (ex.sound (rc := []) tab_ok mix href _ ?_) ?_
        · refine AW.loopI (clO2 g m (wayM g m fr to)) (fun k => k ≤ g.levels.length) (fun k => g.levels.length - k) 0 (Nat.zero_le _) ?_ ?_
          · exact SubI.of0 href [(202, 1000)] rfl ⟨⟨rfl, LeBx.rfl⟩, ⟨rfl, LeBx.rfl⟩, ⟨rfl, LeBx.rfl⟩, ⟨rfl, LeBx.cells ⟨LeQ.rfl, LeQ.rfl, LeQ.nil rfl, trivial⟩⟩, ⟨rfl, LeBx.rfl⟩, ⟨rfl, rfl⟩, trivial⟩ ⟨⟨rfl, LeQ.rfl⟩, ⟨rfl, LeQ.rfl⟩, ⟨rfl, LeQ.rfl⟩, ⟨rfl, LeQ.rfl⟩, ⟨rfl, LeQ.rfl⟩, ⟨rfl, LeQ.rfl⟩, ⟨rfl, LeQ.rfl⟩, trivial⟩
          · intro k hk
            have hbl := barL_len g m k
            have hbs := barL_succ g m k
            refine ex.sound (rc := []) tab_ok mix href _ ?_
            refine And.intro (fun h3 => ?_) (fun h3 => ?_)
            · have h3 : (k : Int) < g.levels.length := decT h3
              refine oi ⟨by omega, by omega⟩ ?_
              refine callN (bknown g k (by omega) (by omega)) ?_
              repeat first | refine sk ?_ | refine st ?_ | refine sg ?_ | refine sh ?_ | refine su ?_ | refine sn1 ?_ | refine sn0 ?_
              refine And.intro (fun h4 => ?_) (fun h4 => ?_)
              · have h4 : barC g m k = true := h4
                rw [h4, cond_true] at hbs
                refine ob (by decide) ?_
                refine ob (by rw [bif_len]; show _ * 8 ≤ _; omega) ?_
                refine ob (fit1 (lt1 rfl)) ?_
                refine ⟨k + 1, by omega, by omega, ?_⟩
                show SubI cx _ _ (clO2 g m (wayM g m fr to) (k + 1))
                unfold clO2
                rw [hbs]
                exact SubI.of0 href [(202, 61)] rfl ⟨⟨rfl, LeBx.rfl⟩, ⟨rfl, LeBx.rfl⟩, ⟨rfl, LeBx.rfl⟩, ⟨rfl, LeBx.cells ⟨LeQ.rfl, LeQ.rfl, LeQ.mo (isEmpty_snoc _ _), trivial⟩⟩, ⟨rfl, LeBx.rfl⟩, ⟨rfl, nearRow intRow rfl⟩, trivial⟩ ⟨⟨rfl, LeQ.rfl⟩, ⟨rfl, LeQ.rfl⟩, ⟨rfl, LeQ.rfl⟩, ⟨rfl, LeQ.rfl⟩, ⟨rfl, LeQ.rfl⟩, ⟨rfl, LeQ.rfl⟩, ⟨rfl, LeQ.int (w64_of (by omega) (by omega))⟩, trivial⟩
              · have h4 : barC g m k = false := h4
                rw [h4, cond_false, List.append_nil] at hbs
                refine ⟨k + 1, by omega, by omega, ?_⟩
                show SubI cx _ _ (clO2 g m (wayM g m fr to) (k + 1))
                unfold clO2
                rw [hbs]
                exact SubI.of0 href [] rfl ⟨⟨rfl, LeBx.rfl⟩, ⟨rfl, LeBx.rfl⟩, ⟨rfl, LeBx.rfl⟩, ⟨rfl, LeBx.rfl⟩, ⟨rfl, LeBx.rfl⟩, ⟨rfl, LeBx.rfl⟩, trivial⟩ ⟨⟨rfl, LeQ.rfl⟩, ⟨rfl, LeQ.rfl⟩, ⟨rfl, LeQ.rfl⟩, ⟨rfl, LeQ.rfl⟩, ⟨rfl, LeQ.rfl⟩, ⟨rfl, LeQ.rfl⟩, ⟨rfl, LeQ.int (w64_of (by omega) (by omega))⟩, trivial⟩
            · have h3 : ¬ (k : Int) < g.levels.length := decF h3
              obtain rfl : k = g.levels.length := by omega
              refine ⟨rfl, ?_⟩
              refine SubI.trans (SubI.rowC (e := 3) (n := (barL g m g.levels.length).length) (s := 1) (f := intEl (barL g m g.levels.length)) 12 202 2 rfl (congrArg (fun z => some (SV.mo z 202)) hbar) rfl) ?_
              exact SubI.of0 href [] rfl ⟨⟨rfl, LeBx.rfl⟩, ⟨rfl, LeBx.cells ⟨LeQ.rfl, LeQ.rfl, LeQ.unmo' hbar, trivial⟩⟩, ⟨rfl, LeBx.rfl⟩, ⟨rfl, LeBx.rfl⟩, trivial⟩ ⟨⟨rfl, LeQ.rfl⟩, ⟨rfl, LeQ.rfl⟩, trivial⟩
        · refine ex.sound (rc := []) tab_ok mix href _ ?_
          exact ⟨LeQ.rfl, rfl, rfl, trivial⟩
    · have h1 : ¬ (i : Int) < ls.length := decF h1
      obtain rfl : i = ls.length := by omega
      rw [List.drop_length] at hj
      have : (11 : Int) = 0 := congrArg (·.2.2.2) hj
      cases this
theorem clearE (g : Grid) (fr to : List Int) (hg : g.ok) (hf : fr.length ≤ 1000) (ht : to.length ≤ 1000) (he : endsG g fr to ≠ 0) : CallP Try.prog 62 [grid g, vInts fr, vInts to] (.t [.g [.d (dI 0), nilS, nilS], .s (.d (dI (endsG g fr to)))]) := by
  refine callP_of_ex (rc := []) (N := 67) Try.func62 rfl rfl Try.call62 tab_ok mix rfl rfl (fun cx href => ?_)
  refine callN (ends g fr to hg hf ht) ?_
  refine And.intro (fun h => SubR.refl _) (fun h => ?_)
  have h : (endsG g fr to != 0) = false := h
  simp [he] at h
theorem clearF (g : Grid) (fr to : List Int) (hg : g.ok) (hf : fr.length ≤ 1000) (ht : to.length ≤ 1000) (he : endsG g fr to = 0) (hl : (clearL g fr to (levelsL g.levels)).2.2.2 ≠ 0) :
    CallP Try.prog 62 [grid g, vInts fr, vInts to] (.t [.g [.d (dI 0), nilS, nilS], .s (.d (dI 11))]) := by
  refine callP_of_ex (rc := [115]) (N := 67) Try.func62 rfl rfl Try.call62 tab_ok mix rfl rfl (fun cx href => ?_)
  refine callN (ends g fr to hg hf ht) ?_
  rw [he]
  refine And.intro (fun h => by cases h) (fun _ => ?_)
  have hv : GVal g := GVal.of (endsG_zero he).1
  have hn := hv.n
  refine callN (levels g hn) ?_
  have hll := levelsL_len (lv := g.levels)
  generalize levelsL g.levels = ls at hll hl ⊢
  refine AW.loopI (clS g fr to ls) (fun i => i ≤ ls.length ∧ (clearL g fr to (ls.drop i)).2.2.2 ≠ 0) (fun i => ls.length - i) 0 ⟨Nat.zero_le _, hl⟩ ?_ ?_
  · exact SubI.of0 href [] rfl ⟨⟨rfl, LeBx.rfl⟩, ⟨rfl, LeBx.rfl⟩, trivial⟩ ⟨⟨rfl, LeQ.rfl⟩, ⟨rfl, LeQ.rfl⟩, ⟨rfl, LeQ.rfl⟩, ⟨rfl, LeQ.rfl⟩, ⟨rfl, LeQ.rfl⟩, ⟨rfl, LeQ.rfl⟩, ⟨rfl, LeQ.rfl⟩, trivial⟩
  · rintro i ⟨hi, hj⟩
    refine ex.sound (rc := [115]) tab_ok mix href _ ?_
    refine And.intro (fun h1 => ?_) (fun h1 => ?_)
    · have h1 : (i : Int) < ls.length := decT h1
      have hi' : i < ls.length := by omega
      rw [List.drop_eq_getElem_cons hi', clearL] at hj
      have hx : ls[i] = ls.getD i 0 := by simp [hi']
      rw [hx] at hj
      refine oi ⟨by omega, by omega⟩ ?_
      refine ⟨[(1001, 3), (1002, 10)], _, _, _, _, wayClear g (ls.getD i 0) fr to hv hf ht, rfl, ⟨rfl, rfl, trivial⟩, rfl, ?_⟩
      cases hw : wayM g (ls.getD i 0) fr to with
      | nil =>
        rw [hw] at hj
        have hj : (clearL g fr to (ls.drop (i + 1))).2.2.2 ≠ 0 := hj
        rw [show wayL g.levels.length (okMost g (ls.getD i 0)) (nearL g) fr to = [] from hw]
        refine And.intro (fun _ => ?_) (fun h => by cases h)
        refine ⟨i + 1, ⟨by omega, hj⟩, by omega, ?_⟩
        exact SubI.of0 href [] rfl ⟨⟨rfl, LeBx.rfl⟩, ⟨rfl, LeBx.rfl⟩, trivial⟩ ⟨⟨rfl, LeQ.rfl⟩, ⟨rfl, LeQ.rfl⟩, ⟨rfl, LeQ.rfl⟩, ⟨rfl, LeQ.rfl⟩, ⟨rfl, LeQ.rfl⟩, ⟨rfl, LeQ.rfl⟩, ⟨rfl, LeQ.int (w64_of (by omega) (by omega))⟩, trivial⟩
      | cons x r =>
        rw [hw] at hj
        exact absurd rfl hj
    · exact SubR.refl _
end Go.Ch

/- BedMemory: what the results are overwritten with does not reach the arguments. -/
namespace Go.Ch
open Go Go.Ax Go.Proofs Go.Proofs.Try
set_option maxRecDepth 100000
set_option pp.maxSteps 400
set_option maxHeartbeats 2000000

def junkF : Nat → Nat → DV := fun _ _ => .junk
theorem LeBx.junk {e n s : Nat} {f : Nat → Nat → DV} : LeBx (.mrow e n s f) (.mrow e n s junkF) := LeBx.mrow' rfl fun _ _ _ _ _ _ _ => trivial
theorem LeBx.rjunk {e n s : Nat} {f : Nat → Nat → DV} : LeBx (.row e n s f) (.mrow e n s junkF) := LeBx.mrow rfl fun _ _ _ _ _ _ _ => trivial
abbrev endsB : Box := .row 3 2 1 (rowF 1 [.d (dI 0), .d (dI 1)])
theorem ends_le : LeD (.slc 2 1 (rowF 1 [.d (dI 0), .d (dI 1)])) (dInts [0, 1]) := by
  refine LeD.slc fun i j hi hj => ?_
  obtain rfl : j = 0 := by omega
  match i, hi with
  | 0, _ => exact LeD.refl _
  | 1, _ => exact LeD.refl _
attribute [local irreducible] errG few
abbrev meS0 (a b : Grid) : St := ⟨[(2, .s (.ptr 2 0)), (3, .s (.ptr 3 0)), (5, .s (.ptr 5 0)), (6, .s (.ptr 6 0))], [(2, some (gridB a)), (3, some (gridB b)), (5, some (gridB a)), (6, some (gridB b))]⟩
abbrev meS1 (a b G1 : Grid) (z1 : Bool) (n1 : Nat) : St := ⟨[(2, .s (.ptr 2 0)), (3, .s (.ptr 3 0)), (5, .s (.ptr 5 0)), (6, .s (.ptr 6 0)), (7, .s (.ptr 7 0))], [(2, some (gridB a)), (3, some (gridB b)), (5, some (gridB a)), (6, some (gridB b)), (7, some (.cells [.d (dI G1.x), .d (dI G1.y), .d (dI G1.side), .d (dI G1.cols), .d (dI G1.rows), .mo z1 101])), (101, some (.mrow 3 n1 1 junkF))]⟩
abbrev meS2 (a b G1 G2 : Grid) (z1 z2 : Bool) (n1 n2 : Nat) : St := ⟨[(2, .s (.ptr 2 0)), (3, .s (.ptr 3 0)), (5, .s (.ptr 5 0)), (6, .s (.ptr 6 0)), (7, .s (.ptr 7 0)), (9, .s (.ptr 9 0))], [(2, some (gridB a)), (3, some (gridB b)), (5, some (gridB a)), (6, some (gridB b)), (7, some (.cells [.d (dI G1.x), .d (dI G1.y), .d (dI G1.side), .d (dI G1.cols), .d (dI G1.rows), .mo z1 101])), (101, some (.mrow 3 n1 1 junkF)), (9, some (.cells [.d (dI G2.x), .d (dI G2.y), .d (dI G2.side), .d (dI G2.cols), .d (dI G2.rows), .mo z2 102])), (102, some (.mrow 3 n2 1 junkF))]⟩
abbrev meS3 (a b G1 G2 G3 : Grid) (z1 z2 z3 : Bool) (n1 n2 n3 : Nat) : St := ⟨[(2, .s (.ptr 2 0)), (3, .s (.ptr 3 0)), (5, .s (.ptr 5 0)), (6, .s (.ptr 6 0)), (7, .s (.ptr 7 0)), (9, .s (.ptr 9 0)), (11, .s (.ptr 11 0))], [(2, some (gridB a)), (3, some (gridB b)), (5, some (gridB a)), (6, some (gridB b)), (7, some (.cells [.d (dI G1.x), .d (dI G1.y), .d (dI G1.side), .d (dI G1.cols), .d (dI G1.rows), .mo z1 101])), (101, some (.mrow 3 n1 1 junkF)), (9, some (.cells [.d (dI G2.x), .d (dI G2.y), .d (dI G2.side), .d (dI G2.cols), .d (dI G2.rows), .mo z2 102])), (102, some (.mrow 3 n2 1 junkF)), (11, some (.cells [.d (dI G3.x), .d (dI G3.y), .d (dI G3.side), .d (dI G3.cols), .d (dI G3.rows), .mo z3 103])), (103, some (.mrow 3 n3 1 junkF))]⟩
abbrev meS4 (a b G1 G2 G3 : Grid) (z1 z2 z3 : Bool) (n1 n2 n3 : Nat) : St := ⟨[(2, .s (.ptr 2 0)), (3, .s (.ptr 3 0)), (5, .s (.ptr 5 0)), (6, .s (.ptr 6 0)), (7, .s (.ptr 7 0)), (9, .s (.ptr 9 0)), (11, .s (.ptr 11 0)), (13, vInts [0, 1])], [(2, some (gridB a)), (3, some (gridB b)), (5, some (gridB a)), (6, some (gridB b)), (7, some (.cells [.d (dI G1.x), .d (dI G1.y), .d (dI G1.side), .d (dI G1.cols), .d (dI G1.rows), .mo z1 101])), (101, some (.mrow 3 n1 1 junkF)), (9, some (.cells [.d (dI G2.x), .d (dI G2.y), .d (dI G2.side), .d (dI G2.cols), .d (dI G2.rows), .mo z2 102])), (102, some (.mrow 3 n2 1 junkF)), (11, some (.cells [.d (dI G3.x), .d (dI G3.y), .d (dI G3.side), .d (dI G3.cols), .d (dI G3.rows), .mo z3 103])), (103, some (.mrow 3 n3 1 junkF))]⟩
abbrev meS5 (a b G1 G2 G3 : Grid) (z1 z2 z3 : Bool) (n1 n2 n3 : Nat) (m : Int) (zp zb : Bool) (np nb : Nat) : St := ⟨[(2, .s (.ptr 2 0)), (3, .s (.ptr 3 0)), (5, .s (.ptr 5 0)), (6, .s (.ptr 6 0)), (7, .s (.ptr 7 0)), (9, .s (.ptr 9 0)), (11, .s (.ptr 11 0)), (13, vInts [0, 1]), (14, .s (.ptr 14 0))], [(2, some (gridB a)), (3, some (gridB b)), (5, some (gridB a)), (6, some (gridB b)), (7, some (.cells [.d (dI G1.x), .d (dI G1.y), .d (dI G1.side), .d (dI G1.cols), .d (dI G1.rows), .mo z1 101])), (101, some (.mrow 3 n1 1 junkF)), (9, some (.cells [.d (dI G2.x), .d (dI G2.y), .d (dI G2.side), .d (dI G2.cols), .d (dI G2.rows), .mo z2 102])), (102, some (.mrow 3 n2 1 junkF)), (11, some (.cells [.d (dI G3.x), .d (dI G3.y), .d (dI G3.side), .d (dI G3.cols), .d (dI G3.rows), .mo z3 103])), (103, some (.mrow 3 n3 1 junkF)), (14, some (.cells [.d (dI m), .mo zp 104, .mo zb 105])), (104, some (.mrow 3 np 1 junkF)), (105, some (.mrow 3 nb 1 junkF))]⟩
abbrev meS6 (a b G1 G2 G3 : Grid) (z1 z2 z3 : Bool) (n1 n2 n3 : Nat) (m : Int) (zp zb : Bool) (np nb : Nat) (k : Nat) : St := ⟨[(2, .s (.ptr 2 0)), (3, .s (.ptr 3 0)), (5, .s (.ptr 5 0)), (6, .s (.ptr 6 0)), (7, .s (.ptr 7 0)), (9, .s (.ptr 9 0)), (11, .s (.ptr 11 0)), (13, vInts [0, 1]), (14, .s (.ptr 14 0)), (63, .g [.d (dI G1.x), .d (dI G1.y), .d (dI G1.side), .d (dI G1.cols), .d (dI G1.rows), .mo z1 101, .d (dI G2.x), .d (dI G2.y), .d (dI G2.side), .d (dI G2.cols), .d (dI G2.rows), .mo z2 102, .d (dI G3.x), .d (dI G3.y), .d (dI G3.side), .d (dI G3.cols), .d (dI G3.rows), .mo z3 103]), (64, vI k)], [(2, some (gridB a)), (3, some (gridB b)), (5, some (gridB a)), (6, some (gridB b)), (7, some (.cells [.d (dI G1.x), .d (dI G1.y), .d (dI G1.side), .d (dI G1.cols), .d (dI G1.rows), .mo z1 101])), (101, some (.mrow 3 n1 1 junkF)), (9, some (.cells [.d (dI G2.x), .d (dI G2.y), .d (dI G2.side), .d (dI G2.cols), .d (dI G2.rows), .mo z2 102])), (102, some (.mrow 3 n2 1 junkF)), (11, some (.cells [.d (dI G3.x), .d (dI G3.y), .d (dI G3.side), .d (dI G3.cols), .d (dI G3.rows), .mo z3 103])), (103, some (.mrow 3 n3 1 junkF)), (14, some (.cells [.d (dI m), .mo zp 104, .mo zb 105])), (104, some (.mrow 3 np 1 junkF)), (105, some (.mrow 3 nb 1 junkF))]⟩
abbrev meS7_0 (a b G1 G2 G3 : Grid) (z1 z2 z3 : Bool) (n1 n2 n3 : Nat) (m : Int) (zp zb : Bool) (np nb : Nat) (i : Nat) : St := ⟨[(2, .s (.ptr 2 0)), (3, .s (.ptr 3 0)), (5, .s (.ptr 5 0)), (6, .s (.ptr 6 0)), (7, .s (.ptr 7 0)), (9, .s (.ptr 9 0)), (11, .s (.ptr 11 0)), (13, vInts [0, 1]), (14, .s (.ptr 14 0)), (63, .g [.d (dI G1.x), .d (dI G1.y), .d (dI G1.side), .d (dI G1.cols), .d (dI G1.rows), .mo z1 101, .d (dI G2.x), .d (dI G2.y), .d (dI G2.side), .d (dI G2.cols), .d (dI G2.rows), .mo z2 102, .d (dI G3.x), .d (dI G3.y), .d (dI G3.side), .d (dI G3.cols), .d (dI G3.rows), .mo z3 103]), (64, vI 0), (17, .s (.ptr 17 0)), (18, vI i)], [(2, some (gridB a)), (3, some (gridB b)), (5, some (gridB a)), (6, some (gridB b)), (7, some (.cells [.d (dI G1.x), .d (dI G1.y), .d (dI G1.side), .d (dI G1.cols), .d (dI G1.rows), .mo z1 101])), (101, some (.mrow 3 n1 1 junkF)), (9, some (.cells [.d (dI G2.x), .d (dI G2.y), .d (dI G2.side), .d (dI G2.cols), .d (dI G2.rows), .mo z2 102])), (102, some (.mrow 3 n2 1 junkF)), (11, some (.cells [.d (dI G3.x), .d (dI G3.y), .d (dI G3.side), .d (dI G3.cols), .d (dI G3.rows), .mo z3 103])), (103, some (.mrow 3 n3 1 junkF)), (14, some (.cells [.d (dI m), .mo zp 104, .mo zb 105])), (104, some (.mrow 3 np 1 junkF)), (105, some (.mrow 3 nb 1 junkF)), (17, some (.cells [.d (dI G1.x), .d (dI G1.y), .d (dI G1.side), .d (dI G1.cols), .d (dI G1.rows), .mo z1 101]))]⟩
abbrev meS7_1 (a b G1 G2 G3 : Grid) (z1 z2 z3 : Bool) (n1 n2 n3 : Nat) (m : Int) (zp zb : Bool) (np nb : Nat) (i : Nat) : St := ⟨[(2, .s (.ptr 2 0)), (3, .s (.ptr 3 0)), (5, .s (.ptr 5 0)), (6, .s (.ptr 6 0)), (7, .s (.ptr 7 0)), (9, .s (.ptr 9 0)), (11, .s (.ptr 11 0)), (13, vInts [0, 1]), (14, .s (.ptr 14 0)), (63, .g [.d (dI G1.x), .d (dI G1.y), .d (dI G1.side), .d (dI G1.cols), .d (dI G1.rows), .mo z1 101, .d (dI G2.x), .d (dI G2.y), .d (dI G2.side), .d (dI G2.cols), .d (dI G2.rows), .mo z2 102, .d (dI G3.x), .d (dI G3.y), .d (dI G3.side), .d (dI G3.cols), .d (dI G3.rows), .mo z3 103]), (64, vI 1), (17, .s (.ptr 17 0)), (18, vI i)], [(2, some (gridB a)), (3, some (gridB b)), (5, some (gridB a)), (6, some (gridB b)), (7, some (.cells [.d (dI G1.x), .d (dI G1.y), .d (dI G1.side), .d (dI G1.cols), .d (dI G1.rows), .mo z1 101])), (101, some (.mrow 3 n1 1 junkF)), (9, some (.cells [.d (dI G2.x), .d (dI G2.y), .d (dI G2.side), .d (dI G2.cols), .d (dI G2.rows), .mo z2 102])), (102, some (.mrow 3 n2 1 junkF)), (11, some (.cells [.d (dI G3.x), .d (dI G3.y), .d (dI G3.side), .d (dI G3.cols), .d (dI G3.rows), .mo z3 103])), (103, some (.mrow 3 n3 1 junkF)), (14, some (.cells [.d (dI m), .mo zp 104, .mo zb 105])), (104, some (.mrow 3 np 1 junkF)), (105, some (.mrow 3 nb 1 junkF)), (17, some (.cells [.d (dI G2.x), .d (dI G2.y), .d (dI G2.side), .d (dI G2.cols), .d (dI G2.rows), .mo z2 102]))]⟩
abbrev meS7_2 (a b G1 G2 G3 : Grid) (z1 z2 z3 : Bool) (n1 n2 n3 : Nat) (m : Int) (zp zb : Bool) (np nb : Nat) (i : Nat) : St := ⟨[(2, .s (.ptr 2 0)), (3, .s (.ptr 3 0)), (5, .s (.ptr 5 0)), (6, .s (.ptr 6 0)), (7, .s (.ptr 7 0)), (9, .s (.ptr 9 0)), (11, .s (.ptr 11 0)), (13, vInts [0, 1]), (14, .s (.ptr 14 0)), (63, .g [.d (dI G1.x), .d (dI G1.y), .d (dI G1.side), .d (dI G1.cols), .d (dI G1.rows), .mo z1 101, .d (dI G2.x), .d (dI G2.y), .d (dI G2.side), .d (dI G2.cols), .d (dI G2.rows), .mo z2 102, .d (dI G3.x), .d (dI G3.y), .d (dI G3.side), .d (dI G3.cols), .d (dI G3.rows), .mo z3 103]), (64, vI 2), (17, .s (.ptr 17 0)), (18, vI i)], [(2, some (gridB a)), (3, some (gridB b)), (5, some (gridB a)), (6, some (gridB b)), (7, some (.cells [.d (dI G1.x), .d (dI G1.y), .d (dI G1.side), .d (dI G1.cols), .d (dI G1.rows), .mo z1 101])), (101, some (.mrow 3 n1 1 junkF)), (9, some (.cells [.d (dI G2.x), .d (dI G2.y), .d (dI G2.side), .d (dI G2.cols), .d (dI G2.rows), .mo z2 102])), (102, some (.mrow 3 n2 1 junkF)), (11, some (.cells [.d (dI G3.x), .d (dI G3.y), .d (dI G3.side), .d (dI G3.cols), .d (dI G3.rows), .mo z3 103])), (103, some (.mrow 3 n3 1 junkF)), (14, some (.cells [.d (dI m), .mo zp 104, .mo zb 105])), (104, some (.mrow 3 np 1 junkF)), (105, some (.mrow 3 nb 1 junkF)), (17, some (.cells [.d (dI G3.x), .d (dI G3.y), .d (dI G3.side), .d (dI G3.cols), .d (dI G3.rows), .mo z3 103]))]⟩
abbrev meS8 (a b G1 G2 G3 : Grid) (z1 z2 z3 : Bool) (n1 n2 n3 : Nat) (m : Int) (zp zb : Bool) (np nb : Nat) (i : Nat) : St := ⟨[(2, .s (.ptr 2 0)), (3, .s (.ptr 3 0)), (5, .s (.ptr 5 0)), (6, .s (.ptr 6 0)), (7, .s (.ptr 7 0)), (9, .s (.ptr 9 0)), (11, .s (.ptr 11 0)), (13, vInts [0, 1]), (14, .s (.ptr 14 0)), (19, vI i)], [(2, some (gridB a)), (3, some (gridB b)), (5, some (gridB a)), (6, some (gridB b)), (7, some (.cells [.d (dI G1.x), .d (dI G1.y), .d (dI G1.side), .d (dI G1.cols), .d (dI G1.rows), .mo z1 101])), (101, some (.mrow 3 n1 1 junkF)), (9, some (.cells [.d (dI G2.x), .d (dI G2.y), .d (dI G2.side), .d (dI G2.cols), .d (dI G2.rows), .mo z2 102])), (102, some (.mrow 3 n2 1 junkF)), (11, some (.cells [.d (dI G3.x), .d (dI G3.y), .d (dI G3.side), .d (dI G3.cols), .d (dI G3.rows), .mo z3 103])), (103, some (.mrow 3 n3 1 junkF)), (14, some (.cells [.d (dI m), .mo zp 104, .mo zb 105])), (104, some (.mrow 3 np 1 junkF)), (105, some (.mrow 3 nb 1 junkF))]⟩
abbrev meS9 (a b G1 G2 G3 : Grid) (z1 z2 z3 : Bool) (n1 n2 n3 : Nat) (m : Int) (zp zb : Bool) (np nb : Nat) (i : Nat) : St := ⟨[(2, .s (.ptr 2 0)), (3, .s (.ptr 3 0)), (5, .s (.ptr 5 0)), (6, .s (.ptr 6 0)), (7, .s (.ptr 7 0)), (9, .s (.ptr 9 0)), (11, .s (.ptr 11 0)), (13, vInts [0, 1]), (14, .s (.ptr 14 0)), (20, vI i)], [(2, some (gridB a)), (3, some (gridB b)), (5, some (gridB a)), (6, some (gridB b)), (7, some (.cells [.d (dI G1.x), .d (dI G1.y), .d (dI G1.side), .d (dI G1.cols), .d (dI G1.rows), .mo z1 101])), (101, some (.mrow 3 n1 1 junkF)), (9, some (.cells [.d (dI G2.x), .d (dI G2.y), .d (dI G2.side), .d (dI G2.cols), .d (dI G2.rows), .mo z2 102])), (102, some (.mrow 3 n2 1 junkF)), (11, some (.cells [.d (dI G3.x), .d (dI G3.y), .d (dI G3.side), .d (dI G3.cols), .d (dI G3.rows), .mo z3 103])), (103, some (.mrow 3 n3 1 junkF)), (14, some (.cells [.d (dI m), .mo zp 104, .mo zb 105])), (104, some (.mrow 3 np 1 junkF)), (105, some (.mrow 3 nb 1 junkF))]⟩

theorem barL_ne {g : Grid} {m : Int} (h : m ∈ levelsL g.levels) : (barL g m g.levels.length).isEmpty = false := by
  obtain ⟨j, hj, hk, he⟩ := level_cell h
  have hb : barC g m j = true := by
    unfold knownG at hk
    rw [Bool.and_eq_true] at hk
    unfold levelAt at hk he
    rw [natOf] at hk he
    unfold barC
    rw [hk.2, he]
    simp
  have hm : (j : Int) ∈ barL g m g.levels.length := by
    unfold barL
    rw [List.mem_filterMap]
    exact ⟨j, List.mem_range.2 hj, by rw [hb]; rfl⟩
  cases h : barL g m g.levels.length with
  | nil => rw [h] at hm; cases hm
  | cons _ _ => rfl
theorem bif_le {z : Bool} {n : Nat} : (bif z then 0 else n) ≤ n := by cases z <;> simp
theorem Memory (a b : Grid) (hga : a.ok) (hgb : b.ok) : CallP Try.prog 13 [grid a, grid b] (vB true) := by
  refine callP_of_aw Try.func13 rfl rfl Try.call13 tab_ok rfl rfl (fun cx href => ?_)
  refine AW.seq (ex.sound (rc := []) tab_ok mix href _ ?_)
  refine AW.seq (ex.sound (rc := []) tab_ok mix href _ ?_)
  refine callN bawake ?_
  refine And.intro (fun h => by cases h) (fun _ => ?_)
  refine AW.seq (ex.sound (rc := []) tab_ok mix href _ ?_)
  refine callN (Few a hga.levels) ?_
  repeat first | refine sk ?_ | refine st ?_ | refine sg ?_ | refine sh ?_ | refine su ?_ | refine sn1 ?_ | refine sn0 ?_
  refine callG (Few b hgb.levels) ?_
  repeat first | refine sk ?_ | refine st ?_ | refine sg ?_ | refine sh ?_ | refine su ?_ | refine sn1 ?_ | refine sn0 ?_
  refine And.intro (fun _ => SubR.lit rfl) (fun h1 => ?_)
  have h1 : (!few a || !few b) = false := h1
  rw [Bool.or_eq_false_iff] at h1
  have hla := few_len (g := a) (by simpa using h1.1)
  have hlb := few_len (g := b) (by simpa using h1.2)
  clear h1
  refine AW.cut (σ' := meS0 a b) (ex.sound (rc := []) tab_ok mix href _ ?_) ?_
  · refine callN (CopyGrid a (by omega)) ?_
    refine callN (CopyGrid b (by omega)) ?_
    refine And.intro (by kernel_rfl) ?_
    exact ⟨rfl, SubI.of0 href [] rfl ⟨⟨rfl, LeBx.rfl⟩, ⟨rfl, LeBx.rfl⟩, ⟨rfl, LeBx.rfl⟩, ⟨rfl, LeBx.rfl⟩, trivial⟩ ⟨⟨rfl, LeQ.rfl⟩, ⟨rfl, LeQ.rfl⟩, ⟨rfl, LeQ.rfl⟩, ⟨rfl, LeQ.rfl⟩, trivial⟩⟩
  refine AW.cutE (fun q : Grid × Bool × Nat => meS1 a b q.1 q.2.1 q.2.2) (fun q => q.2.2 ≤ 2000) ?_ ?_
  · by_cases he : err2 a b = 0
    · refine ex.sound (rc := [47]) tab_ok mix href _ ?_
      refine ⟨[(211, 101)], _, _, _, _, latestO a b hga hgb he, rfl, trivial, rfl, ?_⟩
      exact ⟨rfl, (a, false, a.levels.length), by simp only; omega, SubI.of0 href [] rfl ⟨⟨rfl, LeBx.rfl⟩, ⟨rfl, LeBx.rfl⟩, ⟨rfl, LeBx.rfl⟩, ⟨rfl, LeBx.rfl⟩, ⟨rfl, LeBx.cells ⟨LeQ.rfl, LeQ.rfl, LeQ.rfl, LeQ.rfl, LeQ.rfl, LeQ.mo rfl, trivial⟩⟩, ⟨rfl, LeBx.rjunk⟩, trivial⟩ ⟨⟨rfl, LeQ.rfl⟩, ⟨rfl, LeQ.rfl⟩, ⟨rfl, LeQ.rfl⟩, ⟨rfl, LeQ.rfl⟩, ⟨rfl, LeQ.rfl⟩, trivial⟩⟩
    · refine ex.sound (rc := []) tab_ok mix href _ ?_
      refine callN (latestE a b hga hgb he) ?_
      exact ⟨rfl, (zeroG, true, 0), by simp, SubI.of0 href [(101, 1000)] rfl ⟨⟨rfl, LeBx.rfl⟩, ⟨rfl, LeBx.rfl⟩, ⟨rfl, LeBx.rfl⟩, ⟨rfl, LeBx.rfl⟩, ⟨rfl, LeBx.cells ⟨LeQ.rfl, LeQ.rfl, LeQ.rfl, LeQ.rfl, LeQ.rfl, LeQ.nil rfl, trivial⟩⟩, ⟨rfl, rfl⟩, trivial⟩ ⟨⟨rfl, LeQ.rfl⟩, ⟨rfl, LeQ.rfl⟩, ⟨rfl, LeQ.rfl⟩, ⟨rfl, LeQ.rfl⟩, ⟨rfl, LeQ.rfl⟩, trivial⟩⟩
  rintro ⟨G1, z1, n1⟩ hbn1
  simp only at hbn1 ⊢
  refine AW.cutE (fun q : Grid × Bool × Nat => meS2 a b G1 q.1 z1 q.2.1 n1 q.2.2) (fun q => q.2.2 ≤ 2000) ?_ ?_
  · by_cases he : err2 a b = 0
    · refine ex.sound (rc := [48]) tab_ok mix href _ ?_
      refine ⟨[(211, 102)], _, _, _, _, shoalO a b hga hgb he, rfl, trivial, rfl, ?_⟩
      exact ⟨rfl, (a, false, a.levels.length), by simp only; omega, SubI.of0 href [] rfl ⟨⟨rfl, LeBx.rfl⟩, ⟨rfl, LeBx.rfl⟩, ⟨rfl, LeBx.rfl⟩, ⟨rfl, LeBx.rfl⟩, ⟨rfl, LeBx.rfl⟩, ⟨rfl, LeBx.rfl⟩, ⟨rfl, LeBx.cells ⟨LeQ.rfl, LeQ.rfl, LeQ.rfl, LeQ.rfl, LeQ.rfl, LeQ.mo rfl, trivial⟩⟩, ⟨rfl, LeBx.rjunk⟩, trivial⟩ ⟨⟨rfl, LeQ.rfl⟩, ⟨rfl, LeQ.rfl⟩, ⟨rfl, LeQ.rfl⟩, ⟨rfl, LeQ.rfl⟩, ⟨rfl, LeQ.rfl⟩, ⟨rfl, LeQ.rfl⟩, trivial⟩⟩
    · refine ex.sound (rc := []) tab_ok mix href _ ?_
      refine callN (shoalE a b hga hgb he) ?_
      exact ⟨rfl, (zeroG, true, 0), by simp, SubI.of0 href [(102, 1000)] rfl ⟨⟨rfl, LeBx.rfl⟩, ⟨rfl, LeBx.rfl⟩, ⟨rfl, LeBx.rfl⟩, ⟨rfl, LeBx.rfl⟩, ⟨rfl, LeBx.rfl⟩, ⟨rfl, LeBx.rfl⟩, ⟨rfl, LeBx.cells ⟨LeQ.rfl, LeQ.rfl, LeQ.rfl, LeQ.rfl, LeQ.rfl, LeQ.nil rfl, trivial⟩⟩, ⟨rfl, rfl⟩, trivial⟩ ⟨⟨rfl, LeQ.rfl⟩, ⟨rfl, LeQ.rfl⟩, ⟨rfl, LeQ.rfl⟩, ⟨rfl, LeQ.rfl⟩, ⟨rfl, LeQ.rfl⟩, ⟨rfl, LeQ.rfl⟩, trivial⟩⟩
  rintro ⟨G2, z2, n2⟩ hbn2
  simp only at hbn2 ⊢
  refine AW.cutE (fun q : Grid × Bool × Nat => meS3 a b G1 G2 q.1 z1 z2 q.2.1 n1 n2 q.2.2) (fun q => q.2.2 ≤ 2000) ?_ ?_
  · by_cases he : errG a = 0
    · refine ex.sound (rc := [29]) tab_ok mix href _ ?_
      refine ⟨[(211, 103)], _, _, _, _, blankO a he, rfl, trivial, rfl, ?_⟩
      exact ⟨rfl, (a, false, a.levels.length), by simp only; omega, SubI.of0 href [] rfl ⟨⟨rfl, LeBx.rfl⟩, ⟨rfl, LeBx.rfl⟩, ⟨rfl, LeBx.rfl⟩, ⟨rfl, LeBx.rfl⟩, ⟨rfl, LeBx.rfl⟩, ⟨rfl, LeBx.rfl⟩, ⟨rfl, LeBx.rfl⟩, ⟨rfl, LeBx.rfl⟩, ⟨rfl, LeBx.cells ⟨LeQ.rfl, LeQ.rfl, LeQ.rfl, LeQ.rfl, LeQ.rfl, LeQ.mo rfl, trivial⟩⟩, ⟨rfl, LeBx.rjunk⟩, trivial⟩ ⟨⟨rfl, LeQ.rfl⟩, ⟨rfl, LeQ.rfl⟩, ⟨rfl, LeQ.rfl⟩, ⟨rfl, LeQ.rfl⟩, ⟨rfl, LeQ.rfl⟩, ⟨rfl, LeQ.rfl⟩, ⟨rfl, LeQ.rfl⟩, trivial⟩⟩
    · refine ex.sound (rc := []) tab_ok mix href _ ?_
      refine callN (blankE a hga he) ?_
      exact ⟨rfl, (zeroG, true, 0), by simp, SubI.of0 href [(103, 1000)] rfl ⟨⟨rfl, LeBx.rfl⟩, ⟨rfl, LeBx.rfl⟩, ⟨rfl, LeBx.rfl⟩, ⟨rfl, LeBx.rfl⟩, ⟨rfl, LeBx.rfl⟩, ⟨rfl, LeBx.rfl⟩, ⟨rfl, LeBx.rfl⟩, ⟨rfl, LeBx.rfl⟩, ⟨rfl, LeBx.cells ⟨LeQ.rfl, LeQ.rfl, LeQ.rfl, LeQ.rfl, LeQ.rfl, LeQ.nil rfl, trivial⟩⟩, ⟨rfl, rfl⟩, trivial⟩ ⟨⟨rfl, LeQ.rfl⟩, ⟨rfl, LeQ.rfl⟩, ⟨rfl, LeQ.rfl⟩, ⟨rfl, LeQ.rfl⟩, ⟨rfl, LeQ.rfl⟩, ⟨rfl, LeQ.rfl⟩, ⟨rfl, LeQ.rfl⟩, trivial⟩⟩
  rintro ⟨G3, z3, n3⟩ hbn3
  simp only at hbn3 ⊢
  refine AW.seq (ex.sound (rc := []) tab_ok mix href _ ?_)
  refine AW.subM (σ' := meS4 a b G1 G2 G3 z1 z2 z3 n1 n2 n3) (SubM.of href [] [52] rfl rfl rfl ⟨⟨rfl, LeBxf.rfl⟩, ⟨rfl, LeBxf.rfl⟩, ⟨rfl, LeBxf.rfl⟩, ⟨rfl, LeBxf.rfl⟩, ⟨rfl, LeBxf.rfl⟩, ⟨rfl, LeBxf.rfl⟩, ⟨rfl, LeBxf.rfl⟩, ⟨rfl, LeBxf.rfl⟩, ⟨rfl, LeBxf.rfl⟩, ⟨rfl, LeBxf.rfl⟩, trivial⟩ ⟨⟨rfl, LeQf.rfl⟩, ⟨rfl, LeQf.rfl⟩, ⟨rfl, LeQf.rfl⟩, ⟨rfl, LeQf.rfl⟩, ⟨rfl, LeQf.rfl⟩, ⟨rfl, LeQf.rfl⟩, ⟨rfl, LeQf.rfl⟩, ⟨rfl, (LeQf.own (by simp) rfl).then (LeQ.d ends_le)⟩, trivial⟩) ?_
  refine AW.cutE (fun q : Int × Bool × Bool × Nat × Nat => meS5 a b G1 G2 G3 z1 z2 z3 n1 n2 n3 q.1 q.2.1 q.2.2.1 q.2.2.2.1 q.2.2.2.2) (fun q => q.2.2.2.1 ≤ 2000 ∧ q.2.2.2.2 ≤ 2000) ?_ ?_
  · have alt : (∃ e, CallP Try.prog 62 [grid a, vInts [0, 1], vInts [0, 1]] (.t [.g [.d (dI 0), nilS, nilS], .s (.d (dI e))])) ∨ (∃ m, m ∈ levelsL a.levels ∧ endsG a [0, 1] [0, 1] = 0 ∧ clearL a [0, 1] [0, 1] (levelsL a.levels) = (m, wayM a m [0, 1] [0, 1], barL a m a.levels.length, 0)) := by
      by_cases he : endsG a [0, 1] [0, 1] = 0
      · rcases clearL_spec a [0, 1] [0, 1] (levelsL a.levels) with ⟨pre, m, suf, e1, e2, e3, e4⟩ | ⟨e1, e2⟩
        · exact .inr ⟨m, by rw [e1]; simp, he, e4⟩
        · exact .inl ⟨11, clearF a [0, 1] [0, 1] hga (by decide) (by decide) he (by rw [e2]; decide)⟩
      · exact .inl ⟨_, clearE a [0, 1] [0, 1] hga (by decide) (by decide) he⟩
    rcases alt with ⟨e, hc⟩ | ⟨m, hm, he, e4⟩
    · refine ex.sound (rc := []) tab_ok mix href _ ?_
      refine callN hc ?_
      exact ⟨rfl, (0, true, true, 0, 0), ⟨by simp, by simp⟩, SubI.of0 href [(104, 1000), (105, 1001)] rfl ⟨⟨rfl, LeBx.rfl⟩, ⟨rfl, LeBx.rfl⟩, ⟨rfl, LeBx.rfl⟩, ⟨rfl, LeBx.rfl⟩, ⟨rfl, LeBx.rfl⟩, ⟨rfl, LeBx.rfl⟩, ⟨rfl, LeBx.rfl⟩, ⟨rfl, LeBx.rfl⟩, ⟨rfl, LeBx.rfl⟩, ⟨rfl, LeBx.rfl⟩, ⟨rfl, LeBx.cells ⟨LeQ.rfl, LeQ.nil rfl, LeQ.nil rfl, trivial⟩⟩, ⟨rfl, rfl⟩, ⟨rfl, rfl⟩, trivial⟩ ⟨⟨rfl, LeQ.rfl⟩, ⟨rfl, LeQ.rfl⟩, ⟨rfl, LeQ.rfl⟩, ⟨rfl, LeQ.rfl⟩, ⟨rfl, LeQ.rfl⟩, ⟨rfl, LeQ.rfl⟩, ⟨rfl, LeQ.rfl⟩, ⟨rfl, LeQ.rfl⟩, ⟨rfl, LeQ.rfl⟩, trivial⟩⟩
    · have hlw := wayM_len (g := a) m [0, 1] [0, 1]
      have hlb2 := barL_len a m a.levels.length
      refine ex.sound (rc := [62]) tab_ok mix href _ ?_
      refine ⟨[(201, 104), (202, 105)], _, _, _, _, clearO a [0, 1] [0, 1] hga (by decide) (by decide) m he e4 (barL_ne hm), rfl, trivial, rfl, ?_⟩
      exact ⟨rfl, (m, false, false, (wayM a m [0, 1] [0, 1]).length, (barL a m a.levels.length).length), ⟨by simp only; omega, by simp only; omega⟩, SubI.of0 href [] rfl ⟨⟨rfl, LeBx.rfl⟩, ⟨rfl, LeBx.rfl⟩, ⟨rfl, LeBx.rfl⟩, ⟨rfl, LeBx.rfl⟩, ⟨rfl, LeBx.rfl⟩, ⟨rfl, LeBx.rfl⟩, ⟨rfl, LeBx.rfl⟩, ⟨rfl, LeBx.rfl⟩, ⟨rfl, LeBx.rfl⟩, ⟨rfl, LeBx.rfl⟩, ⟨rfl, LeBx.cells ⟨LeQ.rfl, LeQ.mo rfl, LeQ.mo rfl, trivial⟩⟩, ⟨rfl, LeBx.rjunk⟩, ⟨rfl, LeBx.rjunk⟩, trivial⟩ ⟨⟨rfl, LeQ.rfl⟩, ⟨rfl, LeQ.rfl⟩, ⟨rfl, LeQ.rfl⟩, ⟨rfl, LeQ.rfl⟩, ⟨rfl, LeQ.rfl⟩, ⟨rfl, LeQ.rfl⟩, ⟨rfl, LeQ.rfl⟩, ⟨rfl, LeQ.rfl⟩, ⟨rfl, LeQ.rfl⟩, trivial⟩⟩
  rintro ⟨m, zp, zb, np, nb⟩ ⟨hbp, hbb⟩
  simp only at hbp hbb ⊢
  refine AW.cut (σ' := meS5 a b G1 G2 G3 z1 z2 z3 n1 n2 n3 m zp zb np nb) (ex.sound (rc := []) tab_ok mix href _ ?_) ?_
  · refine AW.loopI (meS6 a b G1 G2 G3 z1 z2 z3 n1 n2 n3 m zp zb np nb) (fun k => k ≤ 3) (fun k => 3 - k) 0 (Nat.zero_le _) ?_ ?_
    · exact SubI.of0 href [] rfl ⟨⟨rfl, LeBx.rfl⟩, ⟨rfl, LeBx.rfl⟩, ⟨rfl, LeBx.rfl⟩, ⟨rfl, LeBx.rfl⟩, ⟨rfl, LeBx.rfl⟩, ⟨rfl, LeBx.rfl⟩, ⟨rfl, LeBx.rfl⟩, ⟨rfl, LeBx.rfl⟩, ⟨rfl, LeBx.rfl⟩, ⟨rfl, LeBx.rfl⟩, ⟨rfl, LeBx.rfl⟩, ⟨rfl, LeBx.rfl⟩, ⟨rfl, LeBx.rfl⟩, trivial⟩ ⟨⟨rfl, LeQ.rfl⟩, ⟨rfl, LeQ.rfl⟩, ⟨rfl, LeQ.rfl⟩, ⟨rfl, LeQ.rfl⟩, ⟨rfl, LeQ.rfl⟩, ⟨rfl, LeQ.rfl⟩, ⟨rfl, LeQ.rfl⟩, ⟨rfl, LeQ.rfl⟩, ⟨rfl, LeQ.rfl⟩, ⟨rfl, LeQ.rfl⟩, ⟨rfl, LeQ.rfl⟩, trivial⟩
    · intro k hk
      refine ex.sound (rc := []) tab_ok mix href _ ?_
      refine And.intro (fun h => ?_) (fun h => ?_)
      · have h : (k : Int) < 3 := decT h
        have hk3 : k < 3 := by omega
        match k, hk3 with
        | 0, _ =>
          refine oi ⟨by decide, by decide⟩ ?_
          refine AW.loopI (meS7_0 a b G1 G2 G3 z1 z2 z3 n1 n2 n3 m zp zb np nb) (fun i => i ≤ (bif z1 then 0 else n1)) (fun i => (bif z1 then 0 else n1) - i) 0 (Nat.zero_le _) ?_ ?_
          · exact SubI.of0 href [] rfl ⟨⟨rfl, LeBx.rfl⟩, ⟨rfl, LeBx.rfl⟩, ⟨rfl, LeBx.rfl⟩, ⟨rfl, LeBx.rfl⟩, ⟨rfl, LeBx.rfl⟩, ⟨rfl, LeBx.rfl⟩, ⟨rfl, LeBx.rfl⟩, ⟨rfl, LeBx.rfl⟩, ⟨rfl, LeBx.rfl⟩, ⟨rfl, LeBx.rfl⟩, ⟨rfl, LeBx.rfl⟩, ⟨rfl, LeBx.rfl⟩, ⟨rfl, LeBx.rfl⟩, ⟨rfl, LeBx.rfl⟩, trivial⟩ ⟨⟨rfl, LeQ.rfl⟩, ⟨rfl, LeQ.rfl⟩, ⟨rfl, LeQ.rfl⟩, ⟨rfl, LeQ.rfl⟩, ⟨rfl, LeQ.rfl⟩, ⟨rfl, LeQ.rfl⟩, ⟨rfl, LeQ.rfl⟩, ⟨rfl, LeQ.rfl⟩, ⟨rfl, LeQ.rfl⟩, ⟨rfl, LeQ.rfl⟩, ⟨rfl, LeQ.rfl⟩, ⟨rfl, LeQ.rfl⟩, ⟨rfl, LeQ.rfl⟩, trivial⟩
          · intro i hi
            have hzn := bif_le (z := z1) (n := n1)
            refine ex.sound (rc := []) tab_ok mix href _ ?_
            refine And.intro (fun h => ?_) (fun h => ?_)
            · have h : (i : Int) < ((bif z1 then 0 else n1 : Nat) : Int) := decT h
              refine oi ⟨by omega, by show (i : Int) < ((bif z1 then 0 else n1 : Nat) : Int); omega⟩ ?_
              refine ob (show (i : Int).toNat < n1 by omega) ?_
              refine ⟨i + 1, by omega, by omega, ?_⟩
              exact SubI.of0 href [] rfl ⟨⟨rfl, LeBx.rfl⟩, ⟨rfl, LeBx.rfl⟩, ⟨rfl, LeBx.rfl⟩, ⟨rfl, LeBx.rfl⟩, ⟨rfl, LeBx.rfl⟩, ⟨rfl, LeBx.junk⟩, ⟨rfl, LeBx.rfl⟩, ⟨rfl, LeBx.rfl⟩, ⟨rfl, LeBx.rfl⟩, ⟨rfl, LeBx.rfl⟩, ⟨rfl, LeBx.rfl⟩, ⟨rfl, LeBx.rfl⟩, ⟨rfl, LeBx.rfl⟩, ⟨rfl, LeBx.rfl⟩, trivial⟩ ⟨⟨rfl, LeQ.rfl⟩, ⟨rfl, LeQ.rfl⟩, ⟨rfl, LeQ.rfl⟩, ⟨rfl, LeQ.rfl⟩, ⟨rfl, LeQ.rfl⟩, ⟨rfl, LeQ.rfl⟩, ⟨rfl, LeQ.rfl⟩, ⟨rfl, LeQ.rfl⟩, ⟨rfl, LeQ.rfl⟩, ⟨rfl, LeQ.rfl⟩, ⟨rfl, LeQ.rfl⟩, ⟨rfl, LeQ.rfl⟩, ⟨rfl, LeQ.int (w64_of (by omega) (by omega))⟩, trivial⟩
            · have h : ¬ (i : Int) < ((bif z1 then 0 else n1 : Nat) : Int) := decF h
              refine ⟨0 + 1, by omega, by omega, ?_⟩
              exact SubI.of0 href [] rfl ⟨⟨rfl, LeBx.rfl⟩, ⟨rfl, LeBx.rfl⟩, ⟨rfl, LeBx.rfl⟩, ⟨rfl, LeBx.rfl⟩, ⟨rfl, LeBx.rfl⟩, ⟨rfl, LeBx.rfl⟩, ⟨rfl, LeBx.rfl⟩, ⟨rfl, LeBx.rfl⟩, ⟨rfl, LeBx.rfl⟩, ⟨rfl, LeBx.rfl⟩, ⟨rfl, LeBx.rfl⟩, ⟨rfl, LeBx.rfl⟩, ⟨rfl, LeBx.rfl⟩, trivial⟩ ⟨⟨rfl, LeQ.rfl⟩, ⟨rfl, LeQ.rfl⟩, ⟨rfl, LeQ.rfl⟩, ⟨rfl, LeQ.rfl⟩, ⟨rfl, LeQ.rfl⟩, ⟨rfl, LeQ.rfl⟩, ⟨rfl, LeQ.rfl⟩, ⟨rfl, LeQ.rfl⟩, ⟨rfl, LeQ.rfl⟩, ⟨rfl, LeQ.rfl⟩, ⟨rfl, LeQ.rfl⟩, trivial⟩
        | 1, _ =>
          refine oi ⟨by decide, by decide⟩ ?_
          refine AW.loopI (meS7_1 a b G1 G2 G3 z1 z2 z3 n1 n2 n3 m zp zb np nb) (fun i => i ≤ (bif z2 then 0 else n2)) (fun i => (bif z2 then 0 else n2) - i) 0 (Nat.zero_le _) ?_ ?_
          · exact SubI.of0 href [] rfl ⟨⟨rfl, LeBx.rfl⟩, ⟨rfl, LeBx.rfl⟩, ⟨rfl, LeBx.rfl⟩, ⟨rfl, LeBx.rfl⟩, ⟨rfl, LeBx.rfl⟩, ⟨rfl, LeBx.rfl⟩, ⟨rfl, LeBx.rfl⟩, ⟨rfl, LeBx.rfl⟩, ⟨rfl, LeBx.rfl⟩, ⟨rfl, LeBx.rfl⟩, ⟨rfl, LeBx.rfl⟩, ⟨rfl, LeBx.rfl⟩, ⟨rfl, LeBx.rfl⟩, ⟨rfl, LeBx.rfl⟩, trivial⟩ ⟨⟨rfl, LeQ.rfl⟩, ⟨rfl, LeQ.rfl⟩, ⟨rfl, LeQ.rfl⟩, ⟨rfl, LeQ.rfl⟩, ⟨rfl, LeQ.rfl⟩, ⟨rfl, LeQ.rfl⟩, ⟨rfl, LeQ.rfl⟩, ⟨rfl, LeQ.rfl⟩, ⟨rfl, LeQ.rfl⟩, ⟨rfl, LeQ.rfl⟩, ⟨rfl, LeQ.rfl⟩, ⟨rfl, LeQ.rfl⟩, ⟨rfl, LeQ.rfl⟩, trivial⟩
          · intro i hi
            have hzn := bif_le (z := z2) (n := n2)
            refine ex.sound (rc := []) tab_ok mix href _ ?_
            refine And.intro (fun h => ?_) (fun h => ?_)
            · have h : (i : Int) < ((bif z2 then 0 else n2 : Nat) : Int) := decT h
              refine oi ⟨by omega, by show (i : Int) < ((bif z2 then 0 else n2 : Nat) : Int); omega⟩ ?_
              refine ob (show (i : Int).toNat < n2 by omega) ?_
              refine ⟨i + 1, by omega, by omega, ?_⟩
              exact SubI.of0 href [] rfl ⟨⟨rfl, LeBx.rfl⟩, ⟨rfl, LeBx.rfl⟩, ⟨rfl, LeBx.rfl⟩, ⟨rfl, LeBx.rfl⟩, ⟨rfl, LeBx.rfl⟩, ⟨rfl, LeBx.rfl⟩, ⟨rfl, LeBx.rfl⟩, ⟨rfl, LeBx.junk⟩, ⟨rfl, LeBx.rfl⟩, ⟨rfl, LeBx.rfl⟩, ⟨rfl, LeBx.rfl⟩, ⟨rfl, LeBx.rfl⟩, ⟨rfl, LeBx.rfl⟩, ⟨rfl, LeBx.rfl⟩, trivial⟩ ⟨⟨rfl, LeQ.rfl⟩, ⟨rfl, LeQ.rfl⟩, ⟨rfl, LeQ.rfl⟩, ⟨rfl, LeQ.rfl⟩, ⟨rfl, LeQ.rfl⟩, ⟨rfl, LeQ.rfl⟩, ⟨rfl, LeQ.rfl⟩, ⟨rfl, LeQ.rfl⟩, ⟨rfl, LeQ.rfl⟩, ⟨rfl, LeQ.rfl⟩, ⟨rfl, LeQ.rfl⟩, ⟨rfl, LeQ.rfl⟩, ⟨rfl, LeQ.int (w64_of (by omega) (by omega))⟩, trivial⟩
            · have h : ¬ (i : Int) < ((bif z2 then 0 else n2 : Nat) : Int) := decF h
              refine ⟨1 + 1, by omega, by omega, ?_⟩
              exact SubI.of0 href [] rfl ⟨⟨rfl, LeBx.rfl⟩, ⟨rfl, LeBx.rfl⟩, ⟨rfl, LeBx.rfl⟩, ⟨rfl, LeBx.rfl⟩, ⟨rfl, LeBx.rfl⟩, ⟨rfl, LeBx.rfl⟩, ⟨rfl, LeBx.rfl⟩, ⟨rfl, LeBx.rfl⟩, ⟨rfl, LeBx.rfl⟩, ⟨rfl, LeBx.rfl⟩, ⟨rfl, LeBx.rfl⟩, ⟨rfl, LeBx.rfl⟩, ⟨rfl, LeBx.rfl⟩, trivial⟩ ⟨⟨rfl, LeQ.rfl⟩, ⟨rfl, LeQ.rfl⟩, ⟨rfl, LeQ.rfl⟩, ⟨rfl, LeQ.rfl⟩, ⟨rfl, LeQ.rfl⟩, ⟨rfl, LeQ.rfl⟩, ⟨rfl, LeQ.rfl⟩, ⟨rfl, LeQ.rfl⟩, ⟨rfl, LeQ.rfl⟩, ⟨rfl, LeQ.rfl⟩, ⟨rfl, LeQ.rfl⟩, trivial⟩
        | 2, _ =>
          refine oi ⟨by decide, by decide⟩ ?_
          refine AW.loopI (meS7_2 a b G1 G2 G3 z1 z2 z3 n1 n2 n3 m zp zb np nb) (fun i => i ≤ (bif z3 then 0 else n3)) (fun i => (bif z3 then 0 else n3) - i) 0 (Nat.zero_le _) ?_ ?_
          · exact SubI.of0 href [] rfl ⟨⟨rfl, LeBx.rfl⟩, ⟨rfl, LeBx.rfl⟩, ⟨rfl, LeBx.rfl⟩, ⟨rfl, LeBx.rfl⟩, ⟨rfl, LeBx.rfl⟩, ⟨rfl, LeBx.rfl⟩, ⟨rfl, LeBx.rfl⟩, ⟨rfl, LeBx.rfl⟩, ⟨rfl, LeBx.rfl⟩, ⟨rfl, LeBx.rfl⟩, ⟨rfl, LeBx.rfl⟩, ⟨rfl, LeBx.rfl⟩, ⟨rfl, LeBx.rfl⟩, ⟨rfl, LeBx.rfl⟩, trivial⟩ ⟨⟨rfl, LeQ.rfl⟩, ⟨rfl, LeQ.rfl⟩, ⟨rfl, LeQ.rfl⟩, ⟨rfl, LeQ.rfl⟩, ⟨rfl, LeQ.rfl⟩, ⟨rfl, LeQ.rfl⟩, ⟨rfl, LeQ.rfl⟩, ⟨rfl, LeQ.rfl⟩, ⟨rfl, LeQ.rfl⟩, ⟨rfl, LeQ.rfl⟩, ⟨rfl, LeQ.rfl⟩, ⟨rfl, LeQ.rfl⟩, ⟨rfl, LeQ.rfl⟩, trivial⟩
          · intro i hi
            have hzn := bif_le (z := z3) (n := n3)
            refine ex.sound (rc := []) tab_ok mix href _ ?_
            refine And.intro (fun h => ?_) (fun h => ?_)
            · have h : (i : Int) < ((bif z3 then 0 else n3 : Nat) : Int) := decT h
              refine oi ⟨by omega, by show (i : Int) < ((bif z3 then 0 else n3 : Nat) : Int); omega⟩ ?_
              refine ob (show (i : Int).toNat < n3 by omega) ?_
              refine ⟨i + 1, by omega, by omega, ?_⟩
              exact SubI.of0 href [] rfl ⟨⟨rfl, LeBx.rfl⟩, ⟨rfl, LeBx.rfl⟩, ⟨rfl, LeBx.rfl⟩, ⟨rfl, LeBx.rfl⟩, ⟨rfl, LeBx.rfl⟩, ⟨rfl, LeBx.rfl⟩, ⟨rfl, LeBx.rfl⟩, ⟨rfl, LeBx.rfl⟩, ⟨rfl, LeBx.rfl⟩, ⟨rfl, LeBx.junk⟩, ⟨rfl, LeBx.rfl⟩, ⟨rfl, LeBx.rfl⟩, ⟨rfl, LeBx.rfl⟩, ⟨rfl, LeBx.rfl⟩, trivial⟩ ⟨⟨rfl, LeQ.rfl⟩, ⟨rfl, LeQ.rfl⟩, ⟨rfl, LeQ.rfl⟩, ⟨rfl, LeQ.rfl⟩, ⟨rfl, LeQ.rfl⟩, ⟨rfl, LeQ.rfl⟩, ⟨rfl, LeQ.rfl⟩, ⟨rfl, LeQ.rfl⟩, ⟨rfl, LeQ.rfl⟩, ⟨rfl, LeQ.rfl⟩, ⟨rfl, LeQ.rfl⟩, ⟨rfl, LeQ.rfl⟩, ⟨rfl, LeQ.int (w64_of (by omega) (by omega))⟩, trivial⟩
            · have h : ¬ (i : Int) < ((bif z3 then 0 else n3 : Nat) : Int) := decF h
              refine ⟨2 + 1, by omega, by omega, ?_⟩
              exact SubI.of0 href [] rfl ⟨⟨rfl, LeBx.rfl⟩, ⟨rfl, LeBx.rfl⟩, ⟨rfl, LeBx.rfl⟩, ⟨rfl, LeBx.rfl⟩, ⟨rfl, LeBx.rfl⟩, ⟨rfl, LeBx.rfl⟩, ⟨rfl, LeBx.rfl⟩, ⟨rfl, LeBx.rfl⟩, ⟨rfl, LeBx.rfl⟩, ⟨rfl, LeBx.rfl⟩, ⟨rfl, LeBx.rfl⟩, ⟨rfl, LeBx.rfl⟩, ⟨rfl, LeBx.rfl⟩, trivial⟩ ⟨⟨rfl, LeQ.rfl⟩, ⟨rfl, LeQ.rfl⟩, ⟨rfl, LeQ.rfl⟩, ⟨rfl, LeQ.rfl⟩, ⟨rfl, LeQ.rfl⟩, ⟨rfl, LeQ.rfl⟩, ⟨rfl, LeQ.rfl⟩, ⟨rfl, LeQ.rfl⟩, ⟨rfl, LeQ.rfl⟩, ⟨rfl, LeQ.rfl⟩, ⟨rfl, LeQ.rfl⟩, trivial⟩
      · have h : ¬ (k : Int) < 3 := decF h
        exact ⟨rfl, SubI.of0 href [] rfl ⟨⟨rfl, LeBx.rfl⟩, ⟨rfl, LeBx.rfl⟩, ⟨rfl, LeBx.rfl⟩, ⟨rfl, LeBx.rfl⟩, ⟨rfl, LeBx.rfl⟩, ⟨rfl, LeBx.rfl⟩, ⟨rfl, LeBx.rfl⟩, ⟨rfl, LeBx.rfl⟩, ⟨rfl, LeBx.rfl⟩, ⟨rfl, LeBx.rfl⟩, ⟨rfl, LeBx.rfl⟩, ⟨rfl, LeBx.rfl⟩, ⟨rfl, LeBx.rfl⟩, trivial⟩ ⟨⟨rfl, LeQ.rfl⟩, ⟨rfl, LeQ.rfl⟩, ⟨rfl, LeQ.rfl⟩, ⟨rfl, LeQ.rfl⟩, ⟨rfl, LeQ.rfl⟩, ⟨rfl, LeQ.rfl⟩, ⟨rfl, LeQ.rfl⟩, ⟨rfl, LeQ.rfl⟩, ⟨rfl, LeQ.rfl⟩, trivial⟩⟩
  refine AW.cut (σ' := meS5 a b G1 G2 G3 z1 z2 z3 n1 n2 n3 m zp zb np nb) (ex.sound (rc := []) tab_ok mix href _ ?_) ?_
  · refine AW.loopI (meS8 a b G1 G2 G3 z1 z2 z3 n1 n2 n3 m zp zb np nb) (fun i => i ≤ (bif zp then 0 else np)) (fun i => (bif zp then 0 else np) - i) 0 (Nat.zero_le _) ?_ ?_
    · exact SubI.of0 href [] rfl ⟨⟨rfl, LeBx.rfl⟩, ⟨rfl, LeBx.rfl⟩, ⟨rfl, LeBx.rfl⟩, ⟨rfl, LeBx.rfl⟩, ⟨rfl, LeBx.rfl⟩, ⟨rfl, LeBx.rfl⟩, ⟨rfl, LeBx.rfl⟩, ⟨rfl, LeBx.rfl⟩, ⟨rfl, LeBx.rfl⟩, ⟨rfl, LeBx.rfl⟩, ⟨rfl, LeBx.rfl⟩, ⟨rfl, LeBx.rfl⟩, ⟨rfl, LeBx.rfl⟩, trivial⟩ ⟨⟨rfl, LeQ.rfl⟩, ⟨rfl, LeQ.rfl⟩, ⟨rfl, LeQ.rfl⟩, ⟨rfl, LeQ.rfl⟩, ⟨rfl, LeQ.rfl⟩, ⟨rfl, LeQ.rfl⟩, ⟨rfl, LeQ.rfl⟩, ⟨rfl, LeQ.rfl⟩, ⟨rfl, LeQ.rfl⟩, ⟨rfl, LeQ.rfl⟩, trivial⟩
    · intro i hi
      have hzn := bif_le (z := zp) (n := np)
      refine ex.sound (rc := []) tab_ok mix href _ ?_
      refine And.intro (fun h => ?_) (fun h => ?_)
      · have h : (i : Int) < ((bif zp then 0 else np : Nat) : Int) := decT h
        refine oi ⟨by omega, by show (i : Int) < ((bif zp then 0 else np : Nat) : Int); omega⟩ ?_
        refine ob (show (i : Int).toNat < np by omega) ?_
        refine ⟨i + 1, by omega, by omega, ?_⟩
        exact SubI.of0 href [] rfl ⟨⟨rfl, LeBx.rfl⟩, ⟨rfl, LeBx.rfl⟩, ⟨rfl, LeBx.rfl⟩, ⟨rfl, LeBx.rfl⟩, ⟨rfl, LeBx.rfl⟩, ⟨rfl, LeBx.rfl⟩, ⟨rfl, LeBx.rfl⟩, ⟨rfl, LeBx.rfl⟩, ⟨rfl, LeBx.rfl⟩, ⟨rfl, LeBx.rfl⟩, ⟨rfl, LeBx.rfl⟩, ⟨rfl, LeBx.junk⟩, ⟨rfl, LeBx.rfl⟩, trivial⟩ ⟨⟨rfl, LeQ.rfl⟩, ⟨rfl, LeQ.rfl⟩, ⟨rfl, LeQ.rfl⟩, ⟨rfl, LeQ.rfl⟩, ⟨rfl, LeQ.rfl⟩, ⟨rfl, LeQ.rfl⟩, ⟨rfl, LeQ.rfl⟩, ⟨rfl, LeQ.rfl⟩, ⟨rfl, LeQ.rfl⟩, ⟨rfl, LeQ.int (w64_of (by omega) (by omega))⟩, trivial⟩
      · have h : ¬ (i : Int) < ((bif zp then 0 else np : Nat) : Int) := decF h
        exact ⟨rfl, SubI.of0 href [] rfl ⟨⟨rfl, LeBx.rfl⟩, ⟨rfl, LeBx.rfl⟩, ⟨rfl, LeBx.rfl⟩, ⟨rfl, LeBx.rfl⟩, ⟨rfl, LeBx.rfl⟩, ⟨rfl, LeBx.rfl⟩, ⟨rfl, LeBx.rfl⟩, ⟨rfl, LeBx.rfl⟩, ⟨rfl, LeBx.rfl⟩, ⟨rfl, LeBx.rfl⟩, ⟨rfl, LeBx.rfl⟩, ⟨rfl, LeBx.rfl⟩, ⟨rfl, LeBx.rfl⟩, trivial⟩ ⟨⟨rfl, LeQ.rfl⟩, ⟨rfl, LeQ.rfl⟩, ⟨rfl, LeQ.rfl⟩, ⟨rfl, LeQ.rfl⟩, ⟨rfl, LeQ.rfl⟩, ⟨rfl, LeQ.rfl⟩, ⟨rfl, LeQ.rfl⟩, ⟨rfl, LeQ.rfl⟩, ⟨rfl, LeQ.rfl⟩, trivial⟩⟩
  refine AW.cut (σ' := meS5 a b G1 G2 G3 z1 z2 z3 n1 n2 n3 m zp zb np nb) (ex.sound (rc := []) tab_ok mix href _ ?_) ?_
  · refine AW.loopI (meS9 a b G1 G2 G3 z1 z2 z3 n1 n2 n3 m zp zb np nb) (fun i => i ≤ (bif zb then 0 else nb)) (fun i => (bif zb then 0 else nb) - i) 0 (Nat.zero_le _) ?_ ?_
    · exact SubI.of0 href [] rfl ⟨⟨rfl, LeBx.rfl⟩, ⟨rfl, LeBx.rfl⟩, ⟨rfl, LeBx.rfl⟩, ⟨rfl, LeBx.rfl⟩, ⟨rfl, LeBx.rfl⟩, ⟨rfl, LeBx.rfl⟩, ⟨rfl, LeBx.rfl⟩, ⟨rfl, LeBx.rfl⟩, ⟨rfl, LeBx.rfl⟩, ⟨rfl, LeBx.rfl⟩, ⟨rfl, LeBx.rfl⟩, ⟨rfl, LeBx.rfl⟩, ⟨rfl, LeBx.rfl⟩, trivial⟩ ⟨⟨rfl, LeQ.rfl⟩, ⟨rfl, LeQ.rfl⟩, ⟨rfl, LeQ.rfl⟩, ⟨rfl, LeQ.rfl⟩, ⟨rfl, LeQ.rfl⟩, ⟨rfl, LeQ.rfl⟩, ⟨rfl, LeQ.rfl⟩, ⟨rfl, LeQ.rfl⟩, ⟨rfl, LeQ.rfl⟩, ⟨rfl, LeQ.rfl⟩, trivial⟩
    · intro i hi
      have hzn := bif_le (z := zb) (n := nb)
      refine ex.sound (rc := []) tab_ok mix href _ ?_
      refine And.intro (fun h => ?_) (fun h => ?_)
      · have h : (i : Int) < ((bif zb then 0 else nb : Nat) : Int) := decT h
        refine oi ⟨by omega, by show (i : Int) < ((bif zb then 0 else nb : Nat) : Int); omega⟩ ?_
        refine ob (show (i : Int).toNat < nb by omega) ?_
        refine ⟨i + 1, by omega, by omega, ?_⟩
        exact SubI.of0 href [] rfl ⟨⟨rfl, LeBx.rfl⟩, ⟨rfl, LeBx.rfl⟩, ⟨rfl, LeBx.rfl⟩, ⟨rfl, LeBx.rfl⟩, ⟨rfl, LeBx.rfl⟩, ⟨rfl, LeBx.rfl⟩, ⟨rfl, LeBx.rfl⟩, ⟨rfl, LeBx.rfl⟩, ⟨rfl, LeBx.rfl⟩, ⟨rfl, LeBx.rfl⟩, ⟨rfl, LeBx.rfl⟩, ⟨rfl, LeBx.rfl⟩, ⟨rfl, LeBx.junk⟩, trivial⟩ ⟨⟨rfl, LeQ.rfl⟩, ⟨rfl, LeQ.rfl⟩, ⟨rfl, LeQ.rfl⟩, ⟨rfl, LeQ.rfl⟩, ⟨rfl, LeQ.rfl⟩, ⟨rfl, LeQ.rfl⟩, ⟨rfl, LeQ.rfl⟩, ⟨rfl, LeQ.rfl⟩, ⟨rfl, LeQ.rfl⟩, ⟨rfl, LeQ.int (w64_of (by omega) (by omega))⟩, trivial⟩
      · have h : ¬ (i : Int) < ((bif zb then 0 else nb : Nat) : Int) := decF h
        exact ⟨rfl, SubI.of0 href [] rfl ⟨⟨rfl, LeBx.rfl⟩, ⟨rfl, LeBx.rfl⟩, ⟨rfl, LeBx.rfl⟩, ⟨rfl, LeBx.rfl⟩, ⟨rfl, LeBx.rfl⟩, ⟨rfl, LeBx.rfl⟩, ⟨rfl, LeBx.rfl⟩, ⟨rfl, LeBx.rfl⟩, ⟨rfl, LeBx.rfl⟩, ⟨rfl, LeBx.rfl⟩, ⟨rfl, LeBx.rfl⟩, ⟨rfl, LeBx.rfl⟩, ⟨rfl, LeBx.rfl⟩, trivial⟩ ⟨⟨rfl, LeQ.rfl⟩, ⟨rfl, LeQ.rfl⟩, ⟨rfl, LeQ.rfl⟩, ⟨rfl, LeQ.rfl⟩, ⟨rfl, LeQ.rfl⟩, ⟨rfl, LeQ.rfl⟩, ⟨rfl, LeQ.rfl⟩, ⟨rfl, LeQ.rfl⟩, ⟨rfl, LeQ.rfl⟩, trivial⟩⟩
  refine ex.sound (rc := []) tab_ok mix href _ ?_
  refine callN (rSame a (by omega)) ?_
  repeat first | refine sk ?_ | refine st ?_ | refine sg ?_ | refine sh ?_ | refine su ?_ | refine sn1 ?_ | refine sn0 ?_
  refine callG (rSame b (by omega)) ?_
  repeat first | refine sk ?_ | refine st ?_ | refine sg ?_ | refine sh ?_ | refine su ?_ | refine sn1 ?_ | refine sn0 ?_
  refine And.intro (fun h1 => ?_) (fun h1 => ?_)
  · refine ob (congrArg (gpol true) h1) ?_
    refine callN ((rIntsEq [0, 1] (by decide)).conv (args' := _) ⟨LeD.refl _, ends_le, trivial⟩) ?_
    repeat first | refine sk ?_ | refine st ?_ | refine sg ?_ | refine sh ?_ | refine su ?_ | refine sn1 ?_ | refine sn0 ?_
    exact SubR.refl _
  · cases h1
end Go.Ch
