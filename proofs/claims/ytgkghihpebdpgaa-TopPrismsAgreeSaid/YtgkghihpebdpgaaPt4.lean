/- Part 4: lemmas that the proofs of this seat share; by itself it claims nothing. -/
import Ieee.Arith
import GoSem.Core.Float
import Derived.ProofKit
import Derived.OpenShut
import Derived.Deep.Slices
import Derived.Test.YtgkghihpebdpgaaPt3
/- Short words for proofs with the executor. -/
namespace Go.Ax
open Go.RowKit
theorem sk {p q : Prop} (h : q) : (p → p) ∧ q := ⟨id, h⟩
theorem st {q : Prop} (h : q) : True ∧ q := ⟨trivial, h⟩
theorem sg {b : Bool} {q : Prop} (h : q) : gimp (b = false) (some (gpol false b)) ∧ q := ⟨fun h => by simpa [gpol] using h, h⟩
theorem sh {b : Bool} {q : Prop} (h : q) : gimp (b = true) (some (gpol true b)) ∧ q := ⟨fun h => by simpa [gpol] using h, h⟩
theorem sn1 {b c : Bool} {q : Prop} (h : q) : imp (some c) (gimp (b = true) (some (c && gpol true b))) ∧ q := ⟨fun h1 h2 => by simp [h1, h2, gpol], h⟩
theorem sn0 {b c : Bool} {q : Prop} (h : q) : imp (some c) (gimp (b = false) (some (c && gpol false b))) ∧ q := ⟨fun h1 h2 => by simp [h1, h2, gpol], h⟩
theorem su {c : Bool} {p q : Prop} (h : q) : imp (some c) (gimp p none) ∧ q := ⟨fun _ => trivial, h⟩
theorem ob {p q : Prop} (h : p) (k : q) : p ∧ q := ⟨h, k⟩
theorem oi {p q : Prop} (h : p) (k : q) : imp none p ∧ q := ⟨h, k⟩
theorem og {p q : Prop} {b : Bool} (h : b = true → p) (k : q) : (b = true → p) ∧ q := ⟨h, k⟩
theorem callG {P : Program} {f : FuncId} {args : List AV} {r : AV} {K : AV → Prop} {b : Bool} {X : Prop} (h : CallP P f args r) (k : K r) : (∃ r, (b = true → CallP P f args r) ∧ K r) ∨ X := .inl ⟨r, fun _ => h, k⟩
theorem callGo {P : Program} {f : FuncId} {args : List AV} {r : AV} {K : AV → Prop} {b : Bool} {X : Prop} (h : b = true → CallP P f args r) (k : K r) : (∃ r, (b = true → CallP P f args r) ∧ K r) ∨ X := .inl ⟨r, h, k⟩
theorem callN {P : Program} {f : FuncId} {args : List AV} {r : AV} {K : AV → Prop} {X : Prop} (h : CallP P f args r) (k : K r) : (∃ r, CallP P f args r ∧ K r) ∨ X := .inl ⟨r, h, k⟩
/-- A guarded call that is not made. -/
theorem callF {P : Program} {f : FuncId} {args : List AV} (r : AV) {K : AV → Prop} {b : Bool} {X : Prop} (h : b = false) (k : K r) : (∃ r, (b = true → CallP P f args r) ∧ K r) ∨ X := .inl ⟨r, fun h' => by rw [h] at h'; (cases h'), k⟩
theorem CallK.of {P : Program} {σ : St} {f : FuncId} {as : List AV} {r : AV} (ren : List (Nat × Nat)) {args : List AV} {bx : BoxL} (h : CallR P f args bx r bx) (he : as = renAs ren args) (hm : matchB ren σ.box bx) (hk : okK ren args bx = true) (hf : flatA r = true) (hx : ((names bx).all fun x => (catL (reachA σ) as).contains (look ren x)) = true) : CallK P σ f as r := ⟨ren, args, bx, h, he, hm, hk, hf, hx⟩
/-- A call that is handed boxes and leaves them as they are. -/
theorem callKN {P : Program} {σ : St} {f : FuncId} {as : List AV} {r : AV} {K : AV → Prop} {X : Prop} (h : CallK P σ f as r) (k : K r) : X ∨ (∃ r, CallK P σ f as r ∧ K r) := .inr ⟨r, h, k⟩
theorem callKG {P : Program} {σ : St} {f : FuncId} {as : List AV} {r : AV} {K : AV → Prop} {b : Bool} {X : Prop} (h : b = true → CallK P σ f as r) (k : K r) : X ∨ (∃ r, (b = true → CallK P σ f as r) ∧ K r) := .inr ⟨r, h, k⟩
theorem LeD.slc' {n m s : Nat} {f g : Nat → Nat → DV} (e : n = m) (h : ∀ i j, i < n → j < s → LeD (f i j) (g i j)) : LeD (.slc n s f) (.slc m s g) := by subst e; exact LeD.slc h
theorem LeAs.capD {σ : St} {c : Nat → DV} : ∀ {k j : Nat}, LeAs (convAs σ (capD c k j)) (capD c k j)
  | 0, _ => trivial
  | _ + 1, _ => ⟨LeD.refl _, LeAs.capD⟩
abbrev w64 (n : Int) : Int := IntKind.i64.wrap n
abbrev dI (x : Int) : DV := .val (.int .i64 x)
abbrev vI (x : Int) : AV := .s (.d (.val (.int .i64 x)))
abbrev vB (b : Bool) : AV := .s (.d (.val (.bool b)))
theorem SubR.lit {b c : Bool} (h : b = c) : SubR (.s (.d (.lit b))) (vB c) := by subst h; exact fun _ _ r => r
theorem w64_of {n : Int} (h : -9223372036854775808 ≤ n) (k : n ≤ 9223372036854775807) : w64 n = n := by
  unfold w64
  exact IntWalk.i64_in n ⟨h, k⟩
def intEl (l : List Int) : Nat → Nat → DV := fun i _ => dI (l.getD i 0)
def dInts (l : List Int) : DV := .slc l.length 1 (intEl l)
abbrev vInts (l : List Int) : AV := .s (.d (dInts l))
end Go.Ax
namespace Go.Ax
open Go.RowKit
theorem bif_len {α : Type} (l : List α) : (bif l.isEmpty then 0 else l.length) = l.length := by cases l <;> rfl
theorem isEmpty_snoc {α : Type} (l : List α) (x : α) : (l ++ [x]).isEmpty = false := by cases l <;> rfl
theorem LeBx.snoc {α : Type} [Inhabited α] {e s : Nat} {l : List α} {x : α} {el : α → Nat → DV} {g : Nat → Nat → DV} (hg : ∀ j, j < s → g 0 j = el x j) :
    LeBx (.row e ((bif l.isEmpty then 0 else l.length) + 1) s (catF (bif l.isEmpty then 0 else l.length) (fun i => el (l.getD i default)) g)) (.mrow e (l ++ [x]).length s (fun i => el ((l ++ [x]).getD i default))) := by
  rw [bif_len]
  refine LeBx.mrow (by simp) fun i j hi hj => LeD.of_eq ?_
  unfold catF
  by_cases h : i < l.length
  · rw [if_pos h]
    simp only [List.getD_eq_getElem?_getD, List.getElem?_append_left h]
  · have : i = l.length := by omega
    subst this
    rw [if_neg h, Nat.sub_self, hg j hj]
    simp only [List.getD_eq_getElem?_getD, List.getElem?_concat_length, Option.getD_some]
/-- Four cells, or fewer, by their number. -/
theorem lt1 {p : Nat → Prop} (h : p 0) : ∀ j, j < 1 → p j := fun j hj => by match j, hj with | 0, _ => exact h
theorem lt2 {p : Nat → Prop} (h : p 0) (h1 : p 1) : ∀ j, j < 2 → p j := fun j hj => by match j, hj with | 0, _ => exact h | 1, _ => exact h1
theorem lt3 {p : Nat → Prop} (h : p 0) (h1 : p 1) (h2 : p 2) : ∀ j, j < 3 → p j := fun j hj => by match j, hj with | 0, _ => exact h | 1, _ => exact h1 | 2, _ => exact h2
theorem lt4 {p : Nat → Prop} (h : p 0) (h1 : p 1) (h2 : p 2) (h3 : p 3) : ∀ j, j < 4 → p j := fun j hj => by match j, hj with | 0, _ => exact h | 1, _ => exact h1 | 2, _ => exact h2 | 3, _ => exact h3
theorem lt5 {p : Nat → Prop} (h : p 0) (h1 : p 1) (h2 : p 2) (h3 : p 3) (h4 : p 4) : ∀ j, j < 5 → p j := fun j hj => by match j, hj with | 0, _ => exact h | 1, _ => exact h1 | 2, _ => exact h2 | 3, _ => exact h3 | 4, _ => exact h4
theorem fit1 {s : Nat} {g : Nat → Nat → DV} (h : ∀ j, j < s → (g 0 j).fit = true) : fitAll 1 s g := fun k j hk hj => by
  have : k = 0 := by omega
  subst this; exact h j hj
end Go.Ax
namespace Go.Ax
theorem SubR.mo {α : Type} {l : List α} {s : Nat} {f : Nat → Nat → DV} : SubR (.s (.d (.slc (bif l.isEmpty then 0 else l.length) s f))) (.s (.d (.slc l.length s f))) := SubR.of_eq (by rw [bif_len])
theorem filterMap_range_succ {β : Type} (f : Nat → Option β) (n : Nat) : (List.range (n + 1)).filterMap f = (List.range n).filterMap f ++ (f n).toList := by
  rw [List.range_succ, List.filterMap_append]
  cases h : f n <;> simp [h]
end Go.Ax
namespace Go.Ax
/-- A row's cells are those of the list's elements. -/
def RowIs {α : Type} [Inhabited α] (s n : Nat) (f : Nat → Nat → DV) (el : α → Nat → DV) (l : List α) : Prop := n = l.length ∧ ∀ i j, i < n → j < s → f i j = el (l.getD i default) j
section
variable {α : Type} [Inhabited α] {s n e : Nat} {f g : Nat → Nat → DV} {el : α → Nat → DV} {l : List α} {x : α}
theorem RowIs.refl : RowIs s l.length (fun i => el (l.getD i default)) el l := ⟨rfl, fun _ _ _ _ => rfl⟩
theorem RowIs.bif : RowIs s (bif l.isEmpty then 0 else l.length) (fun i => el (l.getD i default)) el l := ⟨bif_len l, fun _ _ _ _ => rfl⟩
theorem RowIs.snoc (h : RowIs s n f el l) (hg : ∀ j, j < s → g 0 j = el x j) : RowIs s (n + 1) (catF n f g) el (l ++ [x]) := by
  obtain ⟨rfl, h⟩ := h
  refine ⟨by simp, fun i j hi hj => ?_⟩
  unfold catF
  by_cases hl : i < l.length
  · rw [if_pos hl, h i j hl hj]
    simp only [List.getD_eq_getElem?_getD, List.getElem?_append_left hl]
  · have : i = l.length := by omega
    subst this
    rw [if_neg hl, Nat.sub_self, hg j hj]
    simp only [List.getD_eq_getElem?_getD, List.getElem?_concat_length, Option.getD_some]
theorem RowIs.one (hg : ∀ j, j < s → g 0 j = el x j) : RowIs s 1 g el [x] := by
  refine ⟨rfl, fun i j hi hj => ?_⟩
  have : i = 0 := by omega
  subst this
  exact hg j hj
theorem RowIs.mrow (h : RowIs s n f el l) : LeBx (.row e n s f) (.mrow e l.length s (fun i => el (l.getD i default))) :=
  LeBx.mrow h.1 fun i j hi hj => LeD.of_eq (h.2 i j hi hj)
theorem RowIs.row (h : RowIs s n f el l) : LeBx (.row e n s f) (.row e l.length s (fun i => el (l.getD i default))) :=
  LeBx.row h.1 fun i j hi hj => LeD.of_eq (h.2 i j hi hj)
theorem RowIs.slc (h : RowIs s n f el l) : LeD (.slc n s f) (.slc l.length s (fun i => el (l.getD i default))) :=
  LeD.slc' h.1 fun i j hi hj => LeD.of_eq (h.2 i j hi hj)
end
theorem LeQ.lit {b c : Bool} (h : b = c) : LeQ (.s (.d (.lit b))) (.s (.d (.val (.bool c)))) := by subst h; exact fun _ _ _ r => r
theorem LeQ.int {x y : Int} (h : x = y) : LeQ (.s (.d (.val (.int .i64 x)))) (vI y) := by subst h; exact LeQ.rfl
theorem LeQ.bool {x y : Bool} (h : x = y) : LeQ (.s (.d (.val (.bool x)))) (vB y) := by subst h; exact LeQ.rfl
end Go.Ax


namespace Go.Ch
end Go.Ch

/- The square root of a float64 that came of a whole number below 2^43 is, cut to a whole number, less than 2^24. -/
namespace Go.Ax.Root
open Ieee

theorem rung_read (r : Nat) (h : r < double.infRung) : ∃ m i, double.read r = .number false m i ∧ m < 2 ^ 53 ∧ (i = double.leastPlace ∨ i = double.leastPlace + ((r / 4503599627370496 - 1 : Nat) : Int)) := by
  have e1 : double.signWeight = 9223372036854775808 := by decide
  have e2 : double.binade = 4503599627370496 := by decide
  have e3 : double.infRung = 9218868437227405312 := by decide
  have e53 : (2 : Nat) ^ 53 = 9007199254740992 := by decide
  rw [e53]
  have hlt : r < 9223372036854775808 := by omega
  have hq : r / 9223372036854775808 = 0 := Nat.div_eq_of_lt hlt
  have hm : r % 9223372036854775808 = r := Nat.mod_eq_of_lt hlt
  unfold Format.read
  rw [e1, hq, hm, e2]
  by_cases hs : r < 4503599627370496
  · rw [if_pos hs]
    exact ⟨r, _, rfl, by omega, .inl rfl⟩
  · rw [if_neg hs, if_pos h]
    refine ⟨_, _, rfl, ?_, .inr rfl⟩
    have := Nat.mod_lt r (show 0 < 4503599627370496 by decide)
    omega

/-- The kept digits are at most 2^53. -/
theorem cut_le (n drop : Nat) (h : n < 2 ^ 53 * 2 ^ drop) : Toward.even.cut false n drop ≤ 2 ^ 53 := by
  unfold Toward.cut
  simp only
  have hb : ∀ b : Bool, b.toNat ≤ 1 := fun b => by cases b <;> decide
  have hg : n / 1 <<< min drop (n.log2 + 2) < 2 ^ 53 := by
    rw [Nat.shiftLeft_eq, Nat.one_mul]
    by_cases hd : drop ≤ n.log2 + 2
    · rw [Nat.min_eq_left hd]
      exact Nat.div_lt_of_lt_mul (by rw [Nat.mul_comm]; exact h)
    · rw [Nat.min_eq_right (by omega)]
      have : n < 2 ^ (n.log2 + 2) := Nat.lt_trans Nat.lt_log2_self (Nat.pow_lt_pow_right (by decide) (by omega))
      rw [Nat.div_eq_of_lt this]
      decide
  have := hb (decide (1 <<< min drop (n.log2 + 2) < 2 * (n % 1 <<< min drop (n.log2 + 2))) || (1 <<< min drop (n.log2 + 2) == 2 * (n % 1 <<< min drop (n.log2 + 2)) && n / 1 <<< min drop (n.log2 + 2) % 2 == 1))
  omega

/-- What is read of the word nearest to mag * 2^place: its place is little above that of the last digit kept. -/
theorem nearest_read (mag : Nat) (place : Int) (h0 : mag ≠ 0) (hlo : double.leastPlace ≤ place + mag.log2 - 52) (hhi : place + mag.log2 ≤ 900) :
    ∃ m i, double.read (double.nearest false mag place) = .number false m i ∧ m < 2 ^ 53 ∧ i ≤ place + mag.log2 - 51 ∧ -1074 ≤ i := by
  have e0 : double.fractionBits = 52 := rfl
  have e2 : double.binade = 4503599627370496 := by decide
  have e3 : double.infRung = 9218868437227405312 := by decide
  have e4 : double.leastPlace = -1074 := by decide
  have hlast : max (place + (mag.log2 : Int) - (double.fractionBits : Int)) double.leastPlace = place + mag.log2 - 52 := by
    rw [e0]
    exact Int.max_eq_left hlo
  have hkept : Toward.even.cut false (mag <<< (place - (place + mag.log2 - 52)).toNat) ((place + (mag.log2 : Int) - 52) - place).toNat ≤ 2 ^ 53 := by
    apply cut_le
    rw [Nat.shiftLeft_eq]
    have hm : mag < 2 ^ (mag.log2 + 1) := Nat.lt_log2_self
    by_cases hk : 52 ≤ mag.log2
    · have h1 : (place - (place + mag.log2 - 52)).toNat = 0 := by omega
      have h2 : ((place + (mag.log2 : Int) - 52) - place).toNat = mag.log2 - 52 := by omega
      rw [h1, h2, Nat.pow_zero, Nat.mul_one, ← Nat.pow_add]
      rw [show 53 + (mag.log2 - 52) = mag.log2 + 1 by omega]
      exact hm
    · have h1 : (place - (place + mag.log2 - 52)).toNat = 52 - mag.log2 := by omega
      have h2 : ((place + (mag.log2 : Int) - 52) - place).toNat = 0 := by omega
      rw [h1, h2, Nat.pow_zero, Nat.mul_one]
      calc mag * 2 ^ (52 - mag.log2) < 2 ^ (mag.log2 + 1) * 2 ^ (52 - mag.log2) := Nat.mul_lt_mul_of_pos_right hm (Nat.two_pow_pos _)
        _ = 2 ^ 53 := by rw [← Nat.pow_add]; congr 1; omega
  unfold Format.nearest
  rw [if_neg h0, hlast]
  simp only [Format.word, Bool.false_eq_true, if_false]
  have e53 : (2 : Nat) ^ 53 = 9007199254740992 := by decide
  rw [e53] at hkept
  generalize Toward.even.cut false (mag <<< (place - (place + mag.log2 - 52)).toNat) ((place + (mag.log2 : Int) - 52) - place).toNat = kept at hkept ⊢
  rw [e2, e3, e4]
  have hA : (place + (mag.log2 : Int) - 52 - -1074).toNat = (place + mag.log2 + 1022).toNat := by congr 1; omega
  rw [hA]
  generalize hAe : (place + (mag.log2 : Int) + 1022).toNat = A
  rw [e4] at hlo
  have hAi : (A : Int) = place + mag.log2 + 1022 := by omega
  have hA1 : A ≤ 1922 := by omega
  have hmin : min (A * 4503599627370496 + kept) 9218868437227405312 = A * 4503599627370496 + kept := by
    apply Nat.min_eq_left
    omega
  rw [hmin]
  have hlt : A * 4503599627370496 + kept < double.infRung := by
    rw [e3]
    clear hmin hlo hhi hAi hlast hA
    omega
  obtain ⟨m, i, hr, hm, hi⟩ := rung_read _ hlt
  rw [e4] at hi
  refine ⟨m, i, hr, hm, ?_⟩
  have hdiv : (A * 4503599627370496 + kept) / 4503599627370496 ≤ A + 2 := by
    have h1 : A * 4503599627370496 + kept ≤ (A + 2) * 4503599627370496 := by
      rw [Nat.add_mul]
      clear hmin hlo hhi hAi hlast hA hlt hr hi
      omega
    have h2 := Nat.div_le_div_right (c := 4503599627370496) h1
    rw [Nat.mul_div_cancel _ (by decide)] at h2
    exact h2
  generalize (A * 4503599627370496 + kept) / 4503599627370496 = D at hdiv hi
  rcases hi with rfl | rfl
  · exact ⟨by omega, by omega⟩
  · exact ⟨by omega, by omega⟩

theorem rootFrom_sq (n : Nat) : ∀ (todo root : Nat), root * root ≤ n → Datum.rootFrom n todo root * Datum.rootFrom n todo root ≤ n
  | 0, _, h => h
  | todo + 1, root, h => by
    unfold Datum.rootFrom
    simp only
    apply rootFrom_sq n todo
    split
    · assumption
    · exact h

theorem log2_le {a b : Nat} (h0 : a ≠ 0) (h : a < 2 ^ (b + 1)) : a.log2 ≤ b := by
  have := Nat.log2_self_le h0
  exact Nat.le_of_lt_succ ((Nat.pow_lt_pow_iff_right (by decide : 1 < 2)).1 (Nat.lt_of_le_of_lt this h))

theorem sqrt_small (s : Int) (h0 : 0 ≤ s) (hs : s < 2 ^ 43) : ∃ r n, FloatKind.f64.format.sqrt (FloatKind.f64.nearest s) = some r ∧ (FloatKind.f64.decode r).toInt .zero = some n ∧ 0 ≤ n ∧ n < 2 ^ 24 := by
  have e4 : double.leastPlace = -1074 := by decide
  have e0 : double.fractionBits = 52 := rfl
  have hf : FloatKind.f64.format = double := rfl
  by_cases hz : s = 0
  · subst hz
    exact ⟨0, 0, by decide +kernel, by decide +kernel, by decide, by decide⟩
  obtain ⟨k, rfl⟩ := Int.eq_ofNat_of_zero_le h0
  have hk0 : k ≠ 0 := by intro h; exact hz (by simp [h])
  have hk : k < 2 ^ 43 := by exact_mod_cast hs
  have hlk : k.log2 ≤ 42 := log2_le hk0 hk
  have hn : FloatKind.f64.nearest (k : Int) = double.nearest false k 0 := by
    unfold FloatKind.nearest FloatKind.encode
    rw [hf]
    have : decide ((k : Int) < 0) = false := by simp
    simp only [this, Int.natAbs_natCast, Format.write]
  obtain ⟨m, i, hr, hm, hi, hi2⟩ := nearest_read k 0 hk0 (by rw [e4]; omega) (by omega)
  -- the root
  obtain ⟨d, hd, hdn⟩ : ∃ d, (Datum.number false m i).root 54 = some d ∧ ∃ mag p, d = .number false mag p ∧ (mag = 0 ∨ (mag ≠ 0 ∧ p + mag.log2 ≤ 22 ∧ -1022 ≤ p + mag.log2)) := by
    by_cases hm0 : m = 0
    · subst hm0
      exact ⟨_, rfl, 0, i, rfl, .inl rfl⟩
    · unfold Datum.root
      simp only [hm0, if_false]
      have hlm : m.log2 ≤ 52 := log2_le hm0 hm
      have hcast : ((2 * 54 - m.log2 : Nat) : Int) = 108 - m.log2 := by omega
      obtain ⟨q, hq, hq2⟩ : ∃ q : Nat, ((i - ((2 * 54 - m.log2 : Nat) : Int)) % 2).toNat = q ∧ q ≤ 1 := ⟨_, rfl, by omega⟩
      rw [hq]
      have hn0 : (m <<< (2 * 54 - m.log2 + q)) < 2 ^ 110 := by
        rw [Nat.shiftLeft_eq]
        calc m * 2 ^ (2 * 54 - m.log2 + q) < 2 ^ (m.log2 + 1) * 2 ^ (2 * 54 - m.log2 + q) := Nat.mul_lt_mul_of_pos_right Nat.lt_log2_self (Nat.two_pow_pos _)
          _ = 2 ^ (109 + q) := by rw [← Nat.pow_add]; congr 1; omega
          _ ≤ 2 ^ 110 := Nat.pow_le_pow_right (by decide) (by omega)
      have hn1 : 1 ≤ m <<< (2 * 54 - m.log2 + q) := by
        rw [Nat.shiftLeft_eq]
        exact Nat.mul_pos (Nat.pos_of_ne_zero hm0) (Nat.two_pow_pos _)
      generalize hN : m <<< (2 * 54 - m.log2 + q) = N at hn0 hn1 ⊢
      have hsq := rootFrom_sq N (N.log2 / 2 + 1) 0 (by omega)
      generalize Datum.rootFrom N (N.log2 / 2 + 1) 0 = root at hsq ⊢
      have hroot : root < 2 ^ 55 := by
        rcases Nat.lt_or_ge root (2 ^ 55) with h | h
        · exact h
        · have := Nat.mul_le_mul h h
          have e : (2 : Nat) ^ 55 * 2 ^ 55 = 2 ^ 110 := by decide
          omega
      have hb : (root * root != N).toNat ≤ 1 := by cases (root * root != N) <;> decide
      generalize (root * root != N).toNat = bb at hb
      refine ⟨_, rfl, 2 * root + bb, _, rfl, ?_⟩
      by_cases hz2 : 2 * root + bb = 0
      · exact .inl hz2
      · right
        have hl : (2 * root + bb).log2 ≤ 55 := log2_le hz2 (by omega)
        refine ⟨hz2, ?_, ?_⟩
        · omega
        · omega
  obtain ⟨mag, p, rfl, hmp⟩ := hdn
  have hsq : FloatKind.f64.format.sqrt (FloatKind.f64.nearest (k : Int)) = some (double.nearest false mag p) := by
    rw [hf, hn]
    unfold Format.sqrt
    rw [hr, e0, hd]
    rfl
  rcases hmp with rfl | ⟨h1, h2, h3⟩
  · refine ⟨_, 0, hsq, ?_, by decide, by decide⟩
    have : double.nearest false 0 p = 0 := rfl
    rw [this]
    decide +kernel
  · obtain ⟨m', i', hr', hm', hi', hi2'⟩ := nearest_read mag p h1 (by rw [e4]; omega) (by omega)
    have hg : FloatKind.f64.decode (double.nearest false mag p) = .number false m' i' := hr'
    refine ⟨_, _, hsq, by rw [hg]; rfl, ?_⟩
    simp only [signed, Bool.false_eq_true, if_false, Nat.shiftLeft_zero]
    have hi0 : i'.toNat = 0 := by omega
    rw [hi0, Nat.shiftLeft_zero]
    unfold Toward.cut
    simp only [Bool.toNat_false, Nat.add_zero]
    refine ⟨Int.natCast_nonneg _, ?_⟩
    have : m' / 1 <<< min (-i').toNat (m'.log2 + 2) < 2 ^ 24 := by
      rw [Nat.shiftLeft_eq, Nat.one_mul]
      by_cases hd : (-i').toNat ≤ m'.log2 + 2
      · rw [Nat.min_eq_left hd]
        apply Nat.div_lt_of_lt_mul
        calc m' < 2 ^ 53 := hm'
          _ = 2 ^ 29 * 2 ^ 24 := by decide
          _ ≤ 2 ^ (-i').toNat * 2 ^ 24 := Nat.mul_le_mul_right _ (Nat.pow_le_pow_right (by decide) (by omega))
      · rw [Nat.min_eq_right (by omega)]
        have : m' < 2 ^ (m'.log2 + 2) := Nat.lt_trans Nat.lt_log2_self (Nat.pow_lt_pow_right (by decide) (by omega))
        rw [Nat.div_eq_of_lt this]
        decide
    exact_mod_cast this
end Go.Ax.Root

/- What came in, read as data, as abstract values. -/
namespace Go.Ax
open Go.RowKit

/-- Cells of type t, k of them, are what 'rep' says of some a that is 'ok'. -/
def Rd (P : Program) (t : TypeId) (k : Nat) {α : Type} (rep : α → List SV) (ok : α → Prop) : Prop :=
  P.cellsOf t = k ∧ ∀ (H : Type) (enc : TypeId × Value → H) (W : World) (base : Nat) (spare : Nat → Bool) (held : Bool) (fuel : Nat) (cs : List Value) (x : DataW H × List MemPlace),
    DataW.trod enc P W base spare held fuel t cs = some x → cs.length = k ∧ ∃ a, ok a ∧ RepL (full W) nb (rep a) cs

theorem rd_int {P : Program} {t : TypeId} {k : IntKind} (ht : P.underlying t = some (.int k)) (hc : P.cellsOf t = 1) :
    Rd P t 1 (fun n : Int => [.d (.val (.int k n))]) (fun n => (Lit.int k n).wf = true) := by
  refine ⟨hc, fun H enc W base spare held fuel cs x h => ?_⟩
  obtain ⟨n, rfl, _, hw⟩ := DataW.trod_int ht h
  exact ⟨rfl, n, hw, rfl, trivial⟩
theorem rd_bool {P : Program} {t : TypeId} (ht : P.underlying t = some .bool) (hc : P.cellsOf t = 1) :
    Rd P t 1 (fun b : Bool => [.d (.val (.bool b))]) (fun _ => True) := by
  refine ⟨hc, fun H enc W base spare held fuel cs x h => ?_⟩
  obtain ⟨n, rfl, _⟩ := DataW.trod_bool ht h
  exact ⟨rfl, n, trivial, rfl, trivial⟩
theorem rd_str {P : Program} {t : TypeId} (ht : P.underlying t = some .string) (hc : P.cellsOf t = 1) :
    Rd P t 1 (fun s : ByteArray => [.d (.val (.string s))]) (fun s => s.size ≤ 9223372036854775807) := by
  refine ⟨hc, fun H enc W base spare held fuel cs x h => ?_⟩
  obtain ⟨n, rfl, _, hs⟩ := DataW.trod_string ht h
  exact ⟨rfl, n, hs, rfl, trivial⟩
theorem Rd.to {P : Program} {t : TypeId} {k : Nat} {α β : Type} {rep : α → List SV} {ok : α → Prop} {rep' : β → List SV} {ok' : β → Prop} (h : Rd P t k rep ok) (g : α → β) (hr : ∀ a, rep' (g a) = rep a) (ho : ∀ a, ok a → ok' (g a)) : Rd P t k rep' ok' := by
  refine ⟨h.1, fun H enc W base spare held fuel cs x e => ?_⟩
  obtain ⟨hl, a, ha, hrep⟩ := h.2 H enc W base spare held fuel cs x e
  exact ⟨hl, g a, ho a ha, by rw [hr]; exact hrep⟩

theorem repL_get {M : Mem} {β : Nm} {el : Nat → DV} : ∀ {cs : List SV} {vs : List Value}, RepL M β cs vs → (∀ j, j < cs.length → cs[j]? = some (.d (el j))) → ∀ j, j < cs.length → ∃ u, vs[j]? = some u ∧ (el j).Rep M u := by
  intro cs vs hr he j hj
  obtain ⟨u, hu, r⟩ := hr.get (he j hj)
  exact ⟨u, hu, r⟩

theorem rd_slice {P : Program} {t e : TypeId} {s : Nat} {α : Type} [Inhabited α] {rep : α → List SV} {ok : α → Prop} (ht : P.underlying t = some (.slice e)) (hc : P.cellsOf t = 1) (h : Rd P e s rep ok) (hs : 0 < s)
    (el : α → Nat → DV) (hl : ∀ a, (rep a).length = s) (hel : ∀ a j, j < s → (rep a)[j]? = some (.d (el a j))) :
    Rd P t 1 (fun l : List α => [.d (.slc l.length s fun i => el (l.getD i default))]) (fun l => l.length ≤ 9223372036854775807 ∧ ∀ a ∈ l, ok a) := by
  refine ⟨hc, fun H enc W base spare held fuel cs x hx => ?_⟩
  rcases Go.Deep.open_slice ht hx with ⟨rfl, _⟩ | ⟨a, len, cap, m, n, D, Pl, rfl, hb, hle, hm, hmm, _, hcell⟩
  · exact ⟨rfl, [], ⟨by simp, by simp⟩, ⟨none, 0, rfl, Nat.le_refl _, .inl rfl⟩, trivial⟩
  · have hlm : len ≤ m := by rw [hmm]; split <;> omega
    have key : ∀ i, i < len → ∃ v : α, ok v ∧ ∀ j, j < s → ∃ u, W.cell? (a.add (i * s + j)) = some u ∧ (el v j).Rep (full W) u := by
      intro i hi
      obtain ⟨cs', h1, h2⟩ := hcell i (by omega)
      obtain ⟨hlen, v, hv, hr⟩ := h.2 H enc W base spare held n cs' _ h2
      refine ⟨v, hv, fun j hj => ?_⟩
      obtain ⟨u, hu, r⟩ := repL_get (el := el v) hr (fun j hj => hel v j (by rw [hl] at hj; exact hj)) j (by rw [hl]; exact hj)
      obtain ⟨_, _, h3⟩ := World.cells?_some h1
      have := h3 j (by rw [h.1]; exact hj)
      rw [hu, Go.Deep.add_add, h.1] at this
      exact ⟨u, this, r⟩
    obtain ⟨F, hF⟩ := Go.Deep.choose_lt key
    refine ⟨rfl, (List.range len).map F, ⟨by have : maxLen = 9223372036854775807 := rfl; simp; omega, ?_⟩, ⟨some a, cap, by simp, by simpa using hle, ?_⟩, trivial⟩
    · intro v hv
      simp only [List.mem_map, List.mem_range] at hv
      obtain ⟨i, hi, rfl⟩ := hv
      exact (hF i hi).1
    · by_cases h0 : len = 0
      · exact .inl (by simp [h0])
      right
      obtain ⟨u0, hu0, _⟩ := (hF 0 (by omega)).2 0 hs
      obtain ⟨b, o, spot⟩ := a
      have hspot : spot = none := by
        have := World.cell?_spot hu0
        simpa [Addr.add] using this
      subst hspot
      refine ⟨b, o, rfl, fun i j hi hj => ?_⟩
      simp only [List.length_map, List.length_range] at hi
      obtain ⟨u, hu, r⟩ := (hF i hi).2 j hj
      refine ⟨u, ?_, ?_⟩
      · rw [cell_add, ← Nat.add_assoc] at hu
        exact hu
      · show (el (((List.range len).map F).getD i default) j).Rep (full W) u
        rw [show ((List.range len).map F).getD i default = F i by simp [hi]]
        exact r

/-- Fields from an offset on. -/
def RdF (P : Program) (fs : List Field) (off k : Nat) {α : Type} (rep : α → List SV) (ok : α → Prop) : Prop :=
  ∀ (H : Type) (enc : TypeId × Value → H) (W : World) (base : Nat) (spare : Nat → Bool) (held : Bool) (n : Nat) (cs : List Value), cs.length = k →
    (∀ f ∈ fs, ∃ x, DataW.trod enc P W base spare held n f.type ((cs.drop f.offset).take (P.cellsOf f.type)) = some x) → ∃ a, ok a ∧ RepL (full W) nb (rep a) (cs.drop off)
theorem rdf_nil {P : Program} {k : Nat} : RdF P [] k k (fun _ : Unit => []) (fun _ => True) := by
  intro H enc W base spare held n cs hk _
  rw [List.drop_eq_nil_of_le (by omega)]
  exact ⟨(), trivial, trivial⟩
theorem rdf_cons {P : Program} {f : Field} {fs : List Field} {off k s : Nat} {α β : Type} {rep : α → List SV} {ok : α → Prop} {rep' : β → List SV} {ok' : β → Prop}
    (ho : f.offset = off) (h : Rd P f.type s rep ok) (r : RdF P fs (off + s) k rep' ok') : RdF P (f :: fs) off k (fun a : α × β => rep a.1 ++ rep' a.2) (fun a => ok a.1 ∧ ok' a.2) := by
  intro H enc W base spare held n cs hk hf
  obtain ⟨x, hx⟩ := hf f (by simp)
  obtain ⟨hlen, a, ha, hr⟩ := h.2 H enc W base spare held n _ x hx
  obtain ⟨b, hb, hr'⟩ := r H enc W base spare held n cs hk (fun g hg => hf g (by simp [hg]))
  refine ⟨(a, b), ⟨ha, hb⟩, ?_⟩
  rw [h.1, ho] at hr
  have := hr.append hr'
  rw [← List.drop_drop, List.take_append_drop] at this
  exact this
theorem rd_struct {P : Program} {t : TypeId} {fs : Array Field} {l : List Field} {k : Nat} {α : Type} {rep : α → List SV} {ok : α → Prop} (ht : P.underlying t = some (.struct fs)) (hl : fs.toList = l) (hc : P.cellsOf t = k) (h : RdF P l 0 k rep ok) :
    Rd P t k rep ok := by
  refine ⟨hc, fun H enc W base spare held fuel cs x hx => ?_⟩
  obtain ⟨xs, n, _, _, hlen, hxl, hf⟩ := DataW.trod_struct ht hx
  obtain ⟨a, ha, hr⟩ := h H enc W base spare held n cs (by rw [hlen, hc]) (fun f hfm => by
    rw [← hl] at hfm
    obtain ⟨i, hi, e⟩ := List.getElem_of_mem hfm
    have h1 : fs[i]? = some f := by
      rw [← Array.getElem?_toList, List.getElem?_eq_getElem hi, e]
    have := hf i f h1
    rw [List.getElem?_eq_getElem (by rw [hxl]; simpa using hi)] at this
    exact ⟨_, this⟩)
  exact ⟨by rw [hlen, hc], a, ha, by simpa using hr⟩

/-- An argument. -/
def RdA (P : Program) (t : TypeId) {α : Type} (rep : α → AV) (ok : α → Prop) : Prop :=
  ∀ (H : Type) (enc : TypeId × Value → H) (W : World) (b0 base : Nat) (spare : Nat → Bool) (held : Bool) (v : Value) (d : DataW H) (ps : List MemPlace),
    Value.okWide P W .any b0 t v → DataW.Trod enc P W base spare held t v d ps → ∃ a, ok a ∧ (rep a).Rep (full W) nb v
theorem rda_agg {P : Program} {t : TypeId} {fs : Array Field} {k : Nat} {α : Type} {rep : α → List SV} {ok : α → Prop} (ht : P.underlying t = some (.struct fs)) (h : Rd P t k rep ok) : RdA P t (fun a => .g (rep a)) ok := by
  intro H enc W b0 base spare held v d ps hv ⟨fuel, hx⟩
  simp only [Value.okWide, ht] at hv
  obtain ⟨cs, rfl, _⟩ := hv
  obtain ⟨_, a, ha, hr⟩ := h.2 H enc W base spare held fuel _ _ hx
  exact ⟨a, ha, cs.toList, by simp, hr⟩
theorem rda_arr {P : Program} {t e : TypeId} {n k : Nat} {α : Type} {rep : α → List SV} {ok : α → Prop} (ht : P.underlying t = some (.array n e)) (h : Rd P t k rep ok) : RdA P t (fun a => .g (rep a)) ok := by
  intro H enc W b0 base spare held v d ps hv ⟨fuel, hx⟩
  simp only [Value.okWide, ht] at hv
  obtain ⟨cs, rfl, _⟩ := hv
  obtain ⟨_, a, ha, hr⟩ := h.2 H enc W base spare held fuel _ _ hx
  exact ⟨a, ha, cs.toList, by simp, hr⟩
def plainD : TypeDesc → Bool
  | .bool => true
  | .int _ => true
  | .string => true
  | .slice _ => true
  | _ => false
theorem rda_one {P : Program} {t : TypeId} {td : TypeDesc} {α : Type} {rep : α → SV} {ok : α → Prop} (ht : P.underlying t = some td) (hp : plainD td = true) (h : Rd P t 1 (fun a => [rep a]) ok) : RdA P t (fun a => .s (rep a)) ok := by
  intro H enc W b0 base spare held v d ps hv ⟨fuel, hx⟩
  obtain ⟨_, a, ha, hr⟩ := h.2 H enc W base spare held fuel _ _ hx
  have hc : v.cells.toList = [v] := by
    cases v <;> first
      | rfl
      | (simp only [Value.okWide, ht] at hv
         cases td <;> simp_all [Cell.okWide, Cell.ok, plainD])
  rw [hc] at hr
  exact ⟨a, ha, hr.1⟩
end Go.Ax

/- Contracts over boxes of functions without a result: a box of the caller may become another. -/
namespace Go.Ax
open Go.RowKit

def retQ (bx' : BoxL) : Exit → St → Prop
  | .ret, σ => holdB σ.box bx'
  | .normal, σ => holdB σ.box bx'
  | _, _ => False

section
variable {P : Program} {T : List (Nat × TyI)}
theorem callQ_of_ex {rc : List Nat} {f N : Nat} {fn : Func} {c : Code} {args : List AV} {bx : BoxL} {bx' : BoxL} (hf : P.funcs[f]? = some fn) (hb : fn.body = some c) (hN : fn.ntmps = N) (hcall : ∀ vs w, (callFunc f vs).run P w = .ok (.enter f vs) w)
    (hT : TabOK P T) (hm : P.follows .mixedOrders = true) (hl : Nat.ble args.length N = true) (hreal : (bx'.all fun p => p.2.real) = true) (hrs : fn.results.toList = [])
    (h : ∀ cx : Cx, cx.ref = names bx → ex P T N (names bx) rc cx c (initR args bx) (retQ bx')) : CallR P f args bx (.t []) bx' := by
  classical
  refine ⟨hcall, fun M β w vs hr hM hbx hβ => ?_⟩
  refine calls_of_wp hf hb ?_
  let cx : Cx := ⟨w.heap.size, names bx, β⟩
  have hlen := hr.length
  have hl := Nat.le_of_ble_eq_true hl
  have hex : ∀ x, x ∈ names bx → ∃ p, β x = some p := fun x hx => by
    obtain ⟨k, c, e⟩ := hbx.has x hx
    exact ⟨_, e⟩
  have i0 : Inv cx N M β (initR args bx) { tmps := vs.toArray ++ Array.replicate (fn.ntmps - vs.toArray.size) undef, defers := [] } w := by
    refine ⟨rfl, by simp; omega, Nat.le_refl _, fun t => ?_, hM, fun x p e => openB.has (hβ x p e), fun x b e => hbx.rep x b (openB.get e), fun x y b1 b2 b c c' h1 h2 e1 e2 => ?_, fun x b1 b c h1 e => ?_, fun x b1 b c h1 e => ?_, fun x hx => ⟨rfl, hex x hx⟩⟩
    · have := envOf.rep (k := 0) (t := t) (List.replicate (fn.ntmps - vs.length) undef) hr (Nat.zero_le _)
      simp only [Nat.sub_zero] at this
      simp only [initR]
      have e : (vs.toArray ++ Array.replicate (fn.ntmps - vs.toArray.size) undef).getD t undef = (vs ++ List.replicate (fn.ntmps - vs.length) undef).getD t undef := by
        simp [← List.toArray_replicate]
      rw [e]
      exact this
    · exact hbx.inj x y b c c' (mem_names (openB.get h1)) (mem_names (openB.get h2)) e1 e2
    · exact hbx.apart x b c (mem_names (openB.get h1)) e
    · exact .inr ⟨x, c, mem_names (openB.get h1), e⟩
  refine wp_mono (ex.sound hT hm (cx := cx) rfl c (h cx rfl) M β _ w i0) ?_
  rintro e a' w' ⟨σ', M', β', hk, i', hg, hkp⟩
  have fin : holdB σ'.box bx' → a'.defers = [] ∧ ∃ v, (results fn a'.tmps).run P w' = .ok v w' ∧ ∃ v' M' β', Ending.returned v = .returned v' ∧ Nm.le β β' ∧ (AV.t []).Rep M' β' v' ∧ Grow w.heap.size M M' ∧ MemOK M' w' ∧ BoxesOK M' β' w' bx' ∧
      (∀ x b c, x ∈ names bx' → β' x = some (b, c) → w.heap.size ≤ b ∨ ∃ y c', β y = some (b, c')) ∧
      w'.os = w.os ∧ w'.tape = w.tape ∧ w'.output = w.output ∧ w.heap.size ≤ w'.heap.size ∧ (∀ k, k < w.heap.size → (∀ y c, β y ≠ some (k, c)) → w'.heap[k]? = w.heap[k]?) ∧ w.drawn ≤ w'.drawn := by
    intro hhold
    have hlive : ∀ x, x ∈ names bx' → ∃ b, getB σ'.box x = some (some b) := fun x hx => by
      obtain ⟨b, hb⟩ := of_names hx
      exact ⟨b, holdB.get hhold hb⟩
    refine ⟨i'.defers, .tuple #[], ?_, _, M', β', rfl, ?_, ⟨[], rfl, trivial⟩, hg, i'.mem, ?_, ?_, hkp.os, hkp.tape, hkp.output, hkp.size, ?_, hkp.drawn⟩
    · have e0 : fn.results = #[] := by
        rw [← Array.toArray_toList (xs := fn.results), hrs]
      have : (fn.results.mapM (resSem a'.tmps)).run P w' = .ok #[] w' := by
        rw [e0]; simp only [Array.mapM_empty, Sem.run_pure]
      have e : results fn a'.tmps = (do let vs ← fn.results.mapM (resSem a'.tmps); pure (if h : vs.size = 1 then vs[0] else .tuple vs)) := by
        unfold results
        congr 1
      rw [e]
      simp only [Sem.run_bind, this, Result.andThen, Sem.run_pure]
      rfl
    · intro x p e
      rw [(i'.ref x (hβ x p e)).1]
      exact e
    · refine ⟨fun x hx => ?_, fun x b hb => i'.box x b (holdB.get hhold hb), fun x y b c c' hx hy e1 e2 => ?_, fun x b c hx e o => ?_⟩
      · obtain ⟨b, hb⟩ := of_names hx
        rw [List.all_eq_true] at hreal
        exact (i'.box x b (holdB.get hhold hb)).exb (hreal _ hb)
      · obtain ⟨bx1, h1⟩ := hlive x hx
        obtain ⟨bx2, h2⟩ := hlive y hy
        exact i'.inj x y bx1 bx2 b c c' h1 h2 e1 e2
      · obtain ⟨bx1, h1⟩ := hlive x hx
        exact i'.apart x bx1 b c h1 e o
    · intro x b c hx e
      obtain ⟨bx1, h1⟩ := hlive x hx
      rcases i'.low x bx1 b c h1 e with h | ⟨y, c', hy, hy2⟩
      · exact .inl h
      · exact .inr ⟨y, c', hy2⟩
    · intro k hk hnk
      exact hkp.block k hk (by rintro ⟨x, c, _, hx⟩; exact hnk x c hx)
  cases e with
  | ret => exact fin hk
  | normal => exact fin hk
  | _ => exact hk.elim
end
end Go.Ax

/- A search through cells, as plain lists: what 'way' computes. -/
namespace Go.Ch
open Go.Ax

theorem findM_set (k v x : Int) : ∀ l : List (Int × Int), findM (setM l k v) x = bif x == k then some v else findM l x
  | [] => rfl
  | (a, u) :: r => by
    rw [setM]
    cases hk : k == a with
    | true =>
      simp only [cond_true, findM]
      have : k = a := by simpa using hk
      subst this
      cases x == k <;> rfl
    | false =>
      simp only [cond_false, findM, findM_set k v x r]
      cases hx : x == a with
      | true =>
        have : x = a := by simpa using hx
        subst this
        have : (x == k) = false := by
          cases h : x == k with
          | false => rfl
          | true => have : x = k := by simpa using h
                    subst this; simp at hk
        rw [this]; rfl
      | false => rfl
theorem hasM_set {l : List (Int × Int)} {k v x : Int} : hasM (setM l k v) x = (x == k || hasM l x) := by
  unfold hasM
  rw [findM_set]
  cases x == k <;> simp
theorem getM_set {l : List (Int × Int)} {k v x : Int} : getM (setM l k v) x = bif x == k then v else getM l x := by
  unfold getM
  rw [findM_set]
  cases x == k <;> simp
theorem setM_new {k v : Int} : ∀ {l : List (Int × Int)}, hasM l k = false → setM l k v = l ++ [(k, v)]
  | [], _ => rfl
  | (a, u) :: r, h => by
    unfold hasM at h
    rw [findM] at h
    cases hk : k == a with
    | true => rw [hk] at h; cases h
    | false =>
      rw [hk] at h
      rw [setM, hk]
      exact congrArg ((a, u) :: ·) (setM_new (l := r) h)
theorem hasM_mem {x : Int} : ∀ {l : List (Int × Int)}, hasM l x = true ↔ x ∈ l.map (·.1)
  | [] => by simp [hasM, findM]
  | (a, u) :: r => by
    have h := hasM_mem (x := x) (l := r)
    unfold hasM at h ⊢
    rw [findM]
    cases hk : x == a with
    | true =>
      have : x = a := by simpa using hk
      subst this
      simp
    | false =>
      have : ¬ x = a := by simpa using hk
      simp [this, h]

/-- The place of a key. -/
def posM : List (Int × Int) → Int → Nat
  | [], _ => 0
  | (a, _) :: r, k => bif k == a then 0 else posM r k + 1
theorem posM_lt {x : Int} : ∀ {l : List (Int × Int)}, hasM l x = true → posM l x < l.length
  | [], h => by simp [hasM, findM] at h
  | (a, u) :: r, h => by
    rw [posM]
    cases hk : x == a with
    | true => simp
    | false =>
      have : hasM r x = true := by
        unfold hasM at h ⊢
        rw [findM, hk] at h
        exact h
      have := posM_lt this
      simp; omega
theorem posM_old {x k v : Int} : ∀ {l : List (Int × Int)}, hasM l x = true → posM (l ++ [(k, v)]) x = posM l x
  | [], h => by simp [hasM, findM] at h
  | (a, u) :: r, h => by
    rw [List.cons_append, posM, posM]
    cases hk : x == a with
    | true => rfl
    | false =>
      have : hasM r x = true := by
        unfold hasM at h ⊢
        rw [findM, hk] at h
        exact h
      simp only [cond_false, posM_old this]
theorem posM_new {k v : Int} : ∀ {l : List (Int × Int)}, hasM l k = false → posM (l ++ [(k, v)]) k = l.length
  | [], _ => by simp [posM]
  | (a, u) :: r, h => by
    have hk : (k == a) = false := by
      cases hk : k == a with
      | false => rfl
      | true => unfold hasM at h; rw [findM, hk] at h; cases h
    have h' : hasM r k = false := by
      unfold hasM at h ⊢
      rw [findM, hk] at h
      exact h
    rw [List.cons_append, posM, hk, cond_false, posM_new h', List.length_cons]

theorem countP_drop {α : Type} {p q : α → Bool} : ∀ {l : List α}, (∀ x ∈ l, q x = true → p x = true) → (∃ x ∈ l, p x = true ∧ q x = false) → l.countP q + 1 ≤ l.countP p
  | [], _, ⟨_, h, _⟩ => by cases h
  | y :: r, h, ⟨x, hx, hp, hq⟩ => by
    have hr : r.countP q ≤ r.countP p := List.countP_mono_left fun z hz => h z (List.mem_cons_of_mem _ hz)
    rw [List.countP_cons, List.countP_cons]
    rcases List.mem_cons.1 hx with rfl | hx
    · rw [hp, hq]; simp; omega
    · have := countP_drop (p := p) (q := q) (l := r) (fun z hz => h z (List.mem_cons_of_mem _ hz)) ⟨x, hx, hp, hq⟩
      have h1 := h y (List.mem_cons_self ..)
      cases hq' : q y with
      | false => simp; cases p y <;> simp <;> omega
      | true => rw [h1 hq']; simp; omega

/-- How many cells have not been seen. -/
def unseen (n : Nat) (b : List (Int × Int)) : Nat := (List.range n).countP fun i : Nat => !hasM b (i : Int)
theorem unseen_set {n : Nat} {b : List (Int × Int)} {k v : Int} (h0 : 0 ≤ k) (hn : k < n) (h : hasM b k = false) : unseen n (setM b k v) + 1 ≤ unseen n b := by
  refine countP_drop (fun x _ hx => ?_) ⟨k.toNat, List.mem_range.2 (by omega), ?_, ?_⟩
  · rw [hasM_set] at hx
    cases hb : hasM b (x : Int) with
    | false => rfl
    | true => rw [hb] at hx; simp at hx
  · rw [show ((k.toNat : Nat) : Int) = k by omega, h]; rfl
  · rw [hasM_set, show ((k.toNat : Nat) : Int) = k by omega]; simp

abbrev BS := List (Int × Int) × List Int
def seedS (ok : Int → Bool) (s : BS) (i : Int) : BS := bif !hasM s.1 i && ok i then (setM s.1 i i, s.2 ++ [i]) else s
def pushS (ok : Int → Bool) (i : Int) (s : BS) (k : Int) : BS := bif hasM s.1 k || !ok k then s else (setM s.1 k i, s.2 ++ [k])
def seedL (ok : Int → Bool) (l : List Int) : BS := l.foldl (seedS ok) ([], [])
def pushL (ok : Int → Bool) (i : Int) (l : List Int) (s : BS) : BS := l.foldl (pushS ok i) s
def searchL (ok : Int → Bool) (nr : Int → List Int) (to : List Int) : Nat → BS → BS
  | 0, s => s
  | _ + 1, (b, []) => (b, [])
  | m + 1, (b, i :: r) => bif to.contains i then (b, i :: r) else searchL ok nr to m ((pushL ok i (nr i) (b, i :: r)).1, (pushL ok i (nr i) (b, i :: r)).2.tail)
def backL (b : List (Int × Int)) : Nat → Int → List Int → List Int
  | 0, _, out => out
  | m + 1, i, out => bif getM b i == i then out else backL b m (getM b i) (out ++ [getM b i])
def wayS (n : Nat) (ok : Int → Bool) (nr : Int → List Int) (fr to : List Int) : BS := searchL ok nr to n (seedL ok fr)
def wayL (n : Nat) (ok : Int → Bool) (nr : Int → List Int) (fr to : List Int) : List Int :=
  match (wayS n ok nr fr to).2 with
  | [] => []
  | i :: _ => (backL (wayS n ok nr fr to).1 (wayS n ok nr fr to).1.length i [i]).reverse

/-- What holds at each step of the search. -/
structure Bw (n : Nat) (ok : Int → Bool) (s : BS) : Prop where
  mem : ∀ x ∈ s.2, hasM s.1 x = true
  par : ∀ k, hasM s.1 k = true → getM s.1 k = k ∨ (hasM s.1 (getM s.1 k) = true ∧ posM s.1 (getM s.1 k) < posM s.1 k)
  key : ∀ k, hasM s.1 k = true → ok k = true
  cnt : s.1.length + unseen n s.1 ≤ n
def muS (n : Nat) (s : BS) : Nat := s.2.length + unseen n s.1
theorem Bw.put {n : Nat} {ok : Int → Bool} {s : BS} {k v : Int} (h : Bw n ok s) (hok : ∀ i, ok i = true → 0 ≤ i ∧ i < n) (hk : ok k = true) (hn : hasM s.1 k = false) (hv : v = k ∨ hasM s.1 v = true) :
    Bw n ok (setM s.1 k v, s.2 ++ [k]) ∧ muS n (setM s.1 k v, s.2 ++ [k]) ≤ muS n s := by
  have hr := hok k hk
  have hu := unseen_set (v := v) hr.1 hr.2 hn
  have hl := setM_new (v := v) hn
  have hc := h.cnt
  refine ⟨⟨?_, ?_, ?_, ?_⟩, ?_⟩
  · intro x hx
    show hasM (setM s.1 k v) x = true
    rw [hasM_set]
    rcases List.mem_append.1 hx with hx | hx
    · rw [h.mem x hx]; simp
    · have : x = k := by simpa using hx
      subst this; simp
  · intro x hx
    show getM (setM s.1 k v) x = x ∨ (hasM (setM s.1 k v) (getM (setM s.1 k v) x) = true ∧ posM (setM s.1 k v) (getM (setM s.1 k v) x) < posM (setM s.1 k v) x)
    have hx : hasM (setM s.1 k v) x = true := hx
    rw [hasM_set] at hx
    cases hxk : x == k with
    | true =>
      have : x = k := by simpa using hxk
      subst this
      rw [getM_set, hxk, cond_true]
      rcases hv with rfl | hv
      · exact .inl rfl
      · refine .inr ⟨by rw [hasM_set, hv]; simp, ?_⟩
        rw [hl, posM_old hv, posM_new hn]
        exact posM_lt hv
    | false =>
      rw [hxk, Bool.false_or] at hx
      rw [getM_set, hxk, cond_false]
      rcases h.par x hx with e | ⟨e, p⟩
      · exact .inl e
      · refine .inr ⟨by rw [hasM_set, e]; simp, ?_⟩
        rw [hl, posM_old e, posM_old hx]
        exact p
  · intro x hx
    have hx : hasM (setM s.1 k v) x = true := hx
    rw [hasM_set] at hx
    cases hxk : x == k with
    | true => have : x = k := by simpa using hxk
              subst this; exact hk
    | false => rw [hxk, Bool.false_or] at hx; exact h.key x hx
  · show (setM s.1 k v).length + unseen n (setM s.1 k v) ≤ n
    rw [hl] at hu ⊢
    rw [List.length_append, List.length_singleton]
    omega
  · show (s.2 ++ [k]).length + unseen n (setM s.1 k v) ≤ s.2.length + unseen n s.1
    rw [List.length_append, List.length_singleton]
    omega
theorem Bw.nil {n : Nat} {ok : Int → Bool} : Bw n ok ([], []) :=
  ⟨fun x hx => (by cases hx), fun k hk => (by cases hk), fun k hk => (by cases hk), by
    show 0 + unseen n [] ≤ n
    rw [Nat.zero_add]
    exact Nat.le_trans List.countP_le_length (by simp)⟩
theorem Bw.seed {n : Nat} {ok : Int → Bool} {s : BS} {i : Int} (h : Bw n ok s) (hok : ∀ i, ok i = true → 0 ≤ i ∧ i < n) : Bw n ok (seedS ok s i) ∧ muS n (seedS ok s i) ≤ muS n s := by
  unfold seedS
  cases hb : hasM s.1 i with
  | true => exact ⟨h, Nat.le_refl _⟩
  | false =>
    cases hk : ok i with
    | false => exact ⟨h, Nat.le_refl _⟩
    | true => exact h.put hok hk hb (.inl rfl)
theorem Bw.push {n : Nat} {ok : Int → Bool} {s : BS} {i k : Int} (h : Bw n ok s) (hok : ∀ i, ok i = true → 0 ≤ i ∧ i < n) (hi : hasM s.1 i = true) :
    Bw n ok (pushS ok i s k) ∧ muS n (pushS ok i s k) ≤ muS n s ∧ hasM (pushS ok i s k).1 i = true := by
  unfold pushS
  cases hb : hasM s.1 k with
  | true => exact ⟨h, Nat.le_refl _, hi⟩
  | false =>
    cases hk : ok k with
    | false => exact ⟨h, Nat.le_refl _, hi⟩
    | true =>
      have := h.put hok hk hb (.inr hi)
      refine ⟨this.1, this.2, ?_⟩
      show hasM (setM s.1 k i) i = true
      rw [hasM_set, hi]; simp
theorem muS_nil {n : Nat} : muS n ([], []) ≤ n := by
  show 0 + unseen n [] ≤ n
  rw [Nat.zero_add]
  exact Nat.le_trans List.countP_le_length (by simp)
theorem foldl_take {α β : Type} {f : β → α → β} {b : β} {l : List α} {i : Nat} (h : i < l.length) : (l.take (i + 1)).foldl f b = f ((l.take i).foldl f b) l[i] := by
  rw [List.take_succ_eq_append_getElem h, List.foldl_append]; rfl
theorem Bw.seeds {n : Nat} {ok : Int → Bool} (hok : ∀ i, ok i = true → 0 ≤ i ∧ i < n) {l : List Int} : ∀ i, i ≤ l.length → Bw n ok ((l.take i).foldl (seedS ok) ([], [])) ∧ muS n ((l.take i).foldl (seedS ok) ([], [])) ≤ n
  | 0, _ => ⟨Bw.nil, muS_nil⟩
  | i + 1, h => by
    have ih := Bw.seeds hok (l := l) i (by omega)
    rw [foldl_take (by omega)]
    have := ih.1.seed hok (i := l[i])
    exact ⟨this.1, Nat.le_trans this.2 ih.2⟩
theorem Bw.pushes {n : Nat} {ok : Int → Bool} (hok : ∀ i, ok i = true → 0 ≤ i ∧ i < n) {c : Int} {s : BS} (h : Bw n ok s) (hc : hasM s.1 c = true) {l : List Int} :
    ∀ i, i ≤ l.length → Bw n ok ((l.take i).foldl (pushS ok c) s) ∧ muS n ((l.take i).foldl (pushS ok c) s) ≤ muS n s ∧ hasM ((l.take i).foldl (pushS ok c) s).1 c = true
  | 0, _ => ⟨h, Nat.le_refl _, hc⟩
  | i + 1, hi => by
    have ih := Bw.pushes hok h hc (l := l) i (by omega)
    rw [foldl_take (by omega)]
    have := ih.1.push hok (k := l[i]) ih.2.2
    exact ⟨this.1, Nat.le_trans this.2.1 ih.2.1, this.2.2⟩
theorem push_head {ok : Int → Bool} {c : Int} {s : BS} {k i : Int} {r : List Int} (h : s.2 = i :: r) : ∃ r', (pushS ok c s k).2 = i :: r' := by
  unfold pushS
  cases hasM s.1 k || !ok k with
  | true => exact ⟨r, h⟩
  | false => exact ⟨r ++ [k], by rw [cond_false, h]; rfl⟩
theorem pushes_head {ok : Int → Bool} {c : Int} {s : BS} {i : Int} {r : List Int} (h : s.2 = i :: r) (l : List Int) : ∃ r', (l.foldl (pushS ok c) s).2 = i :: r' := by
  induction l generalizing s r with
  | nil => exact ⟨r, h⟩
  | cons k l ih => obtain ⟨r', h'⟩ := push_head (ok := ok) (c := c) (k := k) h; exact ih h'
theorem Bw.tail {n : Nat} {ok : Int → Bool} {s : BS} (h : Bw n ok s) : Bw n ok (s.1, s.2.tail) :=
  ⟨fun x hx => h.mem x (List.mem_of_mem_tail hx), h.par, h.key, h.cnt⟩
end Go.Ch

/- The search is right: what it returns is a way, and where it returns none there is none. -/
namespace Go.Ch
open Go.Ax

def upL (nr : Int → List Int) (l : List Int) : Prop := ∀ k, k + 1 < l.length → l.getD k 0 ∈ nr (l.getD (k + 1) 0)
def linkL (nr : Int → List Int) (l : List Int) : Prop := ∀ k, k + 1 < l.length → l.getD (k + 1) 0 ∈ nr (l.getD k 0)
theorem getD_app {l : List Int} {x : Int} {k : Nat} : (l ++ [x]).getD k 0 = if k < l.length then l.getD k 0 else if k = l.length then x else 0 := by
  simp only [List.getD_eq_getElem?_getD]
  by_cases h : k < l.length
  · rw [if_pos h, List.getElem?_append_left h]
  · rw [if_neg h, List.getElem?_append_right (by omega)]
    by_cases e : k = l.length
    · subst e; simp
    · rw [if_neg e, List.getElem?_eq_none (by simp; omega)]; rfl
theorem upL_snoc {nr : Int → List Int} {l : List Int} {i x : Int} (h : upL nr l) (hl : l.getLast? = some i) (hx : i ∈ nr x) : upL nr (l ++ [x]) := by
  intro k hk
  rw [List.length_append, List.length_singleton] at hk
  have e0 : (l ++ [x]).getD k 0 = l.getD k 0 := by rw [getD_app]; exact if_pos (by omega)
  rw [e0]
  by_cases e : k + 1 < l.length
  · have e1 : (l ++ [x]).getD (k + 1) 0 = l.getD (k + 1) 0 := by rw [getD_app]; exact if_pos e
    rw [e1]; exact h k e
  · have e2 : k + 1 = l.length := by omega
    have e1 : (l ++ [x]).getD (k + 1) 0 = x := by rw [getD_app, if_neg e, if_pos e2]
    rw [e1]
    rw [List.getLast?_eq_getElem?, show l.length - 1 = k by omega] at hl
    rw [List.getD_eq_getElem?_getD, hl]; exact hx
theorem upL_rev {nr : Int → List Int} {l : List Int} (h : upL nr l) : linkL nr l.reverse := by
  intro k hk
  rw [List.length_reverse] at hk
  simp only [List.getD_eq_getElem?_getD]
  rw [List.getElem?_reverse (by omega), List.getElem?_reverse (by omega)]
  have := h (l.length - 1 - (k + 1)) (by omega)
  simp only [List.getD_eq_getElem?_getD] at this
  rw [show l.length - 1 - k = l.length - 1 - (k + 1) + 1 by omega]
  exact this

theorem backL_spec {nr : Int → List Int} {b : List (Int × Int)} (hp : ∀ k, hasM b k = true → getM b k = k ∨ (hasM b (getM b k) = true ∧ posM b (getM b k) < posM b k))
    (hn : ∀ k, hasM b k = true → getM b k ≠ k → k ∈ nr (getM b k)) : ∀ (m : Nat) (i : Int) (out : List Int), hasM b i = true → posM b i ≤ m → out.getLast? = some i → upL nr out → (∀ x ∈ out, hasM b x = true) →
    upL nr (backL b m i out) ∧ (backL b m i out).head? = out.head? ∧ (∀ x ∈ backL b m i out, hasM b x = true) ∧ ∃ r, (backL b m i out).getLast? = some r ∧ getM b r = r
  | 0, i, out, hi, hpos, hl, hu, hx => by
    refine ⟨hu, rfl, hx, i, hl, ?_⟩
    rcases hp i hi with h | ⟨_, h⟩
    · exact h
    · omega
  | m + 1, i, out, hi, hpos, hl, hu, hx => by
    rw [backL]
    cases he : getM b i == i with
    | true => exact ⟨hu, rfl, hx, i, hl, by simpa using he⟩
    | false =>
      have he' : getM b i ≠ i := by simpa using he
      rcases hp i hi with h | ⟨h1, h2⟩
      · exact absurd h he'
      · have ih := backL_spec hp hn m (getM b i) (out ++ [getM b i]) h1 (by omega) (by simp) (upL_snoc hu hl (hn i hi he')) (fun x h => by
          rcases List.mem_append.1 h with h | h
          · exact hx x h
          · have : x = getM b i := by simpa using h
            rw [this]; exact h1)
        refine ⟨ih.1, ih.2.1.trans ?_, ih.2.2⟩
        cases out with
        | nil => cases hl
        | cons a r => rfl

/-- The cells that have been taken: their neighbours have been seen. -/
structure Bd (ok : Int → Bool) (nr : Int → List Int) (fr to : List Int) (s : BS) : Prop where
  root : ∀ k, hasM s.1 k = true → getM s.1 k = k → k ∈ fr ∨ k ∈ nr k
  link : ∀ k, hasM s.1 k = true → getM s.1 k ≠ k → k ∈ nr (getM s.1 k)
  done : ∀ k, hasM s.1 k = true → k ∈ s.2 ∨ (k ∉ to ∧ ∀ y ∈ nr k, ok y = true → hasM s.1 y = true)
theorem Bd.put {ok : Int → Bool} {nr : Int → List Int} {fr to : List Int} {s : BS} {k v : Int} (h : Bd ok nr fr to s) (hn : hasM s.1 k = false) (hv : (v = k ∧ k ∈ fr) ∨ k ∈ nr v) :
    Bd ok nr fr to (setM s.1 k v, s.2 ++ [k]) := by
  refine ⟨?_, ?_, ?_⟩
  · intro x hx
    show getM (setM s.1 k v) x = x → _
    have hx : hasM (setM s.1 k v) x = true := hx
    rw [hasM_set] at hx
    rw [getM_set]
    cases hxk : x == k with
    | true =>
      have : x = k := by simpa using hxk
      subst this
      rw [cond_true]
      intro e
      rcases hv with ⟨_, h⟩ | h
      · exact .inl h
      · rw [e] at h; exact .inr h
    | false => rw [hxk, Bool.false_or] at hx; exact h.root x hx
  · intro x hx
    show getM (setM s.1 k v) x ≠ x → x ∈ nr (getM (setM s.1 k v) x)
    have hx : hasM (setM s.1 k v) x = true := hx
    rw [hasM_set] at hx
    rw [getM_set]
    cases hxk : x == k with
    | true =>
      have : x = k := by simpa using hxk
      subst this
      rw [cond_true]
      intro e
      rcases hv with ⟨h, _⟩ | h
      · exact absurd h e
      · exact h
    | false => rw [hxk, Bool.false_or] at hx; exact h.link x hx
  · intro x hx
    have hx : hasM (setM s.1 k v) x = true := hx
    rw [hasM_set] at hx
    show x ∈ s.2 ++ [k] ∨ (x ∉ to ∧ ∀ y ∈ nr x, ok y = true → hasM (setM s.1 k v) y = true)
    cases hxk : x == k with
    | true =>
      have : x = k := by simpa using hxk
      subst this
      exact .inl (by simp)
    | false =>
      rw [hxk, Bool.false_or] at hx
      rcases h.done x hx with e | ⟨e1, e2⟩
      · exact .inl (List.mem_append_left _ e)
      · exact .inr ⟨e1, fun y hy hk => by rw [hasM_set, e2 y hy hk]; simp⟩
theorem pushL_spec {ok : Int → Bool} {nr : Int → List Int} {fr to : List Int} {i : Int} : ∀ (l : List Int) (s : BS), (∀ y ∈ l, y ∈ nr i) → Bd ok nr fr to s →
    Bd ok nr fr to (pushL ok i l s) ∧ (∀ y ∈ l, ok y = true → hasM (pushL ok i l s).1 y = true) ∧ (∀ y, hasM s.1 y = true → hasM (pushL ok i l s).1 y = true)
  | [], s, _, h => ⟨h, fun y hy => (by cases hy), fun _ h => h⟩
  | k :: l, s, hl, h => by
    have key : Bd ok nr fr to (pushS ok i s k) ∧ (ok k = true → hasM (pushS ok i s k).1 k = true) ∧ (∀ y, hasM s.1 y = true → hasM (pushS ok i s k).1 y = true) := by
      unfold pushS
      cases hb : hasM s.1 k with
      | true => exact ⟨h, fun _ => hb, fun _ h => h⟩
      | false =>
        cases hk : ok k with
        | false => exact ⟨h, fun e => (by cases e), fun _ h => h⟩
        | true =>
          refine ⟨h.put hb (.inr (hl k (List.mem_cons_self ..))), fun _ => ?_, fun y hy => ?_⟩
          · show hasM (setM s.1 k i) k = true
            rw [hasM_set]; simp
          · show hasM (setM s.1 k i) y = true
            rw [hasM_set, hy]; simp
    have ih := pushL_spec (i := i) l (pushS ok i s k) (fun y hy => hl y (List.mem_cons_of_mem _ hy)) key.1
    refine ⟨ih.1, fun y hy hk => ?_, fun y hy => ih.2.2 y (key.2.2 y hy)⟩
    rcases List.mem_cons.1 hy with rfl | hy
    · exact ih.2.2 _ (key.2.1 hk)
    · exact ih.2.1 y hy hk
theorem seedL_spec {ok : Int → Bool} {nr : Int → List Int} {fr to : List Int} : ∀ (l : List Int) (s : BS), (∀ y ∈ l, y ∈ fr) → Bd ok nr fr to s →
    Bd ok nr fr to (l.foldl (seedS ok) s) ∧ (∀ y ∈ l, ok y = true → hasM (l.foldl (seedS ok) s).1 y = true) ∧ (∀ y, hasM s.1 y = true → hasM (l.foldl (seedS ok) s).1 y = true)
  | [], s, _, h => ⟨h, fun y hy => (by cases hy), fun _ h => h⟩
  | k :: l, s, hl, h => by
    have key : Bd ok nr fr to (seedS ok s k) ∧ (ok k = true → hasM (seedS ok s k).1 k = true) ∧ (∀ y, hasM s.1 y = true → hasM (seedS ok s k).1 y = true) := by
      unfold seedS
      cases hb : hasM s.1 k with
      | true => exact ⟨h, fun _ => hb, fun _ h => h⟩
      | false =>
        cases hk : ok k with
        | false => exact ⟨h, fun e => (by cases e), fun _ h => h⟩
        | true =>
          refine ⟨h.put hb (.inl ⟨rfl, hl k (List.mem_cons_self ..)⟩), fun _ => ?_, fun y hy => ?_⟩
          · show hasM (setM s.1 k k) k = true
            rw [hasM_set]; simp
          · show hasM (setM s.1 k k) y = true
            rw [hasM_set, hy]; simp
    have ih := seedL_spec l (seedS ok s k) (fun y hy => hl y (List.mem_cons_of_mem _ hy)) key.1
    refine ⟨ih.1, fun y hy hk => ?_, fun y hy => ih.2.2 y (key.2.2 y hy)⟩
    rcases List.mem_cons.1 hy with rfl | hy
    · exact ih.2.2 _ (key.2.1 hk)
    · exact ih.2.1 y hy hk
theorem searchL_spec {n : Nat} {ok : Int → Bool} {nr : Int → List Int} {fr to : List Int} (hok : ∀ i, ok i = true → 0 ≤ i ∧ i < n) : ∀ (m : Nat) (s : BS), muS n s ≤ m → Bw n ok s → Bd ok nr fr to s →
    Bw n ok (searchL ok nr to m s) ∧ Bd ok nr fr to (searchL ok nr to m s) ∧ (∀ y, hasM s.1 y = true → hasM (searchL ok nr to m s).1 y = true) ∧
    ((searchL ok nr to m s).2 = [] ∨ ∃ i r, (searchL ok nr to m s).2 = i :: r ∧ i ∈ to)
  | 0, s, hm, w, d => by
    refine ⟨w, d, fun _ h => h, .inl ?_⟩
    have : s.2.length = 0 := by unfold muS at hm; omega
    show s.2 = []
    exact List.eq_nil_of_length_eq_zero this
  | m + 1, (b, []), hm, w, d => ⟨w, d, fun _ h => h, .inl rfl⟩
  | m + 1, (b, i :: r), hm, w, d => by
    rw [searchL]
    cases hc : to.contains i with
    | true => exact ⟨w, d, fun _ h => h, .inr ⟨i, r, rfl, by simpa using hc⟩⟩
    | false =>
      rw [cond_false]
      have hi : hasM b i = true := w.mem i (List.mem_cons_self ..)
      have p1 := pushL_spec (i := i) (nr i) (b, i :: r) (fun _ h => h) d
      have p2 : Bw n ok (pushL ok i (nr i) (b, i :: r)) ∧ muS n (pushL ok i (nr i) (b, i :: r)) ≤ muS n (b, i :: r) ∧ hasM (pushL ok i (nr i) (b, i :: r)).1 i = true := by
        have := w.pushes hok hi (l := nr i) (nr i).length (Nat.le_refl _)
        rw [List.take_length] at this
        exact this
      obtain ⟨r', hr⟩ := pushes_head (ok := ok) (c := i) (s := (b, i :: r)) rfl (nr i)
      have hr : (pushL ok i (nr i) (b, i :: r)).2 = i :: r' := hr
      have ih := searchL_spec hok m ((pushL ok i (nr i) (b, i :: r)).1, (pushL ok i (nr i) (b, i :: r)).2.tail) (by
          have := p2.2.1
          unfold muS at this hm ⊢
          rw [hr] at this ⊢
          simp only [List.tail_cons, List.length_cons] at this hm ⊢
          omega) p2.1.tail ⟨p1.1.root, p1.1.link, fun k hk => by
            rcases p1.1.done k hk with h | h
            · rw [hr] at h
              rcases List.mem_cons.1 h with rfl | h
              · refine .inr ⟨by simpa using hc, fun y hy ho => p1.2.1 y hy ho⟩
              · refine .inl ?_
                show k ∈ (pushL ok i (nr i) (b, i :: r)).2.tail
                rw [hr]; exact h
            · exact .inr h⟩
      exact ⟨ih.1, ih.2.1, fun y hy => ih.2.2.1 y (p1.2.2 y hy), ih.2.2.2⟩

theorem wayS_spec {n : Nat} {ok : Int → Bool} {nr : Int → List Int} {fr to : List Int} (hok : ∀ i, ok i = true → 0 ≤ i ∧ i < n) :
    Bw n ok (wayS n ok nr fr to) ∧ Bd ok nr fr to (wayS n ok nr fr to) ∧ (∀ y ∈ fr, ok y = true → hasM (wayS n ok nr fr to).1 y = true) ∧
    ((wayS n ok nr fr to).2 = [] ∨ ∃ i r, (wayS n ok nr fr to).2 = i :: r ∧ i ∈ to) := by
  have h1 := Bw.seeds hok (l := fr) fr.length (Nat.le_refl _)
  rw [List.take_length] at h1
  have h2 := seedL_spec (ok := ok) (nr := nr) (to := to) fr ([], []) (fun _ h => h) ⟨fun k h => (by cases h), fun k h => (by cases h), fun k h => (by cases h)⟩
  have h3 := searchL_spec (nr := nr) (fr := fr) (to := to) hok n (seedL ok fr) h1.2 h1.1 h2.1
  exact ⟨h3.1, h3.2.1, fun y hy ho => h3.2.2.1 y (h2.2.1 y hy ho), h3.2.2.2⟩
/-- A way is a way. -/
theorem wayL_some {n : Nat} {ok : Int → Bool} {nr : Int → List Int} {fr to : List Int} (hok : ∀ i, ok i = true → 0 ≤ i ∧ i < n) (hnr : ∀ i, i ∉ nr i) (h : wayL n ok nr fr to ≠ []) :
    linkL nr (wayL n ok nr fr to) ∧ (∀ x ∈ wayL n ok nr fr to, ok x = true) ∧ (∃ a, (wayL n ok nr fr to).head? = some a ∧ a ∈ fr) ∧ ∃ z, (wayL n ok nr fr to).getLast? = some z ∧ z ∈ to := by
  obtain ⟨hw, hd, _, he⟩ := wayS_spec (nr := nr) (fr := fr) (to := to) hok
  unfold wayL at h ⊢
  rcases he with he | ⟨i, r, he, hi⟩
  · rw [he] at h; exact absurd rfl h
  · rw [he]
    simp only
    have hm := hw.mem i (by rw [he]; exact List.mem_cons_self ..)
    obtain ⟨u1, u2, u3, q, u4, u5⟩ := backL_spec hw.par hd.link (wayS n ok nr fr to).1.length i [i] hm (Nat.le_of_lt (posM_lt hm)) rfl (fun k hk => by simp at hk) (fun x hx => by
      have : x = i := by simpa using hx
      rw [this]; exact hm)
    refine ⟨upL_rev u1, fun x hx => hw.key x (u3 x (List.mem_reverse.1 hx)), ⟨q, ?_, ?_⟩, i, ?_, hi⟩
    · rw [List.head?_reverse]; exact u4
    · have hq := u3 q (List.mem_of_getLast? u4)
      rcases hd.root q hq u5 with h | h
      · exact h
      · exact absurd h (hnr q)
    · rw [List.getLast?_reverse]; exact u2
/-- Where no way is returned a closed set of cells leaves out the aim. -/
theorem wayL_none {n : Nat} {ok : Int → Bool} {nr : Int → List Int} {fr to : List Int} (hok : ∀ i, ok i = true → 0 ≤ i ∧ i < n) (h : wayL n ok nr fr to = []) :
    ∃ S : Int → Bool, (∀ y ∈ fr, ok y = true → S y = true) ∧ (∀ x, S x = true → ok x = true ∧ x ∉ to ∧ ∀ y ∈ nr x, ok y = true → S y = true) := by
  obtain ⟨hw, hd, hf, he⟩ := wayS_spec (nr := nr) (fr := fr) (to := to) hok
  rcases he with he | ⟨i, r, he, hi⟩
  · refine ⟨hasM (wayS n ok nr fr to).1, hf, fun x hx => ⟨hw.key x hx, ?_⟩⟩
    rcases hd.done x hx with h | h
    · rw [he] at h; cases h
    · exact h
  · exfalso
    unfold wayL at h
    rw [he] at h
    simp only at h
    have hm := hw.mem i (by rw [he]; exact List.mem_cons_self ..)
    have := (backL_spec hw.par hd.link (wayS n ok nr fr to).1.length i [i] hm (Nat.le_of_lt (posM_lt hm)) rfl (fun k hk => by simp at hk) (fun x hx => by
      have : x = i := by simpa using hx
      rw [this]; exact hm)).2.1
    rw [List.reverse_eq_nil_iff] at h
    rw [h] at this
    cases this
end Go.Ch

/- The different levels, ascending, as plain lists. -/
namespace Go.Ch
open Go.Ax

abbrev leI (x y : Int) : Bool := decide (x ≤ y)
abbrev sortI (l : List Int) : List Int := l.mergeSort fun x y => decide (x ≤ y)
theorem sortI_pw (l : List Int) : (sortI l).Pairwise (fun a b => a ≤ b) :=
  (List.pairwise_mergeSort (le := fun x y : Int => decide (x ≤ y)) (fun a b c h1 h2 => by simp at *; omega) (fun a b => by simp; omega) l).imp fun h => of_decide_eq_true h
theorem sortI_perm {l m : List Int} (h : l.Perm m) : sortI l = sortI m :=
  List.Perm.eq_of_pairwise (le := fun a b => a ≤ b) (fun a b _ _ h1 h2 => by omega) (sortI_pw l) (sortI_pw m)
    ((List.mergeSort_perm l _).trans (h.trans (List.mergeSort_perm m _).symm))
theorem sortI_mem {l : List Int} {x : Int} : x ∈ sortI l ↔ x ∈ l := (List.mergeSort_perm l _).mem_iff
theorem sortI_len {l : List Int} : (sortI l).length = l.length := (List.mergeSort_perm l _).length_eq
def keyAt (b : List (Int × Int)) (i : Nat) : Int := (b.getD i (0, 0)).1
theorem keyAt_range (b : List (Int × Int)) : (List.range b.length).map (keyAt b) = b.map (·.1) := by
  apply List.ext_getElem (by simp)
  intro i h1 h2
  have : i < b.length := by simpa using h1
  simp [keyAt, this]
theorem keys_sort {b : List (Int × Int)} {sn : List Nat} (hn : sn.Nodup) (hlt : ∀ i ∈ sn, i < b.length) (hall : ∀ i, i < b.length → i ∈ sn) : sortI (sn.reverse.map (keyAt b)) = sortI (b.map (·.1)) := by
  refine sortI_perm ?_
  rw [← keyAt_range]
  refine List.Perm.map _ ?_
  refine (List.reverse_perm sn).trans ?_
  exact (List.perm_ext_iff_of_nodup hn List.nodup_range).2 fun i => ⟨fun h => List.mem_range.2 (hlt i h), fun h => hall i (List.mem_range.1 h)⟩

def lvS (lv : List Int) (b : List (Int × Int)) (i : Nat) : List (Int × Int) := bif lv.getD i 0 != 30000 then setM b (lv.getD i 0) 1 else b
def lvF (lv : List Int) : Nat → List (Int × Int)
  | 0 => []
  | i + 1 => lvS lv (lvF lv i) i
theorem setM_len {b : List (Int × Int)} {k v : Int} : (setM b k v).length ≤ b.length + 1 := by
  induction b with
  | nil => simp [setM]
  | cons x r ih =>
    obtain ⟨a, u⟩ := x
    rw [setM]
    cases k == a with
    | true => simp
    | false => simpa using ih
theorem lvF_len (lv : List Int) : ∀ i, (lvF lv i).length ≤ i
  | 0 => Nat.le_refl _
  | i + 1 => by
    have ih := lvF_len lv i
    rw [lvF, lvS]
    cases lv.getD i 0 != 30000 with
    | true => have := setM_len (b := lvF lv i) (k := lv.getD i 0) (v := 1); rw [cond_true]; omega
    | false => rw [cond_false]; omega
theorem lvF_mem (lv : List Int) (x : Int) : ∀ i, i ≤ lv.length → (hasM (lvF lv i) x = true ↔ x ≠ 30000 ∧ ∃ k, k < i ∧ lv.getD k 0 = x)
  | 0, _ => by simp [lvF, hasM, findM]
  | i + 1, h => by
    have ih := lvF_mem lv x i (by omega)
    rw [lvF, lvS]
    cases hk : lv.getD i 0 != 30000 with
    | true =>
      have hk' : lv.getD i 0 ≠ 30000 := by simpa using hk
      rw [cond_true, hasM_set, Bool.or_eq_true, ih]
      constructor
      · rintro (e | ⟨e, k, h1, h2⟩)
        · have e : x = lv.getD i 0 := by simpa using e
          exact ⟨by rw [e]; exact hk', i, by omega, e.symm⟩
        · exact ⟨e, k, by omega, h2⟩
      · rintro ⟨e, k, h1, h2⟩
        by_cases hki : k = i
        · subst hki; left; rw [h2]; simp
        · exact .inr ⟨e, k, by omega, h2⟩
    | false =>
      have hk' : lv.getD i 0 = 30000 := by simpa using hk
      rw [cond_false, ih]
      constructor
      · rintro ⟨e, k, h1, h2⟩; exact ⟨e, k, by omega, h2⟩
      · rintro ⟨e, k, h1, h2⟩
        by_cases hki : k = i
        · subst hki; rw [hk'] at h2; exact absurd h2.symm e
        · exact ⟨e, k, by omega, h2⟩
def levelsL (lv : List Int) : List Int := sortI ((lvF lv lv.length).map (·.1))
theorem levelsL_mem {lv : List Int} {x : Int} : x ∈ levelsL lv ↔ x ≠ 30000 ∧ x ∈ lv := by
  unfold levelsL
  rw [sortI_mem, ← hasM_mem, lvF_mem lv x lv.length (Nat.le_refl _)]
  refine and_congr_right fun _ => ⟨fun ⟨k, h1, h2⟩ => ?_, fun h => ?_⟩
  · rw [List.getD_eq_getElem?_getD, List.getElem?_eq_getElem h1] at h2
    rw [← h2]; exact List.getElem_mem h1
  · obtain ⟨k, h1, h2⟩ := List.mem_iff_getElem.1 h
    exact ⟨k, h1, by rw [List.getD_eq_getElem?_getD, List.getElem?_eq_getElem h1]; exact h2⟩
theorem levelsL_len {lv : List Int} : (levelsL lv).length ≤ lv.length := by
  unfold levelsL
  rw [sortI_len, List.length_map]
  exact lvF_len lv lv.length
end Go.Ch

/- A view of an own row from its beginning becomes the row itself, cut. -/
namespace Go.Ax
open Go.RowKit
def inBo (xs : List Nat) : Option Box → Bool
  | some b => inB xs b
  | none => true
theorem getE_mem : ∀ {E : List (Nat × AV)} {u : Nat}, getE E u = .s (.d .junk) ∨ ∃ p, p ∈ E ∧ getE E u = p.2
  | [], u => .inl rfl
  | (k, v) :: r, u => by
    rw [getE_cons]
    by_cases h : k = u
    · rw [if_pos h]; exact .inr ⟨(k, v), by simp, rfl⟩
    · rw [if_neg h]
      rcases getE_mem (E := r) (u := u) with h | ⟨p, hp, e⟩
      · exact .inl h
      · exact .inr ⟨p, by simp [hp], e⟩
theorem getB_mem : ∀ {B : Boxes} {y : Nat} {b : Option Box}, getB B y = some b → (y, b) ∈ B
  | [], y, b, h => by simp [getB] at h
  | (k, v) :: r, y, b, h => by
    rw [getB_cons] at h
    by_cases hk : k = y
    · rw [if_pos hk] at h; cases h; subst hk; simp
    · rw [if_neg hk] at h
      have := getB_mem h
      simp [this]
theorem bkeys_of {B : Boxes} {y : Nat} {b : Option Box} (h : (y, b) ∈ B) : y ∈ bkeys B := by
  induction B with
  | nil => cases h
  | cons a r ih =>
    obtain ⟨k, v⟩ := a
    unfold bkeys
    rcases List.mem_cons.1 h with e | h
    · cases e; simp
    · simp [ih h]
theorem SubI.shrink {cx : Cx} {N : Nat} {E : List (Nat × AV)} {B : Boxes} {e m s n : Nat} {f : Nat → Nat → DV} (t x : Nat) (href : cx.ref = []) (hE : (E.all fun p => inA (bkeys B) p.2) = true) (hB : (B.all fun p => inBo (bkeys B) p.2) = true)
    (hx : (bkeys B).contains x = false) (hm : 0 < m) (hn : n ≤ m) :
    SubI cx N ⟨(t, .s (.osl x s 0 n)) :: E, (x, some (.row e m s f)) :: B⟩ ⟨(t, .s (.own x)) :: E, (x, some (.row e n s f)) :: B⟩ := by
  intro M β a w i
  have hxk : x ∉ bkeys B := by simpa using hx
  have r := i.env t
  have r : (AV.s (.osl x s 0 n)).Rep M β (a.tmps.getD t undef) := by
    have e1 : getE ((t, AV.s (.osl x s 0 n)) :: E) t = .s (.osl x s 0 n) := by rw [getE_cons, if_pos rfl]
    rw [← e1]; exact r
  obtain ⟨b, c, o, hbx, hv, ho, hl, hc⟩ := r
  obtain ⟨b', c', cur, hbx', h1, h2, h3, h4, h5, h6⟩ := i.box x (.row e m s f) (by show getB ((x, _) :: B) x = _; rw [getB_cons, if_pos rfl])
  rw [hbx] at hbx'
  cases hbx'
  have ho : o = 0 := by rw [ho (by omega), Nat.zero_mul]
  subst ho
  let β' : Nm := fun y => if y = x then some (b, (c.1, n)) else β y
  have bx : β' x = some (b, (c.1, n)) := by simp [β']
  have bo : ∀ y, y ≠ x → β' y = β y := fun y h => by simp [β', h]
  have keep : ∀ y, y ∈ bkeys B → ∀ p, β y = some p → β' y = some p := fun y hy p h => by
    rw [bo y (fun e => hxk (e ▸ hy))]; exact h
  have back : ∀ y b1 c1, β' y = some (b1, c1) → ∃ c2, β y = some (b1, c2) := fun y b1 c1 h => by
    by_cases hy : y = x
    · subst hy; rw [bx] at h; cases h; exact ⟨_, hbx⟩
    · rw [bo y hy] at h; exact ⟨_, h⟩
  have live : ∀ y bc, getB ((x, some (.row e n s f)) :: B) y = some (some bc) → ∃ bc', getB ((x, some (.row e m s f)) :: B) y = some (some bc') := by
    intro y bc h
    rw [getB_cons] at h ⊢
    by_cases hy : x = y
    · rw [if_pos hy]; exact ⟨_, rfl⟩
    · rw [if_neg hy] at h ⊢; exact ⟨_, h⟩
  refine ⟨β', i.defers, i.tmps, i.heap, ?_, i.mem, ?_, ?_, ?_, ?_, ?_, ?_⟩
  · intro u
    show (getE ((t, _) :: E) u).Rep M β' _
    rw [getE_cons]
    by_cases hu : t = u
    · subst hu
      rw [if_pos rfl]
      exact ⟨b, (c.1, n), bx, by rw [hv]; simp, by simp only; omega⟩
    · rw [if_neg hu]
      have hi := i.env u
      have hi : (getE E u).Rep M β (a.tmps.getD u undef) := by
        have e1 : getE ((t, AV.s (.osl x s 0 n)) :: E) u = getE E u := by rw [getE_cons, if_neg hu]
        rw [← e1]; exact hi
      rcases getE_mem (E := E) (u := u) with h | ⟨p, hp, h⟩
      · rw [h]; trivial
      · rw [h] at hi ⊢
        exact inA.mono keep (List.all_eq_true.1 hE p hp) hi
  · intro y p h
    show ∃ y', getB ((x, _) :: B) y = some y'
    rw [getB_cons]
    by_cases hy : x = y
    · rw [if_pos hy]; exact ⟨_, rfl⟩
    · rw [if_neg hy]
      rw [bo y (fun e => hy e.symm)] at h
      obtain ⟨z, hz⟩ := i.keys y p h
      have hz : getB ((x, some (.row e m s f)) :: B) y = some z := hz
      rw [getB_cons, if_neg hy] at hz
      exact ⟨z, hz⟩
  · intro y bc h
    have h : getB ((x, some (.row e n s f)) :: B) y = some (some bc) := h
    rw [getB_cons] at h
    by_cases hy : x = y
    · subst hy
      rw [if_pos rfl] at h
      cases h
      exact ⟨b, (c.1, n), cur, bx, h1, rfl, h3, by simp only; omega, h5, fun k j hk hj => h6 k j (by omega) hj⟩
    · rw [if_neg hy] at h
      have hr := i.box y bc (by show getB ((x, _) :: B) y = _; rw [getB_cons, if_neg hy]; exact h)
      have hm := getB_mem h
      have := List.all_eq_true.1 hB _ hm
      exact inB.mono keep (bkeys_of hm) this hr
  · intro y y' bx1 bx2 b1 c1 c2 e1 e2 g1 g2
    obtain ⟨_, e1⟩ := live _ _ e1
    obtain ⟨_, e2⟩ := live _ _ e2
    obtain ⟨_, g1⟩ := back _ _ _ g1
    obtain ⟨_, g2⟩ := back _ _ _ g2
    exact i.inj y y' _ _ b1 _ _ e1 e2 g1 g2
  · intro y bx1 b1 c1 e1 g1
    obtain ⟨_, e1⟩ := live _ _ e1
    obtain ⟨_, g1⟩ := back _ _ _ g1
    exact i.apart y _ b1 _ e1 g1
  · intro y bx1 b1 c1 e1 g1
    obtain ⟨_, e1⟩ := live _ _ e1
    obtain ⟨_, g1⟩ := back _ _ _ g1
    exact i.low y _ b1 _ e1 g1
  · intro y hy
    rw [href] at hy; cases hy
end Go.Ax

/- A row that a cell of a box points to: no longer perhaps nil. -/
namespace Go.Ax
open Go.RowKit
theorem SubI.ownC {cx : Cx} {N : Nat} {σ : St} {e n s : Nat} {f : Nat → Nat → DV} {z : Bool} {cs : List SV} (y0 j x : Nat) (hy0 : getB σ.box y0 = some (some (.cells cs))) (hj : cs[j]? = some (.mo z x)) (hz : z = false) (hb : getB σ.box x = some (some (.mrow e n s f))) :
    SubI cx N σ ⟨σ.env, (x, some (.row e n s f)) :: σ.box⟩ := by
  intro M β a w i
  obtain ⟨_, _, vs, _, _, _, hr⟩ := i.box y0 _ hy0
  obtain ⟨v, _, r⟩ := hr.get hj
  obtain ⟨b, c, hx, hv, hc⟩ := r.2 hz
  obtain ⟨cur, h1, h2, h3, h4, h5, h6⟩ := i.box x _ hb b c hx
  have live : ∀ y bc, getB ((x, some (.row e n s f)) :: σ.box) y = some (some bc) → ∃ bc, getB σ.box y = some (some bc) := by
    intro y bc h
    rw [getB_cons] at h
    by_cases hy : x = y
    · subst hy; exact ⟨_, hb⟩
    · rw [if_neg hy] at h; exact ⟨_, h⟩
  refine ⟨β, i.defers, i.tmps, i.heap, ?_, i.mem, ?_, ?_, ?_, ?_, ?_, i.ref⟩
  · exact i.env
  · intro y p h
    obtain ⟨z, hz⟩ := i.keys y p h
    show ∃ y', getB ((x, _) :: σ.box) y = some y'
    rw [getB_cons]
    by_cases hy : x = y
    · rw [if_pos hy]; exact ⟨_, rfl⟩
    · rw [if_neg hy]; exact ⟨z, hz⟩
  · intro y bc h
    have h : getB ((x, some (.row e n s f)) :: σ.box) y = some (some bc) := h
    rw [getB_cons] at h
    by_cases hy : x = y
    · subst hy
      rw [if_pos rfl] at h
      cases h
      exact ⟨b, c, cur, hx, h1, h2, h3, h4, h5, h6⟩
    · rw [if_neg hy] at h; exact i.box y bc h
  · intro y y' bx bx' b1 c1 c2 e1 e2 g1 g2
    obtain ⟨_, e1⟩ := live _ _ e1
    obtain ⟨_, e2⟩ := live _ _ e2
    exact i.inj y y' _ _ b1 c1 c2 e1 e2 g1 g2
  · intro y bx b1 c1 e1 g1
    obtain ⟨_, e1⟩ := live _ _ e1
    exact i.apart y _ b1 c1 e1 g1
  · intro y bx b1 c1 e1 g1
    obtain ⟨_, e1⟩ := live _ _ e1
    exact i.low y _ b1 c1 e1 g1
end Go.Ax
