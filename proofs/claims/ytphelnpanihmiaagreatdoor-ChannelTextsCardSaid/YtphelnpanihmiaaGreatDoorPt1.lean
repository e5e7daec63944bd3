/- Part 1: lemmas that the proofs of this seat share; by itself it claims nothing. -/
import Derived.Below
import Derived.Lib.LaidTab
import Derived.Lib.ItoaNum
import Derived.Orders
import Derived.Laws.AppendOwn
import Derived.KernelRfl
import Derived.Tactics
import Derived.TacticsIn
import Derived.OrdersIn
import Derived.Laws.Bits
import Derived.Laws.Slices
import Derived.Laws.Small
import Derived.Laws.Cells
import Derived.Laws.StructEq
import Derived.Laws.NewFold
import Derived.Great.BuildSlice
import Derived.Laws.Append
import Derived.IntWalk
import Derived.Laws.CopyRow
import Derived.Laws.IdiomCopy
import Derived.Maps.RangeRun
import Derived.Carry
/- The tables of this seat: the blocks of the package variables that the library reads, with their cells. -/
namespace Go.Ax
def pow10A : Array Value := (Go.Lib.pow10Tab.map fun z => Value.int .u64 z).toArray
/-- What is not fixed: the two errors of strconv, and the machine's bound for short texts. -/
structure TabX where
  t2 : TypeId
  p2 : Value
  t3 : TypeId
  p3 : Value
  m : Int
def tabsL (x : TabX) : List (Nat × Array Value) :=
  [(2, #[.iface x.t2 x.p2]), (3, #[.iface x.t3 x.p3]), (4, #[.int .i64 x.m]), (5, pow10A)]
/-- Types whose new variables keep their type. -/
def tallocL : List Nat := [95]
end Go.Ax

/- Abstract values, abstract states, and the judgement AW over them that implies the kit's Code.wp. -/
namespace Go.Ax
open Go.RowKit

abbrev Mem := Nat → Nat → Option Value
/-- A box's block; for a row also capacity and length. -/
abbrev Nm := Nat → Option (Nat × (Nat × Nat))

/-- Data: what a one-cell value means, by stable memory alone. -/
inductive DV where
  | val (v : Value)
  | lit (b : Bool)
  | rp (m : Nat) (f : Nat → DV)
  | slc (n s : Nat) (f : Nat → Nat → DV)
  | clo (f : FuncId) (k : Nat) (c : Nat → DV)
  | err (b : Bool)
  | junk

def DV.Rep (M : Mem) : DV → Value → Prop
  | .val u, v => v = u
  | .lit b, v => v = .bool b
  | .rp m f, v => ∃ b o, v = .pointer (some ⟨b, o, none⟩) ∧ ∀ j, j < m → ∃ u, M b (o + j) = some u ∧ (f j).Rep M u
  | .slc n s f, v => ∃ a cap, v = .slice a n cap ∧ n ≤ cap ∧ (n = 0 ∨ ∃ b o, a = some ⟨b, o, none⟩ ∧ ∀ i j, i < n → j < s → ∃ u, M b (o + i * s + j) = some u ∧ (f i j).Rep M u)
  | .clo f k c, v => ∃ cs : List Value, v = .func (.func f) #[] cs.toArray ∧ cs.length = k ∧ ∀ i u, cs[i]? = some u → (c i).Rep M u
  | .err b, v => (b = false ∧ v = .nilIface) ∨ (b = true ∧ ∃ t u, v = .iface t u)
  | .junk, _ => True

def Mem.le (M M' : Mem) : Prop := ∀ b o u, M b o = some u → M' b o = some u
theorem Mem.le_refl (M : Mem) : Mem.le M M := fun _ _ _ h => h
theorem Mem.le_trans {A B C : Mem} (h : Mem.le A B) (k : Mem.le B C) : Mem.le A C := fun b o u x => k b o u (h b o u x)

theorem DV.Rep.mono {M M' : Mem} (h : Mem.le M M') : ∀ {x : DV} {v : Value}, x.Rep M v → x.Rep M' v := by
  intro x
  induction x with
  | val u => exact fun r => r
  | lit b => exact fun r => r
  | rp m f ih =>
    rintro v ⟨b, o, e, hc⟩
    exact ⟨b, o, e, fun j hj => let ⟨u, hu, hr⟩ := hc j hj; ⟨u, h _ _ _ hu, ih j hr⟩⟩
  | slc n s f ih =>
    rintro v ⟨a, cap, e, hn, hc⟩
    refine ⟨a, cap, e, hn, hc.imp id ?_⟩
    rintro ⟨b, o, ea, hc⟩
    exact ⟨b, o, ea, fun i j hi hj => let ⟨u, hu, hr⟩ := hc i j hi hj; ⟨u, h _ _ _ hu, ih i j hr⟩⟩
  | clo f k c ih =>
    rintro v ⟨cs, e, hk, hc⟩
    exact ⟨cs, e, hk, fun i u hu => ih i (hc i u hu)⟩
  | err b => exact fun r => r
  | junk => exact fun _ => trivial

/-- What a captured variable may be. -/
inductive CV where
  | d (x : DV)
  | ptr (x off : Nat)

/-- What a map's values are: numbers, or truth values by 0 and 1. -/
inductive VK where
  | int | bool
def VK.val : VK → Int → Value
  | .int, n => .int .i64 n
  | .bool, n => .bool (n != 0)
def VK.dv : VK → Int → DV
  | .int, n => .val (.int .i64 n)
  | .bool, n => .val (.bool (n != 0))
/-- A map's entries, in the order in which they came. -/
def ents (vk : VK) : List (Int × Int) → Nat → List MapEntry
  | [], _ => []
  | (k, v) :: r, i => { key := .int .i64 k, val := vk.val v, born := i } :: ents vk r (i + 1)

inductive SV where
  | d (x : DV)
  | ptr (x off : Nat)
  | own (x : Nat)
  | mo (z : Bool) (x : Nat)
  | rw (x i s o : Nat)
  | clo (f : FuncId) (cs : List CV)
  | osl (x s lo n : Nat)
  | mp (x : Nat)

def CV.Rep (M : Mem) (β : Nm) : CV → Value → Prop
  | .d x, v => x.Rep M v
  | .ptr x off, v => ∃ b c, β x = some (b, c) ∧ v = .pointer (some ⟨b, off, none⟩)

def RepC (M : Mem) (β : Nm) : List CV → List Value → Prop
  | [], [] => True
  | c :: cs, v :: vs => c.Rep M β v ∧ RepC M β cs vs
  | _, _ => False

def SV.Rep (M : Mem) (β : Nm) : SV → Value → Prop
  | .d x, v => x.Rep M v
  | .ptr x off, v => ∃ b c, β x = some (b, c) ∧ v = .pointer (some ⟨b, off, none⟩)
  | .own x, v => ∃ b c, β x = some (b, c) ∧ v = .slice (some ⟨b, 0, none⟩) c.2 c.1 ∧ c.2 ≤ c.1
  | .mo z x, v => (z = true → v = .slice none 0 0) ∧ (z = false → ∃ b c, β x = some (b, c) ∧ v = .slice (some ⟨b, 0, none⟩) c.2 c.1 ∧ c.2 ≤ c.1)
  | .rw x i s o, v => ∃ b c, β x = some (b, c) ∧ v = .pointer (some ⟨b, i * s + o, none⟩)
  | .clo f cs, v => ∃ vs : List Value, v = .func (.func f) #[] vs.toArray ∧ RepC M β cs vs
  | .osl x s lo n, v => ∃ b c o, β x = some (b, c) ∧ v = .slice (some ⟨b, o, none⟩) n (c.1 - lo) ∧ (lo < c.1 → o = lo * s) ∧ lo + n ≤ c.2 ∧ c.2 ≤ c.1
  | .mp x, v => ∃ b c, β x = some (b, c) ∧ v = .map (some b)

def RepL (M : Mem) (β : Nm) : List SV → List Value → Prop
  | [], [] => True
  | c :: cs, v :: vs => c.Rep M β v ∧ RepL M β cs vs
  | _, _ => False

inductive TV where
  | s (x : SV)
  | g (cs : List SV)

def TV.Rep (M : Mem) (β : Nm) : TV → Value → Prop
  | .s x, v => x.Rep M β v
  | .g cs, v => ∃ vs : List Value, v = .agg vs.toArray ∧ RepL M β cs vs

def RepT (M : Mem) (β : Nm) : List TV → List Value → Prop
  | [], [] => True
  | c :: cs, v :: vs => c.Rep M β v ∧ RepT M β cs vs
  | _, _ => False

inductive AV where
  | s (x : SV)
  | g (cs : List SV)
  | ib (b : Bool) (x : SV)
  | ig (b : Bool) (cs : List SV)
  | t (ts : List TV)

def AV.Rep (M : Mem) (β : Nm) : AV → Value → Prop
  | .s x, v => x.Rep M β v
  | .g cs, v => ∃ vs : List Value, v = .agg vs.toArray ∧ RepL M β cs vs
  | .ib b x, v => (b = true → x.Rep M β v) ∧ (b = false → v = undef)
  | .ig b cs, v => (b = true → ∃ vs : List Value, v = .agg vs.toArray ∧ RepL M β cs vs) ∧ (b = false → v = undef)
  | .t ts, v => ∃ vs : List Value, v = .tuple vs.toArray ∧ RepT M β ts vs

def Nm.le (β β' : Nm) : Prop := ∀ x p, β x = some p → β' x = some p
theorem Nm.le_refl (β : Nm) : Nm.le β β := fun _ _ h => h

section mono
variable {M M' : Mem} {β β' : Nm} (hM : Mem.le M M') (hβ : Nm.le β β')
include hM hβ
theorem CV.Rep.mono {x : CV} {v : Value} (r : x.Rep M β v) : x.Rep M' β' v := by
  cases x with
  | d x => exact DV.Rep.mono hM r
  | ptr x off => obtain ⟨b, c, e, hv⟩ := r; exact ⟨b, c, hβ _ _ e, hv⟩
theorem RepC.mono : ∀ {cs : List CV} {vs : List Value}, RepC M β cs vs → RepC M' β' cs vs
  | [], [], _ => trivial
  | _ :: _, _ :: _, ⟨h, r⟩ => ⟨CV.Rep.mono hM hβ h, RepC.mono r⟩
  | [], _ :: _, h => h.elim
  | _ :: _, [], h => h.elim
theorem SV.Rep.mono {x : SV} {v : Value} (r : x.Rep M β v) : x.Rep M' β' v := by
  cases x with
  | d x => exact DV.Rep.mono hM r
  | ptr x off => obtain ⟨b, c, e, hv⟩ := r; exact ⟨b, c, hβ _ _ e, hv⟩
  | own x => obtain ⟨b, c, e, hv⟩ := r; exact ⟨b, c, hβ _ _ e, hv⟩
  | mo z x => exact ⟨r.1, fun h => let ⟨b, c, e, hv⟩ := r.2 h; ⟨b, c, hβ _ _ e, hv⟩⟩
  | rw x i s o => obtain ⟨b, c, e, hv⟩ := r; exact ⟨b, c, hβ _ _ e, hv⟩
  | clo f cs => obtain ⟨vs, e, hv⟩ := r; exact ⟨vs, e, RepC.mono hM hβ hv⟩
  | osl x s lo n => obtain ⟨b, c, o, e, hv⟩ := r; exact ⟨b, c, o, hβ _ _ e, hv⟩
  | mp x => obtain ⟨b, c, e, hv⟩ := r; exact ⟨b, c, hβ _ _ e, hv⟩
theorem RepL.mono : ∀ {cs : List SV} {vs : List Value}, RepL M β cs vs → RepL M' β' cs vs
  | [], [], _ => trivial
  | _ :: _, _ :: _, ⟨h, r⟩ => ⟨SV.Rep.mono hM hβ h, RepL.mono r⟩
  | [], _ :: _, h => h.elim
  | _ :: _, [], h => h.elim
theorem TV.Rep.mono {x : TV} {v : Value} (r : x.Rep M β v) : x.Rep M' β' v := by
  cases x with
  | s x => exact SV.Rep.mono hM hβ r
  | g cs => obtain ⟨vs, e, hv⟩ := r; exact ⟨vs, e, RepL.mono hM hβ hv⟩
theorem RepT.mono : ∀ {cs : List TV} {vs : List Value}, RepT M β cs vs → RepT M' β' cs vs
  | [], [], _ => trivial
  | _ :: _, _ :: _, ⟨h, r⟩ => ⟨TV.Rep.mono hM hβ h, RepT.mono r⟩
  | [], _ :: _, h => h.elim
  | _ :: _, [], h => h.elim
theorem AV.Rep.mono {x : AV} {v : Value} (r : x.Rep M β v) : x.Rep M' β' v := by
  cases x with
  | s x => exact SV.Rep.mono hM hβ r
  | g cs => obtain ⟨vs, e, hv⟩ := r; exact ⟨vs, e, RepL.mono hM hβ hv⟩
  | ib b x => exact ⟨fun hb => SV.Rep.mono hM hβ (r.1 hb), r.2⟩
  | ig b cs => exact ⟨fun hb => let ⟨vs, e, hv⟩ := r.1 hb; ⟨vs, e, RepL.mono hM hβ hv⟩, r.2⟩
  | t ts => obtain ⟨vs, e, hv⟩ := r; exact ⟨vs, e, RepT.mono hM hβ hv⟩
end mono

theorem RepL.length : ∀ {M β} {cs : List SV} {vs : List Value}, RepL M β cs vs → vs.length = cs.length
  | _, _, [], [], _ => rfl
  | _, _, _ :: _, _ :: _, ⟨_, r⟩ => by simp [RepL.length r]
  | _, _, [], _ :: _, h => h.elim
  | _, _, _ :: _, [], h => h.elim
theorem RepL.get : ∀ {M β} {cs : List SV} {vs : List Value} {j : Nat} {c : SV}, RepL M β cs vs → cs[j]? = some c → ∃ v, vs[j]? = some v ∧ c.Rep M β v
  | _, _, [], [], j, c, _, h => by simp at h
  | _, _, _ :: _, v :: _, 0, c, ⟨hv, _⟩, h => ⟨v, rfl, by simp at h; exact h ▸ hv⟩
  | _, _, _ :: _, _ :: _, j + 1, c, ⟨_, r⟩, h => by
    have := RepL.get (j := j) r (by simpa using h)
    simpa using this
  | _, _, [], _ :: _, _, _, h, _ => h.elim
  | _, _, _ :: _, [], _, _, h, _ => h.elim
theorem RepT.get : ∀ {M β} {cs : List TV} {vs : List Value} {j : Nat} {c : TV}, RepT M β cs vs → cs[j]? = some c → ∃ v, vs[j]? = some v ∧ c.Rep M β v
  | _, _, [], [], j, c, _, h => by simp at h
  | _, _, _ :: _, v :: _, 0, c, ⟨hv, _⟩, h => ⟨v, rfl, by simp at h; exact h ▸ hv⟩
  | _, _, _ :: _, _ :: _, j + 1, c, ⟨_, r⟩, h => by
    have := RepT.get (j := j) r (by simpa using h)
    simpa using this
  | _, _, [], _ :: _, _, _, h, _ => h.elim
  | _, _, _ :: _, [], _, _, h, _ => h.elim
theorem RepL.append : ∀ {M β} {cs ds : List SV} {vs us : List Value}, RepL M β cs vs → RepL M β ds us → RepL M β (cs ++ ds) (vs ++ us)
  | _, _, [], _, [], _, _, h => h
  | _, _, _ :: _, _, _ :: _, _, ⟨h, r⟩, k => ⟨h, RepL.append r k⟩
  | _, _, [], _, _ :: _, _, h, _ => h.elim
  | _, _, _ :: _, _, [], _, h, _ => h.elim
theorem RepL.take : ∀ {M β} {cs : List SV} {vs : List Value} (n : Nat), RepL M β cs vs → RepL M β (cs.take n) (vs.take n)
  | _, _, [], [], n, _ => by simp [RepL]
  | _, _, _ :: _, _ :: _, 0, _ => trivial
  | _, _, _ :: _, _ :: _, n + 1, ⟨h, r⟩ => ⟨h, RepL.take n r⟩
  | _, _, [], _ :: _, _, h => h.elim
  | _, _, _ :: _, [], _, h => h.elim
theorem RepL.drop : ∀ {M β} {cs : List SV} {vs : List Value} (n : Nat), RepL M β cs vs → RepL M β (cs.drop n) (vs.drop n)
  | _, _, [], [], n, _ => by simp [RepL]
  | _, _, _ :: _, _ :: _, 0, h => h
  | _, _, _ :: _, _ :: _, n + 1, ⟨_, r⟩ => RepL.drop n r
  | _, _, [], _ :: _, _, h => h.elim
  | _, _, _ :: _, [], _, h => h.elim

/-- May the value stand in one cell? -/
def DV.one : DV → Bool
  | .val v => v.oneCell'
  | .junk => false
  | _ => true
def SV.one : SV → Bool
  | .d x => x.one
  | _ => true
theorem DV.Rep.oneCell {M : Mem} {x : DV} {v : Value} (r : x.Rep M v) (h : x.one = true) : v.oneCell' = true := by
  cases x with
  | val u => cases r; exact h
  | lit b => cases r; rfl
  | rp m f => obtain ⟨b, o, rfl, _⟩ := r; rfl
  | slc n s f => obtain ⟨a, cap, rfl, _⟩ := r; rfl
  | clo f k c => obtain ⟨cs, rfl, _⟩ := r; rfl
  | err b => rcases r with ⟨_, rfl⟩ | ⟨_, t, u, rfl⟩ <;> rfl
  | junk => cases h
theorem SV.Rep.oneCell {M : Mem} {β : Nm} {x : SV} {v : Value} (r : x.Rep M β v) (h : x.one = true) : v.oneCell' = true := by
  cases x with
  | d x => exact DV.Rep.oneCell r h
  | ptr x off => obtain ⟨b, c, _, rfl⟩ := r; rfl
  | own x => obtain ⟨b, c, _, rfl, _⟩ := r; rfl
  | mo z x =>
    cases z with
    | true => rw [r.1 rfl]; rfl
    | false => obtain ⟨b, c, _, rfl, _⟩ := r.2 rfl; rfl
  | rw x i s o => obtain ⟨b, c, _, rfl⟩ := r; rfl
  | clo f cs => obtain ⟨vs, rfl, _⟩ := r; rfl
  | osl x s lo n => obtain ⟨b, c, o, _, rfl, _⟩ := r; rfl
  | mp x => obtain ⟨b, c, _, rfl⟩ := r; rfl
def allOne : List SV → Bool
  | [] => true
  | x :: r => x.one && allOne r
theorem RepL.oneCell : ∀ {M β} {cs : List SV} {vs : List Value}, RepL M β cs vs → allOne cs = true → ∀ v ∈ vs, v.oneCell' = true
  | _, _, [], [], _, _, v, hv => by cases hv
  | _, _, _ :: _, _ :: _, ⟨h, r⟩, ha, v, hv => by
    simp only [allOne, Bool.and_eq_true] at ha
    cases hv with
    | head => exact h.oneCell ha.1
    | tail _ hv => exact RepL.oneCell r ha.2 v hv
  | _, _, [], _ :: _, h, _, _, _ => h.elim
  | _, _, _ :: _, [], h, _, _, _ => h.elim

inductive Box where
  | cells (cs : List SV)
  | row (e : TypeId) (n s : Nat) (f : Nat → Nat → DV)
  | mrow (e : TypeId) (n s : Nat) (f : Nat → Nat → DV)
  | map (vk : VK) (l : List (Int × Int))
  | fresh (T : TypeId) (vs : List Value)
  | iter (m n : Nat) (seen : List Nat)

structure St where
  env : List (Nat × AV)
  box : List (Nat × Option Box)

def getE : List (Nat × AV) → Nat → AV
  | [], _ => .s (.d .junk)
  | (k, v) :: r, t => bif Nat.beq k t then v else getE r t
def getB : List (Nat × Option Box) → Nat → Option (Option Box)
  | [], _ => none
  | (k, v) :: r, t => bif Nat.beq k t then some v else getB r t

theorem beqF {a b : Nat} (h : a ≠ b) : Nat.beq a b = false := by
  cases hb : Nat.beq a b with
  | false => rfl
  | true => exact absurd (Nat.eq_of_beq_eq_true hb) h
theorem getE_cons (k : Nat) (v : AV) (r : List (Nat × AV)) (t : Nat) : getE ((k, v) :: r) t = if k = t then v else getE r t := by
  by_cases h : k = t
  · subst h; simp [getE]
  · simp [getE, beqF h, h]
theorem getB_cons (k : Nat) (v : Option Box) (r : List (Nat × Option Box)) (t : Nat) : getB ((k, v) :: r) t = if k = t then some v else getB r t := by
  by_cases h : k = t
  · subst h; simp [getB]
  · simp [getB, beqF h, h]

def RepBox (M : Mem) (β : Nm) (w : World) (x : Nat) : Box → Prop
  | .cells cs => ∃ b c vs T, β x = some (b, c) ∧ w.heap[b]? = some (.cells (List.toArray vs) T (0, 0)) ∧ RepL M β cs vs
  | .row e n s f => ∃ b c cur, β x = some (b, c) ∧ w.heap[b]? = some (.cells cur e (0, 0)) ∧ c.2 = n ∧ cur.size = c.1 * s ∧ n ≤ c.1 ∧ c.1 ≤ maxLen ∧
      ∀ i j, i < n → j < s → ∃ u, cur[i * s + j]? = some u ∧ (f i j).Rep M u
  | .mrow e n s f => ∀ b c, β x = some (b, c) → ∃ cur, w.heap[b]? = some (.cells cur e (0, 0)) ∧ c.2 = n ∧ cur.size = c.1 * s ∧ n ≤ c.1 ∧ c.1 ≤ maxLen ∧
      ∀ i j, i < n → j < s → ∃ u, cur[i * s + j]? = some u ∧ (f i j).Rep M u
  | .map vk l => ∃ b c, β x = some (b, c) ∧ w.heap[b]? = some (.map (ents vk l 0).toArray l.length)
  | .fresh T vs => ∃ b c, β x = some (b, c) ∧ w.heap[b]? = some (.cells vs.toArray T (0, 0))
  | .iter m n seen => ∃ b c bm cm, β x = some (b, c) ∧ β m = some (bm, cm) ∧ w.heap[b]? = some (.mapIter (some bm) n seen.reverse.toArray n)

/-- Stable memory may grow, by cells of blocks from B on. -/
structure Grow (B : Nat) (M M' : Mem) : Prop where
  le : Mem.le M M'
  new : ∀ b o u, M' b o = some u → M b o = some u ∨ B ≤ b
theorem Grow.refl (B : Nat) (M : Mem) : Grow B M M := ⟨Mem.le_refl M, fun _ _ _ h => .inl h⟩
theorem Grow.trans {B : Nat} {a b c : Mem} (h : Grow B a b) (k : Grow B b c) : Grow B a c :=
  ⟨Mem.le_trans h.le k.le, fun x o u e => (k.new x o u e).elim (fun e => h.new x o u e) .inr⟩

/-- What stays fixed through a call: the heap's size when it began, and the boxes that it was handed. -/
structure Cx where
  B : Nat
  ref : List Nat
  β0 : Nm
  /-- The record of the loop whose round this is, if it is one. -/
  rd : Option Nat := none
  /-- The deferred calls that the activation has already. -/
  df : List Deferred := []

/-- The fence that lets everything in, in a round or in none. -/
def FW (r : Option Nat) : Fence := { Fence.wide with round := r }

def Cx.mayWrite (cx : Cx) (k : Nat) : Prop := ∃ x c, x ∈ cx.ref ∧ cx.β0 x = some (k, c)

structure Keep (cx : Cx) (w w' : World) : Prop where
  os : w'.os = w.os
  tape : w'.tape = w.tape
  output : w'.output = w.output
  size : w.heap.size ≤ w'.heap.size
  block : ∀ k, k < cx.B → ¬ cx.mayWrite k → w'.heap[k]? = w.heap[k]?

theorem Keep.refl (cx : Cx) (w : World) : Keep cx w w := ⟨rfl, rfl, rfl, Nat.le_refl _, fun _ _ _ => rfl⟩
theorem Keep.trans {cx : Cx} {a b c : World} (h : Keep cx a b) (k : Keep cx b c) : Keep cx a c :=
  ⟨k.os.trans h.os, k.tape.trans h.tape, k.output.trans h.output, Nat.le_trans h.size k.size, fun i hi hm => (k.block i hi hm).trans (h.block i hi hm)⟩

/-- The tables lie where they were laid. -/
def GlobB (bs : TabX) (w : World) : Prop := ∀ g t, (g, t) ∈ tabsL bs → ∃ e fr, w.heap[g]? = some (.cells t e fr)
def Glob (w : World) : Prop := ∃ bs, GlobB bs w
theorem GlobB.lt {bs : TabX} {w : World} (h : GlobB bs w) {g : Nat} {t : Array Value} (m : (g, t) ∈ tabsL bs) : g < w.heap.size := by
  obtain ⟨e, fr, c⟩ := h g t m
  exact (Array.getElem?_eq_some_iff.1 c).1
structure Hp (cx : Cx) (w : World) : Prop where
  le : cx.B ≤ w.heap.size
  tab : ∃ bs, GlobB bs w ∧ ∀ g t, (g, t) ∈ tabsL bs → g < cx.B ∧ ¬ cx.mayWrite g
theorem Hp.glob {cx : Cx} {w : World} (h : Hp cx w) : Glob w := let ⟨bs, h, _⟩ := h.tab; ⟨bs, h⟩
theorem Hp.keep {cx : Cx} {w w' : World} (h : Hp cx w) (k : Keep cx w w') : Hp cx w' :=
  ⟨Nat.le_trans h.le k.size, by
    obtain ⟨bs, h1, h2⟩ := h.tab
    refine ⟨bs, fun g t m => ?_, h2⟩
    obtain ⟨e, fr, c⟩ := h1 g t m
    obtain ⟨a, b⟩ := h2 g t m
    exact ⟨e, fr, (k.block g a b).trans c⟩⟩
structure Inv (cx : Cx) (N : Nat) (M : Mem) (β : Nm) (σ : St) (a : Act) (w : World) : Prop where
  defers : a.defers = cx.df
  tmps : a.tmps.size = N
  heap : Hp cx w
  env : ∀ t, (getE σ.env t).Rep M β (a.tmps.getD t undef)
  mem : ∀ b o u, M b o = some u → w.cell? ⟨b, o, none⟩ = some u
  keys : ∀ x p, β x = some p → ∃ y, getB σ.box x = some y
  box : ∀ x bc, getB σ.box x = some (some bc) → RepBox M β w x bc
  inj : ∀ x y bx bby b c c', getB σ.box x = some (some bx) → getB σ.box y = some (some bby) → β x = some (b, c) → β y = some (b, c') → x = y
  apart : ∀ x bc b c, getB σ.box x = some (some bc) → β x = some (b, c) → ∀ o, M b o = none
  low : ∀ x bc b c, getB σ.box x = some (some bc) → β x = some (b, c) → cx.B ≤ b ∨ cx.mayWrite b
  ref : ∀ x, x ∈ cx.ref → β x = cx.β0 x ∧ ∃ p, β x = some p

def AW (P : Program) (cx : Cx) (N : Nat) (c : Code) (σ : St) (K : Exit → St → Prop) : Prop :=
  ∀ M β a w, Inv cx N M β σ a w →
    c.wpIn (FW cx.rd) 0 P (fun e a' w' => ∃ σ' M' β', K e σ' ∧ Inv cx N M' β' σ' a' w' ∧ Grow cx.B M M' ∧ Keep cx w w') a w

section rules
variable {P : Program} {cx : Cx} {N : Nat} {σ : St} {K : Exit → St → Prop}

theorem AW.mono {c : Code} {K' : Exit → St → Prop} (h : AW P cx N c σ K) (hk : ∀ e s, K e s → K' e s) : AW P cx N c σ K' :=
  fun M β a w i => wpIn_mono (h M β a w i) fun _ _ _ ⟨s, M', β', k, r⟩ => ⟨s, M', β', hk _ _ k, r⟩

theorem AW.skip (h : K .normal σ) : AW P cx N .skip σ K := fun M β _ _ i => wpIn_skip ⟨σ, M, β, h, i, Grow.refl _ _, Keep.refl _ _⟩
theorem AW.ret (h : K .ret σ) : AW P cx N .ret σ K := fun M β _ _ i => wpIn_ret ⟨σ, M, β, h, i, Grow.refl _ _, Keep.refl _ _⟩
theorem AW.exit {id : Nat} (h : K (.exit id) σ) : AW P cx N (.exit id) σ K := fun M β _ _ i => wpIn_exit ⟨σ, M, β, h, i, Grow.refl _ _, Keep.refl _ _⟩

def thenK (next : St → Prop) (K : Exit → St → Prop) : Exit → St → Prop
  | .normal, s => next s
  | e, s => K e s

theorem AW.seq {x y : Code} (h : AW P cx N x σ (thenK (fun s => AW P cx N y s K) K)) : AW P cx N (.seq x y) σ K := by
  intro M β a w i
  refine wpIn_seq (wpIn_mono (h M β a w i) ?_)
  rintro e a' w' ⟨s, M', β', k, i', hM, hk⟩
  cases e with
  | normal =>
    refine wpIn_mono (k M' β' a' w' i') ?_
    rintro e2 a2 w2 ⟨s2, M2, β2, k2, i2, hM2, hk2⟩
    exact ⟨s2, M2, β2, k2, i2, hM.trans hM2, hk.trans hk2⟩
  | exit id => exact ⟨s, M', β', k, i', hM, hk⟩
  | goto l => exact ⟨s, M', β', k, i', hM, hk⟩
  | ret => exact ⟨s, M', β', k, i', hM, hk⟩
  | panic ch => exact ⟨s, M', β', k, i', hM, hk⟩
  | outgrown => exact ⟨s, M', β', k, i', hM, hk⟩

def blockK (id : Nat) (K : Exit → St → Prop) : Exit → St → Prop
  | .exit id', s => bif Nat.beq id' id then K .normal s else K (.exit id') s
  | e, s => K e s

theorem AW.block {id : Nat} {c : Code} (h : AW P cx N c σ (blockK id K)) : AW P cx N (.block id c) σ K := by
  intro M β a w i
  refine wpIn_block (wpIn_mono (h M β a w i) ?_)
  rintro e a' w' ⟨s, M', β', k, i', r⟩
  cases e with
  | exit id' =>
    by_cases hid : id' = id
    · subst hid
      simp only [Exit.inBlock, if_true]
      simp only [blockK, Nat.beq_refl, cond_true] at k
      exact ⟨s, M', β', k, i', r⟩
    · simp only [Exit.inBlock, hid, if_false]
      simp only [blockK, beqF hid, cond_false] at k
      exact ⟨s, M', β', k, i', r⟩
  | _ => exact ⟨s, M', β', k, i', r⟩

/-- The state σ may be used where σ' is asked. -/
structure Sub (cx : Cx) (σ σ' : St) : Prop where
  env : ∀ (M : Mem) (β β' : Nm), (∀ x p, β x = some p → (∃ y, getB σ'.box x = some y) → β' x = some p) → ∀ t v, (getE σ.env t).Rep M β v → (getE σ'.env t).Rep M β' v
  box : ∀ (M : Mem) (β β' : Nm) (w : World), (∀ x p, β x = some p → (∃ y, getB σ'.box x = some y) → β' x = some p) → ∀ x bc', getB σ'.box x = some (some bc') → ∃ bc, getB σ.box x = some (some bc) ∧ (RepBox M β w x bc → RepBox M β' w x bc')
  ref : ∀ x, x ∈ cx.ref → ∃ y, getB σ'.box x = some y

theorem Inv.sub {σ' : St} {M : Mem} {β : Nm} {a : Act} {w : World} (i : Inv cx N M β σ a w) (h : Sub cx σ σ') :
    ∃ β', Inv cx N M β' σ' a w := by
  classical
  let β' : Nm := fun x => if ∃ y, getB σ'.box x = some y then β x else none
  have hb : ∀ x p, β' x = some p → β x = some p := fun x p h => by
    simp only [β'] at h
    split at h
    · exact h
    · cases h
  have hb' : ∀ x p, β x = some p → (∃ y, getB σ'.box x = some y) → β' x = some p := fun x p e k => by
    simp only [β', if_pos k]; exact e
  refine ⟨β', i.defers, i.tmps, i.heap, fun t => h.env M β β' hb' t _ (i.env t), i.mem, ?_, ?_, ?_, ?_, ?_, ?_⟩
  · intro x p e
    simp only [β'] at e
    split at e
    · assumption
    · cases e
  · intro x bc' e
    obtain ⟨bc, e1, hr⟩ := h.box M β β' w hb' x bc' e
    exact hr (i.box x bc e1)
  · intro x y bx bby b c c' ex ey hx hy
    obtain ⟨bx', ex', _⟩ := h.box M β β' w hb' x bx ex
    obtain ⟨by', ey', _⟩ := h.box M β β' w hb' y bby ey
    exact i.inj x y bx' by' b c c' ex' ey' (hb _ _ hx) (hb _ _ hy)
  · intro x bc b c ex hx
    obtain ⟨bx', ex', _⟩ := h.box M β β' w hb' x bc ex
    exact i.apart x bx' b c ex' (hb _ _ hx)
  · intro x bc b c ex hx
    obtain ⟨bx', ex', _⟩ := h.box M β β' w hb' x bc ex
    exact i.low x bx' b c ex' (hb _ _ hx)
  · intro x hx
    obtain ⟨y, hy⟩ := h.ref x hx
    have : β' x = β x := by
      simp only [β', hy]
      simp
    rw [this]
    exact i.ref x hx

theorem AW.sub {c : Code} {σ' : St} (h : Sub cx σ σ') (k : AW P cx N c σ' K) : AW P cx N c σ K := by
  intro M β a w i
  obtain ⟨β', i'⟩ := i.sub h
  exact k M β' a w i'

theorem AW.loop {S : Type} {c : Code} (St0 : S → St) (J : S → Prop) (μ : S → Nat) (s0 : S) (hJ : J s0) (hs : Sub cx σ (St0 s0))
    (body : ∀ s, J s → AW P cx N c (St0 s) (thenK (fun σ' => ∃ s', J s' ∧ μ s' < μ s ∧ Sub cx σ' (St0 s')) K)) : AW P cx N (.loop c) σ K := by
  intro M β a w i
  obtain ⟨β1, i1⟩ := i.sub hs
  intro b k cs hro hb hr
  have key : ∀ n s, μ s = n → J s → ∀ M β a w, Inv cx N M β (St0 s) a w →
      ∃ e a' w', (∃ σ' M' β', K e σ' ∧ Inv cx N M' β' σ' a' w' ∧ Grow cx.B M M' ∧ Keep cx w w') ∧ ArrivesIn (Machine.fenced P (FW cx.rd)) P (lone (b.atR a (.code c :: .inLoop c :: k)) cs w) b k cs e a' w' := by
    intro n
    induction n using Nat.strongRecOn with
    | _ n ih =>
      intro s hn hJ M β a w i
      obtain ⟨e, a₁, w₁, ⟨σ', M1, β1, hq, i1, hM, hk⟩, harr⟩ := body s hJ M β a w i b (.inLoop c :: k) cs hro hb hr
      cases e with
      | normal =>
        obtain ⟨s', hJ', hlt, hsub⟩ := hq
        obtain ⟨β2, i2⟩ := i1.sub hsub
        obtain ⟨e₂, a₂, w₂, ⟨σ2, M2, β2, hq₂, i2, hM2, hk2⟩, harr₂⟩ := ih (μ s') (hn ▸ hlt) s' rfl hJ' M1 β2 a₁ w₁ i2
        exact ⟨e₂, a₂, w₂, ⟨σ2, M2, β2, hq₂, i2, hM.trans hM2, hk.trans hk2⟩, .of_steps (StepsIn.trans harr (.one (fenced_calm hb hr rfl) stepR_inLoop)) harr₂⟩
      | exit id => exact ⟨_, a₁, w₁, ⟨σ', M1, β1, hq, i1, hM, hk⟩, .pass (x := .inLoop c) rfl (fun _ _ => .inl (by simp)) harr⟩
      | goto l => exact ⟨_, a₁, w₁, ⟨σ', M1, β1, hq, i1, hM, hk⟩, .pass (x := .inLoop c) rfl (fun _ _ => .inl (by simp)) harr⟩
      | ret => exact ⟨_, a₁, w₁, ⟨σ', M1, β1, hq, i1, hM, hk⟩, .pass (x := .inLoop c) rfl (fun _ _ => .inl (by simp)) harr⟩
      | panic ch => exact ⟨_, a₁, w₁, ⟨σ', M1, β1, hq, i1, hM, hk⟩, .pass (x := .inLoop c) rfl (fun _ _ => .inl (by simp)) harr⟩
      | outgrown => exact ⟨_, a₁, w₁, ⟨σ', M1, β1, hq, i1, hM, hk⟩, .pass (x := .inLoop c) rfl (fun _ _ => .inl (by simp)) harr⟩
  obtain ⟨e, a', w', hq, harr⟩ := key _ s0 rfl hJ M β1 a w i1
  exact ⟨e, a', w', hq, .of_steps (.one (fenced_calm hb hr rfl) stepR_loop) harr⟩

end rules
end Go.Ax

/- What an operation yields on abstract values. -/
namespace Go.Ax
open Go.RowKit

/-- A type's shape. -/
inductive Und where
  | bool | string | struct | func | pointer | iface | other
  | int (k : IntKind) | float (k : FloatKind)
  | slice (e : TypeId) | array (n : Nat) (e : TypeId) | map (k e : TypeId)
def Und.ofDesc : TypeDesc → Und
  | .bool => .bool
  | .int k => .int k
  | .float k => .float k
  | .string => .string
  | .slice e => .slice e
  | .array n e => .array n e
  | .map k e => .map k e
  | .struct _ => .struct
  | .func _ _ _ => .func
  | .pointer _ => .pointer
  | .interface _ => .iface
  | _ => .other

structure TyI where
  und : Und
  size : Nat
  bytes : Nat
  agg : Bool
  zero : List Value
  flds : List (Nat × Nat)
  ints : Bool

def intS : SV → Option (IntKind × Int)
  | .d (.val (.int k a)) => some (k, a)
  | _ => none
def strS : SV → Option ByteArray
  | .d (.val (.string s)) => some s
  | _ => none
def boolS : SV → Option Bool
  | .d (.lit b) => some b
  | .d (.val (.bool b)) => some b
  | _ => none
def eqI : List SV → List SV → Option Bool
  | [], [] => some true
  | x :: r, y :: s =>
    match intS x, intS y, eqI r s with
    | some (k, a), some (k', b), some c => bif decide (k = k') then some (a == b && c) else none
    | _, _, some c => match strS x, strS y with
      | some a, some b => some (a.toList == b.toList && c)
      | _, _ => match boolS x, boolS y with
        | some a, some b => some (a == b && c)
        | _, _ => none
    | _, _, none => none
  | _, _ => none

/-- Is x a cell of z's kind? -/
def kOK : Value → SV → Bool
  | .int _ _, x => (intS x).isSome
  | .string _, x => (strS x).isSome
  | .bool _, x => (boolS x).isSome
  | _, _ => false
def kindOK : List Value → List SV → Bool
  | [], [] => true
  | z :: zs, x :: xs => kOK z x && kindOK zs xs
  | _, _ => false

def FldsOK (P : Program) : List Field → List (Nat × Nat) → Prop
  | [], [] => True
  | f :: fs, (o, z) :: r => f.offset = o ∧ (∃ ti, P.info? f.type = some ti ∧ ti.size = z) ∧ FldsOK P fs r
  | _, _ => False

structure TyOK (P : Program) (t : TypeId) (i : TyI) : Prop where
  und : ∃ d, P.underlying t = some d ∧ Und.ofDesc d = i.und
  info : ∃ ti, P.info? t = some ti ∧ ti.size = i.size ∧ ti.bytes = i.bytes ∧ ∃ z, ti.zero = some z ∧ z.cells.toList = i.zero
  agg : (match i.und with | .struct | .array _ _ => true | _ => false) = i.agg
  flds : ∀ fs, P.underlying t = some (.struct fs) → FldsOK P fs.toList i.flds
  eqg : i.ints = true → P.eqGuardType P.depth t = false
  ints : i.ints = true → ∀ (w : World) (xs ys : List SV) (vs us : List Value) (b : Bool), kindOK i.zero xs = true → kindOK i.zero ys = true → eqI xs ys = some b → RepL (fun _ _ => none) (fun _ => none) xs vs → RepL (fun _ _ => none) (fun _ => none) ys us →
    (Op.equal t (.agg vs.toArray) (.agg us.toArray)).run P w = .ok b w

def Tab := List (Nat × TyI)
def getT : List (Nat × TyI) → Nat → Option TyI
  | [], _ => none
  | (k, v) :: r, t => bif Nat.beq k t then some v else getT r t
def TabOK (P : Program) : List (Nat × TyI) → Prop
  | [] => True
  | (k, v) :: r => TyOK P k v ∧ TabOK P r
theorem TabOK.get {P : Program} : ∀ {T : List (Nat × TyI)} {t : Nat} {i : TyI}, TabOK P T → getT T t = some i → TyOK P t i
  | [], _, _, _, h => by cases h
  | (k, v) :: r, t, i, ⟨h, hr⟩, e => by
    by_cases hk : k = t
    · subst hk
      simp only [getT, Nat.beq_refl, cond_true] at e
      cases e; exact h
    · simp only [getT, beqF hk, cond_false] at e
      exact TabOK.get hr e

section tyok
variable {P : Program} {t : TypeId} {i : TyI} (h : TyOK P t i)
include h
theorem TyOK.isSlice {e : TypeId} (hu : i.und = .slice e) : P.underlying t = some (.slice e) := by
  obtain ⟨d, h1, h2⟩ := h.und
  rw [hu] at h2
  cases d <;> simp only [Und.ofDesc] at h2 <;> first | cases h2; exact h1 | cases h2
theorem TyOK.isArray {n : Nat} {e : TypeId} (hu : i.und = .array n e) : P.underlying t = some (.array n e) := by
  obtain ⟨d, h1, h2⟩ := h.und
  rw [hu] at h2
  cases d <;> simp only [Und.ofDesc] at h2 <;> first | cases h2; exact h1 | cases h2
theorem TyOK.isMap {k e : TypeId} (hu : i.und = .map k e) : P.underlying t = some (.map k e) := by
  obtain ⟨d, h1, h2⟩ := h.und
  rw [hu] at h2
  cases d <;> simp only [Und.ofDesc] at h2 <;> first | cases h2; exact h1 | cases h2
theorem TyOK.isInt {k : IntKind} (hu : i.und = .int k) : P.underlying t = some (.int k) := by
  obtain ⟨d, h1, h2⟩ := h.und
  rw [hu] at h2
  cases d <;> simp only [Und.ofDesc] at h2 <;> first | cases h2; exact h1 | cases h2
theorem TyOK.isFloat {k : FloatKind} (hu : i.und = .float k) : P.underlying t = some (.float k) := by
  obtain ⟨d, h1, h2⟩ := h.und
  rw [hu] at h2
  cases d <;> simp only [Und.ofDesc] at h2 <;> first | cases h2; exact h1 | cases h2
theorem TyOK.isBool (hu : i.und = .bool) : P.underlying t = some .bool := by
  obtain ⟨d, h1, h2⟩ := h.und
  rw [hu] at h2
  cases d <;> simp only [Und.ofDesc] at h2 <;> first | exact h1 | cases h2
theorem TyOK.isSlice0 {e : TypeId} (hu : i.und = .slice e) : P.underlying t = some (.slice e) := by
  obtain ⟨d, h1, h2⟩ := h.und
  rw [hu] at h2
  cases d <;> simp only [Und.ofDesc] at h2 <;> first | (cases h2; exact h1) | cases h2
theorem TyOK.isString (hu : i.und = .string) : P.underlying t = some .string := by
  obtain ⟨d, h1, h2⟩ := h.und
  rw [hu] at h2
  cases d <;> simp only [Und.ofDesc] at h2 <;> first | exact h1 | cases h2
theorem TyOK.isStruct (hu : i.und = .struct) : ∃ fs, P.underlying t = some (.struct fs) := by
  obtain ⟨d, h1, h2⟩ := h.und
  rw [hu] at h2
  cases d <;> simp only [Und.ofDesc] at h2 <;> first | exact ⟨_, h1⟩ | cases h2
theorem TyOK.run_size (w : World) : (sizeOf t).run P w = .ok i.size w := by
  obtain ⟨ti, e, hs, _⟩ := h.info
  simp [sizeOf, typeInfo, e, hs]
theorem TyOK.run_agg (w : World) : (isAgg t).run P w = .ok i.agg w := by
  have := h.agg
  obtain ⟨d, h1, h2⟩ := h.und
  simp only [isAgg, Sem.run_bind, run_underlying h1, Result.andThen]
  rw [← this, ← h2]
  cases d <;> rfl
theorem TyOK.run_zero (w : World) : ∃ z : Value, (zeroValue t).run P w = .ok z w ∧ z.cells.toList = i.zero := by
  obtain ⟨ti, e, _, _, z, hz, hc⟩ := h.info
  exact ⟨z, by simp [zeroValue, typeInfo, e, hz], hc⟩
end tyok

def act (g : Option Bool) : Prop := ∀ b, g = some b → b = true
def imp (g : Option Bool) (p : Prop) : Prop := match g with | none => p | some b => b = true → p
theorem imp.get {g : Option Bool} {p : Prop} (h : imp g p) (ha : act g) : p := by
  cases g with
  | none => exact h
  | some b => exact h (ha b rfl)

/-- An operand's value, a condition stripped off under a guard. -/
def fe (g : Option Bool) (v : AV) (K : AV → Prop) : Prop :=
  match v with
  | .ib b x => match g with | none => b = true ∧ K (.s x) | some gb => (gb = true → b = true) ∧ K (.s x)
  | .ig b cs => match g with | none => b = true ∧ K (.g cs) | some gb => (gb = true → b = true) ∧ K (.g cs)
  | .s x => K (.s x)
  | .g cs => K (.g cs)
  | .t ts => K (.t ts)

theorem fe.spec {g : Option Bool} {v : AV} {K : AV → Prop} (h : fe g v K) :
    ∃ r, K r ∧ (act g → ∀ M β u, v.Rep M β u → r.Rep M β u) := by
  cases v with
  | s x => exact ⟨_, h, fun _ _ _ _ r => r⟩
  | g cs => exact ⟨_, h, fun _ _ _ _ r => r⟩
  | t ts => exact ⟨_, h, fun _ _ _ _ r => r⟩
  | ib b x =>
    cases g with
    | none => exact ⟨_, h.2, fun _ M β u r => r.1 h.1⟩
    | some gb => exact ⟨_, h.2, fun ha M β u r => r.1 (h.1 (ha gb rfl))⟩
  | ig b cs =>
    cases g with
    | none => exact ⟨_, h.2, fun _ M β u r => r.1 h.1⟩
    | some gb => exact ⟨_, h.2, fun ha M β u r => r.1 (h.1 (ha gb rfl))⟩

def cvC (v : Value) : AV :=
  match v with
  | .bool b => .s (.d (.lit b))
  | .agg _ => .s (.d .junk)
  | .tuple _ => .s (.d .junk)
  | v => .s (.d (.val v))
def ev (σ : St) : Operand → AV
  | .tmp t => getE σ.env t
  | .const v => cvC v
  | .func f => .s (.clo f [])
  | .global _ => .s (.d .junk)

theorem cvC.rep (M : Mem) (β : Nm) (v : Value) : (cvC v).Rep M β v := by
  cases v <;> first | exact rfl | exact trivial
theorem ev.rep {cx : Cx} {N : Nat} {M : Mem} {β : Nm} {σ : St} {a : Act} {w : World} (i : Inv cx N M β σ a w) (x : Operand) :
    (ev σ x).Rep M β (a.eval x) := by
  cases x with
  | tmp t => exact i.env t
  | const v => exact cvC.rep M β v
  | func f => exact ⟨[], rfl, trivial⟩
  | global g => exact trivial

abbrev vint (k : IntKind) (n : Int) : AV := .s (.d (.val (.int k n)))
abbrev vbool (b : Bool) : AV := .s (.d (.val (.bool b)))

/-- A Bool out of an abstract value. -/
def asB : AV → Option Bool
  | .s (.d (.lit b)) => some b
  | .s (.d (.val (.bool b))) => some b
  | _ => none
theorem asB.spec {v : AV} {b : Bool} {M : Mem} {β : Nm} {u : Value} (h : asB v = some b) (r : v.Rep M β u) : u = .bool b := by
  unfold asB at h
  split at h
  · cases h; exact r
  · cases h; exact r
  · cases h

def andI (k : IntKind) (x y : Int) : Int := k.wrap (BitVec.ofInt k.bits x &&& BitVec.ofInt k.bits y).toNat
def shrI (k : IntKind) (x y : Int) : Int := x.fdiv (2 ^ (min y.toNat k.bits))
/-- 'op' on two integers. -/
def binI (op : BinOp) (k : IntKind) (g : Option Bool) (x y : Int) (K : AV → Prop) : Prop :=
  match op with
  | .add => K (vint k (k.wrap (x + y)))
  | .sub => K (vint k (k.wrap (x - y)))
  | .mul => K (vint k (k.wrap (x * y)))
  | .quo => imp g (y ≠ 0) ∧ K (vint k (k.wrap (x.tdiv y)))
  | .rem => imp g (y ≠ 0) ∧ K (vint k (x.tmod y))
  | .eql => K (vbool (x == y))
  | .neq => K (vbool (x != y))
  | .lss => K (vbool (decide (x < y)))
  | .leq => K (vbool (decide (x ≤ y)))
  | .gtr => K (vbool (decide (x > y)))
  | .geq => K (vbool (decide (x ≥ y)))
  | .and => K (vint k (andI k x y))
  | .shr => imp g (0 ≤ y) ∧ K (vint k (shrI k x y))
  | _ => False

theorem binI.spec {P : Program} {op : BinOp} {k : IntKind} {g : Option Bool} {x y : Int} {K : AV → Prop} (h : binI op k g x y K) :
    ∃ r, K r ∧ (act g → ∀ (t : TypeId) (w : World), ∃ v, (binOp op t (.int k x) (.int k y)).run P w = .ok v w ∧ ∀ M β, r.Rep M β v) := by
  unfold binI at h
  split at h
  case h_1 => exact ⟨_, h, fun _ t w => ⟨_, by simp [binOp, Op.intArith], fun _ _ => rfl⟩⟩
  case h_2 => exact ⟨_, h, fun _ t w => ⟨_, by simp [binOp, Op.intArith], fun _ _ => rfl⟩⟩
  case h_3 => exact ⟨_, h, fun _ t w => ⟨_, by simp [binOp, Op.intArith], fun _ _ => rfl⟩⟩
  case h_4 => exact ⟨_, h.2, fun ha t w => ⟨_, by simp [binOp, Op.intDiv, h.1.get ha], fun _ _ => rfl⟩⟩
  case h_5 => exact ⟨_, h.2, fun ha t w => ⟨_, by simp [binOp, Op.intDiv, h.1.get ha], fun _ _ => rfl⟩⟩
  case h_6 => exact ⟨_, h, fun _ t w => ⟨_, by simp [binOp, Op.intCmp], fun _ _ => rfl⟩⟩
  case h_7 => exact ⟨_, h, fun _ t w => ⟨_, by simp [binOp, Op.intCmp], fun _ _ => rfl⟩⟩
  case h_8 => exact ⟨_, h, fun _ t w => ⟨_, by simp [binOp, Op.intCmp], fun _ _ => rfl⟩⟩
  case h_9 => exact ⟨_, h, fun _ t w => ⟨_, by simp [binOp, Op.intCmp], fun _ _ => rfl⟩⟩
  case h_10 => exact ⟨_, h, fun _ t w => ⟨_, by simp [binOp, Op.intCmp], fun _ _ => rfl⟩⟩
  case h_11 => exact ⟨_, h, fun _ t w => ⟨_, by simp [binOp, Op.intCmp], fun _ _ => rfl⟩⟩
  case h_12 => exact ⟨_, h, fun _ t w => ⟨.int k (andI k x y), by simp only [binOp, if_neg (fun h : k ≠ k => h rfl)]; rfl, fun _ _ => rfl⟩⟩
  case h_13 =>
    refine ⟨_, h.2, fun ha t w => ⟨.int k (shrI k x y), ?_, fun _ _ => rfl⟩⟩
    have hy : ¬ y < 0 := by have := h.1.get ha; omega
    simp only [binOp, Op.shift, if_neg hy]; rfl
  case h_14 => exact h.elim

/-- '==' and '!=' on strings, and '+'. -/
def binS (op : BinOp) (g : Option Bool) (x y : ByteArray) (K : AV → Prop) : Prop :=
  match op with
  | .eql => K (vbool (x.toList == y.toList))
  | .neq => K (vbool (!(x.toList == y.toList)))
  | .add => imp g (x.size + y.size ≤ 9223372036854775807) ∧ K (.s (.d (.val (.string (x ++ y)))))
  | _ => False
theorem binS.spec {P : Program} {op : BinOp} {g : Option Bool} {x y : ByteArray} {K : AV → Prop} (h : binS op g x y K) :
    ∃ r, K r ∧ (act g → ∀ (t : TypeId) (w : World), ∃ v, (binOp op t (.string x) (.string y)).run P w = .ok v w ∧ ∀ M β, r.Rep M β v) := by
  unfold binS at h
  split at h
  case h_1 => exact ⟨_, h, fun _ t w => ⟨_, by simp [binOp, Op.stringOp], fun _ _ => rfl⟩⟩
  case h_2 => exact ⟨_, h, fun _ t w => ⟨_, by simp [binOp, Op.stringOp], fun _ _ => rfl⟩⟩
  case h_3 =>
    refine ⟨_, h.2, fun ha t w => ⟨_, ?_, fun _ _ => rfl⟩⟩
    have hb := h.1.get ha
    have : ¬ ((x.size : Int) + (y.size : Int) > IntKind.i64.max) := by
      have : IntKind.i64.max = 9223372036854775807 := by decide
      rw [this]; omega
    simp [binOp, Op.stringOp]
    omega
  case h_4 => exact h.elim

theorem run_equalIn_nil {P : Program} (w : World) (d : Nat) {t e : TypeId} (h : P.underlying t = some (.slice e)) : (Op.equalIn (d + 1) t (.slice none 0 0) (.slice none 0 0)).run P w = .ok true w := by
  simp [Op.equalIn, run_underlying h]
theorem run_nil_nil {P : Program} (w : World) {t e : TypeId} (h : P.underlying t = some (.slice e)) : (binOp .eql t (.slice none 0 0) (.slice none 0 0)).run P w = .ok (.bool true) w := by
  simp only [binOp]
  simp [Op.equal, Op.maxDepth, run_equalIn_nil w 9999 h]
theorem eqGuard_plain {P : Program} (op : BinOp) (t : TypeId) (x y : Operand) (a b : Value) (w : World) (h : a ≠ .nilIface) (ha : ∀ cs, a ≠ .agg cs) :
    (eqGuard op t x y a b).run P w = .ok () w := by
  unfold eqGuard
  cases a <;> first
    | exact absurd rfl h
    | exact absurd rfl (ha _)
    | (cases op <;> rfl)

theorem run_sl_nil {P : Program} (w : World) {t e : TypeId} {a : Option Addr} {n c : Nat} (h : P.underlying t = some (.slice e)) : (binOp .eql t (.slice a n c) (.slice none 0 0)).run P w = .ok (.bool a.isNone) w := by
  have key : ∀ d, (Op.equalIn (d + 1) t (.slice a n c) (.slice none 0 0)).run P w = .ok a.isNone w := by
    intro d
    cases a <;> simp [Op.equalIn, run_underlying h]
  simp only [binOp]
  simp [Op.equal, Op.maxDepth, key 9999]
theorem run_sl_nil' {P : Program} (w : World) {t e : TypeId} {a : Option Addr} {n c : Nat} (h : P.underlying t = some (.slice e)) : (binOp .neq t (.slice a n c) (.slice none 0 0)).run P w = .ok (.bool (!a.isNone)) w := by
  have key : ∀ d, (Op.equalIn (d + 1) t (.slice a n c) (.slice none 0 0)).run P w = .ok a.isNone w := by
    intro d
    cases a <;> simp [Op.equalIn, run_underlying h]
  simp only [binOp]
  simp [Op.equal, Op.maxDepth, key 9999]
def bin (T : List (Nat × TyI)) (op : BinOp) (t : TypeId) (g : Option Bool) (x y : AV) (K : AV → Prop) : Prop :=
  match x, y with
  | .s (.d (.val (.int k a))), .s (.d (.val (.int k' b))) => bif decide (k = k') then binI op k g a b K else False
  | .s (.d (.val (.string a))), .s (.d (.val (.string b))) => binS op g a b K
  | .s (.d (.val (.slice none 0 0))), .s (.d (.val (.slice none 0 0))) =>
    match getT T t with
    | some i => match i.und with
      | .slice _ => match op with
        | .eql => K (vbool true)
        | _ => False
      | _ => False
    | none => False
  | .g xs, .g ys =>
    match getT T t with
    | some i => bif i.ints && (kindOK i.zero xs && kindOK i.zero ys) then
        match eqI xs ys with
        | some b => match op with
          | .eql => K (vbool b)
          | .neq => K (vbool (!b))
          | _ => False
        | none => False
      else False
    | none => False
  | .s (.own _), .s (.d (.val (.slice none 0 0))) =>
    match getT T t with
    | some i => match i.und with
      | .slice _ => match op with
        | .eql => K (match g with | none => .s (.d (.lit false)) | some _ => vbool false)
        | .neq => K (match g with | none => .s (.d (.lit true)) | some _ => vbool true)
        | _ => False
      | _ => False
    | none => False
  | .s (.mo z _), .s (.d (.val (.slice none 0 0))) =>
    match getT T t with
    | some i => match i.und with
      | .slice _ => match op with
        | .eql => K (vbool z)
        | .neq => K (vbool (!z))
        | _ => False
      | _ => False
    | none => False
  | x, y => match asB x, asB y with
    | some a, some b => match getT T t with
      | some i => match i.und with
        | .bool => match op with
          | .eql => K (vbool (a == b))
          | .neq => K (vbool (!(a == b)))
          | _ => False
        | _ => False
      | none => False
    | _, _ => False

theorem intS.closed {x : SV} {a : IntKind × Int} {M : Mem} {β : Nm} {v : Value} (h : intS x = some a) (r : x.Rep M β v) : x.Rep (fun _ _ => none) (fun _ => none) v := by
  unfold intS at h
  split at h
  · exact r
  · cases h
theorem strS.closed {x : SV} {a : ByteArray} {M M' : Mem} {β β' : Nm} {v : Value} (h : strS x = some a) (r : x.Rep M β v) : x.Rep M' β' v := by
  unfold strS at h
  split at h
  · exact r
  · cases h
theorem boolS.closed {x : SV} {a : Bool} {M M' : Mem} {β β' : Nm} {v : Value} (h : boolS x = some a) (r : x.Rep M β v) : x.Rep M' β' v := by
  unfold boolS at h
  split at h
  · exact r
  · exact r
  · cases h
theorem strS.val {x : SV} {a : ByteArray} {M : Mem} {β : Nm} {v : Value} (h : strS x = some a) (r : x.Rep M β v) : v = .string a := by
  unfold strS at h
  split at h
  · cases h; exact r
  · cases h
theorem boolS.val {x : SV} {a : Bool} {M : Mem} {β : Nm} {v : Value} (h : boolS x = some a) (r : x.Rep M β v) : v = .bool a := by
  unfold boolS at h
  split at h
  · cases h; exact r
  · cases h; exact r
  · cases h
theorem eqI.closed : ∀ {xs ys : List SV} {b : Bool} {M : Mem} {β : Nm} {vs us : List Value}, eqI xs ys = some b → RepL M β xs vs → RepL M β ys us →
    RepL (fun _ _ => none) (fun _ => none) xs vs ∧ RepL (fun _ _ => none) (fun _ => none) ys us
  | [], [], _, _, _, [], [], _, _, _ => ⟨trivial, trivial⟩
  | x :: r, y :: s, b, M, β, v :: vs, u :: us, e, h, k => by
    simp only [eqI] at e
    split at e
    · rename_i k1 a k2 b c ha hb hc
      obtain ⟨i1, i2⟩ := eqI.closed hc h.2 k.2
      exact ⟨⟨intS.closed ha h.1, i1⟩, ⟨intS.closed hb k.1, i2⟩⟩
    · rename_i c hc _
      obtain ⟨i1, i2⟩ := eqI.closed hc h.2 k.2
      split at e
      · rename_i ha hb
        exact ⟨⟨strS.closed ha h.1, i1⟩, ⟨strS.closed hb k.1, i2⟩⟩
      · split at e
        · rename_i ha hb
          exact ⟨⟨boolS.closed ha h.1, i1⟩, ⟨boolS.closed hb k.1, i2⟩⟩
        · cases e
    · cases e
  | [], _ :: _, _, _, _, _, _, e, _, _ => by cases e
  | _ :: _, [], _, _, _, _, _, e, _, _ => by cases e
  | [], [], _, _, _, _ :: _, _, _, h, _ => h.elim
  | [], [], _, _, _, [], _ :: _, _, _, h => h.elim
  | _ :: _, _ :: _, _, _, _, [], _, _, h, _ => h.elim
  | _ :: _, _ :: _, _, _, _, _ :: _, [], _, _, h => h.elim

theorem bin.spec {P : Program} {T : List (Nat × TyI)} (hT : TabOK P T) {o : Oper} {op : BinOp} {t ty : TypeId} {x y : Operand} {g : Option Bool} {va vb : AV} {K : AV → Prop}
    (ho : o.op = .binOp op t x y ty) (h : bin T op t g va vb K) :
    ∃ r, K r ∧ (act g → ∀ (M : Mem) (β : Nm) (a : Act) (w : World), va.Rep M β (a.eval x) → vb.Rep M β (a.eval y) → ∃ v, (execOp a.eval o).run P w = .ok (.value v) w ∧ r.Rep M β v) := by
  unfold bin at h
  split at h
  · rename_i k a k' b
    by_cases hk : k = k'
    · subst hk
      simp only [decide_true, cond_true] at h
      obtain ⟨r, hr, hs⟩ := binI.spec (P := P) h
      refine ⟨r, hr, fun ha M β a' w rx ry => ?_⟩
      obtain ⟨v, e, rr⟩ := hs ha t w
      have ex : a'.eval x = .int k a := rx
      have ey : a'.eval y = .int k b := ry
      refine ⟨v, ?_, rr M β⟩
      simp only [execOp, ho, ex, ey, Sem.run_bind, eqGuard_plain op t x y (.int k a) (.int k b) w (by simp) (by simp), Result.andThen, e, Sem.run_pure]
    · simp only [hk, decide_false, cond_false] at h
  · rename_i a b
    obtain ⟨r, hr, hs⟩ := binS.spec (P := P) h
    refine ⟨r, hr, fun ha M β a' w rx ry => ?_⟩
    obtain ⟨v, e, rr⟩ := hs ha t w
    have ex : a'.eval x = .string a := rx
    have ey : a'.eval y = .string b := ry
    refine ⟨v, ?_, rr M β⟩
    simp only [execOp, ho, ex, ey, Sem.run_bind, eqGuard_plain op t x y (.string a) (.string b) w (by simp) (by simp), Result.andThen, e, Sem.run_pure]
  · split at h
    · rename_i i hi
      have hok := hT.get hi
      split at h
      · rename_i e hu
        have hu' := hok.isSlice0 hu
        cases op <;> first | exact h.elim | skip
        refine ⟨_, h, fun ha M β a' w rx ry => ?_⟩
        have ex : a'.eval x = .slice none 0 0 := rx
        have ey : a'.eval y = .slice none 0 0 := ry
        refine ⟨.bool true, ?_, rfl⟩
        simp only [execOp, ho, ex, ey, Sem.run_bind, eqGuard_plain BinOp.eql t x y (.slice none 0 0) (.slice none 0 0) w (by simp) (by simp), Result.andThen, run_nil_nil w hu', Sem.run_pure]
      · exact h.elim
    · exact h.elim
  · rename_i xs ys
    split at h
    · rename_i i hi
      have hok := hT.get hi
      cases hc : (i.ints && (kindOK i.zero xs && kindOK i.zero ys)) with
      | true =>
        rw [hc] at h
        simp only [cond_true] at h
        simp only [Bool.and_eq_true] at hc
        split at h
        · rename_i b hb
          have key : ∀ (M : Mem) (β : Nm) (a' : Act) (w : World), (AV.g xs).Rep M β (a'.eval x) → (AV.g ys).Rep M β (a'.eval y) →
              ∃ vs us : List Value, a'.eval x = .agg vs.toArray ∧ a'.eval y = .agg us.toArray ∧ (Op.equal t (.agg vs.toArray) (.agg us.toArray)).run P w = .ok b w := by
            rintro M β a' w ⟨vs, ex, rx⟩ ⟨us, ey, ry⟩
            obtain ⟨c1, c2⟩ := eqI.closed hb rx ry
            exact ⟨vs, us, ex, ey, hok.ints hc.1 w xs ys vs us b hc.2.1 hc.2.2 hb c1 c2⟩
          have hq := hok.eqg hc.1
          cases op <;> first | exact h.elim | skip
          · refine ⟨_, h, fun ha M β a' w rx ry => ?_⟩
            obtain ⟨vs, us, ex, ey, e⟩ := key M β a' w rx ry
            refine ⟨.bool b, ?_, rfl⟩
            simp only [execOp, ho, ex, ey, Sem.run_bind, run_eqGuard_agg (w := w) .eql t x y vs.toArray us.toArray hq, Result.andThen, Sem.run_pure, binOp, e]
          · refine ⟨_, h, fun ha M β a' w rx ry => ?_⟩
            obtain ⟨vs, us, ex, ey, e⟩ := key M β a' w rx ry
            refine ⟨.bool (!b), ?_, rfl⟩
            simp only [execOp, ho, ex, ey, Sem.run_bind, run_eqGuard_agg (w := w) .neq t x y vs.toArray us.toArray hq, Result.andThen, Sem.run_pure, binOp, e]
        · exact h.elim
      | false =>
        rw [hc] at h
        exact h.elim
    · exact h.elim
  · rename_i xo
    split at h
    case h_2 => exact h.elim
    rename_i i hi
    have hok := hT.get hi
    split at h
    case h_2 => exact h.elim
    rename_i e hu
    have hu' := hok.isSlice0 hu
    cases op <;> first | exact h.elim | skip
    · refine ⟨_, h, fun ha M β a' w rx ry => ?_⟩
      obtain ⟨b, c, _, ex, _⟩ := rx
      have ey : a'.eval y = .slice none 0 0 := ry
      refine ⟨.bool false, ?_, by cases g <;> rfl⟩
      simp only [execOp, ho, ex, ey, Sem.run_bind, eqGuard_plain BinOp.eql t x y (.slice (some ⟨b, 0, none⟩) c.2 c.1) (.slice none 0 0) w (by simp) (by simp), Result.andThen, run_sl_nil w hu', Sem.run_pure, Option.isNone_some]
    · refine ⟨_, h, fun ha M β a' w rx ry => ?_⟩
      obtain ⟨b, c, _, ex, _⟩ := rx
      have ey : a'.eval y = .slice none 0 0 := ry
      refine ⟨.bool true, ?_, by cases g <;> rfl⟩
      simp only [execOp, ho, ex, ey, Sem.run_bind, eqGuard_plain BinOp.neq t x y (.slice (some ⟨b, 0, none⟩) c.2 c.1) (.slice none 0 0) w (by simp) (by simp), Result.andThen, run_sl_nil' w hu', Sem.run_pure, Option.isNone_some, Bool.not_false]
  · rename_i z xo
    split at h
    case h_2 => exact h.elim
    rename_i i hi
    have hok := hT.get hi
    split at h
    case h_2 => exact h.elim
    rename_i e hu
    have hu' := hok.isSlice0 hu
    have key : ∀ (M : Mem) (β : Nm) (v : Value), (SV.mo z xo).Rep M β v → ∃ a n c, v = .slice a n c ∧ a.isNone = z := by
      intro M β v r
      cases z with
      | true => exact ⟨none, 0, 0, r.1 rfl, rfl⟩
      | false =>
        obtain ⟨b, c, _, ex, _⟩ := r.2 rfl
        exact ⟨_, _, _, ex, rfl⟩
    cases op <;> first | exact h.elim | skip
    · refine ⟨_, h, fun ha M β a' w rx ry => ?_⟩
      obtain ⟨ad, n, c, ex, hz⟩ := key M β _ rx
      have ey : a'.eval y = .slice none 0 0 := ry
      refine ⟨.bool z, ?_, rfl⟩
      simp only [execOp, ho, ex, ey, Sem.run_bind, eqGuard_plain BinOp.eql t x y (.slice ad n c) (.slice none 0 0) w (by simp) (by simp), Result.andThen, run_sl_nil w hu', Sem.run_pure, hz]
    · refine ⟨_, h, fun ha M β a' w rx ry => ?_⟩
      obtain ⟨ad, n, c, ex, hz⟩ := key M β _ rx
      have ey : a'.eval y = .slice none 0 0 := ry
      refine ⟨.bool (!z), ?_, rfl⟩
      simp only [execOp, ho, ex, ey, Sem.run_bind, eqGuard_plain BinOp.neq t x y (.slice ad n c) (.slice none 0 0) w (by simp) (by simp), Result.andThen, run_sl_nil' w hu', Sem.run_pure, hz]
  · split at h
    · rename_i a b ha hb
      split at h
      · rename_i i hi
        have hok := hT.get hi
        split at h
        · rename_i hu
          have hu' : P.underlying t = some .bool := hok.isBool hu
          cases op <;> first | exact h.elim | skip
          · refine ⟨_, h, fun _ M β a' w rx ry => ?_⟩
            have ex := asB.spec ha rx
            have ey := asB.spec hb ry
            refine ⟨.bool (a == b), ?_, rfl⟩
            simp only [execOp, ho, ex, ey, Sem.run_bind, eqGuard_plain BinOp.eql t x y (.bool a) (.bool b) w (by simp) (by simp), Result.andThen, run_eql_bool (w := w) t a b hu', Sem.run_pure]
          · refine ⟨_, h, fun _ M β a' w rx ry => ?_⟩
            have ex := asB.spec ha rx
            have ey := asB.spec hb ry
            refine ⟨.bool (!(a == b)), ?_, rfl⟩
            simp only [execOp, ho, ex, ey, Sem.run_bind, eqGuard_plain BinOp.neq t x y (.bool a) (.bool b) w (by simp) (by simp), Result.andThen, run_neq_bool (w := w) t a b hu', Sem.run_pure]
        · exact h.elim
      · exact h.elim
    · exact h.elim

end Go.Ax

/- Loads, addresses, parts, the rest of the operations that yield a value. -/
namespace Go.Ax
open Go.RowKit

def gen : Nat → Nat → (Nat → DV) → List SV
  | 0, _, _ => []
  | k + 1, j, f => .d (f j) :: gen k (j + 1) f

theorem cell_add {b o j : Nat} : (⟨b, o, none⟩ : Addr).add j = ⟨b, o + j, none⟩ := by unfold Addr.add; split <;> simp_all

theorem gen.rep {M : Mem} {β : Nm} {C : Nat → Value → Prop} {f : Nat → DV} : ∀ (k j : Nat), (∀ i, j ≤ i → i < j + k → ∃ u, C i u ∧ (f i).Rep M u) →
    ∃ vs : List Value, vs.length = k ∧ RepL M β (gen k j f) vs ∧ ∀ i v, vs[i]? = some v → C (j + i) v
  | 0, _, _ => ⟨[], rfl, trivial, by simp⟩
  | k + 1, j, h => by
    obtain ⟨u, hu, hr⟩ := h j (Nat.le_refl _) (by omega)
    obtain ⟨vs, hl, hr2, hm⟩ := gen.rep (M := M) (β := β) (C := C) (f := f) k (j + 1) (fun i h1 h2 => h i (by omega) (by omega))
    refine ⟨u :: vs, by simp [hl], ⟨hr, hr2⟩, ?_⟩
    intro i v hv
    cases i with
    | zero => simp at hv; subst hv; exact hu
    | succ i => have := hm i v (by simpa using hv); rw [show j + (i + 1) = j + 1 + i by omega]; exact this

def cnt (agg : Bool) (size : Nat) : Nat := match agg with | true => size | false => 1
/-- What a load of 'size' cells yields. -/
def loadV (σ : St) (agg : Bool) (size : Nat) (g : Option Bool) (va : AV) (K : AV → Prop) : Prop :=
  match va with
  | .s (.ptr x off) =>
    match getB σ.box x with
    | some (some (.cells cs)) =>
      match agg with
      | true => bif Nat.ble (off + size) cs.length then K (.g ((cs.drop off).take size)) else False
      | false => match cs[off]? with
        | some c => K (.s c)
        | none => False
    | _ => False
  | .s (.rw x i s o) =>
    match getB σ.box x with
    | some (some (.row _ n s' f)) =>
      bif Nat.beq s s' && Nat.ble (o + cnt agg size) s then
        imp g (i < n) ∧ (match agg with
        | true => K (.g (gen size 0 fun j => f i (o + j)))
        | false => K (.s (.d (f i o))))
      else False
    | some (some (.mrow _ n s' f)) =>
      bif Nat.beq s s' && Nat.ble (o + cnt agg size) s then
        imp g (i < n) ∧ (match agg with
        | true => K (.g (gen size 0 fun j => f i (o + j)))
        | false => K (.s (.d (f i o))))
      else False
    | _ => False
  | .s (.d (.rp m f)) =>
    match agg with
    | true => bif Nat.ble size m then K (.g (gen size 0 f)) else False
    | false => bif Nat.ble 1 m then K (.s (.d (f 0))) else False
  | _ => False

section
variable {P : Program} {cx : Cx} {N : Nat} {M : Mem} {β : Nm} {σ : St} {a : Act} {w : World}

theorem loadV.spec {agg : Bool} {size : Nat} {g : Option Bool} {va : AV} {K : AV → Prop} (h : loadV σ agg size g va K) :
    ∃ r, K r ∧ (act g → ∀ (cx : Cx) N M β a w, Inv cx N M β σ a w → ∀ (t : TypeId) (u : Value), va.Rep M β u → (∀ w, (isAgg t).run P w = .ok agg w) → (∀ w, (sizeOf t).run P w = .ok size w) →
      ∃ v, (Instr.loadAt t u).run P w = .ok v w ∧ r.Rep M β v) := by
  -- the cells ars a list, at an address
  have many : ∀ (w : World) (t : TypeId) (b o : Nat) (vs : List Value), (∀ w, (isAgg t).run P w = .ok true w) → (∀ w, (sizeOf t).run P w = .ok vs.length w) → (∀ j v, vs[j]? = some v → w.cell? ⟨b, o + j, none⟩ = some v) →
      (Instr.loadAt t (.pointer (some ⟨b, o, none⟩))).run P w = .ok (.agg vs.toArray) w := by
    intro w t b o vs ha hs hc
    have := run_loadCells_list (P := P) w ⟨b, o, none⟩ vs (fun j v hv => by rw [cell_add]; exact hc j v hv)
    simp [Instr.loadAt, Instr.sureAddr, loadVar, ha, hs, this]
  have one : ∀ (w : World) (t : TypeId) (b o : Nat) (v : Value), (∀ w, (isAgg t).run P w = .ok false w) → w.cell? ⟨b, o, none⟩ = some v →
      (Instr.loadAt t (.pointer (some ⟨b, o, none⟩))).run P w = .ok v w := by
    intro w t b o v ha hc
    simp [Instr.loadAt, Instr.sureAddr, loadVar, ha, hc, run_load]
  unfold loadV at h
  split at h
  · rename_i x off
    split at h
    · rename_i cs hb
      split at h
      · cases hle : Nat.ble (off + size) cs.length with
        | false => rw [hle] at h; exact h.elim
        | true =>
          rw [hle] at h
          have hle := Nat.le_of_ble_eq_true hle
          refine ⟨_, h, fun _ cx N M β a w i t u ru ha hs => ?_⟩
          obtain ⟨b, c, e1, rfl⟩ := ru
          obtain ⟨b', c', vs, T, e2, hheap, hr⟩ := i.box x _ hb
          rw [e1] at e2; cases e2
          have hlen := hr.length
          refine ⟨_, many w t b off ((vs.drop off).take size) ha ?_ ?_, _, rfl, (hr.drop off).take size⟩
          · intro w; rw [hs]; simp; omega
          · intro j v hv
            rw [List.getElem?_take] at hv
            split at hv
            · simp [World.cell?, hheap]
              simpa using hv
            · cases hv
      · split at h
        · rename_i c hc
          refine ⟨_, h, fun _ cx N M β a w i t u ru ha hs => ?_⟩
          obtain ⟨b, c', e1, rfl⟩ := ru
          obtain ⟨b', c'', vs, T, e2, hheap, hr⟩ := i.box x _ hb
          rw [e1] at e2; cases e2
          obtain ⟨v, hv, hrv⟩ := hr.get hc
          exact ⟨v, one w t b off v ha (by simp [World.cell?, hheap, hv]), hrv⟩
        · exact h.elim
    · exact h.elim
  · rename_i x i s o
    split at h
    · rename_i e n s' f hb
      have row : ∀ (cx : Cx) N M β a w, Inv cx N M β σ a w → s = s' → i < n → ∀ u, (AV.s (.rw x i s o)).Rep M β u →
          ∃ b, u = .pointer (some ⟨b, i * s + o, none⟩) ∧ ∀ j, o + j < s → ∃ v, w.cell? ⟨b, i * s + o + j, none⟩ = some v ∧ (f i (o + j)).Rep M v := by
        rintro cx N M β a w iv rfl hi u ⟨b, c, e1, rfl⟩
        obtain ⟨b', c', cur, e2, hheap, _, hsz, hn, hcm, hc⟩ := iv.box x _ hb
        rw [e1] at e2; cases e2
        refine ⟨b, rfl, fun j hj => ?_⟩
        obtain ⟨v, hv, hr⟩ := hc i (o + j) hi hj
        exact ⟨v, by simp [World.cell?, hheap]; rw [Nat.add_assoc]; exact hv, hr⟩
      cases hcc : (Nat.beq s s' && Nat.ble (o + cnt agg size) s) with
      | false => rw [hcc] at h; exact h.elim
      | true =>
        rw [hcc] at h
        simp only [Bool.and_eq_true] at hcc
        have hs1 := Nat.eq_of_beq_eq_true hcc.1
        have hs2 := Nat.le_of_ble_eq_true hcc.2
        obtain ⟨hin, h⟩ := h
        cases agg with
        | true =>
          refine ⟨_, h, fun hact cx N M β a w iv t u ru ha hs => ?_⟩
          obtain ⟨b, rfl, hcell⟩ := row cx N M β a w iv hs1 (hin.get hact) u ru
          simp only [cnt] at hs2
          obtain ⟨vs, hl, hr, hm⟩ := gen.rep (M := M) (β := β) (C := fun j v => w.cell? ⟨b, i * s + o + j, none⟩ = some v) (f := fun j => f i (o + j)) size 0
            (fun j _ hj => hcell j (by omega))
          exact ⟨_, many w t b _ vs ha (by intro w; rw [hs, hl]) (fun j v hv => by have := hm j v hv; rwa [Nat.zero_add] at this), vs, rfl, hr⟩
        | false =>
          refine ⟨_, h, fun hact cx N M β a w iv t u ru ha hs => ?_⟩
          obtain ⟨b, rfl, hcell⟩ := row cx N M β a w iv hs1 (hin.get hact) u ru
          simp only [cnt] at hs2
          obtain ⟨v, hv, hr⟩ := hcell 0 (by omega)
          exact ⟨v, one w t b _ v ha hv, hr⟩
    · rename_i e n s' f hb
      have row : ∀ (cx : Cx) N M β a w, Inv cx N M β σ a w → s = s' → i < n → ∀ u, (AV.s (.rw x i s o)).Rep M β u →
          ∃ b, u = .pointer (some ⟨b, i * s + o, none⟩) ∧ ∀ j, o + j < s → ∃ v, w.cell? ⟨b, i * s + o + j, none⟩ = some v ∧ (f i (o + j)).Rep M v := by
        rintro cx N M β a w iv rfl hi u ⟨b, c, e1, rfl⟩
        obtain ⟨cur, hheap, _, hsz, hn, hcm, hc⟩ := iv.box x _ hb b c e1
        refine ⟨b, rfl, fun j hj => ?_⟩
        obtain ⟨v, hv, hr⟩ := hc i (o + j) hi hj
        exact ⟨v, by simp [World.cell?, hheap]; rw [Nat.add_assoc]; exact hv, hr⟩
      cases hcc : (Nat.beq s s' && Nat.ble (o + cnt agg size) s) with
      | false => rw [hcc] at h; exact h.elim
      | true =>
        rw [hcc] at h
        simp only [Bool.and_eq_true] at hcc
        have hs1 := Nat.eq_of_beq_eq_true hcc.1
        have hs2 := Nat.le_of_ble_eq_true hcc.2
        obtain ⟨hin, h⟩ := h
        cases agg with
        | true =>
          refine ⟨_, h, fun hact cx N M β a w iv t u ru ha hs => ?_⟩
          obtain ⟨b, rfl, hcell⟩ := row cx N M β a w iv hs1 (hin.get hact) u ru
          simp only [cnt] at hs2
          obtain ⟨vs, hl, hr, hm⟩ := gen.rep (M := M) (β := β) (C := fun j v => w.cell? ⟨b, i * s + o + j, none⟩ = some v) (f := fun j => f i (o + j)) size 0
            (fun j _ hj => hcell j (by omega))
          exact ⟨_, many w t b _ vs ha (by intro w; rw [hs, hl]) (fun j v hv => by have := hm j v hv; rwa [Nat.zero_add] at this), vs, rfl, hr⟩
        | false =>
          refine ⟨_, h, fun hact cx N M β a w iv t u ru ha hs => ?_⟩
          obtain ⟨b, rfl, hcell⟩ := row cx N M β a w iv hs1 (hin.get hact) u ru
          simp only [cnt] at hs2
          obtain ⟨v, hv, hr⟩ := hcell 0 (by omega)
          exact ⟨v, one w t b _ v ha hv, hr⟩
    · exact h.elim
  · rename_i m f
    split at h
    · cases hle : Nat.ble size m with
      | false => rw [hle] at h; exact h.elim
      | true =>
        rw [hle] at h
        have hle := Nat.le_of_ble_eq_true hle
        refine ⟨_, h, fun _ cx N M β a w i t u ru ha hs => ?_⟩
        obtain ⟨b, o, rfl, hc⟩ := ru
        obtain ⟨vs, hl, hr, hm⟩ := gen.rep (M := M) (β := β) (C := fun j v => M b (o + j) = some v) (f := f) size 0 (fun j _ hj => hc j (by omega))
        exact ⟨_, many w t b o vs ha (by intro w; rw [hs, hl]) (fun j v hv => i.mem _ _ _ (by have := hm j v hv; rwa [Nat.zero_add] at this)), vs, rfl, hr⟩
    · cases hle : Nat.ble 1 m with
      | false => rw [hle] at h; exact h.elim
      | true =>
        rw [hle] at h
        have hle := Nat.le_of_ble_eq_true hle
        refine ⟨_, h, fun _ cx N M β a w i t u ru ha hs => ?_⟩
        obtain ⟨b, o, rfl, hc⟩ := ru
        obtain ⟨v, hv, hr⟩ := hc 0 (by omega)
        exact ⟨v, one w t b o v ha (i.mem _ _ _ hv), hr⟩
  · exact h.elim
end
end Go.Ax

/- The rest of the operations that yield a value and leave the world alone. -/
namespace Go.Ax
open Go.RowKit

/-- The shape of a law on one operation. -/
def Pure1 (P : Program) (o : Oper) (σ : St) (g : Option Bool) (r : AV) : Prop :=
  act g → ∀ cx N M β a w, Inv cx N M β σ a w → ∃ v, (execOp a.eval o).run P w = .ok (.value v) w ∧ r.Rep M β v

section
variable {P : Program} {σ : St} {g : Option Bool} {K : AV → Prop} {o : Oper}

/-- Operand by operand. -/
theorem fe.ev {x : Operand} (h : fe g (ev σ x) K) :
    ∃ r, K r ∧ (act g → ∀ cx N M β a w, Inv cx N M β σ a w → r.Rep M β (a.eval x)) := by
  obtain ⟨r, hk, hr⟩ := fe.spec h
  exact ⟨r, hk, fun ha cx N M β a w i => hr ha M β _ (Go.Ax.ev.rep i x)⟩

theorem move.spec {x : Operand} (ho : o.op = .move x ∨ o.op = .assign x) (h : fe g (ev σ x) K) : ∃ r, K r ∧ Pure1 P o σ g r := by
  obtain ⟨r, hk, hr⟩ := fe.ev h
  refine ⟨r, hk, fun ha cx N M β a w i => ⟨a.eval x, ?_, hr ha cx N M β a w i⟩⟩
  rcases ho with ho | ho <;> simp [execOp, ho]

theorem load.spec {T : List (Nat × TyI)} (hT : TabOK P T) {t : TypeId} {x : Operand} (ho : o.op = .load t x)
    (h : fe g (ev σ x) fun va => match getT T t with | some ti => loadV σ ti.agg ti.size g va K | none => False) : ∃ r, K r ∧ Pure1 P o σ g r := by
  replace h := fe.ev h
  obtain ⟨va, h, hr⟩ := h
  split at h
  · rename_i ti hti
    have hok := hT.get hti
    obtain ⟨r, hk, hs⟩ := loadV.spec (P := P) h
    refine ⟨r, hk, fun ha cx N M β a w i => ?_⟩
    obtain ⟨v, e, rv⟩ := hs ha cx N M β a w i t (a.eval x) (hr ha cx N M β a w i) hok.run_agg hok.run_size
    exact ⟨v, by simp [execOp, ho, e], rv⟩
  · exact h.elim

def fieldV (T : List (Nat × TyI)) (s f : Nat) (va : AV) (K : AV → Prop) : Prop :=
  match getT T s with
  | some ti => match ti.flds[f]? with
    | some (off, sz) => match ti.und with
      | .struct => bif Nat.beq sz 0 then False else
        match va with
        | .s (.ptr x o) => K (.s (.ptr x (o + off)))
        | .s (.rw x i s' o) => K (.s (.rw x i s' (o + off)))
        | .s (.d (.rp m f)) => K (.s (.d (.rp (m - off) fun j => f (off + j))))
        | _ => False
      | _ => False
    | none => False
  | none => False

theorem FldsOK.get : ∀ {fs : List Field} {l : List (Nat × Nat)} {k : Nat} {off sz : Nat}, FldsOK P fs l → l[k]? = some (off, sz) →
    ∃ f, fs[k]? = some f ∧ f.offset = off ∧ ∃ ti, P.info? f.type = some ti ∧ ti.size = sz
  | [], [], _, _, _, _, h => by simp at h
  | f :: fs, (o, z) :: r, 0, off, sz, ⟨h1, h2, _⟩, h => by
    simp at h; obtain ⟨rfl, rfl⟩ := h
    exact ⟨f, rfl, h1, h2⟩
  | f :: fs, (o, z) :: r, k + 1, off, sz, ⟨_, _, h3⟩, h => by
    have := FldsOK.get (k := k) h3 (by simpa using h)
    simpa using this
  | [], _ :: _, _, _, _, h, _ => h.elim
  | _ :: _, [], _, _, _, h, _ => h.elim

theorem field.spec {T : List (Nat × TyI)} (hT : TabOK P T) {s f : Nat} {x : Operand} (ho : o.op = .fieldAddr s x f)
    (h : fe g (ev σ x) fun va => fieldV T s f va K) : ∃ r, K r ∧ Pure1 P o σ g r := by
  replace h := fe.ev h
  obtain ⟨va, h, hr⟩ := h
  unfold fieldV at h
  split at h
  · rename_i ti hti
    have hok := hT.get hti
    split at h
    · rename_i off sz hf
      split at h
      · rename_i hu
        obtain ⟨fs, hund⟩ := hok.isStruct hu
        cases hz : Nat.beq sz 0 with
        | true => rw [hz] at h; exact h.elim
        | false =>
          rw [hz] at h
          have hz : sz ≠ 0 := fun e => by subst e; cases hz
          obtain ⟨fl, hfl, hoff, ti2, hi2, hsz⟩ := (hok.flds fs hund).get hf
          have run : ∀ (b o : Nat) (w : World), (Instr.fieldAt s (.pointer (some ⟨b, o, none⟩)) f).run P w = .ok (.pointer (some ⟨b, o + off, none⟩)) w := by
            intro b o w
            have hfl' : fs[f]? = some fl := by simpa using hfl
            have : (underlying s).run P w = .ok (.struct fs) w := by simp [underlying, hund]
            have hz' : ¬ ti2.size = 0 := by rw [hsz]; exact hz
            simp [Instr.fieldAt, this, hfl', Instr.sureAddr, fieldPlace, sizeOf, typeInfo, hi2, hz', cell_add, hoff]
          split at h
          · refine ⟨_, h, fun ha cx N M β a w i => ?_⟩
            obtain ⟨b, c, e1, e2⟩ := hr ha cx N M β a w i
            exact ⟨_, by simp [execOp, ho, e2, run], b, c, e1, rfl⟩
          · refine ⟨_, h, fun ha cx N M β a w i => ?_⟩
            obtain ⟨b, c, e1, e2⟩ := hr ha cx N M β a w i
            exact ⟨_, by simp [execOp, ho, e2, run]; rfl, b, c, e1, by rw [Nat.add_assoc]⟩
          · rename_i m fn
            refine ⟨_, h, fun ha cx N M β a w i => ?_⟩
            obtain ⟨b, o', e2, hc⟩ := hr ha cx N M β a w i
            refine ⟨_, by simp [execOp, ho, e2, run], b, o' + off, rfl, fun j hj => ?_⟩
            obtain ⟨u, hu, hru⟩ := hc (off + j) (by omega)
            exact ⟨u, by rw [Nat.add_assoc]; exact hu, hru⟩
          · exact h.elim
      · exact h.elim
    · exact h.elim
  · exact h.elim

/-- indexAddr into a slice. -/
def idxV (T : List (Nat × TyI)) (σ : St) (t : Nat) (g : Option Bool) (va vi : AV) (K : AV → Prop) : Prop :=
  match getT T t with
  | some ti => match ti.und with
    | .slice e => match getT T e with
      | some te => match vi with
        | .s (.d (.val (.int _ n))) => match va with
          | .s (.d (.slc len s f)) => bif Nat.beq s te.size then imp g (0 ≤ n ∧ n < (len : Int)) ∧ K (.s (.d (.rp s (f n.toNat)))) else False
          | .s (.own x) => match getB σ.box x with
            | some (some (.row _ len s _)) => bif Nat.beq s te.size then imp g (0 ≤ n ∧ n < (len : Int)) ∧ K (.s (.rw x n.toNat s 0)) else False
            | _ => False
          | .s (.mo z x) => match getB σ.box x with
            | some (some (.mrow _ len s _)) => bif Nat.beq s te.size then imp g (0 ≤ n ∧ n < ((bif z then 0 else len : Nat) : Int)) ∧ K (.s (.rw x n.toNat s 0)) else False
            | _ => False
          | .s (.osl x s lo m) => bif Nat.beq s te.size then imp g (0 ≤ n ∧ n < (m : Int)) ∧ K (.s (.rw x (lo + n.toNat) s 0)) else False
          | _ => False
        | _ => False
      | none => False
    | .array len e => match getT T e with
      | some te => match vi with
        | .s (.d (.val (.int _ n))) => match va with
          | .s (.ptr x off) => imp g (0 ≤ n ∧ n < (len : Int)) ∧ K (.s (.ptr x (off + n.toNat * te.size)))
          | .s (.rw x i s' off) => imp g (0 ≤ n ∧ n < (len : Int)) ∧ K (.s (.rw x i s' (off + n.toNat * te.size)))
          | .s (.d (.rp m f)) => imp g (0 ≤ n ∧ n < (len : Int)) ∧ K (.s (.d (.rp (m - n.toNat * te.size) fun j => f (n.toNat * te.size + j))))
          | _ => False
        | _ => False
      | none => False
    | _ => False
  | none => False

theorem idx.spec {T : List (Nat × TyI)} (hT : TabOK P T) {t : Nat} {x y : Operand} (ho : o.op = .indexAddr t x y)
    (h : fe g (ev σ x) fun va => fe g (ev σ y) fun vi => idxV T σ t g va vi K) : ∃ r, K r ∧ Pure1 P o σ g r := by
  replace h := fe.ev h
  obtain ⟨va, h, hr⟩ := h
  replace h := fe.ev h
  obtain ⟨vi, h, hri⟩ := h
  unfold idxV at h
  split at h
  case h_2 => exact h.elim
  rename_i ti hti
  have hok := hT.get hti
  split at h
  case h_3 => exact h.elim
  rotate_left
  · rename_i len e hu
    have hund : P.underlying t = some (.array len e) := hok.isArray hu
    split at h
    case h_2 => exact h.elim
    rename_i te hte
    have hoke := hT.get hte
    split at h
    case h_2 => exact h.elim
    rename_i k n
    have hrun : ∀ (b off : Nat) (w : World), 0 ≤ n → n < (len : Int) → (Instr.indexAt t (.pointer (some ⟨b, off, none⟩)) (.int k n)).run P w = .ok (.pointer (some ⟨b, off + n.toNat * te.size, none⟩)) w := by
      intro b off w h0 h1
      have hu1 : (underlying t).run P w = .ok (.array len e) w := by simp [underlying, hund]
      have hs := hoke.run_size w
      simp [Instr.indexAt, asIntOf, hu1, h0, h1, hs, cell_add, Instr.sureAddr]
    split at h
    · rename_i x' off
      refine ⟨_, h.2, fun ha cx N M β a w i => ?_⟩
      obtain ⟨h0, h1⟩ := h.1.get ha
      obtain ⟨b, c, e1, ex⟩ := hr ha cx N M β a w i
      have ey : a.eval y = .int k n := hri ha cx N M β a w i
      exact ⟨_, by simp only [execOp, ho, ex, ey, hrun b off w h0 h1, Sem.run_bind, Result.andThen, Sem.run_pure], b, c, e1, rfl⟩
    · rename_i x' i' s' off
      refine ⟨_, h.2, fun ha cx N M β a w i => ?_⟩
      obtain ⟨h0, h1⟩ := h.1.get ha
      obtain ⟨b, c, e1, ex⟩ := hr ha cx N M β a w i
      have ey : a.eval y = .int k n := hri ha cx N M β a w i
      exact ⟨_, by simp only [execOp, ho, ex, ey, hrun b _ w h0 h1, Sem.run_bind, Result.andThen, Sem.run_pure]; rfl, b, c, e1, by rw [Nat.add_assoc]⟩
    · rename_i m fn
      refine ⟨_, h.2, fun ha cx N M β a w i => ?_⟩
      obtain ⟨h0, h1⟩ := h.1.get ha
      obtain ⟨b, o', ex, hc⟩ := hr ha cx N M β a w i
      have ey : a.eval y = .int k n := hri ha cx N M β a w i
      refine ⟨_, by simp only [execOp, ho, ex, ey, hrun b o' w h0 h1, Sem.run_bind, Result.andThen, Sem.run_pure], b, o' + n.toNat * te.size, rfl, fun j hj => ?_⟩
      obtain ⟨u, hu, hru⟩ := hc (n.toNat * te.size + j) (by omega)
      exact ⟨u, by rw [Nat.add_assoc]; exact hu, hru⟩
    · exact h.elim
  rename_i e hu
  have hund : P.underlying t = some (.slice e) := hok.isSlice hu
  split at h
  case h_2 => exact h.elim
  rename_i te hte
  have hoke := hT.get hte
  split at h
  case h_2 => exact h.elim
  rename_i k n
  have run : ∀ (b o : Nat) (len cap : Nat) (w : World), 0 ≤ n → n < (len : Int) →
      (Instr.indexAt t (.slice (some ⟨b, o, none⟩) len cap) (.int k n)).run P w = .ok (.pointer (some ⟨b, o + n.toNat * te.size, none⟩)) w := by
    intro b o len cap w h0 h1
    have hu1 : (underlying t).run P w = .ok (.slice e) w := by simp [underlying, hund]
    have hs := hoke.run_size w
    simp [Instr.indexAt, asIntOf, hu1, h0, h1, hs, cell_add]
  split at h
  · rename_i len s f
    cases hs : Nat.beq s te.size with
    | false => rw [hs] at h; exact h.elim
    | true =>
      rw [hs] at h
      have hs := Nat.eq_of_beq_eq_true hs
      refine ⟨_, h.2, fun ha cx N M β a w i => ?_⟩
      obtain ⟨h0, h1⟩ := h.1.get ha
      obtain ⟨ad, cap, ex, hcap, hc⟩ := hr ha cx N M β a w i
      have ey : a.eval y = .int k n := hri ha cx N M β a w i
      rcases hc with h0' | ⟨b, o', rfl, hc⟩
      · omega
      · refine ⟨_, by simp only [execOp, ho, ex, ey, run b o' len cap w h0 h1, Sem.run_bind, Result.andThen, Sem.run_pure]; rfl, b, _, rfl, fun j hj => ?_⟩
        obtain ⟨u, hu, hru⟩ := hc n.toNat j (by omega) hj
        exact ⟨u, by rw [← hs]; exact hu, hru⟩
  · rename_i x'
    split at h
    case h_2 => exact h.elim
    rename_i e' len s f hb
    cases hs : Nat.beq s te.size with
    | false => rw [hs] at h; exact h.elim
    | true =>
      rw [hs] at h
      have hs := Nat.eq_of_beq_eq_true hs
      refine ⟨_, h.2, fun ha cx N M β a w i => ?_⟩
      obtain ⟨h0, h1⟩ := h.1.get ha
      obtain ⟨b, c, e1, ex, hcap⟩ := hr ha cx N M β a w i
      obtain ⟨b2, c2, cur, e2, _, hlen, _⟩ := i.box x' _ hb
      rw [e1] at e2; cases e2
      rw [hlen] at ex
      have ey : a.eval y = .int k n := hri ha cx N M β a w i
      exact ⟨_, by simp only [execOp, ho, ex, ey, run b 0 len c.1 w h0 h1, Sem.run_bind, Result.andThen, Sem.run_pure]; rfl, b, c, e1, by rw [hs]; simp⟩
  · rename_i zz x'
    split at h
    case h_2 => exact h.elim
    rename_i e' len s f hb
    cases hs : Nat.beq s te.size with
    | false => rw [hs] at h; exact h.elim
    | true =>
      rw [hs] at h
      have hs := Nat.eq_of_beq_eq_true hs
      refine ⟨_, h.2, fun ha cx N M β a w i => ?_⟩
      obtain ⟨h0, h1⟩ := h.1.get ha
      cases zz with
      | true => simp only [cond_true] at h1; omega
      | false =>
        simp only [cond_false] at h1
        obtain ⟨b, c, e1, ex, hcap⟩ := (hr ha cx N M β a w i).2 rfl
        obtain ⟨cur, _, hlen, _⟩ := i.box x' _ hb b c e1
        rw [hlen] at ex
        have ey : a.eval y = .int k n := hri ha cx N M β a w i
        exact ⟨_, by simp only [execOp, ho, ex, ey, run b 0 len c.1 w h0 h1, Sem.run_bind, Result.andThen, Sem.run_pure]; rfl, b, c, e1, by rw [hs]; simp⟩
  · rename_i x' s lo m
    cases hs : Nat.beq s te.size with
    | false => rw [hs] at h; exact h.elim
    | true =>
      rw [hs] at h
      have hs := Nat.eq_of_beq_eq_true hs
      refine ⟨_, h.2, fun ha cx N M β a w i => ?_⟩
      obtain ⟨h0, h1⟩ := h.1.get ha
      obtain ⟨b, c, o', e1, ex, hoo, hc1, hc2⟩ := hr ha cx N M β a w i
      have ey : a.eval y = .int k n := hri ha cx N M β a w i
      refine ⟨_, by simp only [execOp, ho, ex, ey, run b o' m (c.1 - lo) w h0 h1, Sem.run_bind, Result.andThen, Sem.run_pure]; rfl, b, c, e1, ?_⟩
      rw [hoo (by omega), hs, Nat.add_mul]; rfl
  · exact h.elim

/-- index: a byte of a string. -/
def strV (T : List (Nat × TyI)) (t : Nat) (g : Option Bool) (va vi : AV) (K : AV → Prop) : Prop :=
  match getT T t with
  | some ti => match ti.und with
    | .string => match va, vi with
      | .s (.d (.val (.string s))), .s (.d (.val (.int _ n))) => imp g (0 ≤ n ∧ n < (s.size : Int)) ∧ K (vint .u8 (s[n.toNat]!).toNat)
      | _, _ => False
    | .array len e => match getT T e with
      | some te => match va, vi with
        | .g cs, .s (.d (.val (.int _ n))) => imp g (0 ≤ n ∧ n < (len : Int)) ∧ (match te.agg with
          | true => bif Nat.ble (n.toNat * te.size + te.size) cs.length then K (.g ((cs.drop (n.toNat * te.size)).take te.size)) else False
          | false => match cs[n.toNat * te.size]? with
            | some c => K (.s c)
            | none => False)
        | _, _ => False
      | none => False
    | _ => False
  | none => False

theorem str.spec {T : List (Nat × TyI)} (hT : TabOK P T) {t : Nat} {x y : Operand} (ho : o.op = .index t x y)
    (h : fe g (ev σ x) fun va => fe g (ev σ y) fun vi => strV T t g va vi K) : ∃ r, K r ∧ Pure1 P o σ g r := by
  replace h := fe.ev h
  obtain ⟨va, h, hr⟩ := h
  replace h := fe.ev h
  obtain ⟨vi, h, hri⟩ := h
  unfold strV at h
  split at h
  case h_2 => exact h.elim
  rename_i ti hti
  have hok := hT.get hti
  split at h
  case h_3 => exact h.elim
  · rename_i hu
    have hund : P.underlying t = some .string := hok.isString hu
    split at h
    case h_2 => exact h.elim
    rename_i s k n
    refine ⟨_, h.2, fun ha cx N M β a w i => ?_⟩
    obtain ⟨h0, h1⟩ := h.1.get ha
    have ex : a.eval x = .string s := hr ha cx N M β a w i
    have ey : a.eval y = .int k n := hri ha cx N M β a w i
    have hu1 : (underlying t).run P w = .ok .string w := by simp [underlying, hund]
    have hlt : n.toNat < s.size := by omega
    have hg : s[n.toNat]? = some s[n.toNat]! := by
      rw [getElem?_pos s n.toNat hlt, getElem!_pos s n.toNat hlt]
    refine ⟨_, ?_, rfl⟩
    simp [execOp, ho, ex, ey, Instr.index, asIntOf, hu1, h0, hg]
  · rename_i len e hu
    have hund : P.underlying t = some (.array len e) := hok.isArray hu
    split at h
    case h_2 => exact h.elim
    rename_i te hte
    have hoke := hT.get hte
    split at h
    case h_2 => exact h.elim
    rename_i cs k n
    obtain ⟨hin, h⟩ := h
    split at h
    · rename_i hagg
      cases hle : Nat.ble (n.toNat * te.size + te.size) cs.length with
      | false => rw [hle] at h; exact h.elim
      | true =>
        rw [hle] at h
        refine ⟨_, h, fun ha cx N M β a w i => ?_⟩
        obtain ⟨h0, h1⟩ := hin.get ha
        obtain ⟨vs, ex, hrl⟩ := hr ha cx N M β a w i
        have ey : a.eval y = .int k n := hri ha cx N M β a w i
        have hu1 : (underlying t).run P w = .ok (.array len e) w := by simp [underlying, hund]
        have ha1 := hoke.run_agg w
        rw [hagg] at ha1
        refine ⟨.agg ((vs.drop (n.toNat * te.size)).take te.size).toArray, ?_, _, rfl, (hrl.drop _).take _⟩
        simp [execOp, ho, ex, ey, Instr.index, asIntOf, hu1, h0, h1, part, ha1, hoke.run_size, List.extract_eq_take_drop]
    · rename_i hagg
      split at h
      case h_2 => exact h.elim
      rename_i c hc
      refine ⟨_, h, fun ha cx N M β a w i => ?_⟩
      obtain ⟨h0, h1⟩ := hin.get ha
      obtain ⟨vs, ex, hrl⟩ := hr ha cx N M β a w i
      have ey : a.eval y = .int k n := hri ha cx N M β a w i
      have hu1 : (underlying t).run P w = .ok (.array len e) w := by simp [underlying, hund]
      have ha1 := hoke.run_agg w
      rw [hagg] at ha1
      obtain ⟨v, hv, hrv⟩ := hrl.get hc
      refine ⟨v, ?_, hrv⟩
      simp [execOp, ho, ex, ey, Instr.index, asIntOf, hu1, h0, h1, part, ha1, hoke.run_size, hv]

/-- extract: one of several results. -/
def extV (k : Nat) (va : AV) (K : AV → Prop) : Prop :=
  match va with
  | .t ts => match ts[k]? with
    | some (.s x) => K (.s x)
    | some (.g cs) => K (.g cs)
    | none => False
  | _ => False
theorem ext.spec {k : Nat} {x : Operand} (ho : o.op = .extract x k) (h : extV k (ev σ x) K) : ∃ r, K r ∧ Pure1 P o σ g r := by
  unfold extV at h
  split at h
  case h_2 => exact h.elim
  rename_i ts hts
  have key : ∀ tv, ts[k]? = some tv → ∀ cx N M β a w, Inv cx N M β σ a w → ∃ v, (execOp a.eval o).run P w = .ok (.value v) w ∧ tv.Rep M β v := by
    intro tv htv cx N M β a w i
    have := ev.rep i x
    rw [hts] at this
    obtain ⟨vs, ex, hv⟩ := this
    obtain ⟨v, hv1, hv2⟩ := hv.get htv
    exact ⟨v, by simp [execOp, ho, ex, Instr.extract, hv1], hv2⟩
  split at h
  case h_3 => exact h.elim
  · rename_i s hs
    exact ⟨_, h, fun _ cx N M β a w i => key _ hs cx N M β a w i⟩
  · rename_i cs hs
    exact ⟨_, h, fun _ cx N M β a w i => key _ hs cx N M β a w i⟩

def unV (op : UnOp) (va : AV) (K : AV → Prop) : Prop :=
  match op, va with
  | .not, .s (.d (.lit b)) => match b with | true => K (.s (.d (.lit false))) | false => K (.s (.d (.lit true)))
  | .not, .s (.d (.val (.bool b))) => K (vbool (!b))
  | .neg, .s (.d (.val (.int k n))) => K (vint k (k.wrap (0 - n)))
  | _, _ => False
theorem un.spec {op : UnOp} {t : Nat} {x : Operand} (ho : o.op = .unOp op t x) (h : fe g (ev σ x) fun va => unV op va K) : ∃ r, K r ∧ Pure1 P o σ g r := by
  replace h := fe.ev h
  obtain ⟨va, h, hr⟩ := h
  unfold unV at h
  split at h
  case h_4 => exact h.elim
  · rename_i b
    cases b with
    | true =>
      refine ⟨_, h, fun ha cx N M β a w i => ⟨.bool false, ?_, rfl⟩⟩
      have ex : a.eval x = .bool true := hr ha cx N M β a w i
      simp [execOp, ho, ex, Op.unary]
    | false =>
      refine ⟨_, h, fun ha cx N M β a w i => ⟨.bool true, ?_, rfl⟩⟩
      have ex : a.eval x = .bool false := hr ha cx N M β a w i
      simp [execOp, ho, ex, Op.unary]
  · rename_i b
    refine ⟨_, h, fun ha cx N M β a w i => ⟨.bool (!b), ?_, rfl⟩⟩
    have ex : a.eval x = .bool b := hr ha cx N M β a w i
    simp [execOp, ho, ex, Op.unary]
  · rename_i k n
    refine ⟨_, h, fun ha cx N M β a w i => ⟨_, ?_, rfl⟩⟩
    have ex : a.eval x = .int k n := hr ha cx N M β a w i
    simp [execOp, ho, ex, Op.unary, Op.intArith]

/-- pick: what a guarded operand is, and under which condition. -/
def condB : AV → Option (Bool × Option Bool)
  | .s (.d (.lit b)) => some (b, none)
  | .s (.d (.val (.bool b))) => some (b, none)
  | .ib c (.d (.lit b)) => some (b, some c)
  | .ib c (.d (.val (.bool b))) => some (b, some c)
  | _ => none
theorem condB.spec {v : AV} {b : Bool} {c : Option Bool} {M : Mem} {β : Nm} {u : Value} (h : condB v = some (b, c)) (r : v.Rep M β u) (hc : act c) : u = .bool b := by
  unfold condB at h
  split at h
  · cases h; exact r
  · cases h; exact r
  · cases h; exact r.1 (hc _ rfl)
  · cases h; exact r.1 (hc _ rfl)
  · cases h
def gimp (p : Prop) : Option Bool → Prop
  | none => True
  | some c => p → c = true
theorem gimp.act {p : Prop} {c : Option Bool} (h : gimp p c) (hp : p) : act c := by
  intro b e; subst e; exact h hp
def isL (b : Bool) : AV → Bool
  | .s (.d (.lit c)) => match b, c with | true, true => true | false, false => true | _, _ => false
  | _ => false
theorem isL.eq {b : Bool} {v : AV} (h : isL b v = true) : v = .s (.d (.lit b)) := by
  unfold isL at h
  split at h
  · rename_i c
    cases b <;> cases c <;> first | rfl | cases h
  · cases h

def pickV (g : Option Bool) (vc vx vy : AV) (K : AV → Prop) : Prop :=
  match vc with
  | .s (.d (.lit b)) => match b with
    | true => fe g vx K
    | false => fe g vy K
  | .s (.d (.val (.bool b))) =>
    match condB vx, condB vy with
    | some (p, gp), some (q, gq) => imp g (gimp (b = true) gp) ∧ imp g (gimp (b = false) gq) ∧
        (bif isL false vy then K (vbool (b && p)) else bif isL true vx then K (vbool (b || q)) else K (vbool (bif b then p else q)))
    | _, _ => False
  | _ => False

theorem pick.spec {c x y : Operand} (ho : o.op = .pick c x y) (h : fe g (ev σ c) fun vc => pickV g vc (ev σ x) (ev σ y) K) : ∃ r, K r ∧ Pure1 P o σ g r := by
  replace h := fe.ev h
  obtain ⟨vc, h, hr⟩ := h
  unfold pickV at h
  split at h
  case h_3 => exact h.elim
  · rename_i b
    cases b with
    | true =>
      obtain ⟨r, hk, hx⟩ := fe.ev h
      refine ⟨r, hk, fun ha cx N M β a w i => ⟨a.eval x, ?_, hx ha cx N M β a w i⟩⟩
      have ex : a.eval c = .bool true := hr ha cx N M β a w i
      simp [execOp, ho, ex, asBool]
    | false =>
      obtain ⟨r, hk, hx⟩ := fe.ev h
      refine ⟨r, hk, fun ha cx N M β a w i => ⟨a.eval y, ?_, hx ha cx N M β a w i⟩⟩
      have ex : a.eval c = .bool false := hr ha cx N M β a w i
      simp [execOp, ho, ex, asBool]
  · rename_i b
    split at h
    case h_2 => exact h.elim
    rename_i p gp q gq hp hq
    obtain ⟨h1, h2, h⟩ := h
    have key : ∀ cx N M β a w, act g → Inv cx N M β σ a w → (execOp a.eval o).run P w = .ok (.value (.bool (bif b then p else q))) w := by
      intro cx N M β a w ha i
      have ex : a.eval c = .bool b := hr ha cx N M β a w i
      cases b with
      | true =>
        have := condB.spec hp (ev.rep i x) ((imp.get h1 ha).act rfl)
        simp [execOp, ho, ex, asBool, this]
      | false =>
        have := condB.spec hq (ev.rep i y) ((imp.get h2 ha).act rfl)
        simp [execOp, ho, ex, asBool, this]
    cases e1 : isL false (ev σ y) with
    | true =>
      rw [e1] at h
      refine ⟨_, h, fun ha cx N M β a w i => ⟨_, key cx N M β a w ha i, ?_⟩⟩
      have : q = false := by
        rw [isL.eq e1] at hq
        simp only [condB, Option.some.injEq, Prod.mk.injEq] at hq
        exact hq.1.symm
      subst this
      show Value.bool _ = Value.bool _
      cases b <;> rfl
    | false =>
      rw [e1] at h
      cases e2 : isL true (ev σ x) with
      | true =>
        rw [e2] at h
        refine ⟨_, h, fun ha cx N M β a w i => ⟨_, key cx N M β a w ha i, ?_⟩⟩
        have : p = true := by
          rw [isL.eq e2] at hp
          simp only [condB, Option.some.injEq, Prod.mk.injEq] at hp
          exact hp.1.symm
        subst this
        show Value.bool _ = Value.bool _
        cases b <;> rfl
      | false =>
        rw [e2] at h
        exact ⟨_, h, fun ha cx N M β a w i => ⟨_, key cx N M β a w ha i, rfl⟩⟩

end
end Go.Ax

/- Conversions, slicing, function values, len, min, max, aggregates. -/
namespace Go.Ax
open Go.RowKit
section
variable {P : Program} {σ : St} {g : Option Bool} {K : AV → Prop} {o : Oper}

def convV (T : List (Nat × TyI)) (src dst : Nat) (va : AV) (K : AV → Prop) : Prop :=
  match getT T src, getT T dst with
  | some ts, some td => match ts.und, td.und, va with
    | .int _, .int k, .s (.d (.val (.int _ n))) => K (vint k (k.wrap n))
    | .string, .string, .s (.d (.val (.string s))) => K (.s (.d (.val (.string s))))
    | .int _, .float k, .s (.d (.val (.int _ n))) => K (.s (.d (.val (.float k (k.nearest n)))))
    | .float _, .int k, .s (.d (.val (.float s b))) => ∃ n : Int, ((s.decode b).toInt .zero = some n ∧ k.min ≤ n ∧ n ≤ k.max) ∧ K (vint k n)
    | _, _, _ => False
  | _, _ => False
theorem conv.spec {T : List (Nat × TyI)} (hT : TabOK P T) {src dst : Nat} {x : Operand} (ho : o.op = .convert src dst x)
    (h : fe g (ev σ x) fun va => convV T src dst va K) : ∃ r, K r ∧ Pure1 P o σ g r := by
  replace h := fe.ev h
  obtain ⟨va, h, hr⟩ := h
  unfold convV at h
  split at h
  case h_2 => exact h.elim
  rename_i ts td hts htd
  have k1 := hT.get hts
  have k2 := hT.get htd
  split at h
  case h_5 => exact h.elim
  · rename_i k0 k kk n e1 e2
    have h1 := k1.isInt e1
    have h2 := k2.isInt e2
    refine ⟨_, h, fun ha cx N M β a w i => ⟨_, ?_, rfl⟩⟩
    have ex : a.eval x = .int kk n := hr ha cx N M β a w i
    simp [execOp, ho, ex, convert, run_underlying h1, run_underlying h2, Conv.intToInt]
  · rename_i s e1 e2
    have h1 := k1.isString e1
    have h2 := k2.isString e2
    refine ⟨_, h, fun ha cx N M β a w i => ⟨_, ?_, rfl⟩⟩
    have ex : a.eval x = .string s := hr ha cx N M β a w i
    simp [execOp, ho, ex, convert, run_underlying h1, run_underlying h2]
  · rename_i k0 k kk n e1 e2
    have h1 := k1.isInt e1
    have h2 := k2.isFloat e2
    refine ⟨_, h, fun ha cx N M β a w i => ⟨_, ?_, rfl⟩⟩
    have ex : a.eval x = .int kk n := hr ha cx N M β a w i
    simp [execOp, ho, ex, convert, run_underlying h1, run_underlying h2, Conv.intToFloat]
  · rename_i k0 k s b e1 e2
    have h1 := k1.isFloat e1
    have h2 := k2.isInt e2
    obtain ⟨n, ⟨hn, hlo, hhi⟩, h⟩ := h
    refine ⟨_, h, fun ha cx N M β a w i => ⟨_, ?_, rfl⟩⟩
    have ex : a.eval x = .float s b := hr ha cx N M β a w i
    simp [execOp, ho, ex, convert, run_underlying h1, run_underlying h2, Conv.floatToInt, hn, hlo, hhi]

/-- nilCheck of what is no nil. -/
def nilV (va : AV) (K : AV → Prop) : Prop :=
  match va with
  | .s (.ptr x o) => K (.s (.ptr x o))
  | .s (.rw x i s o) => K (.s (.rw x i s o))
  | .s (.d (.rp m f)) => K (.s (.d (.rp m f)))
  | .s (.clo f cs) => K (.s (.clo f cs))
  | .s (.d (.clo f k c)) => K (.s (.d (.clo f k c)))
  | _ => False
theorem nil.spec {x : Operand} (ho : o.op = .nilCheck x) (h : fe g (ev σ x) fun va => nilV va K) : ∃ r, K r ∧ Pure1 P o σ g r := by
  replace h := fe.ev h
  obtain ⟨va, h, hr⟩ := h
  unfold nilV at h
  split at h
  case h_6 => exact h.elim
  · refine ⟨_, h, fun ha cx N M β a w i => ?_⟩
    obtain ⟨b, c, e1, e2⟩ := hr ha cx N M β a w i
    exact ⟨_, by simp [execOp, ho, e2], b, c, e1, rfl⟩
  · refine ⟨_, h, fun ha cx N M β a w i => ?_⟩
    obtain ⟨b, c, e1, e2⟩ := hr ha cx N M β a w i
    exact ⟨_, by simp [execOp, ho, e2], b, c, e1, rfl⟩
  · refine ⟨_, h, fun ha cx N M β a w i => ?_⟩
    obtain ⟨b, c, e2, e1⟩ := hr ha cx N M β a w i
    exact ⟨_, by simp [execOp, ho, e2], b, c, rfl, e1⟩
  · refine ⟨_, h, fun ha cx N M β a w i => ?_⟩
    obtain ⟨vs, e2, e1⟩ := hr ha cx N M β a w i
    exact ⟨_, by simp [execOp, ho, e2], vs, rfl, e1⟩
  · refine ⟨_, h, fun ha cx N M β a w i => ?_⟩
    obtain ⟨vs, e2, e1⟩ := hr ha cx N M β a w i
    exact ⟨_, by simp [execOp, ho, e2], vs, rfl, e1⟩

/-- Captured values. -/
def toCV : AV → Option CV
  | .s (.d x) => some (.d x)
  | .s (.ptr x o) => some (.ptr x o)
  | _ => none
def toCVs (σ : St) : List Operand → Option (List CV)
  | [] => some []
  | x :: r => match toCV (ev σ x), toCVs σ r with
    | some c, some cs => some (c :: cs)
    | _, _ => none
theorem toCVs.rep {cx : Cx} {N : Nat} {M : Mem} {β : Nm} {a : Act} {w : World} (i : Inv cx N M β σ a w) : ∀ {l : List Operand} {cs : List CV}, toCVs σ l = some cs → RepC M β cs (l.map a.eval)
  | [], cs, h => by simp [toCVs] at h; subst h; trivial
  | x :: r, cs, h => by
    simp only [toCVs] at h
    split at h
    · rename_i c cs' hc hcs
      cases h
      refine ⟨?_, toCVs.rep i hcs⟩
      have := ev.rep i x
      unfold toCV at hc
      split at hc
      · rename_i e; cases hc; rw [e] at this; exact this
      · rename_i e; cases hc; rw [e] at this; exact this
      · cases hc
    · cases h
theorem mkf.spec {f : FuncId} {caps : Array Operand} (ho : o.op = .makeFunc (.func f) #[] caps)
    (h : match toCVs σ caps.toList with | some cs => K (.s (.clo f cs)) | none => False) : ∃ r, K r ∧ Pure1 P o σ g r := by
  split at h
  case h_2 => exact h.elim
  rename_i cs hcs
  refine ⟨_, h, fun ha cx N M β a w i => ⟨_, ?_, (caps.toList.map a.eval), rfl, toCVs.rep i hcs⟩⟩
  simp [execOp, ho, Instr.makeFunc]
  apply Array.ext'
  simp

/-- cap of a slice that is a constant. -/
def capV (T : List (Nat × TyI)) (t : Nat) (va : AV) (K : AV → Prop) : Prop :=
  match getT T t with
  | some ti => match ti.und, va with
    | .slice _, .s (.d (.val (.slice _ _ c))) => K (vint .i64 c)
    | _, _ => False
  | none => False
theorem cap.spec {T : List (Nat × TyI)} (hT : TabOK P T) {t : Nat} {x : Operand} (ho : o.op = .call { callee := .builtin .cap, args := #[x], argTypes := #[t] })
    (h : fe g (ev σ x) fun va => capV T t va K) : ∃ r, K r ∧ Pure1 P o σ g r := by
  replace h := fe.ev h
  obtain ⟨va, h, hr⟩ := h
  unfold capV at h
  split at h
  case h_2 => exact h.elim
  rename_i ti hti
  split at h
  case h_2 => exact h.elim
  rename_i e b n c hu
  have hund := (hT.get hti).isSlice hu
  refine ⟨_, h, fun ha cx N M β a w i => ⟨_, ?_, rfl⟩⟩
  have ex : a.eval x = .slice b n c := hr ha cx N M β a w i
  simp [execOp, ho, ex, resolve, invoke, builtin, Builtin.cap_, run_underlying hund, goInt]

/-- len -/
def lenV (T : List (Nat × TyI)) (σ : St) (t : Nat) (va : AV) (K : AV → Prop) : Prop :=
  match getT T t with
  | some ti => match ti.und, va with
    | .slice _, .s (.d (.slc n _ _)) => K (vint .i64 n)
    | .slice _, .s (.own x) => match getB σ.box x with
      | some (some (.row _ n _ _)) => K (vint .i64 n)
      | _ => False
    | .slice _, .s (.mo z x) => match getB σ.box x with
      | some (some (.mrow _ n _ _)) => K (vint .i64 ((bif z then 0 else n : Nat) : Int))
      | _ => False
    | .slice _, .s (.osl _ _ _ n) => K (vint .i64 n)
    | .slice _, .s (.d (.val (.slice _ n _))) => K (vint .i64 n)
    | .string, .s (.d (.val (.string s))) => K (vint .i64 s.size)
    | .array n _, _ => K (vint .i64 n)
    | _, _ => False
  | none => False
theorem len.spec {T : List (Nat × TyI)} (hT : TabOK P T) {t : Nat} {x : Operand} (ho : o.op = .call { callee := .builtin .len, args := #[x], argTypes := #[t] })
    (h : fe g (ev σ x) fun va => lenV T σ t va K) : ∃ r, K r ∧ Pure1 P o σ g r := by
  replace h := fe.ev h
  obtain ⟨va, h, hr⟩ := h
  unfold lenV at h
  split at h
  case h_2 => exact h.elim
  rename_i ti hti
  have h1 := hT.get hti
  have run : ∀ (a : Act) (w : World), (execOp a.eval o).run P w = ((Builtin.len_ #[t] o.type #[a.eval x]).run P w).andThen fun v w' => .ok (.value v) w' := by
    intro a w
    simp [execOp, ho, resolve, invoke, builtin]
  split at h
  case h_8 => exact h.elim
  · rename_i e1
    refine ⟨_, h, fun ha cx N M β a w i => ⟨_, ?_, rfl⟩⟩
    obtain ⟨ad, cap, e2, _⟩ := hr ha cx N M β a w i
    rw [run, e2]
    simp [Builtin.len_, run_underlying (h1.isSlice e1), goInt]
  · rename_i e1
    split at h
    case h_2 => exact h.elim
    rename_i hb
    refine ⟨_, h, fun ha cx N M β a w i => ⟨_, ?_, rfl⟩⟩
    obtain ⟨b, c, e0, e2, _⟩ := hr ha cx N M β a w i
    obtain ⟨b2, c2, cur, e3, _, hlen, _⟩ := i.box _ _ hb
    rw [e0] at e3; cases e3
    rw [run, e2, hlen]
    simp [Builtin.len_, run_underlying (h1.isSlice e1), goInt]
  · rename_i zz x' e1
    split at h
    case h_2 => exact h.elim
    rename_i hb
    refine ⟨_, h, fun ha cx N M β a w i => ?_⟩
    cases zz with
    | true =>
      have e2 := (hr ha cx N M β a w i).1 rfl
      refine ⟨_, ?_, rfl⟩
      rw [run, e2]
      simp [Builtin.len_, run_underlying (h1.isSlice e1), goInt]
    | false =>
      obtain ⟨b, c, e0, e2, _⟩ := (hr ha cx N M β a w i).2 rfl
      obtain ⟨cur, _, hlen, _⟩ := i.box _ _ hb b c e0
      refine ⟨_, ?_, rfl⟩
      rw [run, e2, hlen]
      simp [Builtin.len_, run_underlying (h1.isSlice e1), goInt]
  · rename_i e1
    refine ⟨_, h, fun ha cx N M β a w i => ⟨_, ?_, rfl⟩⟩
    obtain ⟨b, c, o', e0, e2, _⟩ := hr ha cx N M β a w i
    rw [run, e2]
    simp [Builtin.len_, run_underlying (h1.isSlice e1), goInt]
  · rename_i e1
    refine ⟨_, h, fun ha cx N M β a w i => ⟨_, ?_, rfl⟩⟩
    have e2 := hr ha cx N M β a w i
    simp only [AV.Rep, SV.Rep, DV.Rep] at e2
    rw [run, e2]
    simp [Builtin.len_, run_underlying (h1.isSlice e1), goInt]
  · rename_i e1
    refine ⟨_, h, fun ha cx N M β a w i => ⟨_, ?_, rfl⟩⟩
    have e2 := hr ha cx N M β a w i
    simp only [AV.Rep, SV.Rep, DV.Rep] at e2
    rw [run, e2]
    simp [Builtin.len_, run_underlying (h1.isString e1), goInt]
  · rename_i e1
    refine ⟨_, h, fun ha cx N M β a w i => ⟨_, ?_, rfl⟩⟩
    rw [run]
    simp [Builtin.len_, run_underlying (h1.isArray e1), goInt]

/-- min and max of integers. -/
def mm (mx : Bool) (x y : Int) : Int := match mx with | true => if y > x then y else x | false => if y < x then y else x
def ints (g : Option Bool) (σ : St) : List Operand → (List (IntKind × Int) → Prop) → Prop
  | [], K => K []
  | x :: r, K => fe g (ev σ x) fun va => match va with
    | .s (.d (.val (.int k n))) => ints g σ r fun l => K ((k, n) :: l)
    | _ => False
theorem ints.spec : ∀ {l : List Operand} {K : List (IntKind × Int) → Prop}, ints g σ l K →
    ∃ ns, K ns ∧ (act g → ∀ cx N M β a w, Inv cx N M β σ a w → l.map a.eval = ns.map fun p => Value.int p.1 p.2)
  | [], _, h => ⟨[], h, fun _ _ _ _ _ _ _ _ => rfl⟩
  | x :: r, K, h => by
    replace h := fe.ev h
    obtain ⟨va, h, hr⟩ := h
    split at h
    case h_2 => exact h.elim
    rename_i k n
    obtain ⟨ns, hk, hs⟩ := ints.spec h
    refine ⟨_, hk, fun ha cx N M β a w i => ?_⟩
    have ex : a.eval x = .int k n := hr ha cx N M β a w i
    simp [hs ha cx N M β a w i, ex]
def mmL (mx : Bool) (k : IntKind) (x : Int) : List (IntKind × Int) → AV
  | [] => vint k x
  | (_, y) :: r => mmL mx k (mm mx x y) r
theorem mmL.spec (mx : Bool) (k : IntKind) : ∀ (l : List (IntKind × Int)) (x : Int) (w : World), ∃ v, ((l.map fun p => Value.int p.1 p.2).foldlM (match mx with | true => Builtin.max2 | false => Builtin.min2) (Value.int k x) : Sem Value).run P w = .ok v w ∧ ∀ M β, (mmL mx k x l).Rep M β v
  | [], x, w => ⟨_, rfl, fun _ _ => rfl⟩
  | (k', y) :: r, x, w => by
    obtain ⟨v, e, hv⟩ := mmL.spec mx k r (mm mx x y) w
    refine ⟨v, ?_, hv⟩
    cases mx <;> simp [Builtin.max2, Builtin.min2, mm] at e ⊢ <;> exact e
theorem mm.spec (mx : Bool) {args : Array Operand} {tys : Array TypeId} (ho : o.op = .call { callee := .builtin (match mx with | true => .max | false => .min), args := args, argTypes := tys })
    (h : ints g σ args.toList fun l => match l with | (k, n) :: r => K (mmL mx k n r) | [] => False) : ∃ r, K r ∧ Pure1 P o σ g r := by
  replace h := ints.spec h
  obtain ⟨ns, h, hs⟩ := h
  split at h
  case h_2 => exact h.elim
  rename_i k n r
  refine ⟨_, h, fun ha cx N M β a w i => ?_⟩
  obtain ⟨v, e, hv⟩ := mmL.spec (P := P) mx k r n w
  refine ⟨v, ?_, hv M β⟩
  have hm := hs ha cx N M β a w i
  have hm' : (args.map a.eval).toList = Value.int k n :: r.map fun p => Value.int p.1 p.2 := by simpa using hm
  cases mx
  · simp only [execOp, ho, resolve, invoke, builtin, Builtin.min_, Sem.run_bind, Sem.run_pure, Result.andThen, hm', e]
  · simp only [execOp, ho, resolve, invoke, builtin, Builtin.max_, Sem.run_bind, Sem.run_pure, Result.andThen, hm', e]

end
end Go.Ax

/- Aggregates built in place; slices of slices and strings. -/
namespace Go.Ax
open Go.RowKit

theorem put_fold (off : Nat) : ∀ (l : List Value) (k : Nat) (A : Array Value), off + k + l.length ≤ A.size →
    (l.zipIdx k).foldl (fun cs p => cs.setIfInBounds (off + p.2) p.1) A = (A.toList.take (off + k) ++ l ++ A.toList.drop (off + k + l.length)).toArray
  | [], k, A, _ => by simp
  | v :: r, k, A, h => by
    simp only [List.length_cons] at h
    have ih := put_fold off r (k + 1) (A.setIfInBounds (off + k) v) (by simp; omega)
    simp only [List.zipIdx_cons, List.foldl_cons]
    rw [ih]
    congr 1
    have t1 : (A.toList.set (off + k) v).take (off + (k + 1)) = A.toList.take (off + k) ++ [v] := by
      rw [show off + (k + 1) = (off + k) + 1 by omega, List.take_succ_eq_append_getElem (by simp; omega), List.getElem_set_self]
      congr 1
      exact List.take_set_of_le (Nat.le_refl _)
    have t2 : (A.toList.set (off + k) v).drop (off + (k + 1) + r.length) = A.toList.drop (off + k + (r.length + 1)) := by
      rw [List.drop_set_of_lt (by omega)]
      congr 1
      omega
    simp only [Array.toList_setIfInBounds, t1, t2, List.length_cons, List.append_assoc, List.cons_append, List.nil_append]

def fillA (place : Nat → Option (Nat × Nat)) (cells : List SV) : List (Nat × List SV) → Option (List SV)
  | [] => some cells
  | (i, cs) :: r => match place i with
    | some (off, sz) => bif Nat.beq cs.length sz && Nat.ble (off + sz) cells.length then fillA place (cells.take off ++ (cs ++ cells.drop (off + sz))) r else none
    | none => none

/-- The parts as they are handed on. -/
def RepP (M : Mem) (β : Nm) : List (Nat × List SV) → List (Nat × Value) → Prop
  | [], [] => True
  | (i, cs) :: r, (j, v) :: s => i = j ∧ (∃ vs : List Value, v.cells.toList = vs ∧ RepL M β cs vs) ∧ RepP M β r s
  | _, _ => False

theorem fillA.spec {M : Mem} {β : Nm} {pl pl' : Nat → Option (Nat × Nat)} (hpl : ∀ i p, pl i = some p → pl' i = some p) : ∀ {ps : List (Nat × List SV)} {qs : List (Nat × Value)} {cells cs' : List SV} {vals : List Value}, fillA pl cells ps = some cs' → RepP M β ps qs → RepL M β cells vals →
    ∃ vals' : List Value, Instr.fill pl' vals.toArray qs = some vals'.toArray ∧ RepL M β cs' vals'
  | [], [], cells, cs', vals, h, _, hr => by
    simp only [fillA, Option.some.injEq] at h
    subst h
    exact ⟨vals, rfl, hr⟩
  | (i, cs) :: r, (j, v) :: s, cells, cs', vals, h, hp, hr => by
    obtain ⟨rfl, ⟨vs, hv, hcs⟩, hp⟩ := hp
    simp only [fillA] at h
    split at h
    · rename_i off sz hpi
      cases hc : (Nat.beq cs.length sz && Nat.ble (off + sz) cells.length) with
      | false => rw [hc] at h; cases h
      | true =>
        rw [hc] at h
        simp only [cond_true] at h
        simp only [Bool.and_eq_true] at hc
        have h1 := Nat.eq_of_beq_eq_true hc.1
        have h2 := Nat.le_of_ble_eq_true hc.2
        have l1 := hcs.length
        have l2 := hr.length
        have hsz : v.cells.size = sz := by rw [← Array.length_toList, hv]; omega
        have hnew : RepL M β (cells.take off ++ (cs ++ cells.drop (off + sz))) (vals.take off ++ (vs ++ vals.drop (off + sz))) :=
          (hr.take off).append (hcs.append (hr.drop (off + sz)))
        obtain ⟨vals', e, hr'⟩ := fillA.spec hpl h hp hnew
        refine ⟨vals', ?_, hr'⟩
        simp only [Instr.fill, hpl _ _ hpi]
        rw [if_neg (by simp [hsz]; omega)]
        rw [← e]
        congr 1
        have := put_fold off vs 0 vals.toArray (by simp; omega)
        simp only [Nat.add_zero] at this
        rw [← Array.foldl_toList, Array.toList_zipIdx, hv, this]
        apply Array.ext'
        have h3 : vs.length = sz := by omega
        simp [h3]
    · cases h
  | [], _ :: _, _, _, _, _, h, _ => h.elim
  | _ :: _, [], _, _, _, _, h, _ => h.elim

section
variable {P : Program} {σ : St} {g : Option Bool} {K : AV → Prop} {o : Oper}

def cellsA : AV → Option (List SV)
  | .s x => some [x]
  | .g cs => some cs
  | _ => none
theorem cellsA.rep {v : AV} {cs : List SV} {M : Mem} {β : Nm} {u : Value} (h : cellsA v = some cs) (ho : allOne cs = true) (r : v.Rep M β u) : ∃ vs : List Value, u.cells.toList = vs ∧ RepL M β cs vs := by
  unfold cellsA at h
  split at h
  · cases h
    refine ⟨[u], ?_, r, trivial⟩
    have : u.oneCell' = true := SV.Rep.oneCell r (by simpa [allOne] using ho)
    cases u <;> first | rfl | cases this
  · cases h
    obtain ⟨vs, rfl, hr⟩ := r
    exact ⟨vs, rfl, hr⟩
  · cases h

def parts (g : Option Bool) (σ : St) : List (Nat × Operand) → (List (Nat × List SV) → Prop) → Prop
  | [], K => K []
  | (i, x) :: r, K => fe g (ev σ x) fun va => match cellsA va with
    | some cs => bif allOne cs then parts g σ r fun l => K ((i, cs) :: l) else False
    | none => False
theorem parts.spec : ∀ {l : List (Nat × Operand)} {K : List (Nat × List SV) → Prop}, parts g σ l K →
    ∃ ps, K ps ∧ (act g → ∀ cx N M β a w, Inv cx N M β σ a w → RepP M β ps (l.map fun p => (p.1, a.eval p.2)))
  | [], _, h => ⟨[], h, fun _ _ _ _ _ _ _ _ => trivial⟩
  | (i, x) :: r, K, h => by
    replace h := fe.ev h
    obtain ⟨va, h, hr⟩ := h
    split at h
    case h_2 => exact h.elim
    rename_i cs hcs
    cases ho : allOne cs with
    | false => rw [ho] at h; exact h.elim
    | true =>
      rw [ho] at h
      obtain ⟨ps, hk, hs⟩ := parts.spec h
      exact ⟨_, hk, fun ha cx N M β a w i => ⟨rfl, cellsA.rep hcs ho (hr ha cx N M β a w i), hs ha cx N M β a w i⟩⟩

def zv : Value → SV
  | .bool b => .d (.lit b)
  | v => .d (.val v)
def zvs : List Value → List SV
  | [] => []
  | v :: r => zv v :: zvs r
theorem zvs.rep (M : Mem) (β : Nm) : ∀ l : List Value, RepL M β (zvs l) l
  | [] => trivial
  | v :: r => ⟨by cases v <;> exact rfl, zvs.rep M β r⟩

def buildV (T : List (Nat × TyI)) (t : Nat) (ps : List (Nat × List SV)) (K : AV → Prop) : Prop :=
  match getT T t with
  | some ti => match ti.und with
    | .struct => match fillA (fun i => ti.flds[i]?) (zvs ti.zero) ps with
      | some cs => K (.g cs)
      | none => False
    | .array _ e => match getT T e with
      | some te => match fillA (fun i => some (i * te.size, te.size)) (zvs ti.zero) ps with
        | some cs => K (.g cs)
        | none => False
      | none => False
    | _ => False
  | none => False

theorem FldsOK.places (w : World) : ∀ {fs : List Field} {l : List (Nat × Nat)}, FldsOK P fs l →
    (fs.mapM (fun f => (do pure (f.offset, ← sizeOf f.type) : Sem (Nat × Nat)))).run P w = .ok l w
  | [], [], _ => by simp
  | f :: fs, (o, z) :: r, ⟨h1, ⟨ti, h2, h3⟩, h4⟩ => by
    have := FldsOK.places w h4
    simp [sizeOf, typeInfo, h1, h2, h3] at this ⊢
    simp [this]
  | [], _ :: _, h => h.elim
  | _ :: _, [], h => h.elim

theorem build.spec {T : List (Nat × TyI)} (hT : TabOK P T) {t : Nat} {pa : Array (Nat × Operand)} (ho : o.op = .build t pa)
    (h : parts g σ pa.toList fun ps => buildV T t ps K) : ∃ r, K r ∧ Pure1 P o σ g r := by
  replace h := parts.spec h
  obtain ⟨ps, h, hs⟩ := h
  unfold buildV at h
  split at h
  case h_2 => exact h.elim
  rename_i ti hti
  have hok := hT.get hti
  have run : ∀ (a : Act) (w : World) (r : Value), (Instr.build t (pa.map fun (i, x) => (i, a.eval x))).run P w = .ok r w → (execOp a.eval o).run P w = .ok (.value r) w := by
    intro a w r h
    simp [execOp, ho, h]
  split at h
  case h_3 => exact h.elim
  · rename_i hu
    obtain ⟨fs, hund⟩ := hok.isStruct hu
    split at h
    case h_2 => exact h.elim
    rename_i cs hcs
    refine ⟨_, h, fun ha cx N M β a w i => ?_⟩
    have hp := hs ha cx N M β a w i
    obtain ⟨z, hz, hzc⟩ := hok.run_zero w
    obtain ⟨vals', e, hr⟩ := fillA.spec (pl' := fun i => ti.flds.toArray[i]?) (by intro i p h; simpa using h) hcs hp (zvs.rep M β ti.zero)
    have hpl := FldsOK.places w (hok.flds fs hund)
    refine ⟨_, run a w _ ?_, vals', rfl, hr⟩
    have hpl' : (fs.mapM (fun f => (do pure (f.offset, ← sizeOf f.type) : Sem (Nat × Nat)))).run P w = .ok ti.flds.toArray w := by
      rw [← Array.toArray_toList (xs := fs), List.mapM_toArray]
      simp only [Sem.run_map, hpl, Result.andThen]
    have hzc' : z.cells = ti.zero.toArray := by rw [← hzc]
    simp only [Instr.build, Sem.run_bind, hz, Result.andThen, run_underlying hund, hpl', hzc']
    simp only [Array.toList_map, e, Sem.run_pure]
  · rename_i n e hu
    split at h
    case h_2 => exact h.elim
    rename_i te hte
    split at h
    case h_2 => exact h.elim
    rename_i cs hcs
    refine ⟨_, h, fun ha cx N M β a w i => ?_⟩
    have hp := hs ha cx N M β a w i
    obtain ⟨z, hz, hzc⟩ := hok.run_zero w
    obtain ⟨vals', e', hr⟩ := fillA.spec (pl' := fun i => some (i * te.size, te.size)) (fun _ _ h => h) hcs hp (zvs.rep M β ti.zero)
    have hund : P.underlying t = some (.array n e) := hok.isArray hu
    refine ⟨_, run a w _ ?_, vals', rfl, hr⟩
    have hzc' : z.cells = ti.zero.toArray := by rw [← hzc]
    simp only [Instr.build, Sem.run_bind, hz, Result.andThen, run_underlying hund, (hT.get hte).run_size, hzc']
    simp only [Array.toList_map, e', Sem.run_pure]

end
end Go.Ax

/- Operations that change the world: new boxes, stores, new rows, appends. -/
namespace Go.Ax
open Go.RowKit

section world
variable {w : World} {cx : Cx} {N : Nat} {M : Mem} {β : Nm} {σ : St} {a : Act}

theorem block_lt {w : World} {b : Nat} {ob : Obj} (h : w.heap[b]? = some ob) : b < w.heap.size := (Array.getElem?_eq_some_iff.1 h).1
theorem Inv.mem_lt (i : Inv cx N M β σ a w) {b o : Nat} {u : Value} (h : M b o = some u) : b < w.heap.size := World.block_lt_of_cell? w ⟨b, o, none⟩ (i.mem b o u h)
theorem Inv.box_lt (i : Inv cx N M β σ a w) {x : Nat} {bc : Box} {b : Nat} {c : Nat × Nat} (h : getB σ.box x = some (some bc)) (e : β x = some (b, c)) : b < w.heap.size := by
  have := i.box x bc h
  cases bc with
  | cells cs => obtain ⟨b', c', vs, T, e', hh, _⟩ := this; rw [e] at e'; cases e'; exact block_lt hh
  | row et n s f => obtain ⟨b', c', cur, e', hh, _⟩ := this; rw [e] at e'; cases e'; exact block_lt hh
  | mrow et n s f => obtain ⟨cur, hh, _⟩ := this b c e; exact block_lt hh
  | map vk l => obtain ⟨b', c', e', hh⟩ := this; rw [e] at e'; cases e'; exact block_lt hh
  | fresh T vs => obtain ⟨b', c', e', hh⟩ := this; rw [e] at e'; cases e'; exact block_lt hh
  | iter m n seen => obtain ⟨b', c', bm, cm, e', _, hh⟩ := this; rw [e] at e'; cases e'; exact block_lt hh
def Box.real : Box → Bool
  | .mrow _ _ _ _ => false
  | _ => true
theorem RepBox.exb {x : Nat} {bc : Box} (hreal : bc.real = true) (h : RepBox M β w x bc) : ∃ b c, β x = some (b, c) := by
  cases bc with
  | cells cs => obtain ⟨b', c', vs, T, e', _⟩ := h; exact ⟨b', c', e'⟩
  | row et n s f => obtain ⟨b', c', cur, e', _⟩ := h; exact ⟨b', c', e'⟩
  | mrow et n s f => cases hreal
  | map vk l => obtain ⟨b', c', e', _⟩ := h; exact ⟨b', c', e'⟩
  | fresh T vs => obtain ⟨b', c', e', _⟩ := h; exact ⟨b', c', e'⟩
  | iter m n seen => obtain ⟨b', c', bm, cm, e', _⟩ := h; exact ⟨b', c', e'⟩

theorem RepBox.mono {M' : Mem} {β' : Nm} {w' : World} {x : Nat} {bc : Box} (hM : Mem.le M M') (hβ : Nm.le β β') (hx : β' x = β x) (hw : ∀ b c, β x = some (b, c) → w'.heap[b]? = w.heap[b]?)
    (h : RepBox M β w x bc) : RepBox M' β' w' x bc := by
  cases bc with
  | cells cs =>
    obtain ⟨b, c, vs, T, e, hh, hr⟩ := h
    exact ⟨b, c, vs, T, hβ _ _ e, (hw b c e).trans hh, RepL.mono hM hβ hr⟩
  | row et n s f =>
    obtain ⟨b, c, cur, e, hh, h0, h1, h2, h3, h4⟩ := h
    exact ⟨b, c, cur, hβ _ _ e, (hw b c e).trans hh, h0, h1, h2, h3, fun i j hi hj => let ⟨u, hu, hr⟩ := h4 i j hi hj; ⟨u, hu, DV.Rep.mono hM hr⟩⟩
  | mrow et n s f =>
    intro b c e
    rw [hx] at e
    obtain ⟨cur, hh, h0, h1, h2, h3, h4⟩ := h b c e
    exact ⟨cur, (hw b c e).trans hh, h0, h1, h2, h3, fun i j hi hj => let ⟨u, hu, hr⟩ := h4 i j hi hj; ⟨u, hu, DV.Rep.mono hM hr⟩⟩
  | map vk l =>
    obtain ⟨b, c, e, hh⟩ := h
    exact ⟨b, c, hβ _ _ e, (hw b c e).trans hh⟩
  | fresh T vs =>
    obtain ⟨b, c, e, hh⟩ := h
    exact ⟨b, c, hβ _ _ e, (hw b c e).trans hh⟩
  | iter m n seen =>
    obtain ⟨b, c, bm, cm, e, em, hh⟩ := h
    exact ⟨b, c, bm, cm, hβ _ _ e, hβ _ _ em, (hw b c e).trans hh⟩

/-- A new block, under a new name. -/
theorem Inv.new {d : Nat} {bc : Box} {ob : Obj} {c : Nat × Nat} (i : Inv cx N M β σ a w) (hd : getB σ.box d = none) {w' : World}
    (hw : w'.heap = w.heap.push ob) (ho : w'.os = w.os) (ht : w'.tape = w.tape) (hout : w'.output = w.output)
    (hb : ∀ β' : Nm, β' d = some (w.heap.size, c) → Nm.le β β' → RepBox M β' w' d bc) :
    ∃ β', β' d = some (w.heap.size, c) ∧ Nm.le β β' ∧ Inv cx N M β' ⟨σ.env, (d, some bc) :: σ.box⟩ a w' ∧ Keep cx w w' := by
  have hnone : β d = none := by
    cases h : β d with
    | none => rfl
    | some p => obtain ⟨y, hy⟩ := i.keys d p h; rw [hd] at hy; cases hy
  let β' : Nm := fun x => if x = d then some (w.heap.size, c) else β x
  have hβd : β' d = some (w.heap.size, c) := by simp [β']
  have hβ : Nm.le β β' := fun x p e => by
    by_cases hx : x = d
    · subst hx; rw [hnone] at e; cases e
    · simp [β', hx, e]
  have hβo : ∀ x, x ≠ d → β' x = β x := fun x hx => by simp [β', hx]
  have hold : ∀ k, k < w.heap.size → w'.heap[k]? = w.heap[k]? := fun k hk => by rw [hw, Array.getElem?_push, if_neg (by omega)]
  have hsz : w.heap.size ≤ w'.heap.size := by rw [hw]; simp
  have hmem : ∀ b o u, M b o = some u → w'.cell? ⟨b, o, none⟩ = some u := fun b o u e => by
    rw [World.cell?_of_block (w := w) (w' := w') (a := ⟨b, o, none⟩) (hold b (i.mem_lt e))]
    exact i.mem b o u e
  have hlive : ∀ x bx, getB ((d, some bc) :: σ.box) x = some (some bx) → (x = d ∧ bx = bc) ∨ (x ≠ d ∧ getB σ.box x = some (some bx)) := fun x bx e => by
    rw [getB_cons] at e
    split at e
    · rename_i h; subst h; simp at e; exact .inl ⟨rfl, e.symm⟩
    · rename_i h; exact .inr ⟨fun k => h k.symm, e⟩
  have hblk : ∀ x bx b c', getB σ.box x = some (some bx) → β x = some (b, c') → b < w.heap.size := fun x bx b c' e1 e2 => i.box_lt e1 e2
  have kp : Keep cx w w' := ⟨ho, ht, hout, hsz, fun k hk _ => hold k (Nat.lt_of_lt_of_le hk i.heap.le)⟩
  refine ⟨β', hβd, hβ, ⟨i.defers, i.tmps, i.heap.keep kp, fun t => AV.Rep.mono (Mem.le_refl M) hβ (i.env t), hmem, ?_, ?_, ?_, ?_, ?_, ?_⟩, kp⟩
  · intro x p e
    by_cases hx : x = d
    · subst hx; exact ⟨_, by rw [getB_cons, if_pos rfl]⟩
    · rw [hβo x hx] at e
      obtain ⟨y, hy⟩ := i.keys x p e
      exact ⟨y, by rw [getB_cons, if_neg (fun h => hx h.symm)]; exact hy⟩
  · intro x bx e
    rcases hlive x bx e with ⟨rfl, rfl⟩ | ⟨hx, e⟩
    · exact hb β' hβd hβ
    · have hr := i.box x bx e
      exact RepBox.mono (Mem.le_refl M) hβ (hβo x hx) (fun b c' e' => hold b (hblk x bx b c' e e')) hr
  · intro x y bx bby b c1 c2 ex ey hx hy
    by_cases hxd : x = d
    · by_cases hyd : y = d
      · rw [hxd, hyd]
      · rcases hlive y bby ey with ⟨h, _⟩ | ⟨_, ey'⟩
        · exact absurd h hyd
        rw [hxd, hβd] at hx; cases hx
        rw [hβo y hyd] at hy
        have := hblk y bby _ _ ey' hy; omega
    · rcases hlive x bx ex with ⟨h, _⟩ | ⟨_, ex'⟩
      · exact absurd h hxd
      rw [hβo x hxd] at hx
      by_cases hyd : y = d
      · rw [hyd, hβd] at hy; cases hy
        have := hblk x bx _ _ ex' hx; omega
      · rcases hlive y bby ey with ⟨h, _⟩ | ⟨_, ey'⟩
        · exact absurd h hyd
        rw [hβo y hyd] at hy
        exact i.inj x y bx bby b c1 c2 ex' ey' hx hy
  · intro x bx b c1 ex hx o
    rcases hlive x bx ex with ⟨rfl, rfl⟩ | ⟨hxd, ex⟩
    · rw [hβd] at hx; cases hx
      cases h : M w.heap.size o with
      | none => rfl
      | some u => have := i.mem_lt h; omega
    · rw [hβo x hxd] at hx
      exact i.apart x bx b c1 ex hx o
  · intro x bx b c1 ex hx
    rcases hlive x bx ex with ⟨rfl, rfl⟩ | ⟨hxd, ex⟩
    · rw [hβd] at hx; cases hx
      exact .inl i.heap.le
    · rw [hβo x hxd] at hx
      exact i.low x bx b c1 ex hx
  · intro x hx
    obtain ⟨h1, p, h2⟩ := i.ref x hx
    by_cases hxd : x = d
    · subst hxd; rw [hnone] at h2; cases h2
    · rw [hβo x hxd]; exact ⟨h1, p, h2⟩

/-- A write into a box of one's own. -/
theorem Inv.write {x : Nat} {bc bc' : Box} {b : Nat} {c : Nat × Nat} (i : Inv cx N M β σ a w) (hx : getB σ.box x = some (some bc)) (hβ : β x = some (b, c)) {w' : World}
    (hsz : w'.heap.size = w.heap.size) (hold : ∀ k, k ≠ b → w'.heap[k]? = w.heap[k]?) (ho : w'.os = w.os) (ht : w'.tape = w.tape) (hout : w'.output = w.output)
    (hb : RepBox M β w' x bc') : Inv cx N M β ⟨σ.env, (x, some bc') :: σ.box⟩ a w' ∧ Keep cx w w' := by
  have hlive : ∀ y bx, getB ((x, some bc') :: σ.box) y = some (some bx) → (y = x ∧ bx = bc') ∨ (y ≠ x ∧ getB σ.box y = some (some bx)) := fun y bx e => by
    rw [getB_cons] at e
    split at e
    · rename_i h; subst h; simp at e; exact .inl ⟨rfl, e.symm⟩
    · rename_i h; exact .inr ⟨fun k => h k.symm, e⟩
  have hap := i.apart x bc b c hx hβ
  have hmemb : ∀ k o u, M k o = some u → k ≠ b := fun k o u e h => by subst h; rw [hap o] at e; cases e
  have hl : ∀ y bx, getB ((x, some bc') :: σ.box) y = some (some bx) → ∃ bx', getB σ.box y = some (some bx') := fun y bx e => by
    rcases hlive y bx e with ⟨rfl, _⟩ | ⟨_, e⟩
    · exact ⟨_, hx⟩
    · exact ⟨_, e⟩
  have kp : Keep cx w w' := ⟨ho, ht, hout, by omega, fun k hk hm => by
      refine hold k (fun h => ?_)
      subst h
      rcases i.low x bc k c hx hβ with h | h
      · omega
      · exact hm h⟩
  refine ⟨⟨i.defers, i.tmps, i.heap.keep kp, i.env, ?_, ?_, ?_, ?_, ?_, ?_, i.ref⟩, kp⟩
  · intro k o u e
    rw [World.cell?_of_block (w := w) (w' := w') (a := ⟨k, o, none⟩) (hold k (hmemb k o u e))]
    exact i.mem k o u e
  · intro y p e
    obtain ⟨z, hz⟩ := i.keys y p e
    by_cases hy : x = y
    · exact ⟨_, by rw [getB_cons, if_pos hy]⟩
    · exact ⟨z, by rw [getB_cons, if_neg hy]; exact hz⟩
  · intro y bx e
    rcases hlive y bx e with ⟨rfl, rfl⟩ | ⟨hy, e⟩
    · exact hb
    · have hr := i.box y bx e
      have hne : ∀ b' c', β y = some (b', c') → b' ≠ b := fun b' c' e' h => by subst h; exact hy (i.inj y x bx bc b' c' c e hx e' hβ)
      exact RepBox.mono (Mem.le_refl M) (Nm.le_refl β) rfl (fun b' c' e' => hold b' (hne b' c' e')) hr
  · intro y z bx bz b1 c1 c2 ey ez hy hz
    obtain ⟨_, ey⟩ := hl y bx ey
    obtain ⟨_, ez⟩ := hl z bz ez
    exact i.inj y z _ _ b1 c1 c2 ey ez hy hz
  · intro y bx b1 c1 ey hy
    obtain ⟨_, ey⟩ := hl y bx ey
    exact i.apart y _ b1 c1 ey hy
  · intro y bx b1 c1 ey hy
    obtain ⟨_, ey⟩ := hl y bx ey
    exact i.low y _ b1 c1 ey hy

end world
end Go.Ax

/- Calls by contract. -/
namespace Go.Ax
open Go.RowKit

def nb : Nm := fun _ => none
def full (w : World) : Mem := fun b o => w.cell? ⟨b, o, none⟩
def MemOK (M : Mem) (w : World) : Prop := ∀ b o u, M b o = some u → w.cell? ⟨b, o, none⟩ = some u

/-- What a box's pointer, or an own row, is ars data, ars memory stands now. -/
def dS : Nat → St → SV → DV
  | _, _, .d x => x
  | n + 1, σ, .ptr x off => match getB σ.box x with
    | some (some (.cells cs)) => .rp (cs.length - off) fun j => match cs[off + j]? with
      | some c => dS n σ c
      | none => .junk
    | _ => .junk
  | _, σ, .own x => match getB σ.box x with
    | some (some (.row _ n s f)) => .slc n s f
    | _ => .junk
  | _, σ, .mo z x => match getB σ.box x with
    | some (some (.mrow _ n s f)) => .slc (bif z then 0 else n) s f
    | _ => .junk
  | _, σ, .osl x s lo n => match getB σ.box x with
    | some (some (.row _ _ s' f)) => bif Nat.beq s s' then .slc n s (fun i => f (lo + i)) else .junk
    | _ => .junk
  | n + 1, σ, .clo f cs => .clo f cs.length fun i => match cs[i]? with
    | some (.d x) => x
    | some (.ptr x off) => dS n σ (.ptr x off)
    | none => .junk
  | _, _, _ => .junk

theorem RepC.get : ∀ {M β} {cs : List CV} {vs : List Value} {j : Nat} {v : Value}, RepC M β cs vs → vs[j]? = some v → ∃ c, cs[j]? = some c ∧ c.Rep M β v
  | _, _, [], [], j, c, _, h => by simp at h
  | _, _, c :: _, _ :: _, 0, v, ⟨hv, _⟩, h => ⟨c, rfl, by simp at h; exact h ▸ hv⟩
  | _, _, _ :: _, _ :: _, j + 1, c, ⟨_, r⟩, h => by
    have := RepC.get (j := j) r (by simpa using h)
    simpa using this
  | _, _, [], _ :: _, _, _, h, _ => h.elim
  | _, _, _ :: _, [], _, _, h, _ => h.elim
theorem RepC.length : ∀ {M β} {cs : List CV} {vs : List Value}, RepC M β cs vs → vs.length = cs.length
  | _, _, [], [], _ => rfl
  | _, _, _ :: _, _ :: _, ⟨_, r⟩ => by simp [RepC.length r]
  | _, _, [], _ :: _, h => h.elim
  | _, _, _ :: _, [], h => h.elim

theorem dS.rep {cx : Cx} {N : Nat} {M F : Mem} {β : Nm} {σ : St} {a : Act} {w : World} (i : Inv cx N M β σ a w) (hM : Mem.le M F)
    (hF : ∀ x bc b c, getB σ.box x = some (some bc) → β x = some (b, c) → ∀ o u, w.cell? ⟨b, o, none⟩ = some u → F b o = some u) : ∀ (n : Nat) (x : SV) (v : Value), x.Rep M β v → (dS n σ x).Rep F v := by
  have row : ∀ (x : Nat) (v : Value), (SV.own x).Rep M β v → ∀ e n s f, getB σ.box x = some (some (.row e n s f)) → (DV.slc n s f).Rep F v := by
    intro x v r e n s f hb
    obtain ⟨b, c, e1, rfl, hc⟩ := r
    obtain ⟨b', c', cur, e2, hh, hl, hsz, hn, _, hcell⟩ := i.box x _ hb
    rw [e1] at e2; cases e2
    refine ⟨some ⟨b, 0, none⟩, c.1, by rw [hl], hn, .inr ⟨b, 0, rfl, fun k j hk hj => ?_⟩⟩
    obtain ⟨u, hu, hr⟩ := hcell k j hk hj
    exact ⟨u, hF x _ b c hb e1 _ u (by simp [World.cell?, hh, hu]), DV.Rep.mono hM hr⟩
  have mrow : ∀ (z : Bool) (x : Nat) (v : Value), (SV.mo z x).Rep M β v → ∀ e n s f, getB σ.box x = some (some (.mrow e n s f)) → (DV.slc (bif z then 0 else n) s f).Rep F v := by
    intro z x v r e n s f hb
    cases z with
    | true => exact ⟨none, 0, r.1 rfl, Nat.le_refl _, .inl rfl⟩
    | false =>
      obtain ⟨b, c, e1, rfl, hc⟩ := r.2 rfl
      obtain ⟨cur, hh, hl, hsz, hn, _, hcell⟩ := i.box x _ hb b c e1
      refine ⟨some ⟨b, 0, none⟩, c.1, by rw [hl]; rfl, hn, .inr ⟨b, 0, rfl, fun k j hk hj => ?_⟩⟩
      obtain ⟨u, hu, hr⟩ := hcell k j hk hj
      exact ⟨u, hF x _ b c hb e1 _ u (by simp [World.cell?, hh, hu]), DV.Rep.mono hM hr⟩
  have view : ∀ (x s lo n : Nat) (v : Value), (SV.osl x s lo n).Rep M β v → ∀ e m f, getB σ.box x = some (some (.row e m s f)) → (DV.slc n s fun i => f (lo + i)).Rep F v := by
    intro x s lo n v r e m f hb
    obtain ⟨b, c, o, e1, rfl, ho, hc1, hc2⟩ := r
    obtain ⟨b', c', cur, e2, hh, hl, hsz, hn, _, hcell⟩ := i.box x _ hb
    rw [e1] at e2; cases e2
    refine ⟨some ⟨b, o, none⟩, c.1 - lo, rfl, by omega, ?_⟩
    by_cases h0 : n = 0
    · exact .inl h0
    · refine .inr ⟨b, o, rfl, fun k j hk hj => ?_⟩
      obtain ⟨u, hu, hr⟩ := hcell (lo + k) j (by omega) hj
      refine ⟨u, hF x _ b c hb e1 _ u ?_, DV.Rep.mono hM hr⟩
      rw [ho (by omega), show lo * s + k * s + j = (lo + k) * s + j by rw [Nat.add_mul]]
      simp [World.cell?, hh, hu]
  intro n
  induction n with
  | zero =>
    intro x v r
    cases x with
    | d x => exact DV.Rep.mono hM r
    | osl x s lo n =>
      simp only [dS]
      split
      · rename_i e m s' f hb
        cases hs : Nat.beq s s' with
        | false => exact trivial
        | true =>
          have := Nat.eq_of_beq_eq_true hs
          subst this
          exact view x s lo n v r e m f hb
      · trivial
    | own x =>
      simp only [dS]
      split
      · rename_i e n s f hb
        exact row x v r e n s f hb
      · trivial
    | mo z x =>
      simp only [dS]
      split
      · rename_i e n s f hb
        exact mrow z x v r e n s f hb
      · trivial
    | _ => exact trivial
  | succ n ih =>
    intro x v r
    cases x with
    | d x => exact DV.Rep.mono hM r
    | ptr x off =>
      simp only [dS]
      split
      · rename_i cs hb
        obtain ⟨b, c, e1, rfl⟩ := r
        obtain ⟨b', c', vs, T, e2, hh, hr⟩ := i.box x _ hb
        rw [e1] at e2; cases e2
        refine ⟨b, off, rfl, fun j hj => ?_⟩
        have hlt : off + j < cs.length := by omega
        obtain ⟨u, hu, hru⟩ := hr.get (List.getElem?_eq_getElem hlt)
        refine ⟨u, hF x _ b c hb e1 _ u (by simp [World.cell?, hh, hu]), ?_⟩
        simp only [List.getElem?_eq_getElem hlt]
        exact ih _ _ hru
      · trivial
    | own x =>
      simp only [dS]
      split
      · rename_i e n s f hb
        exact row x v r e n s f hb
      · trivial
    | mo z x =>
      simp only [dS]
      split
      · rename_i e n s f hb
        exact mrow z x v r e n s f hb
      · trivial
    | rw x i s o => exact trivial
    | mp x => exact trivial
    | osl x s lo n =>
      simp only [dS]
      split
      · rename_i e m s' f hb
        cases hs : Nat.beq s s' with
        | false => exact trivial
        | true =>
          have := Nat.eq_of_beq_eq_true hs
          subst this
          exact view x s lo n v r e m f hb
      · trivial
    | clo f cs =>
      obtain ⟨vs, rfl, hv⟩ := r
      refine ⟨vs, rfl, hv.length, fun k u hu => ?_⟩
      obtain ⟨c, hc, hr⟩ := hv.get hu
      simp only [hc]
      cases c with
      | d x => exact DV.Rep.mono hM hr
      | ptr x off => exact ih (.ptr x off) u hr

def convS (σ : St) (x : SV) : SV := .d (dS 3 σ x)
def convSs (σ : St) : List SV → List SV
  | [] => []
  | x :: r => convS σ x :: convSs σ r
def convA (σ : St) : AV → AV
  | .s x => .s (convS σ x)
  | .g cs => .g (convSs σ cs)
  | _ => .s (.d .junk)
def convAs (σ : St) : List AV → List AV
  | [] => []
  | x :: r => convA σ x :: convAs σ r

def refS : SV → Bool
  | .d _ => false
  | _ => true
def refSs : List SV → Bool
  | [] => false
  | x :: r => refS x || refSs r
def refA : AV → Bool
  | .s x => refS x
  | .g cs => refSs cs
  | _ => true
def refAs : List AV → Bool
  | [] => false
  | x :: r => refA x || refAs r

def RepAs (M : Mem) (β : Nm) : List AV → List Value → Prop
  | [], [] => True
  | c :: cs, v :: vs => c.Rep M β v ∧ RepAs M β cs vs
  | _, _ => False

section
variable {cx : Cx} {N : Nat} {M F : Mem} {β : Nm} {σ : St} {a : Act} {w : World} (i : Inv cx N M β σ a w) (hM : Mem.le M F)
    (hF : ∀ x bc b c, getB σ.box x = some (some bc) → β x = some (b, c) → ∀ o u, w.cell? ⟨b, o, none⟩ = some u → F b o = some u)
include i hM hF
theorem convSs.rep : ∀ {cs : List SV} {vs : List Value}, RepL M β cs vs → RepL F nb (convSs σ cs) vs
  | [], [], _ => trivial
  | _ :: _, _ :: _, ⟨h, r⟩ => ⟨dS.rep i hM hF 3 _ _ h, convSs.rep r⟩
  | [], _ :: _, h => h.elim
  | _ :: _, [], h => h.elim
theorem convA.rep {x : AV} {v : Value} (r : x.Rep M β v) : (convA σ x).Rep F nb v := by
  cases x with
  | s x => exact dS.rep i hM hF 3 _ _ r
  | g cs => obtain ⟨vs, rfl, hr⟩ := r; exact ⟨vs, rfl, convSs.rep i hM hF hr⟩
  | _ => exact trivial
theorem convAs.rep : ∀ {cs : List AV} {vs : List Value}, RepAs M β cs vs → RepAs F nb (convAs σ cs) vs
  | [], [], _ => trivial
  | _ :: _, _ :: _, ⟨h, r⟩ => ⟨convA.rep i hM hF h, convAs.rep r⟩
  | [], _ :: _, h => h.elim
  | _ :: _, [], h => h.elim
end
theorem refSs.rep {M : Mem} {β : Nm} {σ : St} : ∀ {cs : List SV} {vs : List Value}, refSs cs = false → RepL M β cs vs → RepL M nb (convSs σ cs) vs
  | [], [], _, _ => trivial
  | c :: _, _ :: _, h, ⟨hc, r⟩ => by
    simp only [refSs, Bool.or_eq_false_iff] at h
    refine ⟨?_, refSs.rep h.2 r⟩
    cases c <;> first | exact hc | cases h.1
  | [], _ :: _, _, h => h.elim
  | _ :: _, [], _, h => h.elim
theorem refAs.rep {M : Mem} {β : Nm} {σ : St} : ∀ {cs : List AV} {vs : List Value}, refAs cs = false → RepAs M β cs vs → RepAs M nb (convAs σ cs) vs
  | [], [], _, _ => trivial
  | c :: _, _ :: _, h, ⟨hc, r⟩ => by
    simp only [refAs, Bool.or_eq_false_iff] at h
    refine ⟨?_, refAs.rep h.2 r⟩
    cases c with
    | s x => cases x <;> first | exact hc | cases h.1
    | g cs => obtain ⟨vs, rfl, hr⟩ := hc; exact ⟨vs, rfl, refSs.rep h.1 hr⟩
    | _ => exact trivial
  | [], _ :: _, _, h => h.elim
  | _ :: _, [], _, h => h.elim

def flatS : SV → Bool
  | .d (.val _) => true
  | .d (.lit _) => true
  | .d .junk => true
  | _ => false
def flatSs : List SV → Bool
  | [] => true
  | x :: r => flatS x && flatSs r
def flatT : TV → Bool
  | .s x => flatS x
  | .g cs => flatSs cs
def flatTs : List TV → Bool
  | [] => true
  | x :: r => flatT x && flatTs r
def flatA : AV → Bool
  | .s x => flatS x
  | .g cs => flatSs cs
  | .t ts => flatTs ts
  | _ => false
theorem flatS.rep {M M' : Mem} {β β' : Nm} {x : SV} {v : Value} (h : flatS x = true) (r : x.Rep M β v) : x.Rep M' β' v := by
  unfold flatS at h
  split at h <;> first | exact r | cases h
theorem flatSs.rep {M M' : Mem} {β β' : Nm} : ∀ {cs : List SV} {vs : List Value}, flatSs cs = true → RepL M β cs vs → RepL M' β' cs vs
  | [], [], _, _ => trivial
  | _ :: _, _ :: _, h, ⟨a, r⟩ => by
    simp only [flatSs, Bool.and_eq_true] at h
    exact ⟨flatS.rep h.1 a, flatSs.rep h.2 r⟩
  | [], _ :: _, _, h => h.elim
  | _ :: _, [], _, h => h.elim
theorem flatT.rep {M M' : Mem} {β β' : Nm} {x : TV} {v : Value} (h : flatT x = true) (r : x.Rep M β v) : x.Rep M' β' v := by
  cases x with
  | s x => exact flatS.rep h r
  | g cs => obtain ⟨vs, e, hr⟩ := r; exact ⟨vs, e, flatSs.rep h hr⟩
theorem flatTs.rep {M M' : Mem} {β β' : Nm} : ∀ {cs : List TV} {vs : List Value}, flatTs cs = true → RepT M β cs vs → RepT M' β' cs vs
  | [], [], _, _ => trivial
  | _ :: _, _ :: _, h, ⟨a, r⟩ => by
    simp only [flatTs, Bool.and_eq_true] at h
    exact ⟨flatT.rep h.1 a, flatTs.rep h.2 r⟩
  | [], _ :: _, _, h => h.elim
  | _ :: _, [], _, h => h.elim
theorem flatA.rep {M M' : Mem} {β β' : Nm} {x : AV} {v : Value} (h : flatA x = true) (r : x.Rep M β v) : x.Rep M' β' v := by
  cases x with
  | s x => exact flatS.rep h r
  | g cs => obtain ⟨vs, e, hr⟩ := r; exact ⟨vs, e, flatSs.rep h hr⟩
  | t ts => obtain ⟨vs, e, hr⟩ := r; exact ⟨vs, e, flatTs.rep h hr⟩
  | _ => cases h

/-- THE CONTRACT: called with values that read ars 'args' in stable memory, the function returns a value that reads ars r; what was there stays. -/
def CallP (P : Program) (f : FuncId) (args : List AV) (r : AV) : Prop :=
  (∀ vs w, (callFunc f vs).run P w = .ok (.enter f vs) w) ∧
  ∀ (M : Mem) (w : World) (vs : List Value), Glob w → RepAs M nb args vs → MemOK M w →
    Calls P f vs.toArray w fun e w' => ∃ v M', e = .returned v ∧ r.Rep M' nb v ∧ Grow w.heap.size M M' ∧ MemOK M' w' ∧ Below w.heap.size w w'

theorem Inv.after {cx : Cx} {N : Nat} {M M' : Mem} {β : Nm} {σ : St} {a : Act} {w w' : World} (i : Inv cx N M β σ a w) (hb : Below w.heap.size w w') (hg : Grow w.heap.size M M') (hm : MemOK M' w') :
    Inv cx N M' β σ a w' ∧ Grow cx.B M M' ∧ Keep cx w w' := by
  have hi := i.heap.le
  have kp : Keep cx w w' := ⟨hb.os, hb.tape, hb.output, hb.size, fun k hk _ => hb.block k (by omega)⟩
  refine ⟨⟨i.defers, i.tmps, i.heap.keep kp, fun t => AV.Rep.mono hg.le (Nm.le_refl β) (i.env t), hm, i.keys, ?_, i.inj, ?_, i.low, i.ref⟩, ⟨hg.le, fun b o u e => (hg.new b o u e).imp id (fun h => Nat.le_trans hi h)⟩, kp⟩
  · intro x bc e
    have hr := i.box x bc e
    exact RepBox.mono hg.le (Nm.le_refl β) rfl (fun b c e' => hb.block b (i.box_lt e e')) hr
  · intro x bc b c e e' o
    cases h : M' b o with
    | none => rfl
    | some u =>
      rcases hg.new b o u h with h1 | h1
      · rw [i.apart x bc b c e e' o] at h1; cases h1
      · have := i.box_lt e e'; omega

section
variable {P : Program} {σ : St} {g : Option Bool} {K : AV → Prop} {o : Oper}

def fetch (g : Option Bool) (σ : St) : List Operand → (List AV → Prop) → Prop
  | [], K => K []
  | x :: r, K => fe g (ev σ x) fun va => fetch g σ r fun l => K (va :: l)
theorem fetch.spec : ∀ {l : List Operand} {K : List AV → Prop}, fetch g σ l K →
    ∃ ars, K ars ∧ (act g → ∀ cx N M β a w, Inv cx N M β σ a w → RepAs M β ars (l.map a.eval))
  | [], _, h => ⟨[], h, fun _ _ _ _ _ _ _ _ => trivial⟩
  | x :: r, K, h => by
    replace h := fe.ev h
    obtain ⟨va, h, hr⟩ := h
    obtain ⟨ns, hk, hs⟩ := fetch.spec h
    exact ⟨_, hk, fun ha cx N M β a w i => ⟨hr ha cx N M β a w i, hs ha cx N M β a w i⟩⟩

def capA : List CV → List AV
  | [] => []
  | .d x :: r => .s (.d x) :: capA r
  | .ptr x off :: r => .s (.ptr x off) :: capA r
theorem capA.rep {M : Mem} {β : Nm} : ∀ {cs : List CV} {vs : List Value}, RepC M β cs vs → RepAs M β (capA cs) vs
  | [], [], _ => trivial
  | .d _ :: _, _ :: _, ⟨h, r⟩ => ⟨h, capA.rep r⟩
  | .ptr _ _ :: _, _ :: _, ⟨h, r⟩ => ⟨h, capA.rep r⟩
  | [], _ :: _, h => h.elim
  | _ :: _, [], h => h.elim
def capD (c : Nat → DV) : Nat → Nat → List AV
  | 0, _ => []
  | k + 1, j => .s (.d (c j)) :: capD c k (j + 1)
theorem capD.rep {M : Mem} {β : Nm} {c : Nat → DV} : ∀ {vs : List Value} {j : Nat}, (∀ i u, vs[i]? = some u → (c (j + i)).Rep M u) → RepAs M β (capD c vs.length j) vs
  | [], _, _ => trivial
  | v :: r, j, h => ⟨h 0 v rfl, capD.rep (fun i u hu => by have := h (i + 1) u (by simpa using hu); rwa [show j + (i + 1) = j + 1 + i by omega] at this)⟩
theorem RepAs.append : ∀ {M β} {cs ds : List AV} {vs us : List Value}, RepAs M β cs vs → RepAs M β ds us → RepAs M β (cs ++ ds) (vs ++ us)
  | _, _, [], _, [], _, _, h => h
  | _, _, _ :: _, _, _ :: _, _, ⟨h, r⟩, k => ⟨h, RepAs.append r k⟩
  | _, _, [], _, _ :: _, _, h, _ => h.elim
  | _, _, _ :: _, _, [], _, h, _ => h.elim

def doCall (P : Program) (σ : St) (g : Option Bool) (f : FuncId) (args : List AV) (K : AV → Prop) : Prop :=
  ∃ r, imp g (CallP P f (convAs σ args) r) ∧ (bif !flatA r && refAs args then False else K r)

def callV (P : Program) (σ : St) (g : Option Bool) (vf : AV) (args : List AV) (K : AV → Prop) : Prop :=
  match vf with
  | .s (.clo f cs) => doCall P σ g f (args ++ capA cs) K
  | .s (.d (.clo f k c)) => doCall P σ g f (args ++ capD c k 0) K
  | _ => False

theorem call.key {fo : Operand} {args : Array Operand} {tys : Array TypeId} (ho : o.op = .call { callee := .value fo, args := args, argTypes := tys }) {ars : List AV}
    (has : act g → ∀ cx N M β a w, Inv cx N M β σ a w → RepAs M β ars (args.toList.map a.eval)) : ∀ {f : FuncId} {extra : List AV}, doCall P σ g f (ars ++ extra) K →
      (act g → ∀ cx N M β a w, Inv cx N M β σ a w → ∃ us : List Value, a.eval fo = .func (.func f) #[] us.toArray ∧ RepAs M β extra us) →
      ∃ r, K r ∧ (act g → ∀ cx N M β a w, Inv cx N M β σ a w → ∃ f vs, (execOp a.eval o).run P w = .ok (.enter f vs) w ∧
      Calls P f vs w fun e w' => ∃ v M', e = .returned v ∧ r.Rep M' β v ∧ Inv cx N M' β σ a w' ∧ Grow cx.B M M' ∧ Keep cx w w') := by
  intro f extra ⟨r, hc, hk⟩ hx
  cases hb : (!flatA r && refAs (ars ++ extra)) with
  | true => rw [hb] at hk; exact hk.elim
  | false =>
    rw [hb] at hk
    refine ⟨r, hk, fun ha cx N M β a w i => ?_⟩
    obtain ⟨us, eu, hus⟩ := hx ha cx N M β a w i
    have hargs := (has ha cx N M β a w i).append hus
    obtain ⟨henter, hcall⟩ := hc.get ha
    refine ⟨f, (args.toList.map a.eval ++ us).toArray, ?_, ?_⟩
    · have : (args.map a.eval ++ us.toArray) = (args.toList.map a.eval ++ us).toArray := by
        apply Array.ext'; simp
      simp [execOp, ho, resolve, eu, Deferred.ofValue, invoke, this, henter]
    · by_cases hr : refAs (ars ++ extra) = true
      · have hfl : flatA r = true := by
          rw [hr] at hb
          simpa using hb
        refine (hcall (full w) w _ i.heap.glob (convAs.rep i i.mem (fun _ _ _ _ _ _ _ _ h => h) hargs) (fun _ _ _ h => h)).mono ?_
        rintro e w' ⟨v, M', rfl, hrv, hg, hm, hbel⟩
        have := i.after hbel (Grow.refl _ M) (fun b o u h => by
          rw [hbel.cell (p := ⟨b, o, none⟩) (i.mem_lt h)]; exact i.mem b o u h)
        exact ⟨v, M, rfl, flatA.rep hfl hrv, this⟩
      · have hr : refAs (ars ++ extra) = false := by simpa using hr
        refine (hcall M w _ i.heap.glob (refAs.rep hr hargs) i.mem).mono ?_
        rintro e w' ⟨v, M', rfl, hrv, hg, hm, hbel⟩
        exact ⟨v, M', rfl, AV.Rep.mono (Mem.le_refl _) (fun _ _ h => by cases h) hrv, i.after hbel hg hm⟩
theorem call.spec {fo : Operand} {args : Array Operand} {tys : Array TypeId} (ho : o.op = .call { callee := .value fo, args := args, argTypes := tys })
    (h : fe g (ev σ fo) fun vf => fetch g σ args.toList fun ars => callV P σ g vf ars K) :
    ∃ r, K r ∧ (act g → ∀ cx N M β a w, Inv cx N M β σ a w → ∃ f vs, (execOp a.eval o).run P w = .ok (.enter f vs) w ∧
      Calls P f vs w fun e w' => ∃ v M', e = .returned v ∧ r.Rep M' β v ∧ Inv cx N M' β σ a w' ∧ Grow cx.B M M' ∧ Keep cx w w') := by
  replace h := fe.ev h
  obtain ⟨vf, h, hf⟩ := h
  replace h := fetch.spec h
  obtain ⟨ars, h, has⟩ := h
  have key := @call.key P σ g K o fo args tys ho ars has
  unfold callV at h
  split at h
  case h_3 => exact h.elim
  · rename_i f cs
    refine key h fun ha cx N M β a w i => ?_
    obtain ⟨vs, e, hv⟩ := hf ha cx N M β a w i
    exact ⟨vs, e, capA.rep hv⟩
  · rename_i f k c
    refine key h fun ha cx N M β a w i => ?_
    obtain ⟨vs, e, hl, hv⟩ := hf ha cx N M β a w i
    exact ⟨vs, e, by rw [← hl]; exact capD.rep (fun i u hu => by rw [Nat.zero_add]; exact hv i u hu)⟩

end
end Go.Ax

/- The operations that change the world, on abstract states. -/
namespace Go.Ax
open Go.RowKit

abbrev Boxes := List (Nat × Option Box)

/-- The operation yields r, and the boxes are then bx. -/
def Eff (P : Program) (o : Oper) (σ : St) (r : AV) (bx : Boxes) : Prop :=
  ∀ cx N M β a w, Inv cx N M β σ a w → ∃ v w' M' β',
    ((execOp a.eval o).run P w = .ok (.value v) w' ∨ ((execOp a.eval o).run P w = .ok .skip w' ∧ v = undef)) ∧
    r.Rep M' β' v ∧ Inv cx N M' β' ⟨σ.env, bx⟩ a w' ∧ Grow cx.B M M' ∧ Keep cx w w'

section
variable {P : Program} {σ : St} {K : AV → Boxes → Prop} {o : Oper}

def allocX (T : List (Nat × TyI)) (σ : St) (d t : Nat) (K : AV → Boxes → Prop) : Prop :=
  match getT T t with
  | some ti => match getB σ.box d with
    | none => K (.s (.ptr d 0)) ((d, some (bif tallocL.contains t then .fresh t ti.zero else .cells (zvs ti.zero))) :: σ.box)
    | some _ => False
  | none => False
theorem alloc.spec {T : List (Nat × TyI)} (hT : TabOK P T) {d t : Nat} (ho : o.op = .alloc t) (h : allocX T σ d t K) : ∃ r bx, K r bx ∧ Eff P o σ r bx := by
  unfold allocX at h
  split at h
  case h_2 => exact h.elim
  rename_i ti hti
  have hok := hT.get hti
  split at h
  case h_2 => exact h.elim
  rename_i hd
  refine ⟨_, _, h, fun cx N M β a w i => ?_⟩
  obtain ⟨z, hz, hzc⟩ := hok.run_zero w
  have hrun : (execOp a.eval o).run P w = .ok (.value (.pointer (some ⟨w.heap.size, 0, none⟩))) (w.alloc (.cells z.cells t)) := by
    simp [execOp, ho, Instr.alloc, hz, newVar, newRow]
  obtain ⟨β', h1, h2, h3, h4⟩ := i.new (w' := (w.alloc (.cells z.cells t))) (c := (0, 0)) hd (ob := .cells z.cells t) rfl rfl rfl rfl (bc := bif tallocL.contains t then .fresh t ti.zero else .cells (zvs ti.zero)) (by
    intro β' e _
    have : z.cells = ti.zero.toArray := by rw [← hzc]
    cases tallocL.contains t with
    | true => exact ⟨_, _, e, by rw [this]; exact heap_alloc_new w _⟩
    | false =>
      refine ⟨_, _, ti.zero, t, e, ?_, zvs.rep M β' _⟩
      rw [this]; exact heap_alloc_new w _)
  exact ⟨_, _, M, β', .inl hrun, ⟨_, _, h1, rfl⟩, h3, Grow.refl _ _, h4⟩

def boxX (σ : St) (d : Nat) (x : Operand) (K : AV → Boxes → Prop) : Prop :=
  fe none (ev σ x) fun va => match cellsA va with
    | some cs => bif allOne cs then match getB σ.box d with
      | none => K (.s (.ptr d 0)) ((d, some (.cells cs)) :: σ.box)
      | some _ => False
      else False
    | none => False
theorem actN : act none := fun _ h => by cases h
theorem box.spec {d t : Nat} {x : Operand} (ho : o.op = .box t x) (h : boxX σ d x K) : ∃ r bx, K r bx ∧ Eff P o σ r bx := by
  unfold boxX at h
  replace h := fe.ev h
  obtain ⟨va, h, hr⟩ := h
  split at h
  case h_2 => exact h.elim
  rename_i cs hcs
  cases hone : allOne cs with
  | false => rw [hone] at h; exact h.elim
  | true =>
    rw [hone] at h
    simp only [cond_true] at h
    split at h
    case h_2 => exact h.elim
    rename_i hd
    refine ⟨_, _, h, fun cx N M β a w i => ?_⟩
    obtain ⟨vs, hvs, hrep⟩ := cellsA.rep hcs hone (hr actN cx N M β a w i)
    have hrun : (execOp a.eval o).run P w = .ok (.value (.pointer (some ⟨w.heap.size, 0, none⟩))) (w.alloc (.cells (a.eval x).cells t)) := by
      simp [execOp, ho, Instr.box, newVar, newRow]
    obtain ⟨β', h1, h2, h3, h4⟩ := i.new (w' := (w.alloc (.cells (a.eval x).cells t))) (c := (0, 0)) hd (ob := .cells (a.eval x).cells t) rfl rfl rfl rfl (bc := .cells cs) (by
      intro β' e hle
      refine ⟨_, _, vs, t, e, ?_, RepL.mono (Mem.le_refl _) hle hrep⟩
      have : (a.eval x).cells = vs.toArray := by rw [← hvs]
      rw [this]; exact heap_alloc_new w _)
    exact ⟨_, _, M, β', .inl hrun, ⟨_, _, h1, rfl⟩, h3, Grow.refl _ _, h4⟩

def dOf : SV → DV
  | .d x => x
  | _ => .junk
def allD : List SV → Bool
  | [] => true
  | .d _ :: r => allD r
  | _ :: _ => false
theorem allD.dOf : ∀ {cs : List SV} {j : Nat} {c : SV}, allD cs = true → cs[j]? = some c → c = .d (dOf c)
  | [], _, _, _, h => by simp at h
  | .d x :: r, 0, c, _, h => by simp at h; subst h; rfl
  | .d x :: r, j + 1, c, ha, h => allD.dOf (cs := r) ha (by simpa using h)
  | .ptr _ _ :: _, _, _, h, _ => by cases h
  | .own _ :: _, _, _, h, _ => by cases h
  | .rw _ _ _ _ :: _, _, _, h, _ => by cases h
  | .osl _ _ _ _ :: _, _, _, h, _ => by cases h
  | .mp _ :: _, _, _, h, _ => by cases h
  | .clo _ _ :: _, _, _, h, _ => by cases h

/-- A store. -/
def rowSet (f : Nat → Nat → DV) (i o : Nat) (cs : List SV) : Nat → Nat → DV := fun i' j =>
  if i' = i then (bif Nat.ble o j && Nat.blt j (o + cs.length) then match cs[j - o]? with | some c => dOf c | none => .junk else f i' j) else f i' j
def storeX (T : List (Nat × TyI)) (σ : St) (t : Nat) (x y : Operand) (K : AV → Boxes → Prop) : Prop :=
  fe none (ev σ x) fun va => fe none (ev σ y) fun vv => match getT T t, cellsA vv with
    | some ti, some cs => bif allOne cs && Nat.beq cs.length ti.size then
        match va with
        | .s (.ptr b off) => match getB σ.box b with
          | some (some (.cells old)) => bif Nat.ble (off + ti.size) old.length then
              K (.s (.d .junk)) ((b, some (.cells (old.take off ++ (cs ++ old.drop (off + cs.length))))) :: σ.box) else False
          | _ => False
        | .s (.rw b i s off) => match getB σ.box b with
          | some (some (.row e n s' f)) => bif allD cs && Nat.beq s s' && Nat.ble (off + ti.size) s then
              i < n ∧ K (.s (.d .junk)) ((b, some (.row e n s' (rowSet f i off cs))) :: σ.box) else False
          | some (some (.mrow e n s' f)) => bif allD cs && Nat.beq s s' && Nat.ble (off + ti.size) s then
              i < n ∧ K (.s (.d .junk)) ((b, some (.mrow e n s' (rowSet f i off cs))) :: σ.box) else False
          | _ => False
        | _ => False
      else False
    | _, _ => False

theorem take_append_drop_toArray (w : World) (g : Nat) (cur : Array Value) (t : TypeId) (o : Nat) (vs : List Value) (hg : w.heap[g]? = some (.cells cur t (0, 0))) (hl : o + vs.length ≤ cur.size) (h1 : ∀ v ∈ vs, v.oneCell' = true) (P : Program) :
    (storeCells ⟨g, o, none⟩ vs).run P w = .ok () (w.setRow g (cur.toList.take o ++ (vs ++ cur.toList.drop (o + vs.length))).toArray) := by
  have := run_storeCells_at P g o t vs 0 cur w hg (by simpa using hl) h1
  simpa using this

theorem store.spec {T : List (Nat × TyI)} (hT : TabOK P T) {t : Nat} {x y : Operand} (ho : o.op = .store t x y) (h : storeX T σ t x y K) : ∃ r bx, K r bx ∧ Eff P o σ r bx := by
  unfold storeX at h
  replace h := fe.ev h
  obtain ⟨va, h, hr⟩ := h
  replace h := fe.ev h
  obtain ⟨vv, h, hrv⟩ := h
  split at h
  case h_2 => exact h.elim
  rename_i ti cs hti hcs
  have hok := hT.get hti
  cases hone : (allOne cs && Nat.beq cs.length ti.size) with
  | false => rw [hone] at h; exact h.elim
  | true =>
    rw [hone] at h
    simp only [Bool.and_eq_true] at hone
    have hlen := Nat.eq_of_beq_eq_true hone.2
    simp only [cond_true] at h
    split at h
    case h_3 => exact h.elim
    · rename_i b off
      split at h
      case h_2 => exact h.elim
      rename_i old hb
      cases hle : Nat.ble (off + ti.size) old.length with
      | false => rw [hle] at h; exact h.elim
      | true =>
        rw [hle] at h
        have hle := Nat.le_of_ble_eq_true hle
        refine ⟨_, _, h, fun cx N M β a w i => ?_⟩
        obtain ⟨k, c, e1, ea⟩ := hr actN cx N M β a w i
        obtain ⟨k', c', vs, ty, e2, hh, hrep⟩ := i.box b _ hb
        rw [e1] at e2; cases e2
        obtain ⟨us, hus, hru⟩ := cellsA.rep hcs hone.1 (hrv actN cx N M β a w i)
        have hlu := hru.length
        have hlv := hrep.length
        have hst := take_append_drop_toArray w k vs.toArray ty off us hh (by simp; omega) (hru.oneCell hone.1) P
        have hrun : (execOp a.eval o).run P w = .ok .skip (w.setRow k (vs.take off ++ (us ++ vs.drop (off + us.length))).toArray) := by
          have hsz : (a.eval y).cells.size = ti.size := by rw [← Array.length_toList, hus]; omega
          simp [execOp, ho, Instr.storeAt, Instr.sureAddr, ea, storeVar, hok.run_size, hsz, hus, hst]
        have hw := i.write (bc' := .cells (old.take off ++ (cs ++ old.drop (off + cs.length)))) hb e1 (w' := w.setRow k (vs.take off ++ (us ++ vs.drop (off + us.length))).toArray) (by simp) (fun j hj => setRow_other w k j _ hj) rfl rfl rfl
          ⟨k, c, _, ty, e1, setRow_heap w k vs.toArray _ ty _ hh, (hrep.take off).append (hru.append (by rw [← hlu]; exact hrep.drop _))⟩
        exact ⟨undef, _, M, β, .inr ⟨hrun, rfl⟩, trivial, hw.1, Grow.refl _ _, hw.2⟩
    · rename_i b ix s off
      split at h
      case h_3 => exact h.elim
      · rename_i e n s' f hb
        cases hc : (allD cs && Nat.beq s s' && Nat.ble (off + ti.size) s) with
        | false => rw [hc] at h; exact h.elim
        | true =>
          rw [hc] at h
          simp only [Bool.and_eq_true] at hc
          have hs := Nat.eq_of_beq_eq_true hc.1.2
          have hle := Nat.le_of_ble_eq_true hc.2
          subst hs
          obtain ⟨hix, h⟩ := h
          refine ⟨_, _, h, fun cx N M β a w i => ?_⟩
          obtain ⟨k, c, e1, ea⟩ := hr actN cx N M β a w i
          obtain ⟨k', c', cur, e2, hh, hl0, hsz, hn, hcm, hcell⟩ := i.box b _ hb
          rw [e1] at e2; cases e2
          obtain ⟨us, hus, hru⟩ := cellsA.rep hcs hone.1 (hrv actN cx N M β a w i)
          have hlu := hru.length
          have hbound : ix * s + s ≤ cur.size := by
            rw [hsz, ← Nat.succ_mul]
            exact Nat.mul_le_mul_right _ (by omega)
          have hst := take_append_drop_toArray w k cur e (ix * s + off) us hh (by omega) (hru.oneCell hone.1) P
          have hrun : (execOp a.eval o).run P w = .ok .skip (w.setRow k (cur.toList.take (ix * s + off) ++ (us ++ cur.toList.drop (ix * s + off + us.length))).toArray) := by
            have hsz : (a.eval y).cells.size = ti.size := by rw [← Array.length_toList, hus]; omega
            simp [execOp, ho, Instr.storeAt, Instr.sureAddr, ea, storeVar, hok.run_size, hsz, hus, hst]
          have hw := i.write (bc' := .row e n s (rowSet f ix off cs)) hb e1 (w' := w.setRow k (cur.toList.take (ix * s + off) ++ (us ++ cur.toList.drop (ix * s + off + us.length))).toArray) (by simp) (fun j hj => setRow_other w k j _ hj) rfl rfl rfl
            ⟨k, c, _, e1, setRow_heap w k cur _ e _ hh, hl0, by simp; omega, hn, hcm, fun i' j hi' hj => ?_⟩
          · exact ⟨undef, _, M, β, .inr ⟨hrun, rfl⟩, trivial, hw.1, Grow.refl _ _, hw.2⟩
          · have htl : (cur.toList.take (ix * s + off)).length = ix * s + off := by simp; omega
            simp only [List.getElem?_toArray]
            by_cases hin : i' = ix ∧ off ≤ j ∧ j < off + cs.length
            · obtain ⟨rfl, hj1, hj2⟩ := hin
              have hjl : j - off < cs.length := by omega
              have hd := allD.dOf hc.1.1 (List.getElem?_eq_getElem hjl)
              obtain ⟨u, hu, hrr⟩ := hru.get (List.getElem?_eq_getElem hjl)
              refine ⟨u, ?_, ?_⟩
              · rw [List.getElem?_append_right (by omega), htl, List.getElem?_append_left (by omega)]
                rw [show i' * s + j - (i' * s + off) = j - off by omega]
                exact hu
              · have b1 : Nat.ble off j = true := Nat.ble_eq_true_of_le hj1
                have b2 : Nat.blt j (off + cs.length) = true := Nat.ble_eq_true_of_le hj2
                simp only [rowSet, if_true, b1, b2, Bool.and_true, cond_true, List.getElem?_eq_getElem hjl]
                rw [hd] at hrr
                exact hrr
            · obtain ⟨u, hu, hrr⟩ := hcell i' j hi' hj
              have hne : i' * s + j < ix * s + off ∨ ix * s + off + us.length ≤ i' * s + j := by
                rcases Nat.lt_trichotomy i' ix with h | h | h
                · have : (i' + 1) * s ≤ ix * s := Nat.mul_le_mul_right _ h
                  rw [Nat.succ_mul] at this; omega
                · subst h; omega
                · have : (ix + 1) * s ≤ i' * s := Nat.mul_le_mul_right _ h
                  rw [Nat.succ_mul] at this; omega
              refine ⟨u, ?_, ?_⟩
              · rcases hne with h | h
                · rw [List.getElem?_append_left (by omega), List.getElem?_take_of_lt h]
                  simpa using hu
                · rw [List.getElem?_append_right (by omega), htl, List.getElem?_append_right (by omega), List.getElem?_drop]
                  rw [show ix * s + off + us.length + (i' * s + j - (ix * s + off) - us.length) = i' * s + j by omega]
                  simpa using hu
              · have : rowSet f ix off cs i' j = f i' j := by
                  unfold rowSet
                  split
                  · rename_i h
                    cases hbb : (Nat.ble off j && Nat.blt j (off + cs.length)) with
                    | false => rfl
                    | true =>
                      simp only [Bool.and_eq_true] at hbb
                      exact absurd ⟨h, Nat.le_of_ble_eq_true hbb.1, Nat.le_of_ble_eq_true hbb.2⟩ hin
                  · rfl
                rw [this]
                exact hrr
      · rename_i e n s' f hb
        cases hc : (allD cs && Nat.beq s s' && Nat.ble (off + ti.size) s) with
        | false => rw [hc] at h; exact h.elim
        | true =>
          rw [hc] at h
          simp only [Bool.and_eq_true] at hc
          have hs := Nat.eq_of_beq_eq_true hc.1.2
          have hle := Nat.le_of_ble_eq_true hc.2
          subst hs
          obtain ⟨hix, h⟩ := h
          refine ⟨_, _, h, fun cx N M β a w i => ?_⟩
          obtain ⟨k, c, e1, ea⟩ := hr actN cx N M β a w i
          obtain ⟨cur, hh, hl0, hsz, hn, hcm, hcell⟩ := i.box b _ hb k c e1
          obtain ⟨us, hus, hru⟩ := cellsA.rep hcs hone.1 (hrv actN cx N M β a w i)
          have hlu := hru.length
          have hbound : ix * s + s ≤ cur.size := by
            rw [hsz, ← Nat.succ_mul]
            exact Nat.mul_le_mul_right _ (by omega)
          have hst := take_append_drop_toArray w k cur e (ix * s + off) us hh (by omega) (hru.oneCell hone.1) P
          have hrun : (execOp a.eval o).run P w = .ok .skip (w.setRow k (cur.toList.take (ix * s + off) ++ (us ++ cur.toList.drop (ix * s + off + us.length))).toArray) := by
            have hsz : (a.eval y).cells.size = ti.size := by rw [← Array.length_toList, hus]; omega
            simp [execOp, ho, Instr.storeAt, Instr.sureAddr, ea, storeVar, hok.run_size, hsz, hus, hst]
          have hq : ∀ i' j, i' < n → j < s → ∃ u, (cur.toList.take (ix * s + off) ++ (us ++ cur.toList.drop (ix * s + off + us.length))).toArray[i' * s + j]? = some u ∧ (rowSet f ix off cs i' j).Rep M u := by
            intro i' j hi' hj
            have htl : (cur.toList.take (ix * s + off)).length = ix * s + off := by simp; omega
            simp only [List.getElem?_toArray]
            by_cases hin : i' = ix ∧ off ≤ j ∧ j < off + cs.length
            · obtain ⟨rfl, hj1, hj2⟩ := hin
              have hjl : j - off < cs.length := by omega
              have hd := allD.dOf hc.1.1 (List.getElem?_eq_getElem hjl)
              obtain ⟨u, hu, hrr⟩ := hru.get (List.getElem?_eq_getElem hjl)
              refine ⟨u, ?_, ?_⟩
              · rw [List.getElem?_append_right (by omega), htl, List.getElem?_append_left (by omega)]
                rw [show i' * s + j - (i' * s + off) = j - off by omega]
                exact hu
              · have b1 : Nat.ble off j = true := Nat.ble_eq_true_of_le hj1
                have b2 : Nat.blt j (off + cs.length) = true := Nat.ble_eq_true_of_le hj2
                simp only [rowSet, if_true, b1, b2, Bool.and_true, cond_true, List.getElem?_eq_getElem hjl]
                rw [hd] at hrr
                exact hrr
            · obtain ⟨u, hu, hrr⟩ := hcell i' j hi' hj
              have hne : i' * s + j < ix * s + off ∨ ix * s + off + us.length ≤ i' * s + j := by
                rcases Nat.lt_trichotomy i' ix with h | h | h
                · have : (i' + 1) * s ≤ ix * s := Nat.mul_le_mul_right _ h
                  rw [Nat.succ_mul] at this; omega
                · subst h; omega
                · have : (ix + 1) * s ≤ i' * s := Nat.mul_le_mul_right _ h
                  rw [Nat.succ_mul] at this; omega
              refine ⟨u, ?_, ?_⟩
              · rcases hne with h | h
                · rw [List.getElem?_append_left (by omega), List.getElem?_take_of_lt h]
                  simpa using hu
                · rw [List.getElem?_append_right (by omega), htl, List.getElem?_append_right (by omega), List.getElem?_drop]
                  rw [show ix * s + off + us.length + (i' * s + j - (ix * s + off) - us.length) = i' * s + j by omega]
                  simpa using hu
              · have : rowSet f ix off cs i' j = f i' j := by
                  unfold rowSet
                  split
                  · rename_i h
                    cases hbb : (Nat.ble off j && Nat.blt j (off + cs.length)) with
                    | false => rfl
                    | true =>
                      simp only [Bool.and_eq_true] at hbb
                      exact absurd ⟨h, Nat.le_of_ble_eq_true hbb.1, Nat.le_of_ble_eq_true hbb.2⟩ hin
                  · rfl
                rw [this]
                exact hrr
          have hw := i.write (bc' := .mrow e n s (rowSet f ix off cs)) hb e1 (w' := w.setRow k (cur.toList.take (ix * s + off) ++ (us ++ cur.toList.drop (ix * s + off + us.length))).toArray) (by simp) (fun j hj => setRow_other w k j _ hj) rfl rfl rfl
            (fun b1 c1 e3 => by
              rw [e1] at e3; cases e3
              exact ⟨_, setRow_heap w k cur _ e _ hh, hl0, by simp; omega, hn, hcm, fun i' j hi' hj => hq i' j hi' hj⟩)
          exact ⟨undef, _, M, β, .inr ⟨hrun, rfl⟩, trivial, hw.1, Grow.refl _ _, hw.2⟩


/-- A new row out of written parts. -/
def rowF (s : Nat) (cs : List SV) : Nat → Nat → DV := fun i j => match cs[i * s + j]? with
  | some c => dOf c
  | none => .junk
def repZ (z : List SV) : Nat → List SV
  | 0 => []
  | n + 1 => z ++ repZ z n
def bslX (T : List (Nat × TyI)) (σ : St) (d t len : Nat) (pa : List (Nat × Operand)) (K : AV → Boxes → Prop) : Prop :=
  parts none σ pa fun ps => match getT T t with
    | some ti => match ti.und with
      | .slice e => match getT T e with
        | some te => match fillA (fun i => some (i * te.size, te.size)) (repZ (zvs te.zero) len) ps with
          | some cs => bif allD cs && Nat.ble (len * te.size) 16777216 && Nat.blt 0 te.size && Nat.beq te.zero.length te.size then match getB σ.box d with
            | none => K (.s (.own d)) ((d, some (.row e len te.size (rowF te.size cs))) :: σ.box)
            | some _ => False
            else False
          | none => False
        | none => False
      | _ => False
    | none => False

theorem repZ.rep {M : Mem} {β : Nm} {z : List SV} {zv : List Value} (h : RepL M β z zv) : ∀ n, ∃ vs : List Value, RepL M β (repZ z n) vs ∧ vs.length = n * zv.length ∧ ∀ j, j < n * zv.length → vs[j]? = zv[j % zv.length]?
  | 0 => ⟨[], trivial, by simp, by simp⟩
  | n + 1 => by
    obtain ⟨vs, hr, hl, hj⟩ := repZ.rep h n
    refine ⟨zv ++ vs, h.append hr, by simp [hl, Nat.succ_mul, Nat.add_comm], fun j hjl => ?_⟩
    by_cases h1 : j < zv.length
    · rw [List.getElem?_append_left h1, Nat.mod_eq_of_lt h1]
    · rw [List.getElem?_append_right (by omega), hj _ (by rw [Nat.succ_mul] at hjl; omega)]
      congr 1
      rw [Nat.mod_eq_sub_mod (show j ≥ zv.length by omega)]

theorem bsl.spec {T : List (Nat × TyI)} (hT : TabOK P T) {d t len : Nat} {pa : Array (Nat × Operand)} (ho : o.op = .buildSlice t len pa) (h : bslX T σ d t len pa.toList K) : ∃ r bx, K r bx ∧ Eff P o σ r bx := by
  unfold bslX at h
  replace h := parts.spec h
  obtain ⟨ps, h, hs⟩ := h
  split at h
  case h_2 => exact h.elim
  rename_i ti hti
  have hok := hT.get hti
  split at h
  case h_2 => exact h.elim
  rename_i e hu
  have hund : P.underlying t = some (.slice e) := hok.isSlice hu
  split at h
  case h_2 => exact h.elim
  rename_i te hte
  have hoke := hT.get hte
  split at h
  case h_2 => exact h.elim
  rename_i cs hcs
  cases hc : (allD cs && Nat.ble (len * te.size) 16777216 && Nat.blt 0 te.size && Nat.beq te.zero.length te.size) with
  | false => rw [hc] at h; exact h.elim
  | true =>
    rw [hc] at h
    simp only [cond_true] at h
    simp only [Bool.and_eq_true] at hc
    have c2 := Nat.le_of_ble_eq_true hc.1.1.2
    have c3 : 0 < te.size := Nat.le_of_ble_eq_true hc.1.2
    have c4 := Nat.eq_of_beq_eq_true hc.2
    split at h
    case h_2 => exact h.elim
    rename_i hd
    refine ⟨_, _, h, fun cx N M β a w i => ?_⟩
    obtain ⟨z, hz, hzc⟩ := hoke.run_zero w
    obtain ⟨zs, hzr, hzl, hzj⟩ := repZ.rep (zvs.rep M β te.zero) len
    obtain ⟨vals, hfill, hrep⟩ := fillA.spec (pl' := fun i => some (i * te.size, te.size)) (fun _ _ h => h) hcs (hs actN cx N M β a w i) hzr
    have hzero : (Array.range (len * te.size)).map (z.cells[· % z.cells.size]!) = zs.toArray := by
      apply Array.ext'
      apply List.ext_getElem?
      intro j
      have hzs : z.cells.size = te.size := by rw [← Array.length_toList, hzc, c4]
      by_cases hj : j < len * te.size
      · have h1 := hzj j (by rw [c4]; exact hj)
        have h2 : j % te.size < z.cells.size := by rw [hzs]; exact Nat.mod_lt _ c3
        simp only [Array.toList_map, Array.toList_range, List.getElem?_map, List.getElem?_range hj, Option.map_some, h1]
        rw [c4, ← hzc, hzs, getElem!_pos z.cells _ h2]
        simp [h2]
      · rw [List.getElem?_eq_none (by simp; omega), List.getElem?_eq_none (by simp [hzl, c4]; omega)]
    have hsmall : ¬ len * te.size > 2 ^ 24 := by omega
    have hlenv := hrep.length
    have hlc : cs.length = len * te.size := by
      have : ∀ {ps : List (Nat × List SV)} {cells cs : List SV}, fillA (fun i => some (i * te.size, te.size)) cells ps = some cs → cs.length = cells.length := by
        intro ps
        induction ps with
        | nil => intro cells cs h; simp [fillA] at h; rw [h]
        | cons p r ih =>
          intro cells cs h
          obtain ⟨i, c⟩ := p
          simp only [fillA] at h
          cases hcc : (Nat.beq c.length te.size && Nat.ble (i * te.size + te.size) cells.length) with
          | false => rw [hcc] at h; cases h
          | true =>
            rw [hcc] at h
            simp only [Bool.and_eq_true] at hcc
            have k1 := Nat.eq_of_beq_eq_true hcc.1
            have k2 := Nat.le_of_ble_eq_true hcc.2
            rw [ih h]
            simp
            omega
      rw [this hcs]
      have := hzr.length
      rw [← this, hzl, c4]
    have hrunb : (Instr.buildSlice t len (pa.map fun (i, x) => (i, a.eval x))).run P w = .ok (.slice (some ⟨w.heap.size, 0, none⟩) len len) (w.alloc (.cells vals.toArray e)) := by
      by_cases h0 : len * te.size = 0
      · obtain rfl : len = 0 := by
          rcases Nat.eq_zero_or_pos len with h | h
          · exact h
          · exact absurd h0 (Nat.ne_of_gt (Nat.mul_pos h c3))
        have : zs = [] := List.eq_nil_of_length_eq_zero (by rw [hzl]; simp)
        subst this
        simp [Instr.buildSlice, run_underlying hund, hoke.run_size, newRow]
        have e0 : ∀ f : Nat → Value, Array.map f (Array.range 0) = #[] := fun f => by apply Array.ext'; simp [Array.toList_range]
        simp [e0, hfill]
      · obtain ⟨ie, hie, his, _, z', hz', _⟩ := hoke.info
        have hzz : z' = z := by
          simp [zeroValue, typeInfo, hie, hz'] at hz
          exact hz
        subst hzz
        have hsmall' : ¬ len * ie.size > 2 ^ 24 := by rw [his]; exact hsmall
        refine run_buildSlice w t e len _ vals.toArray ie z' hund hie hz' hsmall' (by rw [his]; exact h0) ?_
        rw [his, hzero, Array.toList_map]
        exact hfill
    have hrun : (execOp a.eval o).run P w = .ok (.value (.slice (some ⟨w.heap.size, 0, none⟩) len len)) (w.alloc (.cells vals.toArray e)) := by
      simp [execOp, ho, hrunb]
    obtain ⟨β', h1, h2, h3, h4⟩ := i.new (w' := w.alloc (.cells vals.toArray e)) (c := (len, len)) hd (ob := .cells vals.toArray e) rfl rfl rfl rfl (bc := .row e len te.size (rowF te.size cs)) (by
      intro β' hβd hle
      refine ⟨_, _, vals.toArray, hβd, heap_alloc_new w _, rfl, by simp; omega, Nat.le_refl _, ?_, fun k j hk hj => ?_⟩
      · have : len ≤ len * te.size := Nat.le_mul_of_pos_right _ c3
        unfold maxLen; omega
      · have hlt : k * te.size + j < cs.length := by
          rw [hlc]
          have : (k + 1) * te.size ≤ len * te.size := Nat.mul_le_mul_right _ hk
          rw [Nat.succ_mul] at this; omega
        obtain ⟨u, hu, hr⟩ := hrep.get (List.getElem?_eq_getElem hlt)
        refine ⟨u, by simpa using hu, ?_⟩
        simp only [rowF, List.getElem?_eq_getElem hlt]
        have := allD.dOf hc.1.1.1 (List.getElem?_eq_getElem hlt)
        rw [this] at hr
        exact hr)
    exact ⟨_, _, M, β', .inl hrun, ⟨_, _, h1, rfl, Nat.le_refl _⟩, h3, Grow.refl _ _, h4⟩

end
end Go.Ax

/- append, make, slices of data. -/
namespace Go.Ax
open Go.RowKit

section world
variable {w : World} {cx : Cx} {N : Nat} {M : Mem} {β : Nm} {σ : St} {a : Act}

theorem Inv.kill {x : Nat} {y : Option Box} (i : Inv cx N M β σ a w) (_hx : getB σ.box x = some y) : Inv cx N M β ⟨σ.env, (x, none) :: σ.box⟩ a w := by
  have hl : ∀ z bc, getB ((x, none) :: σ.box) z = some (some bc) → getB σ.box z = some (some bc) := fun z bc e => by
    rw [getB_cons] at e
    split at e
    · cases e
    · exact e
  refine ⟨i.defers, i.tmps, i.heap, i.env, i.mem, fun z p e => ?_, fun z bc e => i.box z bc (hl z bc e), fun z u bz bu b c c' ez eu => i.inj z u bz bu b c c' (hl _ _ ez) (hl _ _ eu), fun z bc b c e => i.apart z bc b c (hl _ _ e), fun z bc b c e => i.low z bc b c (hl _ _ e), i.ref⟩
  obtain ⟨q, hq⟩ := i.keys z p e
  by_cases hz : x = z
  · exact ⟨_, by rw [getB_cons, if_pos hz]⟩
  · exact ⟨q, by rw [getB_cons, if_neg hz]; exact hq⟩

/-- The box x is from now on the box d; its block may be written. -/
theorem Inv.move {x d : Nat} {bc bc' : Box} {b : Nat} {c c' : Nat × Nat} (i : Inv cx N M β σ a w) (hx : getB σ.box x = some (some bc)) (hβ : β x = some (b, c)) (hd : getB σ.box d = none) {w' : World}
    (hsz : w'.heap.size = w.heap.size) (hold : ∀ k, k ≠ b → w'.heap[k]? = w.heap[k]?) (ho : w'.os = w.os) (ht : w'.tape = w.tape) (hout : w'.output = w.output)
    (hb : ∀ β' : Nm, β' d = some (b, c') → Nm.le β β' → RepBox M β' w' d bc') :
    ∃ β', β' d = some (b, c') ∧ Nm.le β β' ∧ Inv cx N M β' ⟨σ.env, (d, some bc') :: (x, none) :: σ.box⟩ a w' ∧ Keep cx w w' := by
  have hnone : β d = none := by
    cases h : β d with
    | none => rfl
    | some p => obtain ⟨y, hy⟩ := i.keys d p h; rw [hd] at hy; cases hy
  have hxd : x ≠ d := fun h => by subst h; rw [hd] at hx; cases hx
  let β' : Nm := fun y => if y = d then some (b, c') else β y
  have hβd : β' d = some (b, c') := by simp [β']
  have hβle : Nm.le β β' := fun y p e => by
    by_cases hy : y = d
    · subst hy; rw [hnone] at e; cases e
    · simp [β', hy, e]
  have hβo : ∀ y, y ≠ d → β' y = β y := fun y hy => by simp [β', hy]
  have hap := i.apart x bc b c hx hβ
  have hmemb : ∀ k o u, M k o = some u → k ≠ b := fun k o u e h => by subst h; rw [hap o] at e; cases e
  have hlive : ∀ y bx, getB ((d, some bc') :: (x, none) :: σ.box) y = some (some bx) → (y = d ∧ bx = bc') ∨ (y ≠ d ∧ y ≠ x ∧ getB σ.box y = some (some bx)) := fun y bx e => by
    rw [getB_cons] at e
    split at e
    · rename_i h; subst h; simp at e; exact .inl ⟨rfl, e.symm⟩
    · rename_i h
      rw [getB_cons] at e
      split at e
      · cases e
      · rename_i h2; exact .inr ⟨fun k => h k.symm, fun k => h2 k.symm, e⟩
  have hother : ∀ y bx b' c1, y ≠ x → getB σ.box y = some (some bx) → β y = some (b', c1) → b' ≠ b := fun y bx b' c1 hy e e' h => by
    subst h; exact hy (i.inj y x bx bc b' c1 c e hx e' hβ)
  have kp : Keep cx w w' := ⟨ho, ht, hout, by omega, fun k hk hm => by
      refine hold k (fun h => ?_)
      subst h
      rcases i.low x bc k c hx hβ with h | h
      · omega
      · exact hm h⟩
  refine ⟨β', hβd, hβle, ⟨i.defers, i.tmps, i.heap.keep kp, fun t => AV.Rep.mono (Mem.le_refl M) hβle (i.env t), ?_, ?_, ?_, ?_, ?_, ?_, ?_⟩, kp⟩
  · intro k o u e
    rw [World.cell?_of_block (w := w) (w' := w') (a := ⟨k, o, none⟩) (hold k (hmemb k o u e))]
    exact i.mem k o u e
  · intro y p e
    by_cases hy : y = d
    · subst hy; exact ⟨_, by rw [getB_cons, if_pos rfl]⟩
    · rw [hβo y hy] at e
      obtain ⟨z, hz⟩ := i.keys y p e
      by_cases hyx : x = y
      · exact ⟨_, by rw [getB_cons, if_neg (fun h => hy h.symm), getB_cons, if_pos hyx]⟩
      · exact ⟨z, by rw [getB_cons, if_neg (fun h => hy h.symm), getB_cons, if_neg hyx]; exact hz⟩
  · intro y bx e
    rcases hlive y bx e with ⟨rfl, rfl⟩ | ⟨hy, hyx, e⟩
    · exact hb β' hβd hβle
    · have hr := i.box y bx e
      exact RepBox.mono (Mem.le_refl M) hβle (hβo y hy) (fun b' c1 e' => hold b' (hother y bx b' c1 hyx e e')) hr
  · intro y z bx bz k c1 c2 ey ez hy hz
    by_cases hyd : y = d
    · by_cases hzd : z = d
      · rw [hyd, hzd]
      · rcases hlive z bz ez with ⟨h, _⟩ | ⟨_, hzx, ez'⟩
        · exact absurd h hzd
        rw [hyd, hβd] at hy; cases hy
        rw [hβo z hzd] at hz
        exact absurd rfl (hother z bz _ _ hzx ez' hz)
    · rcases hlive y bx ey with ⟨h, _⟩ | ⟨_, hyx, ey'⟩
      · exact absurd h hyd
      rw [hβo y hyd] at hy
      by_cases hzd : z = d
      · rw [hzd, hβd] at hz; cases hz
        exact absurd rfl (hother y bx _ _ hyx ey' hy)
      · rcases hlive z bz ez with ⟨h, _⟩ | ⟨_, hzx, ez'⟩
        · exact absurd h hzd
        rw [hβo z hzd] at hz
        exact i.inj y z bx bz k c1 c2 ey' ez' hy hz
  · intro y bx k c1 ey hy o
    by_cases hyd : y = d
    · rw [hyd, hβd] at hy; cases hy; exact hap o
    · rcases hlive y bx ey with ⟨h, _⟩ | ⟨_, _, ey'⟩
      · exact absurd h hyd
      rw [hβo y hyd] at hy
      exact i.apart y bx k c1 ey' hy o
  · intro y bx k c1 ey hy
    by_cases hyd : y = d
    · rw [hyd, hβd] at hy; cases hy
      exact i.low x bc b c hx hβ
    · rcases hlive y bx ey with ⟨h, _⟩ | ⟨_, _, ey'⟩
      · exact absurd h hyd
      rw [hβo y hyd] at hy
      exact i.low y bx k c1 ey' hy
  · intro y hy
    obtain ⟨h1, p, h2⟩ := i.ref y hy
    by_cases hyd : y = d
    · subst hyd; rw [hnone] at h2; cases h2
    · rw [hβo y hyd]; exact ⟨h1, p, h2⟩
end world

/-- The data of a slice that is appended. -/
def srcX (σ : St) : AV → Option (Nat × Nat × (Nat → Nat → DV))
  | .s (.own y) => match getB σ.box y with
    | some (some (.row _ m s f)) => some (m, s, f)
    | _ => none
  | .s (.d (.slc m s f)) => some (m, s, f)
  | .s (.osl y s lo n) => match getB σ.box y with
    | some (some (.row _ _ s' f)) => bif Nat.beq s s' then some (n, s, fun i => f (lo + i)) else none
    | _ => none
  | _ => none

theorem srcX.rep {cx : Cx} {N : Nat} {M : Mem} {β : Nm} {σ : St} {a : Act} {w : World} (i : Inv cx N M β σ a w) {va : AV} {m s : Nat} {f : Nat → Nat → DV} {v : Value} (h : srcX σ va = some (m, s, f)) (r : va.Rep M β v) :
    ∃ ad cap, v = .slice ad m cap ∧ (m = 0 ∨ ∃ b o, ad = some ⟨b, o, none⟩ ∧ ∀ k j, k < m → j < s → ∃ u, w.cell? ⟨b, o + k * s + j, none⟩ = some u ∧ (f k j).Rep M u) := by
  unfold srcX at h
  split at h
  · split at h
    · rename_i hb
      cases h
      obtain ⟨b, c, e1, rfl, hc⟩ := r
      obtain ⟨b', c', cur, e2, hh, hl, hsz, hn, _, hcell⟩ := i.box _ _ hb
      rw [e1] at e2; cases e2
      refine ⟨some ⟨b, 0, none⟩, c.1, by rw [hl], .inr ⟨b, 0, rfl, fun k j hk hj => ?_⟩⟩
      obtain ⟨u, hu, hr⟩ := hcell k j hk hj
      exact ⟨u, by simp [World.cell?, hh, hu], hr⟩
    · cases h
  · cases h
    obtain ⟨ad, cap, rfl, _, hc⟩ := r
    refine ⟨ad, cap, rfl, hc.imp id ?_⟩
    rintro ⟨b, o, e, hc⟩
    exact ⟨b, o, e, fun k j hk hj => let ⟨u, hu, hr⟩ := hc k j hk hj; ⟨u, i.mem _ _ _ hu, hr⟩⟩
  · rename_i y s lo n
    split at h
    · rename_i s' f' hb
      cases hs : Nat.beq s s' with
      | false => rw [hs] at h; cases h
      | true =>
        rw [hs] at h
        have hs := Nat.eq_of_beq_eq_true hs
        subst hs
        cases h
        obtain ⟨b, c, o, e1, rfl, ho, h1, h2⟩ := r
        obtain ⟨b', c', cur, e2, hh, hl, hsz, hn, _, hcell⟩ := i.box _ _ hb
        rw [e1] at e2; cases e2
        refine ⟨_, _, rfl, ?_⟩
        by_cases h0 : m = 0
        · exact .inl h0
        · refine .inr ⟨b, o, rfl, fun k j hk hj => ?_⟩
          obtain ⟨u, hu, hr⟩ := hcell (lo + k) j (by omega) hj
          refine ⟨u, ?_, hr⟩
          rw [ho (by omega), ← Nat.add_mul]
          simp [World.cell?, hh, hu]
    · cases h
  · cases h

def DV.fit : DV → Bool
  | .val v => v.oneCell'
  | .junk => false
  | _ => true

def catF (n : Nat) (f g : Nat → Nat → DV) : Nat → Nat → DV := fun i j => if i < n then f i j else g (i - n) j

/-- Rows of data cells, listed. -/
theorem rowCells {M : Mem} {C : Nat → Nat → Value → Prop} {f : Nat → Nat → DV} (s : Nat) : ∀ (m : Nat), (∀ k j, k < m → j < s → ∃ u, C k j u ∧ (f k j).Rep M u) →
    ∃ vs : List Value, vs.length = m * s ∧ ∀ k j, k < m → j < s → ∃ u, vs[k * s + j]? = some u ∧ C k j u ∧ (f k j).Rep M u := by
  intro m
  induction m with
  | zero => intro _; exact ⟨[], by simp, fun k j hk => by omega⟩
  | succ m ih =>
    intro h
    obtain ⟨vs, hl, hc⟩ := ih (fun k j hk hj => h k j (by omega) hj)
    -- the last row
    have last : ∀ t, t ≤ s → ∃ us : List Value, us.length = t ∧ ∀ j, j < t → ∃ u, us[j]? = some u ∧ C m j u ∧ (f m j).Rep M u := by
      intro t
      induction t with
      | zero => intro _; exact ⟨[], rfl, fun j hj => by omega⟩
      | succ t iht =>
        intro ht
        obtain ⟨us, hul, huc⟩ := iht (by omega)
        obtain ⟨u, hu, hr⟩ := h m t (by omega) (by omega)
        refine ⟨us ++ [u], by simp [hul], fun j hj => ?_⟩
        by_cases hjt : j < t
        · obtain ⟨v, h1, h2⟩ := huc j hjt
          exact ⟨v, by rw [List.getElem?_append_left (by omega)]; exact h1, h2⟩
        · have : j = t := by omega
          subst this
          exact ⟨u, by rw [List.getElem?_append_right (by omega), hul]; simp, hu, hr⟩
    obtain ⟨us, hul, huc⟩ := last s (Nat.le_refl _)
    refine ⟨vs ++ us, by simp [hl, hul, Nat.succ_mul], fun k j hk hj => ?_⟩
    by_cases hkm : k < m
    · obtain ⟨u, h1, h2⟩ := hc k j hkm hj
      have hlt : k * s + j < m * s := by
        have : (k + 1) * s ≤ m * s := Nat.mul_le_mul_right _ hkm
        rw [Nat.succ_mul] at this; omega
      exact ⟨u, by rw [List.getElem?_append_left (by omega)]; exact h1, h2⟩
    · have : k = m := by omega
      subst this
      obtain ⟨u, h1, h2⟩ := huc j hj
      exact ⟨u, by rw [List.getElem?_append_right (by omega), hl]; rw [show k * s + j - k * s = j by omega]; exact h1, h2⟩


theorem newsOf {w : World} {M : Mem} {g : Nat → Nat → DV} {m s : Nat} {ad : Option Addr} (hs : 0 < s) (hm : 0 < m)
    (h : m = 0 ∨ ∃ b o, ad = some ⟨b, o, none⟩ ∧ ∀ k j, k < m → j < s → ∃ u, w.cell? ⟨b, o + k * s + j, none⟩ = some u ∧ (g k j).Rep M u) :
    ∃ (b : Addr) (news : List Value), ad = some b ∧ news.length = m * s ∧ (∀ j u, news[j]? = some u → w.cell? (b.add j) = some u) ∧ ∀ k j, k < m → j < s → ∃ u, news[k * s + j]? = some u ∧ (g k j).Rep M u := by
  rcases h with h | ⟨b, o, rfl, hc⟩
  · omega
  obtain ⟨news, hl, hn⟩ := rowCells (M := M) (C := fun k j u => w.cell? ⟨b, o + k * s + j, none⟩ = some u) (f := g) s m hc
  refine ⟨⟨b, o, none⟩, news, rfl, hl, fun j u hu => ?_, fun k j hk hj => let ⟨u, h1, _, h3⟩ := hn k j hk hj; ⟨u, h1, h3⟩⟩
  have hj : j < m * s := by
    have := (List.getElem?_eq_some_iff.1 hu).1
    omega
  have h1 : j / s < m := Nat.div_lt_of_lt_mul (by rw [Nat.mul_comm]; exact hj)
  have h2 : j % s < s := Nat.mod_lt _ hs
  obtain ⟨v, hv, hcell, _⟩ := hn (j / s) (j % s) h1 h2
  have e : j / s * s + j % s = j := by rw [Nat.mul_comm]; exact Nat.div_add_mod j s
  rw [e, hu] at hv
  cases hv
  rw [cell_add]
  rw [show o + j = o + j / s * s + j % s by omega]
  exact hcell

section
variable {P : Program} {σ : St} {K : AV → Boxes → Prop} {o : Oper}

def fitAll (m s : Nat) (g : Nat → Nat → DV) : Prop := ∀ k j, k < m → j < s → (g k j).fit = true

def appX (T : List (Nat × TyI)) (σ : St) (_ref : List Nat) (d t : Nat) (x y : Operand) (K : AV → Boxes → Prop) : Prop :=
  fe none (ev σ x) fun vx => fe none (ev σ y) fun vy => match getT T t with
    | some ti => match ti.und with
      | .slice e => match getT T e with
        | some te => match getB σ.box d with
          | none => match srcX σ vy with
            | some (m, s', g) => bif Nat.beq s' te.size && Nat.blt 0 te.size && Nat.blt 0 te.bytes && Nat.beq te.zero.length te.size then
              match vx with
              | .s (.own b) => match getB σ.box b with
                | some (some (.row e' n s f)) => bif Nat.beq e' e && Nat.beq s te.size then
                    (n + m) * te.bytes ≤ 140737488355328 ∧ fitAll m s' g ∧ K (.s (.own d)) ((d, some (.row e (n + m) te.size (catF n f g))) :: (b, none) :: σ.box)
                    else False
                | _ => False
              | .s (.mo z b) => match getB σ.box b with
                | some (some (.mrow e' n s f)) => bif Nat.beq e' e && Nat.beq s te.size then
                    0 < m ∧ ((bif z then 0 else n) + m) * te.bytes ≤ 140737488355328 ∧ fitAll m s' g ∧ K (.s (.own d)) ((d, some (.row e ((bif z then 0 else n) + m) te.size (catF (bif z then 0 else n) f g))) :: (b, none) :: σ.box)
                    else False
                | _ => False
              | .s (.d (.val (.slice none 0 0))) => 0 < m ∧ m * te.bytes ≤ 140737488355328 ∧ K (.s (.own d)) ((d, some (.row e m te.size g)) :: σ.box)
              | _ => False
              else False
            | none => False
          | some _ => False
        | none => False
      | _ => False
    | none => False

theorem TyOK.infoZ {P : Program} {t : Nat} {i : TyI} (h : TyOK P t i) : ∃ ti z, P.info? t = some ti ∧ ti.size = i.size ∧ ti.bytes = i.bytes ∧ ti.zero = some z ∧ z.cells.toList = i.zero := by
  obtain ⟨ti, h1, h2, h3, z, h4, h5⟩ := h.info
  exact ⟨ti, z, h1, h2, h3, h4, h5⟩

/-- Behind an append. -/
def PostApp (P : Program) (o : Oper) (σ : St) (cx : Cx) (N : Nat) (M : Mem) (a : Act) (w : World) (r : AV) (bx : Boxes) : Prop := ∃ v w' M' β',
    ((execOp a.eval o).run P w = .ok (.value v) w' ∨ ((execOp a.eval o).run P w = .ok .skip w' ∧ v = undef)) ∧
    r.Rep M' β' v ∧ Inv cx N M' β' ⟨σ.env, bx⟩ a w' ∧ Grow cx.B M M' ∧ Keep cx w w'

theorem app_row {d t e' : Nat} {x y : Operand} {te : TyI} {ie : TypeInfo} {z : Value} {n m b k : Nat} {f g : Nat → Nat → DV} {bc : Box} {cx : Cx} {N : Nat} {M : Mem} {β : Nm} {a : Act} {w : World} {c : Nat × Nat} {cur : Array Value} {ad : Option Addr} {cap : Nat}
    (hund : P.underlying t = some (.slice e')) (c2 : 0 < te.size) (c3 : 0 < te.bytes) (hie : P.info? e' = some ie) (his : ie.size = te.size) (hib : ie.bytes = te.bytes) (hiz : ie.zero = some z) (hzsz : z.cells.size = te.size)
    (run : ∀ (a : Act) (w w' : World) (r : Value), (Builtin.append_ #[t, t] o.type #[a.eval x, a.eval y]).run P w = .ok r w' → (execOp a.eval o).run P w = .ok (.value r) w')
    (hd : getB σ.box d = none) (hb : getB σ.box b = some (some bc)) (hbytes : (n + m) * te.bytes ≤ 140737488355328) (hfit : fitAll m te.size g) (i : Inv cx N M β σ a w) (e1 : β b = some (k, c)) (ex : a.eval x = .slice (some ⟨k, 0, none⟩) n c.1)
    (hh : w.heap[k]? = some (.cells cur e' (0, 0))) (hsz : cur.size = c.1 * te.size) (hn : n ≤ c.1) (hcm : c.1 ≤ maxLen) (hcell : ∀ i j, i < n → j < te.size → ∃ u, cur[i * te.size + j]? = some u ∧ (f i j).Rep M u)
    (ey : a.eval y = .slice ad m cap) (hy : m = 0 ∨ ∃ b o, ad = some ⟨b, o, none⟩ ∧ ∀ k j, k < m → j < te.size → ∃ u, w.cell? ⟨b, o + k * te.size + j, none⟩ = some u ∧ (g k j).Rep M u) :
    PostApp P o σ cx N M a w (.s (.own d)) ((d, some (.row e' (n + m) te.size (catF n f g))) :: (b, none) :: σ.box) := by
  have hnm : n + m ≤ 140737488355328 := Nat.le_trans (Nat.le_mul_of_pos_right _ c3) hbytes
  have hncur : n * te.size ≤ cur.size := by rw [hsz]; exact Nat.mul_le_mul_right _ hn
  by_cases hroom : n + m ≤ c.1
  · -- in place
    have hrunE : ∃ news : List Value, (Builtin.append_ #[t, t] o.type #[a.eval x, a.eval y]).run P w = .ok (.slice (some ⟨k, 0, none⟩) (n + m) c.1) (w.setRow k (cur.toList.take (n * te.size) ++ news ++ cur.toList.drop (n * te.size + news.length)).toArray) ∧
        news.length = m * te.size ∧ ∀ p j, p < m → j < te.size → ∃ u, news[p * te.size + j]? = some u ∧ (g p j).Rep M u := by
      by_cases hm : m = 0
      · subst hm
        refine ⟨[], ?_, by simp, fun p j hp => by omega⟩
        have hself : w.setRow k (cur.toList.take (n * te.size) ++ [] ++ cur.toList.drop (n * te.size + ([] : List Value).length)).toArray = w := by
          simp [setRow_self w k cur e' (0, 0) hh]
        rw [hself, ex, ey]
        have hf : (Builtin.firstCells te.size 0 (.slice ad 0 cap)).run P w = .ok #[] w := by
          cases ad <;> simp [Builtin.firstCells, loadCells, loadCellsFrom]
        simp [Builtin.append_, run_underlying hund, sizeOf, typeInfo, hie, his, Builtin.lenOf, hn, hf, storeCells]
      · obtain ⟨bad, news, rfl, hl, hcells, hreps⟩ := newsOf c2 (by omega) hy
        refine ⟨news, ?_, hl, hreps⟩
        have h1 : ∀ u ∈ news, u.oneCell' = true := by
          intro u hu
          obtain ⟨j, hj⟩ := List.getElem?_of_mem hu
          have hjl : j < m * te.size := by have := (List.getElem?_eq_some_iff.1 hj).1; omega
          have h1 : j / te.size < m := Nat.div_lt_of_lt_mul (by rw [Nat.mul_comm]; exact hjl)
          obtain ⟨v, hv, hr⟩ := hreps (j / te.size) (j % te.size) h1 (Nat.mod_lt _ c2)
          have e : j / te.size * te.size + j % te.size = j := by rw [Nat.mul_comm]; exact Nat.div_add_mod j te.size
          rw [e, hj] at hv; cases hv
          have hft := hfit (j / te.size) (j % te.size) h1 (Nat.mod_lt _ c2)
          exact DV.Rep.oneCell hr (by cases hx : g (j / te.size) (j % te.size) <;> rw [hx] at hft <;> first | exact hft | rfl | cases hft)
        rw [ex, ey]
        have := run_append_room (P := P) w t o.type e' ie hund hie k n c.1 cur hh bad m cap news (by rw [his]; exact hl) hcells h1 hroom (by rw [his, hl, hsz, ← Nat.add_mul]; exact Nat.mul_le_mul_right _ hroom)
        rw [his] at this
        exact this
    obtain ⟨news, hrunA, hnl, hnr⟩ := hrunE
    have htl : (cur.toList.take (n * te.size)).length = n * te.size := by simp; omega
    have htot : n * te.size + m * te.size ≤ cur.size := by rw [hsz, ← Nat.add_mul]; exact Nat.mul_le_mul_right _ hroom
    obtain ⟨β', hβd, hβle, hinv, hkeep⟩ := i.move (c' := (c.1, n + m)) (bc' := .row e' (n + m) te.size (catF n f g)) hb e1 hd
      (w' := w.setRow k (cur.toList.take (n * te.size) ++ news ++ cur.toList.drop (n * te.size + news.length)).toArray) (by simp) (fun j hj => setRow_other w k j _ hj) rfl rfl rfl (by
        intro β' hβd _
        refine ⟨k, _, _, hβd, setRow_heap w k cur _ e' _ hh, rfl, by simp; omega, hroom, hcm, fun p j hp hj => ?_⟩
        simp only [List.getElem?_toArray, catF]
        by_cases hpn : p < n
        · obtain ⟨u, hu, hr⟩ := hcell p j hpn hj
          have hlt : p * te.size + j < n * te.size := by
            have : (p + 1) * te.size ≤ n * te.size := Nat.mul_le_mul_right _ hpn
            rw [Nat.succ_mul] at this; omega
          refine ⟨u, ?_, by rw [if_pos hpn]; exact hr⟩
          rw [List.append_assoc, List.getElem?_append_left (by omega), List.getElem?_take_of_lt hlt]
          simpa using hu
        · obtain ⟨u, hu, hr⟩ := hnr (p - n) j (by omega) hj
          refine ⟨u, ?_, by rw [if_neg hpn]; exact hr⟩
          have hpe : p * te.size + j = n * te.size + ((p - n) * te.size + j) := by
            have : p = n + (p - n) := by omega
            rw [← Nat.add_assoc, ← Nat.add_mul, ← this]
          have hlt : (p - n) * te.size + j < m * te.size := by
            have : (p - n + 1) * te.size ≤ m * te.size := Nat.mul_le_mul_right _ (by omega)
            rw [Nat.succ_mul] at this; omega
          rw [hpe, List.append_assoc, List.getElem?_append_right (by omega), htl, Nat.add_sub_cancel_left, List.getElem?_append_left (by omega)]
          exact hu)
    exact ⟨_, _, M, β', .inl (run a w _ _ hrunA), ⟨_, _, hβd, rfl, hroom⟩, hinv, Grow.refl _ _, hkeep⟩
  · -- a new row
    obtain ⟨bad, news, rfl, hl, hcells, hreps⟩ := newsOf c2 (by omega) hy
    have hgr := run_append_grow (P := P) w t o.type e' ie z hund hie hiz ⟨k, 0, none⟩ n c.1 (cur.toList.take (n * te.size)) (by simp [his]; omega) (by
      intro j v hv
      rw [List.getElem?_take] at hv
      split at hv
      · rw [cell_add]; simp [World.cell?, hh]; simpa using hv
      · cases hv) bad m cap news (by rw [his]; exact hl) hcells (by omega) (by omega) (by
        rw [hib]; exact growslice_fits (by omega) hbytes)
    rw [← ex, ← ey] at hgr
    have hge := grownCap_ge w (n + m) c.1 e'
    have hcmx := grownCap_le_maxLen w (n + m) c.1 e' (by unfold maxLen; omega)
    have ik := i.kill hb
    have hd' : getB ((b, none) :: σ.box) d = none := by
      rw [getB_cons, if_neg (fun h => by subst h; rw [hd] at hb; cases hb)]
      exact hd
    obtain ⟨β', h1, h2, h3, h4⟩ := ik.new (σ := ⟨σ.env, (b, none) :: σ.box⟩) (c := (grownCap w (n + m) c.1 e', n + m)) (w' := w.drew.alloc (.cells ((cur.toList.take (n * te.size)).toArray ++ news.toArray ++ Builtin.zeroCells z.cells (grownCap w (n + m) c.1 e' - (n + m))) e')) hd' rfl rfl rfl rfl (bc := .row e' (n + m) te.size (catF n f g)) (by
      intro β' hβd _
      have htl : (cur.toList.take (n * te.size)).length = n * te.size := by simp; omega
      refine ⟨_, _, _, hβd, heap_alloc_new w.drew _, rfl, ?_, hge, hcmx, fun p j hp hj => ?_⟩
      · simp only [Array.size_append, List.size_toArray, size_zeroCells, hzsz, hl, htl, ← Nat.add_mul]
        congr 1; omega
      · have harr : ((cur.toList.take (n * te.size)).toArray ++ news.toArray ++ Builtin.zeroCells z.cells (grownCap w (n + m) c.1 e' - (n + m)))[p * te.size + j]? = (cur.toList.take (n * te.size) ++ (news ++ (Builtin.zeroCells z.cells (grownCap w (n + m) c.1 e' - (n + m))).toList))[p * te.size + j]? := by
          rw [← Array.getElem?_toList]
          simp
        rw [harr]
        simp only [catF]
        by_cases hpn : p < n
        · obtain ⟨u, hu, hr⟩ := hcell p j hpn hj
          have hlt : p * te.size + j < n * te.size := by
            have : (p + 1) * te.size ≤ n * te.size := Nat.mul_le_mul_right _ hpn
            rw [Nat.succ_mul] at this; omega
          refine ⟨u, ?_, by rw [if_pos hpn]; exact hr⟩
          rw [List.getElem?_append_left (by omega), List.getElem?_take_of_lt hlt]
          simpa using hu
        · obtain ⟨u, hu, hr⟩ := hreps (p - n) j (by omega) hj
          refine ⟨u, ?_, by rw [if_neg hpn]; exact hr⟩
          have hpe : p * te.size + j = n * te.size + ((p - n) * te.size + j) := by
            have : p = n + (p - n) := by omega
            rw [← Nat.add_assoc, ← Nat.add_mul, ← this]
          have hlt : (p - n) * te.size + j < m * te.size := by
            have : (p - n + 1) * te.size ≤ m * te.size := Nat.mul_le_mul_right _ (by omega)
            rw [Nat.succ_mul] at this; omega
          rw [hpe, List.getElem?_append_right (by omega), htl, Nat.add_sub_cancel_left, List.getElem?_append_left (by omega)]
          exact hu)
    exact ⟨_, _, M, β', .inl (run a w _ _ hgr), ⟨_, _, h1, rfl, hge⟩, h3, Grow.refl _ _, h4⟩

theorem app_nil {d t e : Nat} {x y : Operand} {te : TyI} {ie : TypeInfo} {z : Value} {m : Nat} {g : Nat → Nat → DV} {cx : Cx} {N : Nat} {M : Mem} {β : Nm} {a : Act} {w : World} {ad : Option Addr} {cap : Nat}
    (hund : P.underlying t = some (.slice e)) (c2 : 0 < te.size) (c3 : 0 < te.bytes) (hie : P.info? e = some ie) (his : ie.size = te.size) (hib : ie.bytes = te.bytes) (hiz : ie.zero = some z) (hzsz : z.cells.size = te.size)
    (run : ∀ (a : Act) (w w' : World) (r : Value), (Builtin.append_ #[t, t] o.type #[a.eval x, a.eval y]).run P w = .ok r w' → (execOp a.eval o).run P w = .ok (.value r) w')
    (hd : getB σ.box d = none) (hm : 0 < m) (hbytes : m * te.bytes ≤ 140737488355328) (i : Inv cx N M β σ a w) (ex : a.eval x = .slice none 0 0)
    (ey : a.eval y = .slice ad m cap) (hy : m = 0 ∨ ∃ b o, ad = some ⟨b, o, none⟩ ∧ ∀ k j, k < m → j < te.size → ∃ u, w.cell? ⟨b, o + k * te.size + j, none⟩ = some u ∧ (g k j).Rep M u) :
    PostApp P o σ cx N M a w (.s (.own d)) ((d, some (.row e m te.size g)) :: σ.box) := by
  obtain ⟨bad, news, rfl, hl, hcells, hreps⟩ := newsOf c2 hm hy
  have hmb : m ≤ 140737488355328 := Nat.le_trans (Nat.le_mul_of_pos_right _ c3) hbytes
  have hgr := run_append_nil (P := P) w t o.type e ie z hund hie hiz bad m cap news (by rw [his]; exact hl) hcells hm (by omega) (by rw [hib]; omega)
  rw [← ex, ← ey] at hgr
  have hge := grownCap_ge w m 0 e
  have hcmx := grownCap_le_maxLen w m 0 e (by unfold maxLen; omega)
  obtain ⟨β', h1, h2, h3, h4⟩ := i.new (c := (grownCap w m 0 e, m)) (w' := w.drew.alloc (.cells (news.toArray ++ Builtin.zeroCells z.cells (grownCap w m 0 e - m)) e)) hd rfl rfl rfl rfl (bc := .row e m te.size g) (by
    intro β' hβd _
    refine ⟨_, _, _, hβd, heap_alloc_new w.drew _, rfl, ?_, hge, hcmx, fun p j hp hj => ?_⟩
    · simp only [Array.size_append, List.size_toArray, size_zeroCells, hzsz, hl, ← Nat.add_mul]
      congr 1; omega
    · obtain ⟨u, hu, hr⟩ := hreps p j hp hj
      have hlt : p * te.size + j < m * te.size := by
        have : (p + 1) * te.size ≤ m * te.size := Nat.mul_le_mul_right _ hp
        rw [Nat.succ_mul] at this; omega
      refine ⟨u, ?_, hr⟩
      rw [← Array.getElem?_toList]
      simp only [Array.toList_append]
      rw [List.getElem?_append_left (by omega)]
      exact hu)
  exact ⟨_, _, M, β', .inl (run a w _ _ hgr), ⟨_, _, h1, rfl, hge⟩, h3, Grow.refl _ _, h4⟩

theorem app.spec {T : List (Nat × TyI)} (hT : TabOK P T) {ref : List Nat} {d t : Nat} {x y : Operand} (ho : o.op = .call { callee := .builtin .append, args := #[x, y], argTypes := #[t, t] })
    (h : appX T σ ref d t x y K) : ∃ r bx, K r bx ∧ ∀ cx N M β a w, cx.ref = ref → Inv cx N M β σ a w → ∃ v w' M' β',
    ((execOp a.eval o).run P w = .ok (.value v) w' ∨ ((execOp a.eval o).run P w = .ok .skip w' ∧ v = undef)) ∧
    r.Rep M' β' v ∧ Inv cx N M' β' ⟨σ.env, bx⟩ a w' ∧ Grow cx.B M M' ∧ Keep cx w w' := by
  unfold appX at h
  replace h := fe.ev h
  obtain ⟨vx, h, hrx⟩ := h
  replace h := fe.ev h
  obtain ⟨vy, h, hry⟩ := h
  split at h
  case h_2 => exact h.elim
  rename_i ti hti
  have hok := hT.get hti
  split at h
  case h_2 => exact h.elim
  rename_i e hu
  have hund : P.underlying t = some (.slice e) := hok.isSlice hu
  split at h
  case h_2 => exact h.elim
  rename_i te hte
  have hoke := hT.get hte
  split at h
  case h_2 => exact h.elim
  rename_i hd
  split at h
  case h_2 => exact h.elim
  rename_i m s' g hsrc
  cases hc : (Nat.beq s' te.size && Nat.blt 0 te.size && Nat.blt 0 te.bytes && Nat.beq te.zero.length te.size) with
  | false => rw [hc] at h; exact h.elim
  | true =>
    rw [hc] at h
    simp only [cond_true] at h
    simp only [Bool.and_eq_true] at hc
    have c1 := Nat.eq_of_beq_eq_true hc.1.1.1
    have c2 : 0 < te.size := Nat.le_of_ble_eq_true hc.1.1.2
    have c3 : 0 < te.bytes := Nat.le_of_ble_eq_true hc.1.2
    have c4 := Nat.eq_of_beq_eq_true hc.2
    subst c1
    obtain ⟨ie, z, hie, his, hib, hiz, hzc⟩ := hoke.infoZ
    have hzsz : z.cells.size = te.size := by rw [← Array.length_toList, hzc, c4]
    have run : ∀ (a : Act) (w w' : World) (r : Value), (Builtin.append_ #[t, t] o.type #[a.eval x, a.eval y]).run P w = .ok r w' → (execOp a.eval o).run P w = .ok (.value r) w' := by
      intro a w w' r h
      simp [execOp, ho, resolve, invoke, builtin, h]
    split at h
    case h_4 => exact h.elim
    · -- an own row
      rename_i b
      split at h
      case h_2 => exact h.elim
      rename_i e' n s f hb
      cases hcc : (Nat.beq e' e && Nat.beq s te.size) with
      | false => rw [hcc] at h; exact h.elim
      | true =>
        rw [hcc] at h
        simp only [Bool.and_eq_true] at hcc
        have k1 := Nat.eq_of_beq_eq_true hcc.1
        have k2 := Nat.eq_of_beq_eq_true hcc.2
        subst k1; subst k2
        obtain ⟨hbytes, hfit, h⟩ := h
        refine ⟨_, _, h, fun cx N M β a w _ i => ?_⟩
        obtain ⟨k, c, e1, ex, hcap⟩ := hrx actN cx N M β a w i
        obtain ⟨k', c', cur, e2, hh, hlen, hsz, hn, hcm, hcell⟩ := i.box b _ hb
        rw [e1] at e2; cases e2
        rw [hlen] at ex
        obtain ⟨ad, cap, ey, hy⟩ := srcX.rep i hsrc (hry actN cx N M β a w i)
        exact app_row hund c2 c3 hie his hib hiz hzsz run hd hb hbytes hfit i e1 ex hh hsz hn hcm hcell ey hy
    · -- perhaps nil
      rename_i zz b
      split at h
      case h_2 => exact h.elim
      rename_i e' n s f hb
      cases hcc : (Nat.beq e' e && Nat.beq s te.size) with
      | false => rw [hcc] at h; exact h.elim
      | true =>
        rw [hcc] at h
        simp only [Bool.and_eq_true] at hcc
        have k1 := Nat.eq_of_beq_eq_true hcc.1
        have k2 := Nat.eq_of_beq_eq_true hcc.2
        subst k1; subst k2
        obtain ⟨hm, hbytes, hfit, h⟩ := h
        refine ⟨_, _, h, fun cx N M β a w _ i => ?_⟩
        obtain ⟨ad, cap, ey, hy⟩ := srcX.rep i hsrc (hry actN cx N M β a w i)
        have hrx := hrx actN cx N M β a w i
        cases zz with
        | false =>
          obtain ⟨k, c, e1, ex, hcap⟩ := hrx.2 rfl
          obtain ⟨cur, hh, hlen, hsz, hn, hcm, hcell⟩ := i.box b _ hb k c e1
          rw [hlen] at ex
          exact app_row hund c2 c3 hie his hib hiz hzsz run hd hb hbytes hfit i e1 ex hh hsz hn hcm hcell ey hy
        | true =>
          have ik := i.kill hb
          have hd' : getB ((b, none) :: σ.box) d = none := by
            rw [getB_cons, if_neg (fun h => by subst h; rw [hd] at hb; cases hb)]
            exact hd
          simp only [cond_true, Nat.zero_add] at hbytes ⊢
          exact app_nil (σ := ⟨σ.env, (b, none) :: σ.box⟩) hund c2 c3 hie his hib hiz hzsz run hd' hm hbytes ik (hrx.1 rfl) ey hy
    · -- nil
      obtain ⟨hm, hbytes, h⟩ := h
      refine ⟨_, _, h, fun cx N M β a w _ i => ?_⟩
      have ex : a.eval x = .slice none 0 0 := hrx actN cx N M β a w i
      obtain ⟨ad, cap, ey, hy⟩ := srcX.rep i hsrc (hry actN cx N M β a w i)
      exact app_nil hund c2 c3 hie his hib hiz hzsz run hd hm hbytes i ex ey hy

end
end Go.Ax

/- Slices of slices and strings; make. -/
namespace Go.Ax
open Go.RowKit
section
variable {P : Program} {σ : St} {g : Option Bool} {K : AV → Prop} {o : Oper}

def optI (g : Option Bool) (σ : St) (x : Option Operand) (K : Option Int → Prop) : Prop :=
  match x with
  | none => K none
  | some x => fe g (ev σ x) fun va => match va with
    | .s (.d (.val (.int _ n))) => K (some n)
    | _ => False
theorem optI.spec {x : Option Operand} {K : Option Int → Prop} (h : optI g σ x K) :
    ∃ r, K r ∧ (act g → ∀ cx N M β a w, Inv cx N M β σ a w → (r = none ∧ x.map a.eval = none) ∨ ∃ k n, r = some n ∧ x.map a.eval = some (.int k n)) := by
  cases x with
  | none => exact ⟨none, h, fun _ _ _ _ _ _ _ _ => .inl ⟨rfl, rfl⟩⟩
  | some x =>
    simp only [optI] at h
    replace h := fe.ev h
    obtain ⟨va, h, hr⟩ := h
    split at h
    case h_2 => exact h.elim
    rename_i k n
    refine ⟨_, h, fun ha cx N M β a w i => .inr ⟨k, n, rfl, ?_⟩⟩
    have : a.eval x = .int k n := hr ha cx N M β a w i
    simp [this]

def sliceV (T : List (Nat × TyI)) (σ : St) (t : Nat) (g : Option Bool) (vx : AV) (lo hi : Option Operand) (K : AV → Prop) : Prop :=
  match getT T t with
  | some ti => match ti.und with
    | .slice e => match getT T e with
      | some te => match vx with
        | .s (.d (.slc n s f)) => bif Nat.beq s te.size then optI g σ lo fun l => optI g σ hi fun h =>
            imp g (0 ≤ l.getD 0 ∧ l.getD 0 ≤ h.getD n ∧ h.getD n ≤ n) ∧
            (match l with
            | none => K (.s (.d (.slc (h.getD n).toNat s f)))
            | some l => K (.s (.d (.slc (h.getD n - l).toNat s fun i => f (l.toNat + i)))))
            else False
        | .s (.own x) => match getB σ.box x with
          | some (some (.row _ n s _)) => bif Nat.beq s te.size then optI g σ lo fun l => optI g σ hi fun h =>
              imp g (0 ≤ l.getD 0 ∧ l.getD 0 ≤ h.getD n ∧ h.getD n ≤ n) ∧ K (.s (.osl x s (l.getD 0).toNat ((h.getD n).toNat - (l.getD 0).toNat))) else False
          | _ => False
        | .s (.osl x s lo0 n) => bif Nat.beq s te.size then optI g σ lo fun l => optI g σ hi fun h =>
              imp g (0 ≤ l.getD 0 ∧ l.getD 0 ≤ h.getD n ∧ h.getD n ≤ n) ∧ K (.s (.osl x s (lo0 + (l.getD 0).toNat) ((h.getD n).toNat - (l.getD 0).toNat))) else False
        | .s (.d (.val (.slice none 0 0))) => optI g σ lo fun l => optI g σ hi fun h =>
              imp g (l.getD 0 = 0 ∧ h.getD 0 = 0) ∧ K (.s (.d (.val (.slice none 0 0))))
        | _ => False
      | none => False
    | .string => match vx with
      | .s (.d (.val (.string s))) => optI g σ lo fun l => optI g σ hi fun h =>
            imp g (0 ≤ l.getD 0 ∧ l.getD 0 ≤ h.getD s.size ∧ h.getD s.size ≤ s.size) ∧
            K (.s (.d (.val (.string (s.extract (l.getD 0).toNat (h.getD s.size).toNat)))))
      | _ => False
    | _ => False
  | none => False

theorem sliceV.spec {T : List (Nat × TyI)} (hT : TabOK P T) {t : Nat} {x : Operand} {lo hi : Option Operand} (ho : o.op = .slice t x lo hi none)
    (h : fe g (ev σ x) fun va => sliceV T σ t g va lo hi K) : ∃ r, K r ∧ Pure1 P o σ g r := by
  replace h := fe.ev h
  obtain ⟨va, h, hr⟩ := h
  unfold sliceV at h
  split at h
  case h_2 => exact h.elim
  rename_i ti hti
  have hok := hT.get hti
  -- the bounds
  have bounds : ∀ (isS : Bool) (n cap : Nat) (l h : Option Int) (lv hv : Option Value) (w : World), n ≤ cap → 0 ≤ l.getD 0 → l.getD 0 ≤ h.getD n → h.getD n ≤ n →
      ((l = none ∧ lv = none) ∨ ∃ k q, l = some q ∧ lv = some (.int k q)) → ((h = none ∧ hv = none) ∨ ∃ k q, h = some q ∧ hv = some (.int k q)) →
      (Instr.sliceBounds isS n cap lv hv none).run P w = .ok ((l.getD 0).toNat, (h.getD n).toNat, cap) w := by
    intro isS n cap l h lv hv w hn h0 h1 h2 hl hh
    have hB : ∀ (code : Instr.sliceBound = Instr.sliceBound) (k : IntKind) (q : Int) (y : Nat) (c : BoundsCode), 0 ≤ q → q ≤ y → (Instr.sliceBound (.int k q) y c).run P w = .ok q.toNat w := by
      intro _ k q y c q0 q1
      simp [Instr.sliceBound, asIntOf, q0, q1]
    rcases hl with ⟨rfl, rfl⟩ | ⟨kl, ql, rfl, rfl⟩ <;> rcases hh with ⟨rfl, rfl⟩ | ⟨kh, qh, rfl, rfl⟩
    · simp [Instr.sliceBounds]
    · simp only [Option.getD_some, Option.getD_none] at h0 h1 h2 ⊢
      simp [Instr.sliceBounds, hB rfl kh qh cap _ h1 (by omega)]
    · simp only [Option.getD_some, Option.getD_none] at h0 h1 h2 ⊢
      simp [Instr.sliceBounds, hB rfl kl ql n _ h0 h1]
    · simp only [Option.getD_some] at h0 h1 h2 ⊢
      simp [Instr.sliceBounds, hB rfl kh qh cap _ (by omega) (by omega), hB rfl kl ql qh.toNat _ h0 (by omega)]
  split at h
  case h_3 => exact h.elim
  · rename_i e hu
    have hund : P.underlying t = some (.slice e) := hok.isSlice hu
    split at h
    case h_2 => exact h.elim
    rename_i te hte
    have hoke := hT.get hte
    split at h
    case h_5 => exact h.elim
    case h_4 =>
      replace h := optI.spec h
      obtain ⟨l, h, hl⟩ := h
      replace h := optI.spec h
      obtain ⟨hh, h, hhh⟩ := h
      obtain ⟨hb, h⟩ := h
      refine ⟨_, h, fun ha cx N M β a w i => ⟨.slice none 0 0, ?_, rfl⟩⟩
      obtain ⟨h0, h1⟩ := hb.get ha
      have ex : a.eval x = .slice none 0 0 := hr ha cx N M β a w i
      have hbd := bounds true 0 0 l hh (lo.map a.eval) (hi.map a.eval) w (Nat.le_refl _) (by omega) (by simp only [Int.natCast_zero] at *; omega) (by simp only [Int.natCast_zero] at *; omega) (hl ha cx N M β a w i) (hhh ha cx N M β a w i)
      rw [h0, show hh.getD ((0 : Nat) : Int) = 0 from h1] at hbd
      simp [execOp, ho, ex, Instr.sliceAt, Instr.slice, run_underlying hund, hbd, hoke.run_size]
    rotate_left
    · rename_i x'
      split at h
      case h_2 => exact h.elim
      rename_i e' n s f hbx
      cases hs : Nat.beq s te.size with
      | false => rw [hs] at h; exact h.elim
      | true =>
        rw [hs] at h
        have hs := Nat.eq_of_beq_eq_true hs
        simp only [cond_true] at h
        replace h := optI.spec h
        obtain ⟨l, h, hl⟩ := h
        replace h := optI.spec h
        obtain ⟨hh, h, hhh⟩ := h
        obtain ⟨hb, h⟩ := h
        refine ⟨_, h, fun ha cx N M β a w i => ?_⟩
        obtain ⟨h0, h1, h2⟩ := hb.get ha
        obtain ⟨b, c, e1, ex, hcc⟩ := hr ha cx N M β a w i
        obtain ⟨b2, c2, cur, e2, _, hlen, _⟩ := i.box x' _ hbx
        rw [e1] at e2; cases e2
        rw [hlen] at ex hcc
        have hbd := bounds true n c.1 l hh (lo.map a.eval) (hi.map a.eval) w hcc h0 h1 h2 (hl ha cx N M β a w i) (hhh ha cx N M β a w i)
        refine ⟨.slice (some ⟨b, (if c.1 = (l.getD 0).toNat then 0 else (l.getD 0).toNat * te.size), none⟩) ((hh.getD n).toNat - (l.getD 0).toNat) (c.1 - (l.getD 0).toNat), ?_, b, c, _, e1, rfl, fun hlt => ?_, by rw [hlen]; omega, by rw [hlen]; exact hcc⟩
        · have hrun : (execOp a.eval o).run P w = .ok (.value (.slice (if c.1 = (l.getD 0).toNat then some ⟨b, 0, none⟩ else (some (⟨b, 0, none⟩ : Addr)).map (·.add ((l.getD 0).toNat * te.size))) ((hh.getD n).toNat - (l.getD 0).toNat) (c.1 - (l.getD 0).toNat))) w := by
            simp [execOp, ho, ex, Instr.sliceAt, Instr.slice, run_underlying hund, hbd, hoke.run_size]
          rw [hrun]
          by_cases hq : c.1 = (l.getD 0).toNat
          · rw [if_pos hq, if_pos hq]
          · rw [if_neg hq, if_neg hq]; simp [cell_add]
        · rw [if_neg (by omega), hs]
    · rename_i x' s lo0 n
      cases hs : Nat.beq s te.size with
      | false => rw [hs] at h; exact h.elim
      | true =>
        rw [hs] at h
        have hs := Nat.eq_of_beq_eq_true hs
        simp only [cond_true] at h
        replace h := optI.spec h
        obtain ⟨l, h, hl⟩ := h
        replace h := optI.spec h
        obtain ⟨hh, h, hhh⟩ := h
        obtain ⟨hb, h⟩ := h
        refine ⟨_, h, fun ha cx N M β a w i => ?_⟩
        obtain ⟨h0, h1, h2⟩ := hb.get ha
        obtain ⟨b, c, o', e1, ex, hoo, hc1, hc2⟩ := hr ha cx N M β a w i
        have hbd := bounds true n (c.1 - lo0) l hh (lo.map a.eval) (hi.map a.eval) w (by omega) h0 h1 h2 (hl ha cx N M β a w i) (hhh ha cx N M β a w i)
        refine ⟨.slice (some ⟨b, (if c.1 - lo0 = (l.getD 0).toNat then o' else o' + (l.getD 0).toNat * te.size), none⟩) ((hh.getD n).toNat - (l.getD 0).toNat) (c.1 - lo0 - (l.getD 0).toNat), ?_, b, c, _, e1, by rw [Nat.sub_sub], fun hlt => ?_, by omega, hc2⟩
        · have hrun : (execOp a.eval o).run P w = .ok (.value (.slice (if c.1 - lo0 = (l.getD 0).toNat then some ⟨b, o', none⟩ else (some (⟨b, o', none⟩ : Addr)).map (·.add ((l.getD 0).toNat * te.size))) ((hh.getD n).toNat - (l.getD 0).toNat) (c.1 - lo0 - (l.getD 0).toNat))) w := by
            simp [execOp, ho, ex, Instr.sliceAt, Instr.slice, run_underlying hund, hbd, hoke.run_size]
          rw [hrun]
          by_cases hq : c.1 - lo0 = (l.getD 0).toNat
          · rw [if_pos hq, if_pos hq]
          · rw [if_neg hq, if_neg hq]; simp [cell_add]
        · rw [if_neg (by omega), hoo (by omega), hs, Nat.add_mul]
    rename_i n s f
    cases hs : Nat.beq s te.size with
    | false => rw [hs] at h; exact h.elim
    | true =>
      rw [hs] at h
      have hs := Nat.eq_of_beq_eq_true hs
      simp only [cond_true] at h
      replace h := optI.spec h
      obtain ⟨l, h, hl⟩ := h
      replace h := optI.spec h
      obtain ⟨hh, h, hhh⟩ := h
      obtain ⟨hb, h⟩ := h
      have run : ∀ (ha : act g) cx N M β a w, Inv cx N M β σ a w → ∃ ad cap, n ≤ cap ∧ (n = 0 ∨ ∃ b o, ad = some ⟨b, o, none⟩ ∧ ∀ i j, i < n → j < s → ∃ u, M b (o + i * s + j) = some u ∧ (f i j).Rep M u) ∧
          (execOp a.eval o).run P w = .ok (.value (.slice (if cap = (l.getD 0).toNat then ad else ad.map (·.add ((l.getD 0).toNat * te.size))) ((hh.getD n).toNat - (l.getD 0).toNat) (cap - (l.getD 0).toNat))) w := by
        intro ha cx N M β a w i
        obtain ⟨h0, h1, h2⟩ := hb.get ha
        obtain ⟨ad, cap, ex, hcap, hc⟩ := hr ha cx N M β a w i
        refine ⟨ad, cap, hcap, hc, ?_⟩
        have hbd := bounds true n cap l hh (lo.map a.eval) (hi.map a.eval) w hcap h0 h1 h2 (hl ha cx N M β a w i) (hhh ha cx N M β a w i)
        simp [execOp, ho, ex, Instr.sliceAt, Instr.slice, run_underlying hund, hbd, hoke.run_size]
      cases l with
      | none =>
        refine ⟨_, h, fun ha cx N M β a w i => ?_⟩
        obtain ⟨ad, cap, hcap, hc, hrun⟩ := run ha cx N M β a w i
        obtain ⟨h0, h1, h2⟩ := hb.get ha
        have e1 : (if cap = ((none : Option Int).getD 0).toNat then ad else ad.map (·.add (((none : Option Int).getD 0).toNat * te.size))) = ad := by
          cases ad with
          | none => simp
          | some q => simp [Addr.add]
        rw [e1] at hrun
        refine ⟨_, hrun, ad, cap, by simp, by omega, ?_⟩
        by_cases hz : (hh.getD n).toNat = 0
        · exact .inl hz
        · rcases hc with hc | ⟨b, o', rfl, hc⟩
          · omega
          · exact .inr ⟨b, o', rfl, fun i j hi hj => hc i j (by omega) hj⟩
      | some l =>
        refine ⟨_, h, fun ha cx N M β a w i => ?_⟩
        obtain ⟨ad, cap, hcap, hc, hrun⟩ := run ha cx N M β a w i
        obtain ⟨h0, h1, h2⟩ := hb.get ha
        simp only [Option.getD_some] at h0 h1 h2 hrun
        have hq : (hh.getD n).toNat - l.toNat = (hh.getD n - l).toNat := by omega
        rw [hq] at hrun
        refine ⟨_, hrun, (if cap = l.toNat then ad else ad.map (·.add (l.toNat * te.size))), cap - l.toNat, rfl, by omega, ?_⟩
        · by_cases hz : (hh.getD n - l).toNat = 0
          · exact .inl hz
          · rcases hc with hc | ⟨b, o', rfl, hc⟩
            · omega
            · refine .inr ⟨b, o' + l.toNat * te.size, ?_, fun i j hi hj => ?_⟩
              · rw [if_neg (by omega)]; simp [cell_add]
              · obtain ⟨u, hu, hru⟩ := hc (l.toNat + i) j (by omega) hj
                refine ⟨u, ?_, hru⟩
                rw [← hs, Nat.add_assoc o', ← Nat.add_mul]
                exact hu
  · rename_i hu
    have hund : P.underlying t = some .string := hok.isString hu
    split at h
    case h_2 => exact h.elim
    rename_i s
    replace h := optI.spec h
    obtain ⟨l, h, hl⟩ := h
    replace h := optI.spec h
    obtain ⟨hh, h, hhh⟩ := h
    obtain ⟨hb, h⟩ := h
    refine ⟨_, h, fun ha cx N M β a w i => ⟨_, ?_, rfl⟩⟩
    obtain ⟨h0, h1, h2⟩ := hb.get ha
    have ex : a.eval x = .string s := hr ha cx N M β a w i
    have hbd := bounds false s.size s.size l hh (lo.map a.eval) (hi.map a.eval) w (Nat.le_refl _) h0 h1 h2 (hl ha cx N M β a w i) (hhh ha cx N M β a w i)
    simp [execOp, ho, ex, Instr.sliceAt, Instr.slice, run_underlying hund, hbd]

end

section
variable {P : Program} {σ : St} {K : AV → Boxes → Prop} {o : Oper}

/-- make([]T, n). -/
def mkX (T : List (Nat × TyI)) (σ : St) (d t : Nat) (x y : Operand) (K : AV → Boxes → Prop) : Prop :=
  fe none (ev σ x) fun vx => fe none (ev σ y) fun vy => match vx, vy with
    | .s (.d (.val (.int .i64 n))), .s (.d (.val (.int .i64 c))) => match getT T t with
      | some ti => match ti.und with
        | .slice e => match getT T e with
          | some te => bif Nat.blt 0 te.size && Nat.blt 0 te.bytes && Nat.beq te.zero.length te.size then match getB σ.box d with
            | none => 0 ≤ n ∧ n ≤ c ∧ te.bytes * c ≤ 281474976710656 ∧
                K (.s (.own d)) ((d, some (.row e n.toNat te.size fun _ j => match (zvs te.zero)[j]? with | some c => dOf c | none => .junk)) :: σ.box)
            | some _ => False
            else False
          | none => False
        | _ => False
      | none => False
    | _, _ => False

theorem mk.spec {T : List (Nat × TyI)} (hT : TabOK P T) {d t : Nat} {x y : Operand} (ho : o.op = .makeSlice t x y) (h : mkX T σ d t x y K) : ∃ r bx, K r bx ∧ Eff P o σ r bx := by
  unfold mkX at h
  replace h := fe.ev h
  obtain ⟨vx, h, hrx⟩ := h
  replace h := fe.ev h
  obtain ⟨vy, h, hry⟩ := h
  split at h
  case h_2 => exact h.elim
  rename_i n c
  split at h
  case h_2 => exact h.elim
  rename_i ti hti
  have hok := hT.get hti
  split at h
  case h_2 => exact h.elim
  rename_i e hu
  have hund : P.underlying t = some (.slice e) := hok.isSlice hu
  split at h
  case h_2 => exact h.elim
  rename_i te hte
  have hoke := hT.get hte
  cases hc : (Nat.blt 0 te.size && Nat.blt 0 te.bytes && Nat.beq te.zero.length te.size) with
  | false => rw [hc] at h; exact h.elim
  | true =>
    rw [hc] at h
    simp only [cond_true] at h
    simp only [Bool.and_eq_true] at hc
    have c2 : 0 < te.size := Nat.le_of_ble_eq_true hc.1.1
    have c3 : 0 < te.bytes := Nat.le_of_ble_eq_true hc.1.2
    have c4 := Nat.eq_of_beq_eq_true hc.2
    split at h
    case h_2 => exact h.elim
    rename_i hd
    obtain ⟨h0, h1, h2, h⟩ := h
    refine ⟨_, _, h, fun cx N M β a w i => ?_⟩
    have ex : a.eval x = .int .i64 n := hrx actN cx N M β a w i
    have ey : a.eval y = .int .i64 c := hry actN cx N M β a w i
    obtain ⟨ie, z, hie, his, hib, hiz, hzc⟩ := hoke.infoZ
    have hzs : z.cells.size = te.size := by rw [← Array.length_toList, hzc, c4]
    have hcb : c ≤ (te.bytes : Int) * c := by
      have : (1 : Int) * c ≤ (te.bytes : Int) * c := Int.mul_le_mul_of_nonneg_right (by omega) (by omega)
      omega
    have hw1 : IntKind.i64.wrap n = n := IntWalk.i64_in n ⟨by omega, by omega⟩
    have hw2 : IntKind.i64.wrap c = c := IntWalk.i64_in c ⟨by omega, by omega⟩
    have hrunE : (Instr.makeSlice t (.int .i64 n) (.int .i64 c)).run P w = .ok (.slice (some ⟨w.heap.size, 0, none⟩) n.toNat c.toNat) (w.alloc (.cells ((Array.range (c.toNat * te.size)).map (z.cells[· % z.cells.size]!)) e)) := by
      have t1 : ¬ (c < 0) := by omega
      have t2 : ¬ (n < 0) := by omega
      have t3 : ¬ (n > c) := by omega
      by_cases hz : c.toNat * te.size = 0
      · have e0 : ∀ f : Nat → Value, Array.map f (Array.range 0) = #[] := fun f => by apply Array.ext'; simp [Array.toList_range]
        simp [Instr.makeSlice, run_underlying hund, asInt, asIntOf, typeInfo, hie, hib, hw1, hw2, t1, t2, t3, sizeOf, his, hz, e0, newRow]
        omega
      · simp [Instr.makeSlice, run_underlying hund, asInt, asIntOf, typeInfo, hie, hib, hw1, hw2, t1, t2, t3, sizeOf, his, hz, zeroValue, hiz, newRow]
        omega
    have hrun : (execOp a.eval o).run P w = .ok (.value (.slice (some ⟨w.heap.size, 0, none⟩) n.toNat c.toNat)) (w.alloc (.cells ((Array.range (c.toNat * te.size)).map (z.cells[· % z.cells.size]!)) e)) := by
      simp [execOp, ho, ex, ey, hrunE]
    obtain ⟨β', b1, b2, b3, b4⟩ := i.new (w' := w.alloc (.cells ((Array.range (c.toNat * te.size)).map (z.cells[· % z.cells.size]!)) e)) (c := (c.toNat, n.toNat)) hd (ob := .cells ((Array.range (c.toNat * te.size)).map (z.cells[· % z.cells.size]!)) e) rfl rfl rfl rfl
      (bc := .row e n.toNat te.size fun _ j => match (zvs te.zero)[j]? with | some c => dOf c | none => .junk) (by
      intro β' hβd _
      refine ⟨_, _, _, hβd, heap_alloc_new w _, rfl, by simp, by show n.toNat ≤ c.toNat; omega, by show c.toNat ≤ maxLen; unfold maxLen; omega, fun k j hk hj => ?_⟩
      have hlt : k * te.size + j < c.toNat * te.size := by
        have : (k + 1) * te.size ≤ c.toNat * te.size := Nat.mul_le_mul_right _ (by omega)
        rw [Nat.succ_mul] at this; omega
      have hmod : (k * te.size + j) % te.size = j := by rw [Nat.mul_comm, Nat.mul_add_mod, Nat.mod_eq_of_lt hj]
      have hjz : j < z.cells.size := by rw [hzs]; exact hj
      refine ⟨z.cells[j], ?_, ?_⟩
      · simp only [Array.getElem?_map, Array.getElem?_range, hlt, if_true, Option.map_some, hzs, hmod, getElem!_pos z.cells j hjz]
      · have hjl : j < te.zero.length := by rw [c4]; exact hj
        have hzj : z.cells[j] = te.zero[j] := by
          have : z.cells.toList[j]? = te.zero[j]? := by rw [hzc]
          simpa [hjz, hjl] using this
        have hlen : (zvs te.zero).length = te.zero.length := by
          have := (zvs.rep M β te.zero).length
          omega
        obtain ⟨u, hu, hr⟩ := (zvs.rep M β te.zero).get (List.getElem?_eq_getElem (by rw [hlen]; exact hjl : j < (zvs te.zero).length))
        rw [List.getElem?_eq_getElem hjl] at hu
        cases hu
        simp only [List.getElem?_eq_getElem (by rw [hlen]; exact hjl : j < (zvs te.zero).length)]
        rw [hzj]
        have had : ∀ l : List Value, allD (zvs l) = true := by
          intro l
          induction l with
          | nil => rfl
          | cons v r ih => cases v <;> exact ih
        have := allD.dOf (had te.zero) (List.getElem?_eq_getElem (by rw [hlen]; exact hjl : j < (zvs te.zero).length))
        rw [this] at hr
        exact hr)
    exact ⟨_, _, M, β', .inl hrun, ⟨_, _, b1, rfl, by show n.toNat ≤ c.toNat; omega⟩, b3, Grow.refl _ _, b4⟩

end
end Go.Ax

/- copy(dst, src). -/
namespace Go.Ax
open Go.RowKit

/-- The row that copy writes: its box, and where. -/
def dstX : AV → Option (Nat × Nat × Option Nat)
  | .s (.own y) => some (y, 0, none)
  | .s (.osl y 1 lo n) => some (y, lo, some n)
  | _ => none

def cpF (lo q : Nat) (f g : Nat → Nat → DV) : Nat → Nat → DV := fun i j => if lo ≤ i ∧ i < lo + q then g (i - lo) j else f i j

section
variable {P : Program} {σ : St} {K : AV → Boxes → Prop} {o : Oper}

def copyX (T : List (Nat × TyI)) (σ : St) (t : Nat) (x y : Operand) (K : AV → Boxes → Prop) : Prop :=
  fe none (ev σ x) fun vx => fe none (ev σ y) fun vy => match getT T t with
  | some ti => match ti.und with
    | .slice e => match getT T e with
      | some te => match srcX σ vy with
        | some (k, s', g) => match dstX vx with
          | some (b, lo, m) => match getB σ.box b with
            | some (some (.row e' n s f)) => bif Nat.beq te.size 1 && Nat.beq s 1 && Nat.beq s' 1 then
                fitAll k 1 g ∧ K (vint .i64 ((Nat.min k (m.getD n) : Nat) : Int)) ((b, some (.row e' n s (cpF lo (Nat.min k (m.getD n)) f g))) :: σ.box) else False
            | _ => False
          | none => False
        | none => False
      | none => False
    | _ => False
  | none => False

theorem copy.spec {T : List (Nat × TyI)} (hT : TabOK P T) {t t' : Nat} {x y : Operand} (ho : o.op = .call { callee := .builtin .copy, args := #[x, y], argTypes := #[t, t'] })
    (h : copyX T σ t x y K) : ∃ r bx, K r bx ∧ Eff P o σ r bx := by
  unfold copyX at h
  replace h := fe.ev h
  obtain ⟨vx, h, hrx⟩ := h
  replace h := fe.ev h
  obtain ⟨vy, h, hry⟩ := h
  split at h
  case h_2 => exact h.elim
  rename_i ti hti
  have hok := hT.get hti
  split at h
  case h_2 => exact h.elim
  rename_i e hu
  have hund : P.underlying t = some (.slice e) := hok.isSlice hu
  split at h
  case h_2 => exact h.elim
  rename_i te hte
  have hoke := hT.get hte
  split at h
  case h_2 => exact h.elim
  rename_i k s' g hsrc
  split at h
  case h_2 => exact h.elim
  rename_i b lo m hdst
  split at h
  case h_2 => exact h.elim
  rename_i e' n s f hb
  cases hc : (Nat.beq te.size 1 && Nat.beq s 1 && Nat.beq s' 1) with
  | false => rw [hc] at h; exact h.elim
  | true =>
    rw [hc] at h
    simp only [cond_true] at h
    simp only [Bool.and_eq_true] at hc
    have c1 := Nat.eq_of_beq_eq_true hc.1.1
    have c2 := Nat.eq_of_beq_eq_true hc.1.2
    have c3 := Nat.eq_of_beq_eq_true hc.2
    subst c2; subst c3
    obtain ⟨hfit, h⟩ := h
    refine ⟨_, _, h, fun cx N M β a w i => ?_⟩
    obtain ⟨ie, z, hie, his, hib, hiz, hzc⟩ := hoke.infoZ
    have hs1 : (P.info? e).map (·.size) = some 1 := by simp [hie, his, c1]
    obtain ⟨ad, cap, ey, hy⟩ := srcX.rep i hsrc (hry actN cx N M β a w i)
    obtain ⟨k0, c, cur, e1, hh, hlen, hsz, hn, hcm, hcell⟩ := i.box b _ hb
    -- where dst lies
    obtain ⟨o', dc, ex, hoo, hin⟩ : ∃ o' dc, a.eval x = .slice (some ⟨k0, o', none⟩) (m.getD n) dc ∧ (0 < m.getD n → o' = lo) ∧ lo + m.getD n ≤ n := by
      have hr := hrx actN cx N M β a w i
      unfold dstX at hdst
      split at hdst
      · cases hdst
        obtain ⟨b2, c2, e2, ex, _⟩ := hr
        rw [e1] at e2; cases e2
        exact ⟨0, c.1, by rw [ex, hlen]; rfl, fun _ => rfl, by simp⟩
      · cases hdst
        obtain ⟨b2, c2, o2, e2, ex, h1, h2, h3⟩ := hr
        rw [e1] at e2; cases e2
        rename_i n'
        refine ⟨o2, _, ex, fun hp => ?_, by rw [← hlen]; exact h2⟩
        have := h1 (by simp at hp; omega)
        omega
      · cases hdst
    have run : ∀ (w' : World) (r : Value), (Builtin.copy_ #[t, t'] o.type #[a.eval x, a.eval y]).run P w = .ok r w' → (execOp a.eval o).run P w = .ok (.value r) w' := by
      intro w' r h
      simp [execOp, ho, resolve, invoke, builtin, h]
    generalize hq : Nat.min k (m.getD n) = q
    have hqk : q ≤ k := hq ▸ Nat.min_le_left _ _
    have hqm : q ≤ m.getD n := hq ▸ Nat.min_le_right _ _
    by_cases h0 : q = 0
    · have hrun := run_copy_none (P := P) w t t' o.type e (some ⟨k0, o', none⟩) ad (m.getD n) dc k cap hund hs1 (by rw [← h0]; exact hq)
      rw [← ex, ← ey] at hrun
      have hw := i.write (bc' := .row e' n 1 (cpF lo q f g)) hb e1 (w' := w) rfl (fun _ _ => rfl) rfl rfl rfl
        ⟨k0, c, cur, e1, hh, hlen, hsz, hn, hcm, fun i' j hi' hj => by
          have : cpF lo q f g i' j = f i' j := by unfold cpF; rw [if_neg (by omega)]
          rw [this]; exact hcell i' j hi' hj⟩
      refine ⟨_, w, M, β, .inl (run _ _ hrun), ?_, hw.1, Grow.refl _ _, hw.2⟩
      rw [h0]; rfl
    · have hpos : 0 < q := by omega
      rcases hy with hy | ⟨sb, so, rfl, hy⟩
      · omega
      obtain ⟨bad, news, hbad, hl, hcells, hreps⟩ := newsOf (w := w) (M := M) (g := g) (m := q) (s := 1) (ad := some ⟨sb, so, none⟩) (by omega) hpos (.inr ⟨sb, so, rfl, fun k1 j hk hj => hy k1 j (by omega) hj⟩)
      cases hbad
      have h1 : ∀ u ∈ news, u.oneCell' = true := by
        intro u hu
        obtain ⟨j, hj⟩ := List.getElem?_of_mem hu
        have hjl : j < q := by have := (List.getElem?_eq_some_iff.1 hj).1; omega
        obtain ⟨v, hv, hr⟩ := hreps j 0 hjl (by omega)
        rw [show j * 1 + 0 = j by omega, hj] at hv; cases hv
        have hft := hfit j 0 (by omega) (by omega)
        exact DV.Rep.oneCell hr (by cases hx : g j 0 <;> rw [hx] at hft <;> first | exact hft | rfl | cases hft)
      have ho' := hoo (by omega)
      subst ho'
      have hrun := run_copy_row (P := P) w t t' o.type e k0 o' (m.getD n) dc ⟨sb, so, none⟩ k cap cur e' news hund hs1 hh (by rw [hl, Nat.mul_one]; exact hq.symm) hcells (by rw [hl, hsz]; omega) h1
      rw [← ex, ← ey] at hrun
      have hw := i.write (bc' := .row e' n 1 (cpF o' q f g)) hb e1 (w' := w.setRow k0 (cur.toList.take o' ++ news ++ cur.toList.drop (o' + news.length)).toArray) (by simp) (fun j hj => setRow_other w k0 j _ hj) rfl rfl rfl
        ⟨k0, c, _, e1, setRow_heap w k0 cur _ e' _ hh, hlen, by simp; omega, hn, hcm, fun i' j hi' hj => by
          have htl : (cur.toList.take o').length = o' := by simp; omega
          have hj0 : j = 0 := by omega
          subst hj0
          simp only [List.getElem?_toArray]
          by_cases hin' : o' ≤ i' ∧ i' < o' + q
          · obtain ⟨u, hu, hr⟩ := hreps (i' - o') 0 (by omega) (by omega)
            refine ⟨u, ?_, by unfold cpF; rw [if_pos hin']; exact hr⟩
            rw [List.append_assoc, List.getElem?_append_right (by omega), htl, List.getElem?_append_left (by omega)]
            rw [show i' * 1 + 0 - o' = (i' - o') * 1 + 0 by omega]
            exact hu
          · obtain ⟨u, hu, hr⟩ := hcell i' 0 hi' (by omega)
            refine ⟨u, ?_, by unfold cpF; rw [if_neg hin']; exact hr⟩
            by_cases hlt : i' < o'
            · rw [List.append_assoc, List.getElem?_append_left (by omega), List.getElem?_take_of_lt (by omega)]
              simpa using hu
            · rw [List.append_assoc, List.getElem?_append_right (by omega), htl, List.getElem?_append_right (by omega), List.getElem?_drop]
              rw [show o' + news.length + (i' * 1 + 0 - o' - news.length) = i' * 1 + 0 by omega]
              simpa using hu⟩
      refine ⟨_, _, M, β, .inl (run _ _ hrun), ?_, hw.1, Grow.refl _ _, hw.2⟩
      rw [hl, Nat.mul_one]; rfl
end
end Go.Ax

/- Maps with numbers for keys. -/
namespace Go.Ax
open Go.RowKit
open Go.ChangeMaps (setBlock)

def findM : List (Int × Int) → Int → Option Int
  | [], _ => none
  | (a, v) :: r, k => bif k == a then some v else findM r k
def hasM (l : List (Int × Int)) (k : Int) : Bool := (findM l k).isSome
def getM (l : List (Int × Int)) (k : Int) : Int := (findM l k).getD 0
def setM : List (Int × Int) → Int → Int → List (Int × Int)
  | [], k, v => [(k, v)]
  | (a, u) :: r, k, v => bif k == a then (a, v) :: r else (a, u) :: setM r k v
def vkOf (T : List (Nat × TyI)) (e : Nat) : Option VK := match getT T e with
  | some te => match te.und with
    | .int .i64 => some .int
    | .bool => some .bool
    | _ => none
  | none => none
def isK (T : List (Nat × TyI)) (k : Nat) : Bool := match getT T k with
  | some tk => match tk.und with
    | .int .i64 => true
    | _ => false
  | none => false
theorem isK.spec {P : Program} {T : List (Nat × TyI)} (hT : TabOK P T) {k : Nat} (h : isK T k = true) : P.underlying k = some (.int .i64) := by
  unfold isK at h
  split at h
  · rename_i tk hk
    split at h
    · rename_i hu; exact (hT.get hk).isInt hu
    · cases h
  · cases h
/-- The value that is stored, as a number. -/
def encM (vk : VK) : AV → Option Int
  | .s (.d (.val (.int .i64 n))) => match vk with | .int => some n | .bool => none
  | .s (.d (.val (.bool b))) => match vk with | .bool => some (bif b then 1 else 0) | .int => none
  | .s (.d (.lit b)) => match vk with | .bool => some (bif b then 1 else 0) | .int => none
  | _ => none
theorem encM.spec {vk : VK} {v : AV} {n : Int} {M : Mem} {β : Nm} {u : Value} (h : encM vk v = some n) (r : v.Rep M β u) : u = vk.val n := by
  have hb : ∀ b : Bool, Value.bool b = VK.val .bool (bif b then 1 else 0) := fun b => by cases b <;> rfl
  unfold encM at h
  split at h
  · cases vk with
    | int => cases h; exact r
    | bool => cases h
  · cases vk with
    | int => cases h
    | bool => cases h; exact (show u = _ from r).trans (hb _)
  · cases vk with
    | int => cases h
    | bool => cases h; exact (show u = _ from r).trans (hb _)
  · cases h

def findAt (vk : VK) : List (Int × Int) → Int → Nat → Option (Nat × Value)
  | [], _, _ => none
  | (a, v) :: r, k, i => bif k == a then some (i, vk.val v) else findAt vk r k (i + 1)
theorem findNow_ents (vk : VK) (k : Int) : ∀ (l : List (Int × Int)) (i : Nat), Instr.findNow (.int .i64) (.int .i64 k) (ents vk l i) i = some (findAt vk l k i)
  | [], _ => rfl
  | (a, v) :: r, i => by
    simp only [ents, Instr.findNow, Instr.sameNow, if_true, findAt]
    cases h : k == a with
    | true => rfl
    | false => simp only [cond_false]; exact findNow_ents vk k r (i + 1)
theorem run_findKey {P : Program} (w : World) {kt : TypeId} (hk : P.underlying kt = some (.int .i64)) (vk : VK) (k : Int) (l : List (Int × Int)) :
    (Instr.findKey kt (.int .i64 k) (ents vk l 0)).run P w = .ok (findAt vk l k 0) w := by
  simp [Instr.findKey, run_underlying hk, findNow_ents]
theorem run_checkKey {P : Program} (w : World) {kt : TypeId} (hk : P.underlying kt = some (.int .i64)) (b : Bool) (k : Int) (n : Nat) : (Instr.checkKey b (n + 1) kt (.int .i64 k)).run P w = .ok () w := by
  simp [Instr.checkKey, run_underlying hk]
theorem findAt_find (vk : VK) (k : Int) : ∀ (l : List (Int × Int)) (i : Nat), (findAt vk l k i).map (·.2) = (findM l k).map vk.val
  | [], _ => rfl
  | (a, v) :: r, i => by
    simp only [findAt, findM]
    cases h : k == a with
    | true => rfl
    | false => simp only [cond_false]; exact findAt_find vk k r (i + 1)
theorem ents_length (vk : VK) : ∀ (l : List (Int × Int)) (i : Nat), (ents vk l i).length = l.length
  | [], _ => rfl
  | (_, _) :: r, i => by simp [ents, ents_length vk r (i + 1)]
theorem ents_born (vk : VK) : ∀ (l : List (Int × Int)) (i : Nat), (ents vk l i).map (·.born) = List.range' i l.length
  | [], _ => rfl
  | (_, _) :: r, i => by simp [ents, ents_born vk r (i + 1), List.range'_succ]
theorem ents_get (vk : VK) : ∀ (l : List (Int × Int)) (i j : Nat) (e : MapEntry), (ents vk l i)[j]? = some e → j < l.length ∧ e = { key := .int .i64 (l.getD j (0, 0)).1, val := vk.val (l.getD j (0, 0)).2, born := i + j }
  | [], _, _, _, h => by simp [ents] at h
  | (a, v) :: r, i, 0, e, h => by
    simp [ents] at h
    exact ⟨by simp, by rw [← h]; rfl⟩
  | (a, v) :: r, i, j + 1, e, h => by
    have h : (ents vk r (i + 1))[j]? = some e := by simpa [ents] using h
    obtain ⟨h1, h2⟩ := ents_get vk r (i + 1) j e h
    refine ⟨by simp; omega, ?_⟩
    rw [h2]
    simp
    omega
/-- An update, on the entries. -/
theorem set_some (vk : VK) (k v : Int) : ∀ (l : List (Int × Int)) (i j : Nat) (u : Value), findAt vk l k i = some (i + j, u) → (∃ e, (ents vk l i)[j]? = some e ∧ e.key = .int .i64 k) ∧
      (ents vk l i).modify j (fun e => { e with key := .int .i64 k, val := vk.val v }) = ents vk (setM l k v) i ∧ (setM l k v).length = l.length
  | [], _, _, _, h => by cases h
  | (a, b) :: r, i, j, u, h => by
    simp only [findAt] at h
    cases hk : k == a with
    | true =>
      rw [hk] at h
      simp only [cond_true, Option.some.injEq, Prod.mk.injEq] at h
      obtain rfl : j = 0 := by omega
      have : k = a := by simpa using hk
      subst this
      simp [ents, setM]
    | false =>
      rw [hk] at h
      simp only [cond_false] at h
      have hj : ∃ q, j = q + 1 := by
        cases j with
        | zero =>
          exfalso
          have : ∀ (l : List (Int × Int)) (i p : Nat) (u : Value), findAt vk l k i = some (p, u) → i ≤ p := by
            intro l
            induction l with
            | nil => intro i p u h; cases h
            | cons x r ih =>
              intro i p u h
              obtain ⟨a, b⟩ := x
              simp only [findAt] at h
              cases hk : k == a with
              | true => rw [hk] at h; simp only [cond_true, Option.some.injEq, Prod.mk.injEq] at h; omega
              | false => rw [hk] at h; have := ih (i + 1) p u h; omega
          have := this r (i + 1) _ u h
          omega
        | succ q => exact ⟨q, rfl⟩
      obtain ⟨q, rfl⟩ := hj
      obtain ⟨⟨e, h1, h1'⟩, h2, h3⟩ := set_some vk k v r (i + 1) q u (by rw [show i + 1 + q = i + (q + 1) by omega]; exact h)
      refine ⟨⟨e, by simpa [ents] using h1, h1'⟩, ?_, by simp [setM, hk, h3]⟩
      simp [ents, setM, hk, h2]
theorem set_none (vk : VK) (k v : Int) : ∀ (l : List (Int × Int)) (i : Nat), findAt vk l k i = none → ents vk l i ++ [{ key := .int .i64 k, val := vk.val v, born := i + l.length }] = ents vk (setM l k v) i ∧ (setM l k v).length = l.length + 1
  | [], i, _ => by simp [ents, setM]
  | (a, b) :: r, i, h => by
    simp only [findAt] at h
    cases hk : k == a with
    | true => rw [hk] at h; cases h
    | false =>
      rw [hk] at h
      obtain ⟨h1, h2⟩ := set_none vk k v r (i + 1) h
      have e : i + (r.length + 1) = i + 1 + r.length := by omega
      simp [ents, setM, hk, h2, ← h1, e]
theorem findAt_ge (vk : VK) (k : Int) : ∀ (l : List (Int × Int)) (i p : Nat) (u : Value), findAt vk l k i = some (p, u) → i ≤ p
  | [], _, _, _, h => by cases h
  | (a, b) :: r, i, p, u, h => by
    simp only [findAt] at h
    cases hk : k == a with
    | true => rw [hk] at h; simp only [cond_true, Option.some.injEq, Prod.mk.injEq] at h; omega
    | false => rw [hk] at h; have := findAt_ge vk k r (i + 1) p u h; omega

section
variable {P : Program} {σ : St} {K : AV → Boxes → Prop} {o : Oper}
def mkMapX (T : List (Nat × TyI)) (σ : St) (d t : Nat) (K : AV → Boxes → Prop) : Prop :=
  match getT T t with
  | some ti => match ti.und with
    | .map k e => match vkOf T e with
      | some vk => bif isK T k then match getB σ.box d with
        | none => K (.s (.mp d)) ((d, some (.map vk [])) :: σ.box)
        | some _ => False
        else False
      | none => False
    | _ => False
  | none => False
theorem mkMap.spec {T : List (Nat × TyI)} {d t : Nat} (ho : o.op = .makeMap t none) (h : mkMapX T σ d t K) : ∃ r bx, K r bx ∧ Eff P o σ r bx := by
  unfold mkMapX at h
  split at h
  case h_2 => exact h.elim
  split at h
  case h_2 => exact h.elim
  split at h
  case h_2 => exact h.elim
  rename_i vk hvk
  cases hk : isK T _ with
  | false => rw [hk] at h; exact h.elim
  | true =>
    rw [hk] at h
    simp only [cond_true] at h
    split at h
    case h_2 => exact h.elim
    rename_i hd
    refine ⟨_, _, h, fun cx N M β a w i => ?_⟩
    have hrun : (execOp a.eval o).run P w = .ok (.value (.map (some w.heap.size))) (w.alloc (.map #[] 0)) := by
      simp [execOp, ho, run_makeMap]
    obtain ⟨β', h1, h2, h3, h4⟩ := i.new (w' := w.alloc (.map #[] 0)) (c := (0, 0)) hd (ob := .map #[] 0) rfl rfl rfl rfl (bc := .map vk []) (by
      intro β' e _
      exact ⟨_, _, e, heap_alloc_new w _⟩)
    exact ⟨_, _, M, β', .inl hrun, ⟨_, _, h1, rfl⟩, h3, Grow.refl _ _, h4⟩

theorem setBlock_run {w : World} {r : Nat} {es es' : Array MapEntry} {c c' : Nat} (hr : w.heap[r]? = some (.map es c)) : (setObj r (.map es' c')).run P w = .ok () (setBlock w r (.map es' c')) := by
  simp [setObj, Sem.run, hr, setBlock]
theorem setBlock_size (w : World) (r : Nat) (ob : Obj) : (setBlock w r ob).heap.size = w.heap.size := by simp [setBlock]
theorem setBlock_other (w : World) (r : Nat) (ob : Obj) {k : Nat} (h : k ≠ r) : (setBlock w r ob).heap[k]? = w.heap[k]? := by simp [setBlock, Array.getElem?_setIfInBounds_ne (Ne.symm h)]
theorem setBlock_at {w : World} {r : Nat} {ob ob' : Obj} (h : w.heap[r]? = some ob) : (setBlock w r ob').heap[r]? = some ob' := by
  have := block_lt h
  simp [setBlock, this]

def updX (T : List (Nat × TyI)) (σ : St) (t : Nat) (x y z : Operand) (K : AV → Boxes → Prop) : Prop :=
  fe none (ev σ x) fun vx => fe none (ev σ y) fun vy => fe none (ev σ z) fun vz => match vx, vy with
    | .s (.mp b), .s (.d (.val (.int .i64 k))) => match getB σ.box b with
      | some (some (.map vk l)) => match getT T t with
        | some ti => match ti.und with
          | .map kt _ => bif isK T kt then match encM vk vz with
            | some n => K (.s (.d .junk)) ((b, some (.map vk (setM l k n))) :: σ.box)
            | none => False
            else False
          | _ => False
        | none => False
      | _ => False
    | _, _ => False
theorem upd.spec {T : List (Nat × TyI)} (hT : TabOK P T) {t : Nat} {x y z : Operand} (ho : o.op = .mapUpdate t x y z) (h : updX T σ t x y z K) : ∃ r bx, K r bx ∧ Eff P o σ r bx := by
  unfold updX at h
  replace h := fe.ev h
  obtain ⟨vx, h, hrx⟩ := h
  replace h := fe.ev h
  obtain ⟨vy, h, hry⟩ := h
  replace h := fe.ev h
  obtain ⟨vz, h, hrz⟩ := h
  split at h
  case h_2 => exact h.elim
  rename_i b k
  split at h
  case h_2 => exact h.elim
  rename_i vk l hb
  split at h
  case h_2 => exact h.elim
  rename_i ti hti
  split at h
  case h_2 => exact h.elim
  rename_i kt et hu
  cases hk : isK T kt with
  | false => rw [hk] at h; exact h.elim
  | true =>
    rw [hk] at h
    simp only [cond_true] at h
    split at h
    case h_2 => exact h.elim
    rename_i n hn
    have hkt := isK.spec hT hk
    have hund := (hT.get hti).isMap hu
    refine ⟨_, _, h, fun cx N M β a w i => ?_⟩
    obtain ⟨bb, c, e1, ex⟩ := hrx actN cx N M β a w i
    obtain ⟨b', c', e2, hh⟩ := i.box b _ hb
    rw [e1] at e2; cases e2
    have ey : a.eval y = .int .i64 k := hry actN cx N M β a w i
    have ez : a.eval z = vk.val n := encM.spec hn (hrz actN cx N M β a w i)
    have hck : (Instr.checkKey false 10000 kt (.int .i64 k)).run P w = .ok () w := run_checkKey w hkt false k 9999
    have hfk := run_findKey (P := P) w hkt vk k l
    have hmap : (Instr.mapUpdate t (.map (some bb)) (.int .i64 k) (vk.val n)).run P w = .ok () (setBlock w bb (.map (ents vk (setM l k n) 0).toArray (setM l k n).length)) := by
      cases hf : findAt vk l k 0 with
      | none =>
        rw [hf] at hfk
        obtain ⟨q1, q2⟩ := set_none vk k n l 0 hf
        have e3 : ((ents vk l 0).toArray.push { key := .int .i64 k, val := vk.val n, born := l.length }) = (ents vk (setM l k n) 0).toArray := by
          rw [← q1]; simp
        simp [Instr.mapUpdate, run_underlying hund, MapKept.run_getObj_map hh, hck, hfk, e3, setBlock_run hh, q2]
      | some pr =>
        obtain ⟨p, u⟩ := pr
        rw [hf] at hfk
        obtain ⟨⟨e, q0, q0'⟩, q1, q2⟩ := set_some vk k n l 0 p u (by rw [Nat.zero_add]; exact hf)
        have hstay : (Instr.keyThatStays (.int .i64 k) (.int .i64 k)).run P w = .ok (.int .i64 k) w := by simp [Instr.keyThatStays, Instr.sameBits]
        have e3 : (ents vk l 0).modify p (fun e => { key := .int .i64 k, val := vk.val n, born := e.born }) = ents vk (setM l k n) 0 := q1
        have e4 : (((ents vk l 0).toArray[p]?).map (·.key)).getD (.int .i64 k) = .int .i64 k := by simp [q0, q0']
        simp only [List.getElem?_toArray] at e4
        simp [Instr.mapUpdate, run_underlying hund, MapKept.run_getObj_map hh, hck, hfk, e4, hstay, e3, setBlock_run hh, q2]
    have hrun : (execOp a.eval o).run P w = .ok .skip (setBlock w bb (.map (ents vk (setM l k n) 0).toArray (setM l k n).length)) := by
      simp [execOp, ho, ex, ey, ez, hmap]
    have hw := i.write (bc' := .map vk (setM l k n)) hb e1 (w' := setBlock w bb (.map (ents vk (setM l k n) 0).toArray (setM l k n).length)) (setBlock_size _ _ _) (fun j hj => setBlock_other _ _ _ hj) rfl rfl rfl
      ⟨bb, c, e1, setBlock_at hh⟩
    exact ⟨undef, _, M, β, .inr ⟨hrun, rfl⟩, trivial, hw.1, Grow.refl _ _, hw.2⟩

/-- for k, v := range m: the iterator. -/
def rangeX (T : List (Nat × TyI)) (σ : St) (d t : Nat) (x : Operand) (K : AV → Boxes → Prop) : Prop :=
  fe none (ev σ x) fun vx => match vx with
    | .s (.mp b) => match getB σ.box b with
      | some (some (.map _ l)) => match getT T t with
        | some ti => match ti.und with
          | .map _ _ => match getB σ.box d with
            | none => K (.s (.ptr d 0)) ((d, some (.iter b l.length [])) :: σ.box)
            | some _ => False
          | _ => False
        | none => False
      | _ => False
    | _ => False
theorem range.spec {T : List (Nat × TyI)} (hT : TabOK P T) {d t : Nat} {x : Operand} (ho : o.op = .range t x) (h : rangeX T σ d t x K) : ∃ r bx, K r bx ∧ Eff P o σ r bx := by
  unfold rangeX at h
  replace h := fe.ev h
  obtain ⟨vx, h, hrx⟩ := h
  split at h
  case h_2 => exact h.elim
  rename_i b
  split at h
  case h_2 => exact h.elim
  rename_i vk l hb
  split at h
  case h_2 => exact h.elim
  rename_i ti hti
  split at h
  case h_2 => exact h.elim
  rename_i kt et hu
  have hund := (hT.get hti).isMap hu
  split at h
  case h_2 => exact h.elim
  rename_i hd
  refine ⟨_, _, h, fun cx N M β a w i => ?_⟩
  obtain ⟨bb, c, e1, ex⟩ := hrx actN cx N M β a w i
  obtain ⟨b', c', e2, hh⟩ := i.box b _ hb
  rw [e1] at e2; cases e2
  have hrun : (execOp a.eval o).run P w = .ok (.value (.pointer (some ⟨w.heap.size, 0, none⟩))) (w.alloc (.mapIter (some bb) l.length #[] l.length)) := by
    simp [execOp, ho, ex, run_range_map w t kt et bb _ _ hund hh]
  obtain ⟨β', h1, h2, h3, h4⟩ := i.new (w' := w.alloc (.mapIter (some bb) l.length #[] l.length)) (c := (0, 0)) hd (ob := .mapIter (some bb) l.length #[] l.length) rfl rfl rfl rfl (bc := .iter b l.length []) (by
    intro β' e hle
    exact ⟨_, _, _, _, e, hle _ _ e1, heap_alloc_new w _⟩)
  exact ⟨_, _, M, β', .inl hrun, ⟨_, _, h1, rfl⟩, h3, Grow.refl _ _, h4⟩

/-- A step of the iterator: all entries have been seen, or one that has not comes. -/
def nextX (σ : St) (x : Operand) (K : AV → Boxes → Prop) : Prop :=
  fe none (ev σ x) fun vx => match vx with
    | .s (.ptr b 0) => match getB σ.box b with
      | some (some (.iter m n seen)) => match getB σ.box m with
        | some (some (.map vk l)) => l.length = n ∧ ((∀ i, i < n → i ∈ seen) → K (.t [.s (.d (.lit false))]) σ.box) ∧
            (∀ i, i < n → i ∉ seen → K (.t [.s (.d (.lit true)), .s (.d (.val (.int .i64 (l.getD i (0, 0)).1))), .s (.d (vk.dv (l.getD i (0, 0)).2))]) ((b, some (.iter m n (i :: seen))) :: σ.box))
        | _ => False
      | _ => False
    | _ => False
theorem VK.dv_rep (vk : VK) (n : Int) (M : Mem) : (vk.dv n).Rep M (vk.val n) := by cases vk <;> rfl
theorem drew_alike {w w1 : World} (h : w1 = w ∨ w1 = w.drew) : w1.heap = w.heap ∧ w1.os = w.os ∧ w1.tape = w.tape ∧ w1.output = w.output := by
  rcases h with rfl | rfl <;> exact ⟨rfl, rfl, rfl, rfl⟩
theorem next.spec {x : Operand} (ho : o.op = .next x false) (h : nextX σ x K) {cx : Cx} {N : Nat} {M : Mem} {β : Nm} {a : Act} {w : World} (i : Inv cx N M β σ a w) :
    ∃ r bx, K r bx ∧ ∃ v w', (execOp a.eval o).run P w = .ok (.value v) w' ∧ r.Rep M β v ∧ Inv cx N M β ⟨σ.env, bx⟩ a w' ∧ Keep cx w w' := by
  unfold nextX at h
  replace h := fe.ev h
  obtain ⟨vx, h, hrx⟩ := h
  split at h
  case h_2 => exact h.elim
  rename_i b
  split at h
  case h_2 => exact h.elim
  rename_i m n seen hb
  split at h
  case h_2 => exact h.elim
  rename_i vk l hm
  obtain ⟨hl, h1, h2⟩ := h
  subst hl
  obtain ⟨bb, c, e1, ex⟩ := hrx actN cx N M β a w i
  obtain ⟨b', c', bm, cm, e2, em, hh⟩ := i.box b _ hb
  rw [e1] at e2; cases e2
  obtain ⟨bm', cm', em', hhm⟩ := i.box m _ hm
  rw [em] at em'; cases em'
  have hold : ∀ x ∈ (ents vk l 0).toArray.toList, x.born < l.length := by
    intro x hx
    obtain ⟨j, hj⟩ := List.getElem?_of_mem hx
    obtain ⟨k1, k2⟩ := ents_get vk l 0 j x (by simpa using hj)
    rw [k2]; simpa using k1
  have hmem : ∀ e, e ∈ (leftOf (ents vk l 0).toArray seen.reverse.toArray).toList ↔ ∃ j, j < l.length ∧ j ∉ seen ∧ e = { key := .int .i64 (l.getD j (0, 0)).1, val := vk.val (l.getD j (0, 0)).2, born := j } := by
    intro e
    unfold leftOf
    simp only [Array.toList_filter, List.mem_filter]
    constructor
    · rintro ⟨hx, hs⟩
      obtain ⟨j, hj⟩ := List.getElem?_of_mem hx
      obtain ⟨k1, k2⟩ := ents_get vk l 0 j e (by simpa using hj)
      rw [Nat.zero_add] at k2
      refine ⟨j, k1, ?_, k2⟩
      rw [k2] at hs
      simpa using hs
    · rintro ⟨j, hj, hs, rfl⟩
      refine ⟨?_, by simpa using hs⟩
      have hlt : j < (ents vk l 0).length := by rw [ents_length]; exact hj
      have hg := List.getElem?_eq_getElem hlt
      obtain ⟨_, k2⟩ := ents_get vk l 0 j _ hg
      rw [Nat.zero_add] at k2
      rw [← k2]
      exact List.getElem_mem hlt
  rcases run_next_at (P := P) w o.type bb bm l.length l.length seen.reverse.toArray (ents vk l 0).toArray l.length hh hhm hold (Nat.le_refl _) with ⟨hz, hrun⟩ | ⟨e, he, w1, hw1, hrun⟩
  · refine ⟨_, _, h1 (fun j hj => ?_), _, w, by simp [execOp, ho, ex, hrun], ⟨[.bool false], rfl, rfl, trivial⟩, i, Keep.refl _ _⟩
    refine Classical.byContradiction fun hs => ?_
    have := (hmem _).2 ⟨j, hj, hs, rfl⟩
    have hnil : (leftOf (ents vk l 0).toArray seen.reverse.toArray).toList = [] := List.eq_nil_of_length_eq_zero (by rw [Array.length_toList]; exact hz)
    rw [hnil] at this
    cases this
  · obtain ⟨j, hj, hs, rfl⟩ := (hmem e).1 he
    obtain ⟨q1, q2, q3, q4⟩ := drew_alike hw1
    have hh1 : w1.heap[bb]? = some (.mapIter (some bm) l.length seen.reverse.toArray l.length) := by rw [q1]; exact hh
    have hseen : seen.reverse.toArray.push j = (j :: seen).reverse.toArray := by simp
    have hrun' : (execOp a.eval o).run P w = .ok (.value (.tuple #[.bool true, .int .i64 (l.getD j (0, 0)).1, vk.val (l.getD j (0, 0)).2])) (setBlock w1 bb (.mapIter (some bm) l.length (j :: seen).reverse.toArray l.length)) := by
      rw [← hseen]; simp [execOp, ho, ex, hrun]
    have hw := i.write (bc' := .iter m l.length (j :: seen)) hb e1 (w' := setBlock w1 bb (.mapIter (some bm) l.length (j :: seen).reverse.toArray l.length)) (by rw [setBlock_size, q1]) (fun k hk => by rw [setBlock_other _ _ _ hk, q1]) q2 q3 q4
      ⟨bb, c, bm, cm, e1, em, setBlock_at hh1⟩
    exact ⟨_, _, h2 j hj hs, _, _, hrun', ⟨_, rfl, rfl, rfl, VK.dv_rep _ _ _, trivial⟩, hw.1, hw.2⟩
end

section
variable {P : Program} {σ : St} {g : Option Bool} {K : AV → Prop} {o : Oper}
/-- The entry that came last. -/
def entryV (σ : St) (va : AV) (K : AV → Prop) : Prop := match va with
  | .s (.ptr b 0) => match getB σ.box b with
    | some (some (.iter m n (i :: _))) => match getB σ.box m with
      | some (some (.map vk l)) => l.length = n ∧ i < l.length ∧ K (.t [.s (.d (.val (.int .i64 (l.getD i (0, 0)).1))), .s (.d (vk.dv (l.getD i (0, 0)).2))])
      | _ => False
    | _ => False
  | _ => False
/-- m[k] -/
def lookV (T : List (Nat × TyI)) (σ : St) (t : Nat) (ok : Bool) (g : Option Bool) (vx vy : AV) (K : AV → Prop) : Prop := match vx, vy with
  | .s (.mp b), .s (.d (.val (.int .i64 k))) => match getB σ.box b with
    | some (some (.map vk l)) => match getT T t with
      | some ti => match ti.und with
        | .map kt et => bif isK T kt && (getT T et).isSome then match ok with
          | true => K (.t [.s (.d .junk), .s (.d (.val (.bool (hasM l k))))])
          | false => imp g (hasM l k = true) ∧ K (.s (.d (vk.dv (getM l k))))
          else False
        | _ => False
      | none => False
    | _ => False
  | _, _ => False
theorem look.spec {T : List (Nat × TyI)} (hT : TabOK P T) {t : Nat} {x y : Operand} {ok : Bool} (ho : o.op = .lookup t x y ok) (h : fe g (ev σ x) fun va => fe g (ev σ y) fun vb => lookV T σ t ok g va vb K) :
    ∃ r, K r ∧ Pure1 P o σ g r := by
  replace h := fe.ev h
  obtain ⟨vx, h, hrx⟩ := h
  replace h := fe.ev h
  obtain ⟨vy, h, hry⟩ := h
  unfold lookV at h
  split at h
  case h_2 => exact h.elim
  rename_i b k
  split at h
  case h_2 => exact h.elim
  rename_i vk l hb
  split at h
  case h_2 => exact h.elim
  rename_i ti hti
  split at h
  case h_2 => exact h.elim
  rename_i kt et hu
  cases hk : (isK T kt && (getT T et).isSome) with
  | false => rw [hk] at h; exact h.elim
  | true =>
    rw [hk] at h
    simp only [cond_true] at h
    simp only [Bool.and_eq_true] at hk
    have hkt := isK.spec hT hk.1
    have hund := (hT.get hti).isMap hu
    obtain ⟨te, hte⟩ := Option.isSome_iff_exists.1 hk.2
    have hoke := hT.get hte
    have key : ∀ (ha : act g) cx N M β a w, Inv cx N M β σ a w → ∃ (v : Value) (z : Value), (execOp a.eval o).run P w = .ok (.value v) w ∧ v = (if ok = true then .tuple #[((findM l k).map vk.val).getD z, .bool (hasM l k)] else ((findM l k).map vk.val).getD z) := by
      intro ha cx N M β a w i
      obtain ⟨bb, c, e1, ex⟩ := hrx ha cx N M β a w i
      obtain ⟨b', c', e2, hh⟩ := i.box b _ hb
      rw [e1] at e2; cases e2
      have ey : a.eval y = .int .i64 k := hry ha cx N M β a w i
      obtain ⟨z, hz, _⟩ := hoke.run_zero w
      have hck : (Instr.checkKey (ents vk l 0).toArray.isEmpty 10000 kt (.int .i64 k)).run P w = .ok () w := run_checkKey w hkt _ k 9999
      have hfk := run_findKey (P := P) w hkt vk k l
      have hf := findAt_find vk k l 0
      cases hfa : findAt vk l k 0 with
      | none =>
        rw [hfa] at hfk hf
        have hf : (findM l k).map vk.val = none := hf.symm
        have hn : findM l k = none := by simpa using hf
        refine ⟨_, z, ?_, rfl⟩
        simp only [List.isEmpty_toArray] at hck
        simp only [execOp, ho, ex, ey]
        simp [Instr.lookup, run_underlying hund, MapKept.run_getObj_map hh, hck, hfk, hz, hn, hasM]
      | some pr =>
        obtain ⟨p, u⟩ := pr
        rw [hfa] at hfk hf
        have hf : (findM l k).map vk.val = some u := hf.symm
        obtain ⟨n, hn, hu'⟩ := Option.map_eq_some_iff.1 hf
        refine ⟨_, z, ?_, rfl⟩
        simp only [List.isEmpty_toArray] at hck
        simp only [execOp, ho, ex, ey]
        simp [Instr.lookup, run_underlying hund, MapKept.run_getObj_map hh, hck, hfk, hn, hu', hasM]
    cases ok with
    | true =>
      refine ⟨_, h, fun ha cx N M β a w i => ?_⟩
      obtain ⟨v, z, hrun, hv⟩ := key ha cx N M β a w i
      exact ⟨v, hrun, _, hv, trivial, rfl, trivial⟩
    | false =>
      refine ⟨_, h.2, fun ha cx N M β a w i => ?_⟩
      obtain ⟨v, z, hrun, hv⟩ := key ha cx N M β a w i
      refine ⟨v, hrun, ?_⟩
      have hh := h.1.get ha
      obtain ⟨n, hn⟩ := Option.isSome_iff_exists.1 hh
      rw [hv]
      simp only [hn, getM, Option.getD_some, Option.map_some]
      exact VK.dv_rep vk n M
theorem entry.spec {x : Operand} (ho : o.op = .entry x) (h : fe g (ev σ x) fun va => entryV σ va K) : ∃ r, K r ∧ Pure1 P o σ g r := by
  replace h := fe.ev h
  obtain ⟨vx, h, hrx⟩ := h
  unfold entryV at h
  split at h
  case h_2 => exact h.elim
  rename_i b
  split at h
  case h_2 => exact h.elim
  rename_i m n j seen hb
  split at h
  case h_2 => exact h.elim
  rename_i vk l hm
  obtain ⟨hl, hj, h⟩ := h
  subst hl
  refine ⟨_, h, fun ha cx N M β a w i => ?_⟩
  obtain ⟨bb, c, e1, ex⟩ := hrx ha cx N M β a w i
  obtain ⟨b', c', bm, cm, e2, em, hh⟩ := i.box b _ hb
  rw [e1] at e2; cases e2
  obtain ⟨bm', cm', em', hhm⟩ := i.box m _ hm
  rw [em] at em'; cases em'
  have hlt : j < (ents vk l 0).length := by rw [ents_length]; exact hj
  have hg := List.getElem?_eq_getElem hlt
  obtain ⟨_, k2⟩ := ents_get vk l 0 j _ hg
  rw [Nat.zero_add] at k2
  have hmem := List.getElem_mem hlt
  generalize (ents vk l 0)[j] = e at *
  subst k2
  have hseen : (j :: seen).reverse.toArray = seen.reverse.toArray.push j := by simp
  rw [hseen] at hh
  have hrun := run_entry_at (P := P) w bb bm l.length seen.reverse.toArray (ents vk l 0).toArray l.length { key := .int .i64 (l.getD j (0, 0)).1, val := vk.val (l.getD j (0, 0)).2, born := j } hh hhm (by simpa using hmem) (by
    rw [show (ents vk l 0).toArray.toList = ents vk l 0 from rfl, ents_born]
    exact List.nodup_range')
  exact ⟨.tuple #[.int .i64 (l.getD j (0, 0)).1, vk.val (l.getD j (0, 0)).2], by simp [execOp, ho, ex, hrun], [.int .i64 (l.getD j (0, 0)).1, vk.val (l.getD j (0, 0)).2], rfl, rfl, VK.dv_rep _ _ _, trivial⟩
end
end Go.Ax
