/- Part 3: lemmas that the proofs of this seat share; by itself it claims nothing. -/
import Derived.Scope
import Derived.Control
import Derived.ProofKit
import Derived.OpenShut
import Derived.Deep.Slices
import Ieee.Arith
import GoSem.Core.Float
import Derived.RangeFuncRecord
import Derived.Test.YtphelnpanihmiaaGreatDoorPt2
/- From the executor to a contract. -/
namespace Go.Ax
open Go.RowKit

def envOf : List AV → Nat → List (Nat × AV)
  | [], _ => []
  | v :: r, k => (k, v) :: envOf r (k + 1)
def initSt (args : List AV) : St := ⟨envOf args 0, []⟩

theorem envOf.rep {M : Mem} {β : Nm} : ∀ {args : List AV} {vs : List Value} {k t : Nat} (rest : List Value), RepAs M β args vs → k ≤ t → (getE (envOf args k) t).Rep M β ((vs ++ rest).getD (t - k) undef)
  | [], [], k, t, rest, _, _ => trivial
  | v :: args, u :: vs, k, t, rest, ⟨h, r⟩, hk => by
    simp only [envOf, getE_cons]
    by_cases he : k = t
    · subst he; simpa using h
    · rw [if_neg he]
      have := envOf.rep (k := k + 1) (t := t) rest r (by omega)
      rw [show t - k = (t - (k + 1)) + 1 by omega]
      simpa using this
  | [], _ :: _, _, _, _, h, _ => h.elim
  | _ :: _, [], _, _, _, h, _ => h.elim
theorem RepAs.length : ∀ {M β} {cs : List AV} {vs : List Value}, RepAs M β cs vs → vs.length = cs.length
  | _, _, [], [], _ => rfl
  | _, _, _ :: _, _ :: _, ⟨_, r⟩ => by simp [RepAs.length r]
  | _, _, [], _ :: _, h => h.elim
  | _, _, _ :: _, [], h => h.elim

def res1 (T : List (Nat × TyI)) (σ : St) : ResultVar → Option TV
  | .tmp t => match getE σ.env t with
    | .s x => some (.s x)
    | .g cs => some (.g cs)
    | _ => none
  | .cell a t => match getT T t, getE σ.env a with
    | some ti, .s (.ptr x 0) => match getB σ.box x with
      | some (some (.cells cs)) => match ti.agg with
        | true => bif Nat.beq cs.length ti.size then some (.g cs) else none
        | false => match cs with
          | [c] => some (.s c)
          | _ => none
      | _ => none
    | _, _ => none
def resL (T : List (Nat × TyI)) (σ : St) : List ResultVar → Option (List TV)
  | [] => some []
  | x :: r => match res1 T σ x, resL T σ r with
    | some t, some ts => some (t :: ts)
    | _, _ => none
def ofT : TV → AV
  | .s x => .s x
  | .g cs => .g cs
def ofTs : List TV → AV
  | [t] => ofT t
  | ts => .t ts
def convT (σ : St) : TV → TV
  | .s x => .s (convS σ x)
  | .g cs => .g (convSs σ cs)
def convTs (σ : St) : List TV → List TV
  | [] => []
  | t :: r => convT σ t :: convTs σ r

/-- What is represented by v is represented by r. -/
def SubR (v r : AV) : Prop := ∀ M u, v.Rep M nb u → r.Rep M nb u
theorem SubR.refl (v : AV) : SubR v v := fun _ _ h => h
theorem SubR.of_eq {v r : AV} (h : v = r) : SubR v r := h ▸ SubR.refl v

def retK (T : List (Nat × TyI)) (rs : List ResultVar) (r : AV) : Exit → St → Prop
  | .ret, σ => match resL T σ rs with
    | some ts => SubR (ofTs (convTs σ ts)) r
    | none => False
  | .normal, σ => match resL T σ rs with
    | some ts => SubR (ofTs (convTs σ ts)) r
    | none => False
  | _, _ => False

section
variable {P : Program} {T : List (Nat × TyI)} {cx : Cx} {N : Nat} {M F : Mem} {β : Nm} {σ : St} {a : Act} {w : World}

def resSem (tmps : Array Value) : ResultVar → Sem Value
  | .tmp t => pure (tmps.getD t undef)
  | .cell a t => do loadVar t (← asAddr (tmps.getD a undef))

theorem res1.rep (hT : TabOK P T) (i : Inv cx N M β σ a w) {x : ResultVar} {t : TV} (h : res1 T σ x = some t) : ∃ v, (resSem a.tmps x).run P w = .ok v w ∧ t.Rep M β v := by
  cases x with
  | tmp u =>
    simp only [res1] at h
    have hr := i.env u
    refine ⟨a.tmps.getD u undef, rfl, ?_⟩
    split at h
    · rename_i e; cases h; rw [e] at hr; exact hr
    · rename_i e; cases h; rw [e] at hr; exact hr
    · cases h
  | cell u t' =>
    simp only [res1] at h
    split at h
    · rename_i ti x hti he
      have hok := hT.get hti
      have hr := i.env u
      rw [he] at hr
      obtain ⟨b, c, e1, e2⟩ := hr
      split at h
      · rename_i cs hb
        obtain ⟨b', c', vs, ty, e3, hh, hrl⟩ := i.box x _ hb
        rw [e1] at e3; cases e3
        split at h
        · rename_i hagg
          cases hl : Nat.beq cs.length ti.size with
          | false => rw [hl] at h; cases h
          | true =>
            rw [hl] at h; cases h
            have hl := Nat.eq_of_beq_eq_true hl
            have hlv := hrl.length
            refine ⟨_, ?_, vs, rfl, hrl⟩
            have hld := run_loadCells_list (P := P) w ⟨b, 0, none⟩ vs (fun j v hv => by rw [cell_add]; simp [World.cell?, hh, hv])
            have ha := hok.run_agg w
            rw [hagg] at ha
            simp [resSem, e2, asAddr, loadVar, ha, hok.run_size, ← hl, ← hlv, hld]
        · rename_i hagg
          split at h
          · cases h
            rename_i c0
            cases vs with
            | nil => exact hrl.elim
            | cons v r =>
              cases r with
              | cons _ _ => exact hrl.2.elim
              | nil =>
                refine ⟨v, ?_, hrl.1⟩
                have ha := hok.run_agg w
                rw [hagg] at ha
                have hc : w.cell? ⟨b, 0, none⟩ = some v := by simp [World.cell?, hh]
                simp [resSem, e2, asAddr, loadVar, ha, hc, run_load]
          · cases h
      · cases h
    · cases h

theorem resL.rep (hT : TabOK P T) (i : Inv cx N M β σ a w) : ∀ {l : List ResultVar} {ts : List TV}, resL T σ l = some ts → ∃ vs : List Value, (l.mapM (resSem a.tmps)).run P w = .ok vs w ∧ RepT M β ts vs
  | [], ts, h => by simp [resL] at h; subst h; exact ⟨[], rfl, trivial⟩
  | x :: r, ts, h => by
    simp only [resL] at h
    split at h
    · rename_i t ts' h1 h2
      cases h
      obtain ⟨v, e1, r1⟩ := res1.rep hT i h1
      obtain ⟨vs, e2, r2⟩ := resL.rep hT i h2
      exact ⟨v :: vs, by simp [e1, e2], r1, r2⟩
    · cases h

theorem convTs.rep (i : Inv cx N M β σ a w) (hM : Mem.le M F) (hF : ∀ x bc b c, getB σ.box x = some (some bc) → β x = some (b, c) → ∀ o u, w.cell? ⟨b, o, none⟩ = some u → F b o = some u) :
    ∀ {ts : List TV} {vs : List Value}, RepT M β ts vs → RepT F nb (convTs σ ts) vs
  | [], [], _ => trivial
  | t :: _, _ :: _, ⟨h, r⟩ => by
    refine ⟨?_, convTs.rep i hM hF r⟩
    cases t with
    | s x => exact dS.rep i hM hF 3 _ _ h
    | g cs => obtain ⟨vs, e, hr⟩ := h; exact ⟨vs, e, convSs.rep i hM hF hr⟩
  | [], _ :: _, h => h.elim
  | _ :: _, [], h => h.elim

theorem callP_of_aw {f N : Nat} {fn : Func} {c : Code} {args : List AV} {r : AV} (hf : P.funcs[f]? = some fn) (hb : fn.body = some c) (hN : fn.ntmps = N) (hcall : ∀ vs w, (callFunc f vs).run P w = .ok (.enter f vs) w)
    (hT : TabOK P T) (hl : Nat.ble args.length N = true) {rs : List ResultVar} (hrs : fn.results.toList = rs)
    (h : ∀ cx : Cx, cx.ref = [] → AW P cx N c (initSt args) (retK T rs r)) : CallP P f args r := by
  refine ⟨hcall, fun M w vs hG hr hM => ?_⟩
  refine calls_of_wp hf hb ?_
  let cx : Cx := { B := w.heap.size, ref := [], β0 := nb }
  have hlen := hr.length
  have hl := Nat.le_of_ble_eq_true hl
  have i0 : Inv cx N M nb (initSt args) { tmps := vs.toArray ++ Array.replicate (fn.ntmps - vs.toArray.size) undef, defers := [] } w := by
    refine ⟨rfl, by simp; omega, ⟨Nat.le_refl _, by obtain ⟨bs, hG⟩ := hG; exact ⟨bs, hG, fun g t m => ⟨hG.lt m, by rintro ⟨x, c, hx, _⟩; cases hx⟩⟩⟩, fun t => ?_, hM, fun _ _ e => (by cases e), fun _ _ e => (by cases e), fun _ _ _ _ _ _ _ e => (by cases e), fun _ _ _ _ e => (by cases e), fun _ _ _ _ e => (by cases e), fun _ hx => (by cases hx)⟩
    have := envOf.rep (k := 0) (t := t) (List.replicate (fn.ntmps - vs.length) undef) hr (Nat.zero_le _)
    simp only [Nat.sub_zero] at this
    simp only [initSt]
    have e : (vs.toArray ++ Array.replicate (fn.ntmps - vs.toArray.size) undef).getD t undef = (vs ++ List.replicate (fn.ntmps - vs.length) undef).getD t undef := by
      simp [← List.toArray_replicate]
    rw [e]
    exact this
  refine wp_mono (wpIn_wide.1 (h cx rfl M nb _ w i0)) ?_
  rintro e a' w' ⟨σ', M', β', hk, i', hg, hkp⟩
  -- the results
  have fin : ∀ ts, resL T σ' rs = some ts → SubR (ofTs (convTs σ' ts)) r → a'.defers = [] ∧ ∃ v, (results fn a'.tmps).run P w' = .ok v w' ∧ ∃ v' M', Ending.returned v = .returned v' ∧ r.Rep M' nb v' ∧ Grow w.heap.size M M' ∧ MemOK M' w' ∧ Below w.heap.size w w' := by
    intro ts hts hsub
    obtain ⟨vs', hrun, hrep⟩ := resL.rep hT i' hts
    let F : Mem := fun b o => if b < w.heap.size then M' b o else w'.cell? ⟨b, o, none⟩
    have hMF : Mem.le M' F := fun b o u e => by
      by_cases hbl : b < w.heap.size
      · simp [F, hbl, e]
      · simp [F, hbl, i'.mem b o u e]
    have hFc : ∀ x bc b c, getB σ'.box x = some (some bc) → β' x = some (b, c) → ∀ o u, w'.cell? ⟨b, o, none⟩ = some u → F b o = some u := by
      intro x bc b c e e' o u hu
      rcases i'.low x bc b c e e' with h | h
      · have : ¬ b < w.heap.size := by have : w.heap.size ≤ b := h; omega
        simp [F, this, hu]
      · obtain ⟨_, _, hx, _⟩ := h; cases hx
    have hconv := convTs.rep i' hMF hFc hrep
    refine ⟨i'.defers, (if h : vs'.toArray.size = 1 then vs'.toArray[0] else .tuple vs'.toArray), ?_, _, F, rfl, hsub F _ ?_, ⟨fun b o u e => hMF b o u (hg.le b o u e), fun b o u e => ?_⟩, fun b o u e => ?_, ⟨hkp.os, hkp.tape, hkp.output, hkp.size, fun k hk => hkp.block k hk (by rintro ⟨x, c, hx, _⟩; cases hx)⟩⟩
    · have : (fn.results.mapM (resSem a'.tmps)).run P w' = .ok vs'.toArray w' := by
        rw [← Array.toArray_toList (xs := fn.results), List.mapM_toArray, hrs]
        simp only [Sem.run_map, hrun, Result.andThen]
      have e : results fn a'.tmps = (do let vs ← fn.results.mapM (resSem a'.tmps); pure (if h : vs.size = 1 then vs[0] else .tuple vs)) := by
        unfold results
        congr 1
      rw [e]
      simp only [Sem.run_bind, this, Result.andThen, Sem.run_pure]
    · cases hts' : convTs σ' ts with
      | nil =>
        rw [hts'] at hconv
        cases vs' with
        | nil => exact ⟨[], rfl, trivial⟩
        | cons _ _ => exact hconv.elim
      | cons t r' =>
        rw [hts'] at hconv
        cases vs' with
        | nil => exact hconv.elim
        | cons v vs'' =>
          cases r' with
          | nil =>
            cases vs'' with
            | cons _ _ => exact hconv.2.elim
            | nil =>
              have := hconv.1
              simp only [List.size_toArray, List.length_cons, List.length_nil, Nat.zero_add, dite_true, ofTs]
              cases t with
              | s x => exact this
              | g cs => exact this
          | cons t2 r2 =>
            cases vs'' with
            | nil => exact hconv.2.elim
            | cons v2 vs3 =>
              have hne : ¬ (v :: v2 :: vs3).toArray.size = 1 := by simp
              rw [dif_neg hne]
              exact ⟨_, rfl, hconv⟩
    · by_cases hbl : b < w.heap.size
      · simp [F, hbl] at e
        exact hg.new b o u e
      · exact .inr (by omega)
    · by_cases hbl : b < w.heap.size
      · simp [F, hbl] at e
        exact i'.mem b o u e
      · simp [F, hbl] at e
        exact e
  cases e with
  | ret =>
    simp only [retK] at hk
    split at hk
    · rename_i ts hts; exact fin ts hts hk
    · exact hk.elim
  | normal =>
    simp only [retK] at hk
    split at hk
    · rename_i ts hts; exact fin ts hts hk
    · exact hk.elim
  | _ => exact hk.elim

theorem callP_of_ex {rc : List Nat} {f N : Nat} {fn : Func} {c : Code} {args : List AV} {r : AV} (hf : P.funcs[f]? = some fn) (hb : fn.body = some c) (hN : fn.ntmps = N) (hcall : ∀ vs w, (callFunc f vs).run P w = .ok (.enter f vs) w)
    (hT : TabOK P T) (hm : P.follows .mixedOrders = true) (hl : Nat.ble args.length N = true) {rs : List ResultVar} (hrs : fn.results.toList = rs)
    (h : ∀ cx : Cx, cx.ref = [] → ex P T N [] rc cx c (initSt args) (retK T rs r)) : CallP P f args r :=
  callP_of_aw hf hb hN hcall hT hl hrs fun cx href => ex.sound hT hm href c (h cx href)

end
end Go.Ax

/- Facts on types: structs of integers, texts and truth values, and of such structs, are compared cell by cell. -/
namespace Go.Ax
open Go.RowKit

theorem run_part_one {P : Program} {w : World} {t : TypeId} (h : (isAgg t).run P w = .ok false w) {V : Array Value} {k : Nat} {v : Value} (hv : V[k]? = some v) : (part t V k).run P w = .ok v w := by
  simp [part, h, hv]
theorem run_part_agg {P : Program} {w : World} {t : TypeId} {m : Nat} (h : (isAgg t).run P w = .ok true w) (hs : (sizeOf t).run P w = .ok m w) {V : Array Value} {k : Nat} : (part t V k).run P w = .ok (.agg ((V.toList.drop k).take m).toArray) w := by
  have : V.extract k (k + m) = ((V.toList.drop k).take m).toArray := by
    apply Array.ext'; simp [List.extract_eq_take_drop]
  simp [part, h, hs, this]

abbrev RepL0 (xs : List SV) (vs : List Value) : Prop := RepL (fun _ _ => none) (fun _ => none) xs vs
def mkV (agg : Bool) (vs : List Value) : Value := match agg with | true => .agg vs.toArray | false => vs.headD undef
/-- At type t, whose cells are of the kinds of zs, '==' compares cell by cell. -/
structure CmpT (P : Program) (n : Nat) (t : TypeId) (agg : Bool) (zs : List Value) : Prop where
  isAgg : ∀ w, (isAgg t).run P w = .ok agg w
  size : agg = true → ∀ w, (sizeOf t).run P w = .ok zs.length w
  one : agg = false → zs.length = 1
  run : ∀ (d : Nat) (w : World) (xs ys : List SV) (vs us : List Value) (b : Bool), kindOK zs xs = true → kindOK zs ys = true → eqI xs ys = some b → RepL0 xs vs → RepL0 ys us →
    (Op.equalIn (d + n) t (mkV agg vs) (mkV agg us)).run P w = .ok b w
theorem CmpT.up {P : Program} {n : Nat} {t : TypeId} {agg : Bool} {zs : List Value} (h : CmpT P n t agg zs) : CmpT P (n + 1) t agg zs :=
  ⟨h.isAgg, h.size, h.one, fun d w xs ys vs us b h1 h2 h3 h4 h5 => by have := h.run (d + 1) w xs ys vs us b h1 h2 h3 h4 h5; rwa [show d + 1 + n = d + (n + 1) by omega] at this⟩

theorem kOK_int {k : IntKind} {z : Int} {x : SV} (h : kOK (.int k z) x = true) : ∃ k' a, intS x = some (k', a) := by
  cases hx : intS x with
  | none => simp [kOK, hx] at h
  | some p => exact ⟨p.1, p.2, rfl⟩
theorem kOK_string {s : ByteArray} {x : SV} (h : kOK (.string s) x = true) : ∃ a, strS x = some a := by
  cases hx : strS x with
  | none => simp [kOK, hx] at h
  | some p => exact ⟨p, rfl⟩
theorem kOK_bool {s : Bool} {x : SV} (h : kOK (.bool s) x = true) : ∃ a, boolS x = some a := by
  cases hx : boolS x with
  | none => simp [kOK, hx] at h
  | some p => exact ⟨p, rfl⟩
theorem kind1 {z : Value} {xs : List SV} (h : kindOK [z] xs = true) : ∃ x, xs = [x] ∧ kOK z x = true := by
  cases xs with
  | nil => cases h
  | cons x r =>
    simp only [kindOK, Bool.and_eq_true] at h
    cases r with
    | nil => exact ⟨x, rfl, h.1⟩
    | cons _ _ => exact absurd h.2 (by simp [kindOK])
theorem rep1 {x : SV} {vs : List Value} (h : RepL0 [x] vs) : ∃ v, vs = [v] ∧ x.Rep (fun _ _ => none) (fun _ => none) v := by
  cases vs with
  | nil => exact h.elim
  | cons v r => cases r with
    | nil => exact ⟨v, rfl, h.1⟩
    | cons _ _ => exact h.2.elim
theorem intS.val {x : SV} {k : IntKind} {a : Int} {M : Mem} {β : Nm} {v : Value} (h : intS x = some (k, a)) (r : x.Rep M β v) : v = .int k a := by
  unfold intS at h
  split at h
  · cases h; exact r
  · cases h
theorem intS_str {x : SV} {s : ByteArray} (h : strS x = some s) : intS x = none := by
  unfold strS at h
  split at h
  · rfl
  · cases h
theorem intS_bool {x : SV} {s : Bool} (h : boolS x = some s) : intS x = none := by
  unfold boolS at h
  split at h
  · rfl
  · rfl
  · cases h
theorem strS_bool {x : SV} {s : Bool} (h : boolS x = some s) : strS x = none := by
  unfold boolS at h
  split at h
  · rfl
  · rfl
  · cases h

section
variable {P : Program} {t : TypeId}
theorem cmp_int {k : IntKind} (z : Int) (h : P.underlying t = some (.int k)) : CmpT P 1 t false [.int k z] := by
  refine ⟨fun w => by simp [isAgg, run_underlying h], (fun h => by cases h), fun _ => rfl, fun d w xs ys vs us b h1 h2 e rx ry => ?_⟩
  obtain ⟨x, rfl, kx⟩ := kind1 h1
  obtain ⟨y, rfl, ky⟩ := kind1 h2
  obtain ⟨v, rfl, rx'⟩ := rep1 rx
  obtain ⟨u, rfl, ry'⟩ := rep1 ry
  obtain ⟨k1, a, hx⟩ := kOK_int kx
  obtain ⟨k2, a2, hy⟩ := kOK_int ky
  simp only [eqI, hx, hy] at e
  by_cases hk : k1 = k2
  · subst hk
    simp only [decide_true, cond_true, Bool.and_true, Option.some.injEq] at e
    subst e
    have ev := intS.val hx rx'
    have eu := intS.val hy ry'
    subst ev; subst eu
    exact run_equalIn_int (w := w) d t k1 k a a2 h
  · simp [hk] at e
theorem cmp_string (z : ByteArray) (h : P.underlying t = some .string) : CmpT P 1 t false [.string z] := by
  refine ⟨fun w => by simp [isAgg, run_underlying h], (fun h => by cases h), fun _ => rfl, fun d w xs ys vs us b h1 h2 e rx ry => ?_⟩
  obtain ⟨x, rfl, kx⟩ := kind1 h1
  obtain ⟨y, rfl, ky⟩ := kind1 h2
  obtain ⟨v, rfl, rx'⟩ := rep1 rx
  obtain ⟨u, rfl, ry'⟩ := rep1 ry
  obtain ⟨a, hx⟩ := kOK_string kx
  obtain ⟨a2, hy⟩ := kOK_string ky
  simp only [eqI, intS_str hx, hx, hy, Bool.and_true, Option.some.injEq] at e
  subst e
  have ev := strS.val hx rx'
  have eu := strS.val hy ry'
  subst ev; subst eu
  exact run_equalIn_string (w := w) d t a a2 h
theorem cmp_bool (z : Bool) (h : P.underlying t = some .bool) : CmpT P 1 t false [.bool z] := by
  refine ⟨fun w => by simp [isAgg, run_underlying h], (fun h => by cases h), fun _ => rfl, fun d w xs ys vs us b h1 h2 e rx ry => ?_⟩
  obtain ⟨x, rfl, kx⟩ := kind1 h1
  obtain ⟨y, rfl, ky⟩ := kind1 h2
  obtain ⟨v, rfl, rx'⟩ := rep1 rx
  obtain ⟨u, rfl, ry'⟩ := rep1 ry
  obtain ⟨a, hx⟩ := kOK_bool kx
  obtain ⟨a2, hy⟩ := kOK_bool ky
  simp only [eqI, intS_bool hx, strS_bool hx, hx, hy, Bool.and_true, Option.some.injEq] at e
  subst e
  have ev := boolS.val hx rx'
  have eu := boolS.val hy ry'
  subst ev; subst eu
  exact run_equalIn_bool' (w := w) d t a a2 h
end

def CmpF (P : Program) (n : Nat) : List Field → List Value → Nat → Prop
  | [], zs, _ => zs = []
  | f :: fs, zs, k => f.name ≠ "_" ∧ f.offset = k ∧ ∃ agg zf rest, zs = zf ++ rest ∧ CmpT P n f.type agg zf ∧ CmpF P n fs rest (k + zf.length)

theorem kindOK_app : ∀ {zf rest : List Value} {xs : List SV}, kindOK (zf ++ rest) xs = true → kindOK zf (xs.take zf.length) = true ∧ kindOK rest (xs.drop zf.length) = true ∧ zf.length ≤ xs.length
  | [], _, _, h => ⟨rfl, h, Nat.zero_le _⟩
  | z :: zf, rest, [], h => by cases h
  | z :: zf, rest, x :: xs, h => by
    simp only [List.cons_append, kindOK, Bool.and_eq_true] at h
    obtain ⟨i1, i2, i3⟩ := kindOK_app h.2
    exact ⟨by simp only [List.length_cons, List.take_succ_cons, kindOK, Bool.and_eq_true]; exact ⟨h.1, i1⟩, by simpa using i2, by simp; omega⟩
theorem eqI_none {x y : SV} {r s : List SV} (h : eqI r s = none) : eqI (x :: r) (y :: s) = none := by
  simp only [eqI, h]
/-- One cell. -/
def eq1 (x y : SV) : Option Bool := eqI [x] [y]
theorem eqI_cons {x y : SV} {r s : List SV} {b : Bool} (h : eqI (x :: r) (y :: s) = some b) : ∃ b1 b2, eq1 x y = some b1 ∧ eqI r s = some b2 ∧ b = (b1 && b2) := by
  cases hc : eqI r s with
  | none => rw [eqI_none hc] at h; cases h
  | some c =>
    simp only [eqI, hc] at h
    split at h
    · rename_i k1 a k2 b' c' ha hb hc'
      cases hc'
      by_cases hk : k1 = k2
      · subst hk
        simp only [decide_true, cond_true, Option.some.injEq] at h
        exact ⟨a == b', c, by simp [eq1, eqI, ha, hb], rfl, h.symm⟩
      · simp [hk] at h
    · rename_i c' hc' hn
      cases hc'
      split at h
      · rename_i a b' ha hb
        cases h
        exact ⟨a.toList == b'.toList, c, by simp [eq1, eqI, intS_str ha, ha, hb], rfl, rfl⟩
      · rename_i hns
        split at h
        · rename_i a b' ha hb
          cases h
          exact ⟨a == b', c, by simp [eq1, eqI, intS_bool ha, strS_bool ha, ha, hb], rfl, rfl⟩
        · cases h
    · rename_i hc'
      cases hc'
theorem eqI_of {x y : SV} {r s : List SV} {b1 b2 : Bool} (h : eq1 x y = some b1) (k : eqI r s = some b2) : eqI (x :: r) (y :: s) = some (b1 && b2) := by
  simp only [eq1, eqI] at h
  split at h
  · rename_i k1 a k2 b' c' ha hb hc'
    cases hc'
    by_cases hk : k1 = k2
    · subst hk
      simp only [decide_true, cond_true, Option.some.injEq, Bool.and_true] at h
      simp [eqI, k, ha, hb, h]
    · simp [hk] at h
  · rename_i c' hc' hn
    cases hc'
    split at h
    · rename_i a b' ha hb
      simp only [Bool.and_true, Option.some.injEq] at h
      simp [eqI, k, intS_str ha, ha, hb, h]
    · split at h
      · rename_i a b' ha hb
        simp only [Bool.and_true, Option.some.injEq] at h
        simp [eqI, k, intS_bool ha, strS_bool ha, ha, hb, h]
      · cases h
  · rename_i hc'
    cases hc'
theorem eqI_app : ∀ (m : Nat) {xs ys : List SV} {b : Bool}, eqI xs ys = some b → m ≤ xs.length → ∃ b1 b2, eqI (xs.take m) (ys.take m) = some b1 ∧ eqI (xs.drop m) (ys.drop m) = some b2 ∧ b = (b1 && b2)
  | 0, xs, ys, b, h, _ => ⟨true, b, by simp [eqI], by simpa using h, by simp⟩
  | m + 1, [], ys, b, h, hl => by simp at hl
  | m + 1, x :: xs, [], b, h, hl => by simp [eqI] at h
  | m + 1, x :: xs, y :: ys, b, h, hl => by
    obtain ⟨c1, c2, h1, h2, rfl⟩ := eqI_cons h
    obtain ⟨d1, d2, h3, h4, rfl⟩ := eqI_app m h2 (by simpa using hl)
    exact ⟨c1 && d1, d2, by simp only [List.take_succ_cons]; exact eqI_of h1 h3, by simpa using h4, by rw [Bool.and_assoc]⟩
theorem eqI_nil {xs : List SV} {b : Bool} (h : eqI [] xs = some b) : b = true := by
  cases xs with
  | nil => simp only [eqI, Option.some.injEq] at h; exact h.symm
  | cons _ _ => cases h
theorem RepL0.take' {xs : List SV} {vs : List Value} (n : Nat) (h : RepL0 xs vs) : RepL0 (xs.take n) (vs.take n) := RepL.take n h

theorem eqFields_run {P : Program} {n d : Nat} {V U : Array Value} : ∀ {fs : List Field} {zs : List Value} {k : Nat} {w : World} {xs ys : List SV} {b : Bool} {vs us : List Value}, CmpF P n fs zs k → kindOK zs xs = true → kindOK zs ys = true → eqI xs ys = some b → RepL0 xs vs → RepL0 ys us →
    V.toList.drop k = vs → U.toList.drop k = us → (Op.eqFields (d + n) V U fs).run P w = .ok b w
  | [], zs, k, w, xs, ys, b, vs, us, hz, h1, h2, e, _, _, _, _ => by
    have hz : zs = [] := hz
    subst hz
    cases xs with
    | nil => rw [eqI_nil e]; rfl
    | cons _ _ => cases h1
  | f :: fs, zs, k, w, xs, ys, b, vs, us, hz, h1, h2, e, rx, ry, hv, hu => by
    obtain ⟨hn, hk, agg, zf, rest, rfl, hc, hf⟩ := hz
    obtain ⟨k1, k2, k3⟩ := kindOK_app h1
    obtain ⟨k4, k5, k6⟩ := kindOK_app h2
    obtain ⟨b1, b2, e1, e2, rfl⟩ := eqI_app zf.length e k3
    have lx := rx.length
    have ly := ry.length
    have ih := eqFields_run (w := w) (V := V) (U := U) (d := d) hf k2 k5 e2 (RepL.drop zf.length rx) (RepL.drop zf.length ry) (by rw [← hv, List.drop_drop]) (by rw [← hu, List.drop_drop])
    have hr := hc.run d w _ _ _ _ _ k1 k4 e1 (RepL.take zf.length rx) (RepL.take zf.length ry)
    have part : ∀ (W : Array Value) (ws : List Value), W.toList.drop k = ws → zf.length ≤ ws.length → (part f.type W k).run P w = .ok (mkV agg (ws.take zf.length)) w := by
      intro W ws hw hl
      cases agg with
      | true => rw [run_part_agg (hc.isAgg w) (hc.size rfl w), hw]; rfl
      | false =>
        have h0 := hc.one rfl
        rw [h0] at hl ⊢
        cases ws with
        | nil => simp at hl
        | cons v r =>
          show _ = Result.ok v w
          refine run_part_one (hc.isAgg w) ?_
          have : (W.toList.drop k)[0]? = some v := by rw [hw]; rfl
          simpa using this
    simp only [Op.eqFields, hn, ne_eq, not_false_eq_true, if_true, Sem.run_bind, hk, part V vs hv (by omega), part U us hu (by omega), Result.andThen, hr, Sem.run_ite]
    cases b1 with
    | true => simpa using ih
    | false => simp

theorem cmp_struct {P : Program} {t n : Nat} {fs : Array Field} {zs : List Value} (hund : P.underlying t = some (.struct fs)) (hp : P.stoodInHeld t = false) (hs : ∀ w, (sizeOf t).run P w = .ok zs.length w) (hf : CmpF P n fs.toList zs 0) : CmpT P (n + 1) t true zs := by
  refine ⟨fun w => by simp [isAgg, run_underlying hund], fun _ => hs, (fun h => by cases h), fun d w xs ys vs us b h1 h2 e rx ry => ?_⟩
  have hff : P.fieldsOf t = fs := by simp [Program.fieldsOf, hund]
  show (Op.equalIn (d + n + 1) t _ _).run P w = _
  simp only [mkV]
  rw [run_equalIn_struct w (d + n) t vs.toArray us.toArray (by rw [hff]; exact hund) hp, hff]
  exact eqFields_run hf h1 h2 e rx ry (by simp) (by simp)
theorem size_of {P : Program} {t n : Nat} {ti : TypeInfo} (h : P.info? t = some ti) (hn : ti.size = n) (w : World) : (sizeOf t).run P w = .ok n w := by
  simp [sizeOf, typeInfo, h, hn]
theorem ints_struct {P : Program} {t n : Nat} {zs : List Value} (h : CmpT P n t true zs) (hn : n ≤ 10000) :
    ∀ (w : World) (xs ys : List SV) (vs us : List Value) (b : Bool), kindOK zs xs = true → kindOK zs ys = true → eqI xs ys = some b → RepL0 xs vs → RepL0 ys us →
    (Op.equal t (.agg vs.toArray) (.agg us.toArray)).run P w = .ok b w := by
  intro w xs ys vs us b h1 h2 e rx ry
  have := h.run (10000 - n) w xs ys vs us b h1 h2 e rx ry
  rwa [show 10000 - n + n = 10000 by omega] at this

end Go.Ax

/- From the executor to a contract over boxes. -/
namespace Go.Ax
open Go.RowKit

def openB : BoxL → Boxes
  | [] => []
  | (x, b) :: r => (x, some b) :: openB r
def initR (args : List AV) (bx : BoxL) : St := ⟨envOf args 0, openB bx⟩
def shutB (box : Boxes) : BoxL → Boxes
  | [] => box
  | (x, _) :: r => (x, none) :: shutB box r
def holdB (box : Boxes) : BoxL → Prop
  | [] => True
  | (x, b) :: r => getB box x = some (some b) ∧ holdB box r

theorem openB.get {x : Nat} {b : Box} : ∀ {bx : BoxL}, getB (openB bx) x = some (some b) → (x, b) ∈ bx
  | [], h => by cases h
  | (y, c) :: r, h => by
    simp only [openB] at h
    rw [getB_cons] at h
    by_cases e : y = x
    · rw [if_pos e] at h; cases h; subst e; simp
    · rw [if_neg e] at h
      exact List.mem_cons_of_mem _ (openB.get h)
theorem openB.has {x : Nat} : ∀ {bx : BoxL}, x ∈ names bx → ∃ y, getB (openB bx) x = some y
  | [], h => by cases h
  | (y, c) :: r, h => by
    simp only [openB]
    rw [getB_cons]
    by_cases e : y = x
    · rw [if_pos e]; exact ⟨_, rfl⟩
    · rw [if_neg e]
      simp only [names, List.mem_cons] at h
      exact openB.has (h.resolve_left (fun h => e h.symm))
theorem shutB.get {box : Boxes} {x : Nat} {b : Box} : ∀ {bx : BoxL}, getB (shutB box bx) x = some (some b) → x ∉ names bx ∧ getB box x = some (some b)
  | [], h => ⟨by simp [names], h⟩
  | (y, c) :: r, h => by
    simp only [shutB] at h
    rw [getB_cons] at h
    by_cases e : y = x
    · rw [if_pos e] at h; cases h
    · rw [if_neg e] at h
      obtain ⟨h1, h2⟩ := shutB.get h
      refine ⟨?_, h2⟩
      simp only [names, List.mem_cons]
      rintro (h | h)
      · exact e h.symm
      · exact h1 h
theorem shutB.has {box : Boxes} {x : Nat} {y : Option Box} (h : getB box x = some y) : ∀ {bx : BoxL}, ∃ y, getB (shutB box bx) x = some y
  | [] => ⟨y, h⟩
  | (z, c) :: r => by
    simp only [shutB]
    rw [getB_cons]
    by_cases e : z = x
    · rw [if_pos e]; exact ⟨_, rfl⟩
    · rw [if_neg e]; exact shutB.has h
theorem holdB.get {box : Boxes} {x : Nat} {b : Box} : ∀ {bx : BoxL}, holdB box bx → (x, b) ∈ bx → getB box x = some (some b)
  | [], _, h => by cases h
  | (y, c) :: r, ⟨h, hr⟩, hm => by
    cases hm with
    | head => exact h
    | tail _ hm => exact holdB.get hr hm

def retKR (T : List (Nat × TyI)) (rs : List ResultVar) (r : AV) (bx' : BoxL) : Exit → St → Prop
  | .ret, σ => match resL T σ rs with
    | some ts => SubR (ofTs (convTs ⟨σ.env, shutB σ.box bx'⟩ ts)) r ∧ holdB σ.box bx'
    | none => False
  | .normal, σ => match resL T σ rs with
    | some ts => SubR (ofTs (convTs ⟨σ.env, shutB σ.box bx'⟩ ts)) r ∧ holdB σ.box bx'
    | none => False
  | _, _ => False

section
variable {P : Program} {T : List (Nat × TyI)}

theorem Inv.shut {cx : Cx} {N : Nat} {M : Mem} {β : Nm} {σ : St} {a : Act} {w : World} (i : Inv cx N M β σ a w) (bx' : BoxL) : Inv cx N M β ⟨σ.env, shutB σ.box bx'⟩ a w := by
  refine ⟨i.defers, i.tmps, i.heap, i.env, i.mem, ?_, ?_, ?_, ?_, ?_, i.ref⟩
  · intro x p e
    obtain ⟨y, hy⟩ := i.keys x p e
    exact shutB.has hy
  · exact fun x bc h => i.box x bc (shutB.get h).2
  · exact fun x y bx bby b c c' hx hy => i.inj x y bx bby b c c' (shutB.get hx).2 (shutB.get hy).2
  · exact fun x bc b c h => i.apart x bc b c (shutB.get h).2
  · exact fun x bc b c h => i.low x bc b c (shutB.get h).2

theorem AV.Rep.of_T {M : Mem} {β : Nm} {r : AV} {v : Value} (h : r.Rep M nb v) : r.Rep M β v := AV.Rep.mono (Mem.le_refl _) (fun _ _ h => by cases h) h

theorem callR_of_aw {f N : Nat} {fn : Func} {c : Code} {args : List AV} {bx : BoxL} {r : AV} {bx' : BoxL} (hf : P.funcs[f]? = some fn) (hb : fn.body = some c) (hN : fn.ntmps = N) (hcall : ∀ vs w, (callFunc f vs).run P w = .ok (.enter f vs) w)
    (hT : TabOK P T) (hl : Nat.ble args.length N = true) (hkeep : ((names bx).all fun x => (names bx').contains x) = true) (hreal : (bx'.all fun p => p.2.real) = true) {rs : List ResultVar} (hrs : fn.results.toList = rs)
    (h : ∀ cx : Cx, cx.ref = names bx → AW P cx N c (initR args bx) (retKR T rs r bx')) : CallR P f args bx r bx' := by
  classical
  refine ⟨hcall, fun M β w vs hG hr hM hbx hβ => ?_⟩
  refine calls_of_wp hf hb ?_
  let cx : Cx := { B := w.heap.size, ref := names bx, β0 := β }
  have hlen := hr.length
  have hl := Nat.le_of_ble_eq_true hl
  have hex : ∀ x, x ∈ names bx → ∃ p, β x = some p := fun x hx => by
    obtain ⟨k, c, e⟩ := hbx.has x hx
    exact ⟨_, e⟩
  have i0 : Inv cx N M β (initR args bx) { tmps := vs.toArray ++ Array.replicate (fn.ntmps - vs.toArray.size) undef, defers := [] } w := by
    refine ⟨rfl, by simp; omega, ⟨Nat.le_refl _, by obtain ⟨bs, hG, hN2⟩ := hG; exact ⟨bs, hG, fun g t m => ⟨hG.lt m, by rintro ⟨x, c, _, hx⟩; exact hN2 g t m x c hx⟩⟩⟩, fun t => ?_, hM, fun x p e => openB.has (hβ x p e), fun x b e => hbx.rep x b (openB.get e), fun x y b1 b2 b c c' h1 h2 e1 e2 => ?_, fun x b1 b c h1 e => ?_, fun x b1 b c h1 e => ?_, fun x hx => ⟨rfl, hex x hx⟩⟩
    · have := envOf.rep (k := 0) (t := t) (List.replicate (fn.ntmps - vs.length) undef) hr (Nat.zero_le _)
      simp only [Nat.sub_zero] at this
      simp only [initR]
      have e : (vs.toArray ++ Array.replicate (fn.ntmps - vs.toArray.size) undef).getD t undef = (vs ++ List.replicate (fn.ntmps - vs.length) undef).getD t undef := by
        simp [← List.toArray_replicate]
      rw [e]
      exact this
    · exact hbx.inj x y b c c' (mem_names (openB.get h1)) (mem_names (openB.get h2)) e1 e2
    · exact hbx.apart x b c (mem_names (openB.get h1)) e
    · exact .inr ⟨x, c, mem_names (openB.get h1), e⟩
  refine wp_mono (wpIn_wide.1 (h cx rfl M β _ w i0)) ?_
  rintro e a' w' ⟨σ', M', β', hk, i', hg, hkp⟩
  have fin : ∀ ts, resL T σ' rs = some ts → SubR (ofTs (convTs ⟨σ'.env, shutB σ'.box bx'⟩ ts)) r → holdB σ'.box bx' → a'.defers = [] ∧ ∃ v, (results fn a'.tmps).run P w' = .ok v w' ∧ ∃ v' M' β', Ending.returned v = .returned v' ∧ Nm.le β β' ∧ r.Rep M' β' v' ∧ Grow w.heap.size M M' ∧ MemOK M' w' ∧ BoxesOK M' β' w' bx' ∧
      (∀ x b c, x ∈ names bx' → β' x = some (b, c) → w.heap.size ≤ b ∨ ∃ y c', β y = some (b, c')) ∧
      w'.os = w.os ∧ w'.tape = w.tape ∧ w'.output = w.output ∧ w.heap.size ≤ w'.heap.size ∧ (∀ k, k < w.heap.size → (∀ y c, β y ≠ some (k, c)) → w'.heap[k]? = w.heap[k]?) := by
    intro ts hts hsub hhold
    obtain ⟨vs', hrun, hrep⟩ := resL.rep hT i' hts
    let isB : Nat → Prop := fun b => ∃ x c, x ∈ names bx' ∧ β' x = some (b, c)
    let F : Mem := fun b o => if b < w.heap.size then M' b o else if isB b then none else w'.cell? ⟨b, o, none⟩
    have hlive : ∀ x, x ∈ names bx' → ∃ b, getB σ'.box x = some (some b) := fun x hx => by
      obtain ⟨b, hb⟩ := of_names hx
      exact ⟨b, holdB.get hhold hb⟩
    have hMF : Mem.le M' F := fun b o u e => by
      by_cases hbl : b < w.heap.size
      · simp [F, hbl, e]
      · have : ¬ isB b := by
          rintro ⟨x, c, hx, hx2⟩
          obtain ⟨bc, hbc⟩ := hlive x hx
          rw [i'.apart x bc b c hbc hx2 o] at e
          cases e
        simp only [F, if_neg hbl, if_neg this]
        exact i'.mem b o u e
    have hFc : ∀ x bc b c, getB (shutB σ'.box bx') x = some (some bc) → β' x = some (b, c) → ∀ o u, w'.cell? ⟨b, o, none⟩ = some u → F b o = some u := by
      intro x bc b c e e' o u hu
      obtain ⟨hnx, ex⟩ := shutB.get e
      have hnb : ¬ isB b := by
        rintro ⟨y, c', hy, hy2⟩
        obtain ⟨bc', hbc'⟩ := hlive y hy
        exact hnx (i'.inj y x bc' bc b c' c hbc' ex hy2 e' ▸ hy)
      rcases i'.low x bc b c ex e' with h | h
      · have : ¬ b < w.heap.size := by have : w.heap.size ≤ b := h; omega
        simp only [F, if_neg this, if_neg hnb]; exact hu
      · obtain ⟨y, c', hy, hy2⟩ := h
        have hy' : y ∈ names bx' := by
          rw [List.all_eq_true] at hkeep
          simpa using hkeep y hy
        have e1 : β' y = some (b, c') := by rw [(i'.ref y hy).1]; exact hy2
        exact (hnb ⟨y, c', hy', e1⟩).elim
    have hconv := convTs.rep (i'.shut bx') hMF hFc hrep
    refine ⟨i'.defers, (if h : vs'.toArray.size = 1 then vs'.toArray[0] else .tuple vs'.toArray), ?_, _, F, β', rfl, ?_, AV.Rep.of_T (hsub F _ ?_), ⟨fun b o u e => hMF b o u (hg.le b o u e), fun b o u e => ?_⟩, fun b o u e => ?_, ?_, ?_, hkp.os, hkp.tape, hkp.output, hkp.size, ?_⟩
    · have : (fn.results.mapM (resSem a'.tmps)).run P w' = .ok vs'.toArray w' := by
        rw [← Array.toArray_toList (xs := fn.results), List.mapM_toArray, hrs]
        simp only [Sem.run_map, hrun, Result.andThen]
      have e : results fn a'.tmps = (do let vs ← fn.results.mapM (resSem a'.tmps); pure (if h : vs.size = 1 then vs[0] else .tuple vs)) := by
        unfold results
        congr 1
      rw [e]
      simp only [Sem.run_bind, this, Result.andThen, Sem.run_pure]
    · intro x p e
      rw [(i'.ref x (hβ x p e)).1]
      exact e
    · cases hts' : convTs ⟨σ'.env, shutB σ'.box bx'⟩ ts with
      | nil =>
        rw [hts'] at hconv
        cases vs' with
        | nil => exact ⟨[], rfl, trivial⟩
        | cons _ _ => exact hconv.elim
      | cons t r' =>
        rw [hts'] at hconv
        cases vs' with
        | nil => exact hconv.elim
        | cons v vs'' =>
          cases r' with
          | nil =>
            cases vs'' with
            | cons _ _ => exact hconv.2.elim
            | nil =>
              have := hconv.1
              simp only [List.size_toArray, List.length_cons, List.length_nil, Nat.zero_add, dite_true, ofTs]
              cases t with
              | s x => exact this
              | g cs => exact this
          | cons t2 r2 =>
            cases vs'' with
            | nil => exact hconv.2.elim
            | cons v2 vs3 =>
              have hne : ¬ (v :: v2 :: vs3).toArray.size = 1 := by simp
              rw [dif_neg hne]
              exact ⟨_, rfl, hconv⟩
    · by_cases hbl : b < w.heap.size
      · simp only [F, if_pos hbl] at e
        exact hg.new b o u e
      · exact .inr (by omega)
    · by_cases hbl : b < w.heap.size
      · simp only [F, if_pos hbl] at e
        exact i'.mem b o u e
      · simp only [F, if_neg hbl] at e
        split at e
        · cases e
        · exact e
    · refine ⟨fun x hx => ?_, fun x b hb => ?_, fun x y b c c' hx hy e1 e2 => ?_, fun x b c hx e o => ?_⟩
      · obtain ⟨b, hb⟩ := of_names hx
        rw [List.all_eq_true] at hreal
        exact (i'.box x b (holdB.get hhold hb)).exb (hreal _ hb)
      · exact RepBox.mono hMF (Nm.le_refl β') rfl (fun _ _ _ => rfl) (i'.box x b (holdB.get hhold hb))
      · obtain ⟨bx1, h1⟩ := hlive x hx
        obtain ⟨bx2, h2⟩ := hlive y hy
        exact i'.inj x y bx1 bx2 b c c' h1 h2 e1 e2
      · obtain ⟨bx1, h1⟩ := hlive x hx
        have hB : isB b := ⟨x, c, hx, e⟩
        by_cases hbl : b < w.heap.size
        · simp only [F, if_pos hbl]
          exact i'.apart x bx1 b c h1 e o
        · simp only [F, if_neg hbl, if_pos hB]
    · intro x b c hx e
      obtain ⟨bx1, h1⟩ := hlive x hx
      rcases i'.low x bx1 b c h1 e with h | ⟨y, c', hy, hy2⟩
      · exact .inl h
      · exact .inr ⟨y, c', hy2⟩
    · intro k hk hnk
      exact hkp.block k hk (by rintro ⟨x, c, _, hx⟩; exact hnk x c hx)
  cases e with
  | ret =>
    simp only [retKR] at hk
    split at hk
    · rename_i ts hts; exact fin ts hts hk.1 hk.2
    · exact hk.elim
  | normal =>
    simp only [retKR] at hk
    split at hk
    · rename_i ts hts; exact fin ts hts hk.1 hk.2
    · exact hk.elim
  | _ => exact hk.elim
theorem callR_of_ex {rc : List Nat} {f N : Nat} {fn : Func} {c : Code} {args : List AV} {bx : BoxL} {r : AV} {bx' : BoxL} (hf : P.funcs[f]? = some fn) (hb : fn.body = some c) (hN : fn.ntmps = N) (hcall : ∀ vs w, (callFunc f vs).run P w = .ok (.enter f vs) w)
    (hT : TabOK P T) (hm : P.follows .mixedOrders = true) (hl : Nat.ble args.length N = true) (hkeep : ((names bx).all fun x => (names bx').contains x) = true) (hreal : (bx'.all fun p => p.2.real) = true) {rs : List ResultVar} (hrs : fn.results.toList = rs)
    (h : ∀ cx : Cx, cx.ref = names bx → ex P T N (names bx) rc cx c (initR args bx) (retKR T rs r bx')) : CallR P f args bx r bx' :=
  callR_of_aw hf hb hN hcall hT hl hkeep hreal hrs fun cx href => ex.sound hT hm href c (h cx href)

end
end Go.Ax

/- Loops, and conversions of contracts. -/
namespace Go.Ax
open Go.RowKit

theorem renC_nil : ∀ (cs : List CV), renCs [] cs = cs
  | [] => rfl
  | .d _ :: r => by simp [renCs, renC, renC_nil r]
  | .ptr _ _ :: r => by simp [renCs, renC, look, renC_nil r]
theorem renS_nil (x : SV) : renS [] x = x := by
  cases x with
  | clo f cs => simp [renS, renC_nil]
  | _ => rfl
theorem renSs_nil : ∀ (cs : List SV), renSs [] cs = cs
  | [] => rfl
  | x :: r => by simp [renSs, renS_nil, renSs_nil r]
theorem renTs_nil : ∀ (cs : List TV), renTs [] cs = cs
  | [] => rfl
  | .s x :: r => by simp [renTs, renT, renS_nil, renTs_nil r]
  | .g x :: r => by simp [renTs, renT, renSs_nil, renTs_nil r]
theorem renA_nil (x : AV) : renA [] x = x := by
  cases x with
  | s x => simp [renA, renS_nil]
  | g x => simp [renA, renSs_nil]
  | ib b x => simp [renA, renS_nil]
  | ig b x => simp [renA, renSs_nil]
  | t ts => simp [renA, renTs_nil]
theorem renB_nil (b : Box) : renB [] b = b := by
  cases b with
  | cells cs => simp [renB, renSs_nil]
  | row e n s f => rfl
  | mrow e n s f => rfl
  | map vk l => rfl
  | fresh T vs => rfl
  | iter m n seen => rfl
theorem inA.mono {M : Mem} {β β' : Nm} {xs : List Nat} (h : ∀ x, x ∈ xs → ∀ p, β x = some p → β' x = some p) {x : AV} {v : Value} (hi : inA xs x = true) (r : x.Rep M β v) : x.Rep M β' v :=
  renA.rep (ren := []) h hi (by rw [renA_nil]; exact r)
theorem inB.mono {M : Mem} {β β' : Nm} {xs : List Nat} (h : ∀ x, x ∈ xs → ∀ p, β x = some p → β' x = some p) {w : World} {x : Nat} {b : Box} (hx : x ∈ xs) (hi : inB xs b = true) (r : RepBox M β w x b) : RepBox M β' w x b :=
  renB.rep (ren := []) h hx hi (by rw [renB_nil]; exact r)

def bkeys : Boxes → List Nat
  | [] => []
  | (x, _) :: r => x :: bkeys r
theorem bkeys.has {x : Nat} : ∀ {l : Boxes}, x ∈ bkeys l → ∃ y, getB l x = some y
  | [], h => by cases h
  | (z, v) :: r, h => by
    rw [getB_cons]
    by_cases e : z = x
    · rw [if_pos e]; exact ⟨_, rfl⟩
    · rw [if_neg e]
      simp only [bkeys, List.mem_cons] at h
      exact bkeys.has (h.resolve_left fun h => e h.symm)

def envLe (src : List (Nat × AV)) (ks : List Nat) : List (Nat × AV) → Prop
  | [] => True
  | (t, v) :: r => (inA ks v = true ∧ getE src t = v) ∧ envLe src ks r
def boxLe (src : Boxes) (ks : List Nat) : Boxes → Prop
  | [] => True
  | (x, some b) :: r => (inB ks b = true ∧ getB src x = some (some b)) ∧ boxLe src ks r
  | (_, none) :: r => boxLe src ks r

theorem envLe.get {src : List (Nat × AV)} {ks : List Nat} {M : Mem} {β β' : Nm} (h : ∀ x, x ∈ ks → ∀ p, β x = some p → β' x = some p) : ∀ {tgt : List (Nat × AV)}, envLe src ks tgt → ∀ t v, (getE src t).Rep M β v → (getE tgt t).Rep M β' v
  | [], _, _, _, _ => trivial
  | (k, a) :: r, ⟨⟨h1, h2⟩, hr⟩, t, v, hv => by
    rw [getE_cons]
    by_cases e : k = t
    · rw [if_pos e]; subst e; rw [h2] at hv; exact inA.mono h h1 hv
    · rw [if_neg e]; exact envLe.get h hr t v hv
theorem boxLe.get {src : Boxes} {ks : List Nat} : ∀ {tgt : Boxes}, (∀ x, x ∈ bkeys tgt → x ∈ ks) → boxLe src ks tgt → ∀ x b, getB tgt x = some (some b) → x ∈ ks ∧ inB ks b = true ∧ getB src x = some (some b)
  | [], _, _, _, _, h => by cases h
  | (k, some c) :: r, hk, ⟨⟨h1, h2⟩, hr⟩, x, b, h => by
    rw [getB_cons] at h
    by_cases e : k = x
    · rw [if_pos e] at h; cases h; subst e; exact ⟨hk k (by simp [bkeys]), h1, h2⟩
    · rw [if_neg e] at h; exact boxLe.get (fun y hy => hk y (by simp [bkeys, hy])) hr x b h
  | (k, none) :: r, hk, hr, x, b, h => by
    rw [getB_cons] at h
    by_cases e : k = x
    · rw [if_pos e] at h; cases h
    · rw [if_neg e] at h; exact boxLe.get (tgt := r) (fun y hy => hk y (List.mem_cons_of_mem _ hy)) hr x b h

theorem Sub.of {cx : Cx} {σ σ' : St} (hr : (cx.ref.all fun x => (bkeys σ'.box).contains x) = true) (hb : boxLe σ.box (bkeys σ'.box) σ'.box) (he : envLe σ.env (bkeys σ'.box) σ'.env) : Sub cx σ σ' := by
  refine ⟨fun M β β' h t v hv => envLe.get (fun x hx p e => h x p e (bkeys.has hx)) he t v hv, fun M β β' w h x b e => ?_, fun x hx => ?_⟩
  · obtain ⟨h0, h1, h2⟩ := boxLe.get (fun _ h => h) hb x b e
    exact ⟨b, h2, inB.mono (fun x hx p e => h x p e (bkeys.has hx)) h0 h1⟩
  · rw [List.all_eq_true] at hr
    exact bkeys.has (by simpa using hr x hx)
theorem Sub.of0 {cx : Cx} {σ σ' : St} (h : cx.ref = []) (hb : boxLe σ.box (bkeys σ'.box) σ'.box) (he : envLe σ.env (bkeys σ'.box) σ'.env) : Sub cx σ σ' := Sub.of (by rw [h]; rfl) hb he

/-- What d means, e means. -/
def LeD (d e : DV) : Prop := ∀ M u, d.Rep M u → e.Rep M u
theorem LeD.refl (d : DV) : LeD d d := fun _ _ h => h
theorem LeD.of_eq {d e : DV} (h : d = e) : LeD d e := h ▸ LeD.refl d
theorem LeD.trans {a b c : DV} (h : LeD a b) (k : LeD b c) : LeD a c := fun M u r => k M u (h M u r)
theorem LeD.slc {n s : Nat} {f g : Nat → Nat → DV} (h : ∀ i j, i < n → j < s → LeD (f i j) (g i j)) : LeD (.slc n s f) (.slc n s g) := by
  rintro M u ⟨a, cap, e, hn, hc⟩
  refine ⟨a, cap, e, hn, hc.imp id ?_⟩
  rintro ⟨b, o, ea, hc⟩
  exact ⟨b, o, ea, fun i j hi hj => let ⟨u, hu, hr⟩ := hc i j hi hj; ⟨u, hu, h i j hi hj M u hr⟩⟩
theorem LeD.nil {s' : Nat} {f : Nat → Nat → DV} : LeD (.val (.slice none 0 0)) (.slc 0 s' f) := by
  intro M u r
  cases r
  exact ⟨none, 0, rfl, Nat.le_refl _, .inl rfl⟩
theorem LeD.empty {s s' : Nat} {f g : Nat → Nat → DV} : LeD (.slc 0 s f) (.slc 0 s' g) := by
  rintro M u ⟨a, cap, e, hn, hc⟩
  exact ⟨a, cap, e, hn, .inl rfl⟩
theorem LeD.rp {m : Nat} {f g : Nat → DV} (h : ∀ j, j < m → LeD (f j) (g j)) : LeD (.rp m f) (.rp m g) := by
  rintro M u ⟨b, o, e, hc⟩
  exact ⟨b, o, e, fun j hj => let ⟨u, hu, hr⟩ := hc j hj; ⟨u, hu, h j hj M u hr⟩⟩
theorem LeD.clo {f k : Nat} {c d : Nat → DV} (h : ∀ j, j < k → LeD (c j) (d j)) : LeD (.clo f k c) (.clo f k d) := by
  rintro M u ⟨cs, e, hk, hc⟩
  refine ⟨cs, e, hk, fun i u hu => h i ?_ M u (hc i u hu)⟩
  rw [← hk]
  exact (List.getElem?_eq_some_iff.1 hu).1

def LeS : SV → SV → Prop
  | .d x, .d y => LeD x y
  | _, _ => False
def LeSs : List SV → List SV → Prop
  | [], [] => True
  | x :: r, y :: s => LeS x y ∧ LeSs r s
  | _, _ => False
def LeA : AV → AV → Prop
  | .s x, .s y => LeS x y
  | .g x, .g y => LeSs x y
  | _, _ => False
def LeAs : List AV → List AV → Prop
  | [], [] => True
  | x :: r, y :: s => LeA x y ∧ LeAs r s
  | _, _ => False
def LeTs : List TV → List TV → Prop
  | [], [] => True
  | .s x :: r, .s y :: s => LeS x y ∧ LeTs r s
  | .g x :: r, .g y :: s => LeSs x y ∧ LeTs r s
  | _, _ => False
theorem LeS.rep {M : Mem} {β : Nm} {x y : SV} {v : Value} (h : LeS x y) (r : x.Rep M β v) : y.Rep M β v := by
  cases x <;> cases y <;> first | exact h M v r | exact h.elim
theorem LeSs.rep {M : Mem} {β : Nm} : ∀ {l m : List SV} {vs : List Value}, LeSs l m → RepL M β l vs → RepL M β m vs
  | [], [], [], _, _ => trivial
  | _ :: _, _ :: _, _ :: _, ⟨h, k⟩, ⟨a, r⟩ => ⟨h.rep a, LeSs.rep k r⟩
  | [], _ :: _, _, h, _ => h.elim
  | _ :: _, [], _, h, _ => h.elim
  | [], [], _ :: _, _, h => h.elim
  | _ :: _, _ :: _, [], _, h => h.elim
theorem LeA.rep {M : Mem} {β : Nm} {x y : AV} {v : Value} (h : LeA x y) (r : x.Rep M β v) : y.Rep M β v := by
  cases x <;> cases y <;> first | exact h.elim | skip
  · exact LeS.rep h r
  · obtain ⟨vs, e, hr⟩ := r; exact ⟨vs, e, LeSs.rep h hr⟩
theorem LeAs.rep {M : Mem} {β : Nm} : ∀ {l m : List AV} {vs : List Value}, LeAs l m → RepAs M β l vs → RepAs M β m vs
  | [], [], [], _, _ => trivial
  | _ :: _, _ :: _, _ :: _, ⟨h, k⟩, ⟨a, r⟩ => ⟨h.rep a, LeAs.rep k r⟩
  | [], _ :: _, _, h, _ => h.elim
  | _ :: _, [], _, h, _ => h.elim
  | [], [], _ :: _, _, h => h.elim
  | _ :: _, _ :: _, [], _, h => h.elim
theorem LeTs.rep {M : Mem} {β : Nm} : ∀ {l m : List TV} {vs : List Value}, LeTs l m → RepT M β l vs → RepT M β m vs
  | [], [], [], _, _ => trivial
  | .s _ :: _, .s _ :: _, _ :: _, ⟨h, k⟩, ⟨a, r⟩ => ⟨LeS.rep h a, LeTs.rep k r⟩
  | .g _ :: _, .g _ :: _, _ :: _, ⟨h, k⟩, ⟨⟨vs, e, a⟩, r⟩ => ⟨⟨vs, e, LeSs.rep h a⟩, LeTs.rep k r⟩
  | [], _ :: _, _, h, _ => h.elim
  | .s _ :: _, [], _, h, _ => h.elim
  | .g _ :: _, [], _, h, _ => h.elim
  | .s _ :: _, .g _ :: _, _, h, _ => h.elim
  | .g _ :: _, .s _ :: _, _, h, _ => h.elim
  | [], [], _ :: _, _, h => h.elim
  | .s _ :: _, .s _ :: _, [], _, h => h.elim
  | .g _ :: _, .g _ :: _, [], _, h => h.elim
theorem SubR.le {x y : AV} (h : LeA x y) : SubR x y := fun _ _ r => h.rep r
theorem SubR.t {x y : List TV} (h : LeTs x y) : SubR (.t x) (.t y) := by
  rintro M u ⟨vs, e, r⟩
  exact ⟨vs, e, h.rep r⟩
theorem SubR.trans {a b c : AV} (h : SubR a b) (k : SubR b c) : SubR a c := fun M u r => k M u (h M u r)

theorem CallP.conv {P : Program} {f : FuncId} {args args' : List AV} {r : AV} (h : CallP P f args r) (k : LeAs args' args) : CallP P f args' r :=
  ⟨h.1, fun M w vs hG hr hM => h.2 M w vs hG (k.rep hr) hM⟩
theorem CallP.res {P : Program} {f : FuncId} {args : List AV} {r r' : AV} (h : CallP P f args r) (k : SubR r r') : CallP P f args r' :=
  ⟨h.1, fun M w vs hG hr hM => Calls.mono (h.2 M w vs hG hr hM) fun _ _ ⟨v, M', e, hv, q⟩ => ⟨v, M', e, k M' v hv, q⟩⟩

end Go.Ax

/- From one abstract state to another, with other names for the boxes; loops over that. -/
namespace Go.Ax
open Go.RowKit

def SubI (cx : Cx) (N : Nat) (σ σ' : St) : Prop := ∀ M β a w, Inv cx N M β σ a w → ∃ β', Inv cx N M β' σ' a w
theorem SubI.of_sub {cx : Cx} {N : Nat} {σ σ' : St} (h : Sub cx σ σ') : SubI cx N σ σ' := fun _ _ _ _ i => i.sub h
theorem SubI.trans {cx : Cx} {N : Nat} {a b c : St} (h : SubI cx N a b) (k : SubI cx N b c) : SubI cx N a c := fun M β x w i => let ⟨β', i'⟩ := h M β x w i; k M β' x w i'

theorem AW.loopI {P : Program} {cx : Cx} {N : Nat} {σ : St} {K : Exit → St → Prop} {S : Type} {c : Code} (St0 : S → St) (J : S → Prop) (μ : S → Nat) (s0 : S) (hJ : J s0) (hs : SubI cx N σ (St0 s0))
    (body : ∀ s, J s → AW P cx N c (St0 s) (thenK (fun σ' => ∃ s', J s' ∧ μ s' < μ s ∧ SubI cx N σ' (St0 s')) K)) : AW P cx N (.loop c) σ K := by
  intro M β a w i
  obtain ⟨β1, i1⟩ := hs M β a w i
  intro b k cs hro hb hr
  have key : ∀ n s, μ s = n → J s → ∀ M β a w, Inv cx N M β (St0 s) a w →
      ∃ e a' w', (∃ σ' M' β', K e σ' ∧ Inv cx N M' β' σ' a' w' ∧ Grow cx.B M M' ∧ Keep cx w w') ∧ ArrivesIn (Machine.fenced P (FW cx.rd)) P (lone (b.atR a (.code c :: .inLoop c :: k)) cs w) b k cs e a' w' := by
    intro n
    induction n using Nat.strongRecOn with
    | _ n ih =>
      intro s hn hJ M β a w i
      obtain ⟨e, a₁, w₁, ⟨σ', M1, β1, hq, i1, hM, hk⟩, harr⟩ := body s hJ M β a w i b (.inLoop c :: k) cs hro hb hr
      cases e with
      | normal =>
        obtain ⟨s', hJ', hlt, hsub⟩ := hq
        obtain ⟨β2, i2⟩ := hsub M1 β1 a₁ w₁ i1
        obtain ⟨e₂, a₂, w₂, ⟨σ2, M2, β2, hq₂, i2, hM2, hk2⟩, harr₂⟩ := ih (μ s') (hn ▸ hlt) s' rfl hJ' M1 β2 a₁ w₁ i2
        exact ⟨e₂, a₂, w₂, ⟨σ2, M2, β2, hq₂, i2, hM.trans hM2, hk.trans hk2⟩, .of_steps (StepsIn.trans harr (.one (fenced_calm hb hr rfl) stepR_inLoop)) harr₂⟩
      | exit id => exact ⟨_, a₁, w₁, ⟨σ', M1, β1, hq, i1, hM, hk⟩, .pass (x := .inLoop c) rfl (fun _ _ => .inl (by simp)) harr⟩
      | goto l => exact ⟨_, a₁, w₁, ⟨σ', M1, β1, hq, i1, hM, hk⟩, .pass (x := .inLoop c) rfl (fun _ _ => .inl (by simp)) harr⟩
      | ret => exact ⟨_, a₁, w₁, ⟨σ', M1, β1, hq, i1, hM, hk⟩, .pass (x := .inLoop c) rfl (fun _ _ => .inl (by simp)) harr⟩
      | panic ch => exact ⟨_, a₁, w₁, ⟨σ', M1, β1, hq, i1, hM, hk⟩, .pass (x := .inLoop c) rfl (fun _ _ => .inl (by simp)) harr⟩
      | outgrown => exact ⟨_, a₁, w₁, ⟨σ', M1, β1, hq, i1, hM, hk⟩, .pass (x := .inLoop c) rfl (fun _ _ => .inl (by simp)) harr⟩
  obtain ⟨e, a', w', hq, harr⟩ := key _ s0 rfl hJ M β1 a w i1
  exact ⟨e, a', w', hq, .of_steps (.one (fenced_calm hb hr rfl) stepR_loop) harr⟩

/-- A condition, its ways by the judgement itself. -/
theorem AW.cond {P : Program} {cx : Cx} {N : Nat} {σ : St} {K : Exit → St → Prop} {c : Operand} {x y : Code} (h : exCond σ c (AW P cx N x σ K) (AW P cx N y σ K)) : AW P cx N (.cond c x y) σ K := by
  unfold exCond at h
  intro M β a w i
  split at h
  · rename_i b hv
    have hb : a.eval c = .bool b := by have := ev.rep i c; rw [hv] at this; exact this
    cases b with
    | true => exact wpIn_cond_true hb (h M β a w i)
    | false => exact wpIn_cond_false hb (h M β a w i)
  · rename_i b hv
    have hb : a.eval c = .bool b := by have := ev.rep i c; rw [hv] at this; exact this
    exact wpIn_cond_split hb (fun hb => h.1 hb M β a w i) (fun hb => h.2 hb M β a w i)
  · exact h.elim
theorem stepR_scope {P : Program} {b : Frame} {a : Act} {k : List Item} {cs : List Frame} {w : World} {c : Code} : step P (lone (b.atR a (.code (.scope c) :: k)) cs w) = .next (lone (b.atR a (.code c :: .inScope c :: k)) cs w) :=
  step_lone_go (by simp [stepG, stepG.exec, Frame.atR])
theorem stepR_inScope {P : Program} {b : Frame} {a : Act} {k : List Item} {cs : List Frame} {w : World} {c : Code} : step P (lone (b.atR a (.inScope c :: k)) cs w) = .next (lone (b.atR a k) cs w) :=
  step_lone_go (by simp [stepG, stepG.exec, Frame.atR])
theorem wpIn_scope {P : Program} {F : Fence} {n : Nat} {Q : Exit → Act → World → Prop} {a : Act} {w : World} {c : Code} (h : c.wpIn F n P (Exit.noGoto Q) a w) : (Code.scope c).wpIn F n P Q a w := by
  intro b k cs hro hb hr
  have h0 : (lone (b.atR a (.code (.scope c) :: k)) cs w).fenced P F := fenced_calm hb hr rfl
  obtain ⟨e, a₁, w₁, hq, harr⟩ := h b (.inScope c :: k) cs hro hb hr
  cases e with
  | normal => exact ⟨.normal, a₁, w₁, hq, .head h0 stepR_scope (StepsIn.trans harr (.one (fenced_calm hb hr rfl) stepR_inScope))⟩
  | exit id =>
    refine ⟨.exit id, a₁, w₁, hq, .of_steps (.one h0 stepR_scope) ⟨fun k' hk => harr.1 k' (by simp [exitTo, hk]), fun hr' hk => harr.2 hr' (by simp [exitTo, hk])⟩⟩
  | goto l => exact hq.elim
  | ret => exact ⟨_, a₁, w₁, hq, .of_steps (.one h0 stepR_scope) harr⟩
  | panic ch => exact ⟨_, a₁, w₁, hq, .of_steps (.one h0 stepR_scope) harr⟩
  | outgrown => exact ⟨_, a₁, w₁, hq, .of_steps (.one h0 stepR_scope) harr⟩
def noGotoK (K : Exit → St → Prop) : Exit → St → Prop
  | .goto _, _ => False
  | e, s => K e s
/-- A scope whose labels nothing jumps to. -/
theorem AW.scope {P : Program} {cx : Cx} {N : Nat} {σ : St} {K : Exit → St → Prop} {c : Code} (h : AW P cx N c σ (noGotoK K)) : AW P cx N (.scope c) σ K := by
  intro M β a w i
  refine wpIn_scope (wpIn_mono (h M β a w i) ?_)
  rintro e a' w' ⟨s, M', β', k, r⟩
  cases e with
  | goto l => exact k.elim
  | _ => exact ⟨s, M', β', k, r⟩
theorem AW.label {P : Program} {cx : Cx} {N : Nat} {σ : St} {K : Exit → St → Prop} {l : Nat} (h : K .normal σ) : AW P cx N (.label l) σ K := fun M β _ _ i => wpIn_label ⟨σ, M, β, h, i, Grow.refl _ _, Keep.refl _ _⟩
theorem AW.subI {P : Program} {cx : Cx} {N : Nat} {σ σ' : St} {K : Exit → St → Prop} {c : Code} (h : SubI cx N σ σ') (k : AW P cx N c σ' K) : AW P cx N c σ K := by
  intro M β a w i
  obtain ⟨β', i'⟩ := h M β a w i
  exact k M β' a w i'
/-- Cut a sequence: the first part ends normally in a state that implies another one. -/
theorem AW.cut {P : Program} {cx : Cx} {N : Nat} {σ σ' : St} {K : Exit → St → Prop} {x y : Code} (h : AW P cx N x σ fun e s => e = .normal ∧ SubI cx N s σ') (k : AW P cx N y σ' K) : AW P cx N (.seq x y) σ K := AW.seq (AW.mono h fun _ _ ⟨he, hs⟩ => by subst he; exact AW.subI hs k)

/-- What x means, y means. -/
def LeQ (x y : AV) : Prop := ∀ M β v, x.Rep M β v → y.Rep M β v
theorem LeQ.rfl {x : AV} : LeQ x x := fun _ _ _ h => h
theorem LeQ.of_eq {x y : AV} (h : x = y) : LeQ x y := h ▸ LeQ.rfl
theorem LeQ.le {x y : AV} (h : LeA x y) : LeQ x y := fun _ _ _ r => h.rep r
theorem LeQ.mo {x : Nat} {z : Bool} (h : z = false) : LeQ (.s (.own x)) (.s (.mo z x)) := by subst h; exact fun M β v r => ⟨fun h => (by cases h), fun _ => r⟩
theorem LeQ.nil {x : Nat} {z : Bool} (h : z = true) : LeQ (.s (.d (.val (.slice none 0 0)))) (.s (.mo z x)) := by subst h; exact fun M β v r => ⟨fun _ => r, fun h => (by cases h)⟩
theorem LeQ.mm {x : Nat} {z z' : Bool} (h : z = z') : LeQ (.s (.mo z x)) (.s (.mo z' x)) := h ▸ LeQ.rfl
theorem LeQ.d {x y : DV} (h : LeD x y) : LeQ (.s (.d x)) (.s (.d y)) := fun M _ v r => h M v r
def LeBx (b b' : Box) : Prop := ∀ M β w x, RepBox M β w x b → RepBox M β w x b'
theorem LeBx.rfl {b : Box} : LeBx b b := fun _ _ _ _ h => h
theorem LeBx.of_eq {x y : Box} (h : x = y) : LeBx x y := h ▸ LeBx.rfl
theorem LeBx.row {e n n' s : Nat} {f g : Nat → Nat → DV} (h : n = n') (hf : ∀ i j, i < n → j < s → LeD (f i j) (g i j)) : LeBx (.row e n s f) (.row e n' s g) := by
  subst h
  rintro M β w x ⟨b, c, cur, e1, h1, h2, h3, h4, h5, h6⟩
  exact ⟨b, c, cur, e1, h1, h2, h3, h4, h5, fun i j hi hj => let ⟨u, hu, hr⟩ := h6 i j hi hj; ⟨u, hu, hf i j hi hj M u hr⟩⟩
theorem LeBx.mrow {e n n' s : Nat} {f g : Nat → Nat → DV} (h : n = n') (hf : ∀ i j, i < n → j < s → LeD (f i j) (g i j)) : LeBx (.row e n s f) (.mrow e n' s g) := by
  subst h
  rintro M β w x ⟨b, c, cur, e1, h1, h2, h3, h4, h5, h6⟩ b' c' e2
  rw [e1] at e2; cases e2
  exact ⟨cur, h1, h2, h3, h4, h5, fun i j hi hj => let ⟨u, hu, hr⟩ := h6 i j hi hj; ⟨u, hu, hf i j hi hj M u hr⟩⟩
theorem LeBx.mrow' {e n n' s : Nat} {f g : Nat → Nat → DV} (h : n = n') (hf : ∀ i j, i < n → j < s → LeD (f i j) (g i j)) : LeBx (.mrow e n s f) (.mrow e n' s g) := by
  subst h
  intro M β w x hr b c e1
  obtain ⟨cur, h1, h2, h3, h4, h5, h6⟩ := hr b c e1
  exact ⟨cur, h1, h2, h3, h4, h5, fun i j hi hj => let ⟨u, hu, hr⟩ := h6 i j hi hj; ⟨u, hu, hf i j hi hj M u hr⟩⟩
def LeQs : List SV → List SV → Prop
  | [], [] => True
  | x :: r, y :: s => LeQ (.s x) (.s y) ∧ LeQs r s
  | _, _ => False
theorem LeQs.rep {M : Mem} {β : Nm} : ∀ {l m : List SV} {vs : List Value}, LeQs l m → RepL M β l vs → RepL M β m vs
  | [], [], [], _, _ => trivial
  | _ :: _, _ :: _, _ :: _, ⟨h, k⟩, ⟨a, r⟩ => ⟨h M β _ a, LeQs.rep k r⟩
  | [], _ :: _, _, h, _ => h.elim
  | _ :: _, [], _, h, _ => h.elim
  | [], [], _ :: _, _, h => h.elim
  | _ :: _, _ :: _, [], _, h => h.elim
theorem LeBx.cells {l m : List SV} (h : LeQs l m) : LeBx (.cells l) (.cells m) := by
  rintro M β w x ⟨b, c, vs, T, e1, h1, h2⟩
  exact ⟨b, c, vs, T, e1, h1, h.rep h2⟩

def inB1 (xs : List Nat) : Box → Bool
  | .cells cs => inSs xs cs
  | .iter m _ _ => xs.contains m
  | _ => true
def envQ (ren : List (Nat × Nat)) (src : List (Nat × AV)) (ks : List Nat) : List (Nat × AV) → Prop
  | [] => True
  | (t, v) :: r => (inA ks v = true ∧ LeQ (getE src t) (renA ren v)) ∧ envQ ren src ks r
def boxQ1 (ren : List (Nat × Nat)) (b : Box) : Option (Option Box) → Prop
  | some (some b0) => LeBx b0 (renB ren b)
  | some none => False
  | none => b.real = false
def boxQ (ren : List (Nat × Nat)) (src : Boxes) (ks : List Nat) : Boxes → Prop
  | [] => True
  | (x, some b) :: r => (inB1 ks b = true ∧ boxQ1 ren b (getB src (look ren x))) ∧ boxQ ren src ks r
  | (_, none) :: r => boxQ ren src ks r

theorem envQ.get {ren : List (Nat × Nat)} {src : List (Nat × AV)} {ks : List Nat} {M : Mem} {β β' : Nm} (h : ∀ x, x ∈ ks → ∀ p, β (look ren x) = some p → β' x = some p) : ∀ {tgt : List (Nat × AV)}, envQ ren src ks tgt → ∀ t v, (getE src t).Rep M β v → (getE tgt t).Rep M β' v
  | [], _, _, _, _ => trivial
  | (k, a) :: r, ⟨⟨h1, h2⟩, hr⟩, t, v, hv => by
    rw [getE_cons]
    by_cases e : k = t
    · rw [if_pos e]; subst e; exact renA.rep h h1 (h2 M β v hv)
    · rw [if_neg e]; exact envQ.get h hr t v hv
theorem boxQ.get {ren : List (Nat × Nat)} {src : Boxes} {ks : List Nat} : ∀ {tgt : Boxes}, (∀ x, x ∈ bkeys tgt → x ∈ ks) → boxQ ren src ks tgt → ∀ x b, getB tgt x = some (some b) → x ∈ ks ∧ inB1 ks b = true ∧ boxQ1 ren b (getB src (look ren x))
  | [], _, _, _, _, h => by cases h
  | (k, some c) :: r, hk, ⟨⟨h1, h2⟩, hr⟩, x, b, h => by
    rw [getB_cons] at h
    by_cases e : k = x
    · rw [if_pos e] at h; cases h; subst e; exact ⟨hk k (by simp [bkeys]), h1, h2⟩
    · rw [if_neg e] at h; exact boxQ.get (fun y hy => hk y (by simp [bkeys, hy])) hr x b h
  | (k, none) :: r, hk, hr, x, b, h => by
    rw [getB_cons] at h
    by_cases e : k = x
    · rw [if_pos e] at h; cases h
    · rw [if_neg e] at h; exact boxQ.get (tgt := r) (fun y hy => hk y (List.mem_cons_of_mem _ hy)) hr x b h

theorem SubI.of {cx : Cx} {N : Nat} {σ σ' : St} (ren : List (Nat × Nat)) (hr : (cx.ref.all fun x => (bkeys σ'.box).contains x && Nat.beq (look ren x) x) = true) (hi : injL ren (bkeys σ'.box) = true)
    (hb : boxQ ren σ.box (bkeys σ'.box) σ'.box) (he : envQ ren σ.env (bkeys σ'.box) σ'.env) : SubI cx N σ σ' := by
  classical
  intro M β a w i
  let ks := bkeys σ'.box
  let β' : Nm := fun x => if x ∈ ks then β (look ren x) else none
  have hin : ∀ x, x ∈ ks → β' x = β (look ren x) := fun x hx => by simp [β', hx]
  have hβ : ∀ x p, β' x = some p → x ∈ ks ∧ β (look ren x) = some p := fun x p h => by
    simp only [β'] at h
    split at h
    · exact ⟨by assumption, h⟩
    · cases h
  have hup : ∀ x, x ∈ ks → ∀ p, β (look ren x) = some p → β' x = some p := fun x hx p e => by rw [hin x hx]; exact e
  have hinj : ∀ x y, x ∈ ks → y ∈ ks → look ren x = look ren y → x = y := by
    intro x y hx hy e
    simp only [injL, List.all_eq_true] at hi
    have := hi x hx y hy
    simp only [Bool.or_eq_true] at this
    rcases this with h | h
    · exact Nat.eq_of_beq_eq_true h
    · rw [e] at h; simp at h
  have live : ∀ x b k c, getB σ'.box x = some (some b) → β' x = some (k, c) → x ∈ ks ∧ ∃ b0, getB σ.box (look ren x) = some (some b0) ∧ β (look ren x) = some (k, c) := by
    intro x b k c h e
    obtain ⟨h1, h2, h3⟩ := boxQ.get (fun _ h => h) hb x b h
    have e := (hβ x _ e).2
    obtain ⟨y, hy⟩ := i.keys _ _ e
    rw [hy] at h3
    cases y with
    | none => exact h3.elim
    | some b0 => exact ⟨h1, b0, hy, e⟩
  refine ⟨β', i.defers, i.tmps, i.heap, fun t => envQ.get hup he t _ (i.env t), i.mem, ?_, ?_, ?_, ?_, ?_, ?_⟩
  · intro x p e
    exact bkeys.has (hβ x p e).1
  · intro x b h
    obtain ⟨h1, h2, h3⟩ := boxQ.get (fun _ h => h) hb x b h
    cases hs : getB σ.box (look ren x) with
    | none =>
      rw [hs] at h3
      have hn : β' x = none := by
        rw [hin x h1]
        cases hb0 : β (look ren x) with
        | none => rfl
        | some p => obtain ⟨y, hy⟩ := i.keys _ _ hb0; rw [hs] at hy; cases hy
      cases b with
      | mrow e n s f => intro k c e; rw [hn] at e; cases e
      | _ => cases h3
    | some y =>
      cases y with
      | none => rw [hs] at h3; exact h3.elim
      | some b0 =>
        rw [hs] at h3
        have hrep := h3 M β w (look ren x) (i.box _ _ hs)
        cases b with
        | cells cs => exact renB.rep hup h1 h2 hrep
        | row e n s f => exact renB.rep hup h1 rfl hrep
        | mrow e n s f => intro k c e; rw [hin x h1] at e; exact hrep k c e
        | map vk l => exact renB.rep hup h1 rfl hrep
        | fresh T vs => exact renB.rep hup h1 rfl hrep
        | iter m n seen => exact renB.rep hup h1 h2 hrep
  · intro x y bx bby b c c' ex ey hx hy
    obtain ⟨kx, b0, g0, e0⟩ := live x bx b c ex hx
    obtain ⟨ky, b1, g1, e1⟩ := live y bby b c' ey hy
    exact hinj x y kx ky (i.inj _ _ b0 b1 b c c' g0 g1 e0 e1)
  · intro x bx b c ex hx
    obtain ⟨kx, b0, g0, e0⟩ := live x bx b c ex hx
    exact i.apart _ b0 b c g0 e0
  · intro x bx b c ex hx
    obtain ⟨kx, b0, g0, e0⟩ := live x bx b c ex hx
    exact i.low _ b0 b c g0 e0
  · intro x hx
    rw [List.all_eq_true] at hr
    have := hr x hx
    simp only [Bool.and_eq_true] at this
    have h1 : x ∈ ks := by simpa using this.1
    have h2 := Nat.eq_of_beq_eq_true this.2
    rw [hin x h1, h2]
    exact i.ref x hx
theorem SubI.of0 {cx : Cx} {N : Nat} {σ σ' : St} (h : cx.ref = []) (ren : List (Nat × Nat)) (hi : injL ren (bkeys σ'.box) = true) (hb : boxQ ren σ.box (bkeys σ'.box) σ'.box) (he : envQ ren σ.env (bkeys σ'.box) σ'.env) : SubI cx N σ σ' :=
  SubI.of ren (by rw [h]; rfl) hi hb he
/-- The same, with a state that depends on what the first part found. -/
theorem AW.cutE {P : Program} {cx : Cx} {N : Nat} {σ : St} {K : Exit → St → Prop} {x y : Code} {S : Type} (St0 : S → St) (J : S → Prop) (h : AW P cx N x σ fun e s => e = .normal ∧ ∃ q, J q ∧ SubI cx N s (St0 q)) (k : ∀ q, J q → AW P cx N y (St0 q) K) : AW P cx N (.seq x y) σ K :=
  AW.seq (AW.mono h fun _ _ ⟨he, q, hq, hs⟩ => by subst he; exact AW.subI hs (k q hq))
theorem LeQ.toNil {x : Nat} {z : Bool} (h : z = true) : LeQ (.s (.mo z x)) (.s (.d (.val (.slice none 0 0)))) := fun _ _ _ r => r.1 h
/-- A row of one's own is also a view of it. -/
theorem SubI.osl {cx : Cx} {N : Nat} {σ : St} {e n s : Nat} {f : Nat → Nat → DV} {z : Bool} (t x : Nat) (ht : getE σ.env t = .s (.mo z x)) (hz : z = false) (hb : getB σ.box x = some (some (.mrow e n s f))) :
    SubI cx N σ ⟨(t, .s (.osl x s 0 n)) :: σ.env, (x, some (.row e n s f)) :: σ.box⟩ := by
  intro M β a w i
  have r := i.env t
  rw [ht] at r
  obtain ⟨b, c, hx, hv, hc⟩ := r.2 hz
  obtain ⟨cur, h1, h2, h3, h4, h5, h6⟩ := i.box x _ hb b c hx
  have live : ∀ y bc, getB ((x, some (.row e n s f)) :: σ.box) y = some (some bc) → ∃ bc, getB σ.box y = some (some bc) := by
    intro y bc h
    rw [getB_cons] at h
    by_cases hy : x = y
    · subst hy; exact ⟨_, hb⟩
    · rw [if_neg hy] at h; exact ⟨_, h⟩
  refine ⟨β, i.defers, i.tmps, i.heap, ?_, i.mem, ?_, ?_, ?_, ?_, ?_, i.ref⟩
  · intro u
    show (getE ((t, _) :: σ.env) u).Rep M β _
    rw [getE_cons]
    by_cases hu : t = u
    · subst hu
      rw [if_pos rfl]
      exact ⟨b, c, 0, hx, by rw [hv, h2]; rfl, fun _ => (Nat.zero_mul s).symm, by omega, hc⟩
    · rw [if_neg hu]; exact i.env u
  · intro y p h
    obtain ⟨z, hz⟩ := i.keys y p h
    show ∃ y', getB ((x, _) :: σ.box) y = some y'
    rw [getB_cons]
    by_cases hy : x = y
    · rw [if_pos hy]; exact ⟨_, rfl⟩
    · rw [if_neg hy]; exact ⟨z, hz⟩
  · intro y bc h
    have h : getB ((x, some (.row e n s f)) :: σ.box) y = some (some bc) := h
    rw [getB_cons] at h
    by_cases hy : x = y
    · subst hy
      rw [if_pos rfl] at h
      cases h
      exact ⟨b, c, cur, hx, h1, h2, h3, h4, h5, h6⟩
    · rw [if_neg hy] at h; exact i.box y bc h
  · intro y y' bx bx' b1 c1 c2 e1 e2 g1 g2
    obtain ⟨_, e1⟩ := live _ _ e1
    obtain ⟨_, e2⟩ := live _ _ e2
    exact i.inj y y' _ _ b1 c1 c2 e1 e2 g1 g2
  · intro y bx b1 c1 e1 g1
    obtain ⟨_, e1⟩ := live _ _ e1
    exact i.apart y _ b1 c1 e1 g1
  · intro y bx b1 c1 e1 g1
    obtain ⟨_, e1⟩ := live _ _ e1
    exact i.low y _ b1 c1 e1 g1
theorem SubI.own {cx : Cx} {N : Nat} {σ : St} {e n s : Nat} {f : Nat → Nat → DV} {z : Bool} (t x : Nat) (ht : getE σ.env t = .s (.mo z x)) (hz : z = false) (hb : getB σ.box x = some (some (.mrow e n s f))) :
    SubI cx N σ ⟨(t, .s (.own x)) :: σ.env, (x, some (.row e n s f)) :: σ.box⟩ := by
  intro M β a w i
  have r := i.env t
  rw [ht] at r
  obtain ⟨b, c, hx, hv, hc⟩ := r.2 hz
  obtain ⟨cur, h1, h2, h3, h4, h5, h6⟩ := i.box x _ hb b c hx
  have live : ∀ y bc, getB ((x, some (.row e n s f)) :: σ.box) y = some (some bc) → ∃ bc, getB σ.box y = some (some bc) := by
    intro y bc h
    rw [getB_cons] at h
    by_cases hy : x = y
    · subst hy; exact ⟨_, hb⟩
    · rw [if_neg hy] at h; exact ⟨_, h⟩
  refine ⟨β, i.defers, i.tmps, i.heap, ?_, i.mem, ?_, ?_, ?_, ?_, ?_, i.ref⟩
  · intro u
    show (getE ((t, _) :: σ.env) u).Rep M β _
    rw [getE_cons]
    by_cases hu : t = u
    · subst hu
      rw [if_pos rfl]
      exact ⟨b, c, hx, hv, hc⟩
    · rw [if_neg hu]; exact i.env u
  · intro y p h
    obtain ⟨z, hz⟩ := i.keys y p h
    show ∃ y', getB ((x, _) :: σ.box) y = some y'
    rw [getB_cons]
    by_cases hy : x = y
    · rw [if_pos hy]; exact ⟨_, rfl⟩
    · rw [if_neg hy]; exact ⟨z, hz⟩
  · intro y bc h
    have h : getB ((x, some (.row e n s f)) :: σ.box) y = some (some bc) := h
    rw [getB_cons] at h
    by_cases hy : x = y
    · subst hy
      rw [if_pos rfl] at h
      cases h
      exact ⟨b, c, cur, hx, h1, h2, h3, h4, h5, h6⟩
    · rw [if_neg hy] at h; exact i.box y bc h
  · intro y y' bx bx' b1 c1 c2 e1 e2 g1 g2
    obtain ⟨_, e1⟩ := live _ _ e1
    obtain ⟨_, e2⟩ := live _ _ e2
    exact i.inj y y' _ _ b1 c1 c2 e1 e2 g1 g2
  · intro y bx b1 c1 e1 g1
    obtain ⟨_, e1⟩ := live _ _ e1
    exact i.apart y _ b1 c1 e1 g1
  · intro y bx b1 c1 e1 g1
    obtain ⟨_, e1⟩ := live _ _ e1
    exact i.low y _ b1 c1 e1 g1
end Go.Ax

/- From one abstract state to another: own rows that nobody writes any more become data. -/
namespace Go.Ax
open Go.RowKit

def SubM (cx : Cx) (N : Nat) (σ σ' : St) : Prop := ∀ M β a w, Inv cx N M β σ a w → ∃ M' β', Inv cx N M' β' σ' a w ∧ Grow cx.B M M'
theorem SubM.of_subI {cx : Cx} {N : Nat} {σ σ' : St} (h : SubI cx N σ σ') : SubM cx N σ σ' := fun M β a w i => let ⟨β', i'⟩ := h M β a w i; ⟨M, β', i', Grow.refl _ _⟩
theorem AW.subM {P : Program} {cx : Cx} {N : Nat} {σ σ' : St} {K : Exit → St → Prop} {c : Code} (h : SubM cx N σ σ') (k : AW P cx N c σ' K) : AW P cx N c σ K := by
  intro M β a w i
  obtain ⟨M', β', i', g⟩ := h M β a w i
  exact wpIn_mono (k M' β' a w i') fun _ _ _ ⟨s, M2, β2, hk, i2, g2, kp⟩ => ⟨s, M2, β2, hk, i2, g.trans g2, kp⟩
theorem AW.loopM {P : Program} {cx : Cx} {N : Nat} {σ : St} {K : Exit → St → Prop} {S : Type} {c : Code} (St0 : S → St) (J : S → Prop) (μ : S → Nat) (s0 : S) (hJ : J s0) (hs : SubM cx N σ (St0 s0))
    (body : ∀ s, J s → AW P cx N c (St0 s) (thenK (fun σ' => ∃ s', J s' ∧ μ s' < μ s ∧ SubM cx N σ' (St0 s')) K)) : AW P cx N (.loop c) σ K := by
  refine AW.subM hs ?_
  intro M β a w i b k cs hro hb hr
  have key : ∀ n s, μ s = n → J s → ∀ M β a w, Inv cx N M β (St0 s) a w →
      ∃ e a' w', (∃ σ' M' β', K e σ' ∧ Inv cx N M' β' σ' a' w' ∧ Grow cx.B M M' ∧ Keep cx w w') ∧ ArrivesIn (Machine.fenced P (FW cx.rd)) P (lone (b.atR a (.code c :: .inLoop c :: k)) cs w) b k cs e a' w' := by
    intro n
    induction n using Nat.strongRecOn with
    | _ n ih =>
      intro s hn hJ M β a w i
      obtain ⟨e, a₁, w₁, ⟨σ', M1, β1, hq, i1, hM, hk⟩, harr⟩ := body s hJ M β a w i b (.inLoop c :: k) cs hro hb hr
      cases e with
      | normal =>
        obtain ⟨s', hJ', hlt, hsub⟩ := hq
        obtain ⟨M2, β2, i2, hg⟩ := hsub M1 β1 a₁ w₁ i1
        obtain ⟨e₂, a₂, w₂, ⟨σ2, M3, β3, hq₂, i3, hM2, hk2⟩, harr₂⟩ := ih (μ s') (hn ▸ hlt) s' rfl hJ' M2 β2 a₁ w₁ i2
        exact ⟨e₂, a₂, w₂, ⟨σ2, M3, β3, hq₂, i3, (hM.trans hg).trans hM2, hk.trans hk2⟩, .of_steps (StepsIn.trans harr (.one (fenced_calm hb hr rfl) stepR_inLoop)) harr₂⟩
      | exit id => exact ⟨_, a₁, w₁, ⟨σ', M1, β1, hq, i1, hM, hk⟩, .pass (x := .inLoop c) rfl (fun _ _ => .inl (by simp)) harr⟩
      | goto l => exact ⟨_, a₁, w₁, ⟨σ', M1, β1, hq, i1, hM, hk⟩, .pass (x := .inLoop c) rfl (fun _ _ => .inl (by simp)) harr⟩
      | ret => exact ⟨_, a₁, w₁, ⟨σ', M1, β1, hq, i1, hM, hk⟩, .pass (x := .inLoop c) rfl (fun _ _ => .inl (by simp)) harr⟩
      | panic ch => exact ⟨_, a₁, w₁, ⟨σ', M1, β1, hq, i1, hM, hk⟩, .pass (x := .inLoop c) rfl (fun _ _ => .inl (by simp)) harr⟩
      | outgrown => exact ⟨_, a₁, w₁, ⟨σ', M1, β1, hq, i1, hM, hk⟩, .pass (x := .inLoop c) rfl (fun _ _ => .inl (by simp)) harr⟩
  obtain ⟨e, a', w', hq, harr⟩ := key _ s0 rfl hJ M β a w i
  exact ⟨e, a', w', hq, .of_steps (.one (fenced_calm hb hr rfl) stepR_loop) harr⟩

/-- The rows fz are data. -/
def Fz (box : Boxes) (fz : List Nat) (M : Mem) (β : Nm) : Prop := ∀ x, x ∈ fz → ∀ e n s f, getB box x = some (some (.row e n s f)) → ∀ v, (SV.own x).Rep M β v → (DV.slc n s f).Rep M v
def LeQf (box : Boxes) (fz : List Nat) (x y : AV) : Prop := ∀ M β v, Fz box fz M β → x.Rep M β v → y.Rep M β v
theorem LeQf.of {box : Boxes} {fz : List Nat} {x y : AV} (h : LeQ x y) : LeQf box fz x y := fun M β v _ r => h M β v r
theorem LeQf.rfl {box : Boxes} {fz : List Nat} {x : AV} : LeQf box fz x x := fun _ _ _ _ r => r
theorem LeQf.then {box : Boxes} {fz : List Nat} {x y z : AV} (h : LeQf box fz x y) (k : LeQ y z) : LeQf box fz x z := fun M β v f r => k M β v (h M β v f r)
theorem LeQf.own {box : Boxes} {fz : List Nat} {x e n s : Nat} {f : Nat → Nat → DV} (hx : x ∈ fz) (hb : getB box x = some (some (.row e n s f))) : LeQf box fz (.s (.own x)) (.s (.d (.slc n s f))) :=
  fun _ _ v hf r => hf x hx e n s f hb v r
def LeQsf (box : Boxes) (fz : List Nat) : List SV → List SV → Prop
  | [], [] => True
  | x :: r, y :: s => LeQf box fz (.s x) (.s y) ∧ LeQsf box fz r s
  | _, _ => False
theorem LeQsf.rep {box : Boxes} {fz : List Nat} {M : Mem} {β : Nm} (hf : Fz box fz M β) : ∀ {l m : List SV} {vs : List Value}, LeQsf box fz l m → RepL M β l vs → RepL M β m vs
  | [], [], [], _, _ => trivial
  | _ :: _, _ :: _, _ :: _, ⟨h, k⟩, ⟨a, r⟩ => ⟨h M β _ hf a, LeQsf.rep hf k r⟩
  | [], _ :: _, _, h, _ => h.elim
  | _ :: _, [], _, h, _ => h.elim
  | [], [], _ :: _, _, h => h.elim
  | _ :: _, _ :: _, [], _, h => h.elim
theorem LeQf.g {box : Boxes} {fz : List Nat} {l m : List SV} (h : LeQsf box fz l m) : LeQf box fz (.g l) (.g m) := fun _ _ _ hf ⟨vs, e, r⟩ => ⟨vs, e, h.rep hf r⟩
def LeBxf (box : Boxes) (fz : List Nat) (b b' : Box) : Prop := ∀ M β w x, Fz box fz M β → RepBox M β w x b → RepBox M β w x b'
theorem LeBxf.rfl {box : Boxes} {fz : List Nat} {b : Box} : LeBxf box fz b b := fun _ _ _ _ _ h => h
theorem LeBxf.of {box : Boxes} {fz : List Nat} {b b' : Box} (h : LeBx b b') : LeBxf box fz b b' := fun M β w x _ r => h M β w x r
theorem LeBxf.cells {box : Boxes} {fz : List Nat} {l m : List SV} (h : LeQsf box fz l m) : LeBxf box fz (.cells l) (.cells m) := by
  rintro M β w x hf ⟨b, c, vs, T, e1, h1, h2⟩
  exact ⟨b, c, vs, T, e1, h1, h.rep hf h2⟩

def envQf (ren : List (Nat × Nat)) (fz : List Nat) (box : Boxes) (src : List (Nat × AV)) (ks : List Nat) : List (Nat × AV) → Prop
  | [] => True
  | (t, v) :: r => (inA ks v = true ∧ LeQf box fz (getE src t) (renA ren v)) ∧ envQf ren fz box src ks r
def boxQf1 (ren : List (Nat × Nat)) (fz : List Nat) (box : Boxes) (b : Box) : Option (Option Box) → Prop
  | some (some b0) => LeBxf box fz b0 (renB ren b)
  | some none => False
  | none => b.real = false
def boxQf (ren : List (Nat × Nat)) (fz : List Nat) (src : Boxes) (ks : List Nat) : Boxes → Prop
  | [] => True
  | (x, some b) :: r => (inB1 ks b = true ∧ boxQf1 ren fz src b (getB src (look ren x))) ∧ boxQf ren fz src ks r
  | (_, none) :: r => boxQf ren fz src ks r
theorem envQf.get {ren : List (Nat × Nat)} {fz : List Nat} {box : Boxes} {src : List (Nat × AV)} {ks : List Nat} {M : Mem} {β β' : Nm} (hf : Fz box fz M β) (h : ∀ x, x ∈ ks → ∀ p, β (look ren x) = some p → β' x = some p) : ∀ {tgt : List (Nat × AV)}, envQf ren fz box src ks tgt → ∀ t v, (getE src t).Rep M β v → (getE tgt t).Rep M β' v
  | [], _, _, _, _ => trivial
  | (k, a) :: r, ⟨⟨h1, h2⟩, hr⟩, t, v, hv => by
    rw [getE_cons]
    by_cases e : k = t
    · rw [if_pos e]; subst e; exact renA.rep h h1 (h2 M β v hf hv)
    · rw [if_neg e]; exact envQf.get hf h hr t v hv
theorem boxQf.get {ren : List (Nat × Nat)} {fz : List Nat} {src : Boxes} {ks : List Nat} : ∀ {tgt : Boxes}, (∀ x, x ∈ bkeys tgt → x ∈ ks) → boxQf ren fz src ks tgt → ∀ x b, getB tgt x = some (some b) → x ∈ ks ∧ inB1 ks b = true ∧ boxQf1 ren fz src b (getB src (look ren x))
  | [], _, _, _, _, h => by cases h
  | (k, some c) :: r, hk, ⟨⟨h1, h2⟩, hr⟩, x, b, h => by
    rw [getB_cons] at h
    by_cases e : k = x
    · rw [if_pos e] at h; cases h; subst e; exact ⟨hk k (by simp [bkeys]), h1, h2⟩
    · rw [if_neg e] at h; exact boxQf.get (fun y hy => hk y (by simp [bkeys, hy])) hr x b h
  | (k, none) :: r, hk, hr, x, b, h => by
    rw [getB_cons] at h
    by_cases e : k = x
    · rw [if_pos e] at h; cases h
    · rw [if_neg e] at h; exact boxQf.get (tgt := r) (fun y hy => hk y (List.mem_cons_of_mem _ hy)) hr x b h

def isRow : Option (Option Box) → Bool
  | some (some (.row _ _ _ _)) => true
  | _ => false
theorem SubM.of {cx : Cx} {N : Nat} {σ σ' : St} (href : cx.ref = []) (ren : List (Nat × Nat)) (fz : List Nat) (hi : injL ren (bkeys σ'.box) = true) (hz : (fz.all fun x => isRow (getB σ.box x)) = true) (hd : ((bkeys σ'.box).all fun x => !fz.contains (look ren x)) = true)
    (hb : boxQf ren fz σ.box (bkeys σ'.box) σ'.box) (he : envQf ren fz σ.box σ.env (bkeys σ'.box) σ'.env) : SubM cx N σ σ' := by
  classical
  intro M β a w i
  let ks := bkeys σ'.box
  let isZ : Nat → Prop := fun b => ∃ x c, x ∈ fz ∧ β x = some (b, c)
  let M' : Mem := fun b o => if isZ b then w.cell? ⟨b, o, none⟩ else M b o
  have hlive : ∀ x, x ∈ fz → ∃ e n s f, getB σ.box x = some (some (.row e n s f)) := by
    intro x hx
    rw [List.all_eq_true] at hz
    have := hz x hx
    unfold isRow at this
    split at this
    · rename_i e n s f h; exact ⟨e, n, s, f, h⟩
    · cases this
  have hMM : Mem.le M M' := by
    intro b o u h
    by_cases hb : isZ b
    · obtain ⟨x, c, hx, e⟩ := hb
      obtain ⟨e', n, s, f, hg⟩ := hlive x hx
      rw [i.apart x _ b c hg e o] at h; cases h
    · simp only [M', if_neg hb]; exact h
  have hF : Fz σ.box fz M' β := by
    intro x hx e n s f hg v ⟨b, c, e1, ev, hc⟩
    obtain ⟨b', c', cur, e2, hh, hl, hsz, hn, _, hcell⟩ := i.box x _ hg
    rw [e1] at e2; cases e2
    subst ev
    refine ⟨some ⟨b, 0, none⟩, c.1, by rw [hl], hn, .inr ⟨b, 0, rfl, fun k j hk hj => ?_⟩⟩
    obtain ⟨u, hu, hr⟩ := hcell k j hk hj
    have hZ : isZ b := ⟨x, c, hx, e1⟩
    exact ⟨u, by simp only [M', if_pos hZ]; simp [World.cell?, hh, hu], DV.Rep.mono hMM hr⟩
  let β' : Nm := fun x => if x ∈ ks then β (look ren x) else none
  have hin : ∀ x, x ∈ ks → β' x = β (look ren x) := fun x hx => by simp [β', hx]
  have hβ : ∀ x p, β' x = some p → x ∈ ks ∧ β (look ren x) = some p := fun x p h => by
    simp only [β'] at h
    split at h
    · exact ⟨by assumption, h⟩
    · cases h
  have hup : ∀ x, x ∈ ks → ∀ p, β (look ren x) = some p → β' x = some p := fun x hx p e => by rw [hin x hx]; exact e
  have hinj : ∀ x y, x ∈ ks → y ∈ ks → look ren x = look ren y → x = y := by
    intro x y hx hy e
    simp only [injL, List.all_eq_true] at hi
    have := hi x hx y hy
    simp only [Bool.or_eq_true] at this
    rcases this with h | h
    · exact Nat.eq_of_beq_eq_true h
    · rw [e] at h; simp at h
  have hnz : ∀ x, x ∈ ks → look ren x ∉ fz := by
    intro x hx
    rw [List.all_eq_true] at hd
    simpa using hd x hx
  have live : ∀ x b k c, getB σ'.box x = some (some b) → β' x = some (k, c) → x ∈ ks ∧ ∃ b0, getB σ.box (look ren x) = some (some b0) ∧ β (look ren x) = some (k, c) := by
    intro x b k c h e
    obtain ⟨h1, h2, h3⟩ := boxQf.get (fun _ h => h) hb x b h
    have e := (hβ x _ e).2
    obtain ⟨y, hy⟩ := i.keys _ _ e
    rw [hy] at h3
    cases y with
    | none => exact h3.elim
    | some b0 => exact ⟨h1, b0, hy, e⟩
  refine ⟨M', β', ⟨i.defers, i.tmps, i.heap, fun t => envQf.get hF hup he t _ (AV.Rep.mono hMM (Nm.le_refl β) (i.env t)), ?_, ?_, ?_, ?_, ?_, ?_, ?_⟩, hMM, ?_⟩
  · intro b o u h
    by_cases hb : isZ b
    · simp only [M', if_pos hb] at h; exact h
    · simp only [M', if_neg hb] at h; exact i.mem b o u h
  · intro x p e
    exact bkeys.has (hβ x p e).1
  · intro x b h
    obtain ⟨h1, h2, h3⟩ := boxQf.get (fun _ h => h) hb x b h
    cases hs : getB σ.box (look ren x) with
    | none =>
      rw [hs] at h3
      have hn : β' x = none := by
        rw [hin x h1]
        cases hb0 : β (look ren x) with
        | none => rfl
        | some p => obtain ⟨y, hy⟩ := i.keys _ _ hb0; rw [hs] at hy; cases hy
      cases b with
      | mrow e n s f => intro k c e; rw [hn] at e; cases e
      | _ => cases h3
    | some y =>
      cases y with
      | none => rw [hs] at h3; exact h3.elim
      | some b0 =>
        rw [hs] at h3
        have hrep := h3 M' β w (look ren x) hF (RepBox.mono hMM (Nm.le_refl β) rfl (fun _ _ _ => rfl) (i.box _ _ hs))
        cases b with
        | cells cs => exact renB.rep hup h1 h2 hrep
        | row e n s f => exact renB.rep hup h1 rfl hrep
        | mrow e n s f => intro k c e; rw [hin x h1] at e; exact hrep k c e
        | map vk l => exact renB.rep hup h1 rfl hrep
        | fresh T vs => exact renB.rep hup h1 rfl hrep
        | iter m n seen => exact renB.rep hup h1 h2 hrep
  · intro x y bx bby b c c' ex ey hx hy
    obtain ⟨kx, b0, g0, e0⟩ := live x bx b c ex hx
    obtain ⟨ky, b1, g1, e1⟩ := live y bby b c' ey hy
    exact hinj x y kx ky (i.inj _ _ b0 b1 b c c' g0 g1 e0 e1)
  · intro x bx b c ex hx o
    obtain ⟨kx, b0, g0, e0⟩ := live x bx b c ex hx
    have : ¬ isZ b := by
      rintro ⟨z, c', hz', e'⟩
      obtain ⟨e2, n, s, f, hg⟩ := hlive z hz'
      have := i.inj _ _ _ _ b c' c hg g0 e' e0
      subst this
      exact hnz x kx hz'
    simp only [M', if_neg this]
    exact i.apart _ b0 b c g0 e0 o
  · intro x bx b c ex hx
    obtain ⟨kx, b0, g0, e0⟩ := live x bx b c ex hx
    exact i.low _ b0 b c g0 e0
  · intro x hx
    rw [href] at hx; cases hx
  · intro b o u h
    by_cases hb : isZ b
    · obtain ⟨x, c, hx, e⟩ := hb
      obtain ⟨e', n, s, f, hg⟩ := hlive x hx
      rcases i.low x _ b c hg e with h | ⟨y, c', hy, _⟩
      · exact .inr h
      · rw [href] at hy; cases hy
    · simp only [M', if_neg hb] at h; exact .inl h
end Go.Ax

/- Contracts over boxes whose results are boxes of the call's own. -/
namespace Go.Ax
open Go.RowKit

def keepS (xs : List Nat) (σ : St) (x : SV) : SV := bif inS xs x then x else convS σ x
def keepSs (xs : List Nat) (σ : St) : List SV → List SV
  | [] => []
  | x :: r => keepS xs σ x :: keepSs xs σ r
def keepT (xs : List Nat) (σ : St) : TV → TV
  | .s x => .s (keepS xs σ x)
  | .g cs => .g (keepSs xs σ cs)
def keepTs (xs : List Nat) (σ : St) : List TV → List TV
  | [] => []
  | t :: r => keepT xs σ t :: keepTs xs σ r
section
variable {cx : Cx} {N : Nat} {M F : Mem} {β : Nm} {σ : St} {a : Act} {w : World}
theorem keepS.rep (xs : List Nat) (i : Inv cx N M β σ a w) (hM : Mem.le M F) (hF : ∀ x bc b c, getB σ.box x = some (some bc) → β x = some (b, c) → ∀ o u, w.cell? ⟨b, o, none⟩ = some u → F b o = some u) {x : SV} {v : Value} (r : x.Rep M β v) : (keepS xs σ x).Rep F β v := by
  unfold keepS
  cases inS xs x with
  | true => exact SV.Rep.mono hM (Nm.le_refl β) r
  | false => exact dS.rep i hM hF 3 _ _ r
theorem keepSs.rep (xs : List Nat) (i : Inv cx N M β σ a w) (hM : Mem.le M F) (hF : ∀ x bc b c, getB σ.box x = some (some bc) → β x = some (b, c) → ∀ o u, w.cell? ⟨b, o, none⟩ = some u → F b o = some u) : ∀ {cs : List SV} {vs : List Value}, RepL M β cs vs → RepL F β (keepSs xs σ cs) vs
  | [], [], _ => trivial
  | _ :: _, _ :: _, ⟨h, r⟩ => ⟨keepS.rep xs i hM hF h, keepSs.rep xs i hM hF r⟩
  | [], _ :: _, h => h.elim
  | _ :: _, [], h => h.elim
theorem keepTs.rep (xs : List Nat) (i : Inv cx N M β σ a w) (hM : Mem.le M F) (hF : ∀ x bc b c, getB σ.box x = some (some bc) → β x = some (b, c) → ∀ o u, w.cell? ⟨b, o, none⟩ = some u → F b o = some u) : ∀ {ts : List TV} {vs : List Value}, RepT M β ts vs → RepT F β (keepTs xs σ ts) vs
  | [], [], _ => trivial
  | .s _ :: _, _ :: _, ⟨h, r⟩ => ⟨keepS.rep xs i hM hF h, keepTs.rep xs i hM hF r⟩
  | .g _ :: _, _ :: _, ⟨⟨vs, e, h⟩, r⟩ => ⟨⟨vs, e, keepSs.rep xs i hM hF h⟩, keepTs.rep xs i hM hF r⟩
  | [], _ :: _, h => h.elim
  | _ :: _, [], h => h.elim
end
def retKR2 (T : List (Nat × TyI)) (rs : List ResultVar) (r : AV) (bx' : BoxL) : Exit → St → Prop
  | .ret, σ => match resL T σ rs with
    | some ts => LeQ (ofTs (keepTs (names bx') ⟨σ.env, shutB σ.box bx'⟩ ts)) r ∧ holdB σ.box bx'
    | none => False
  | .normal, σ => match resL T σ rs with
    | some ts => LeQ (ofTs (keepTs (names bx') ⟨σ.env, shutB σ.box bx'⟩ ts)) r ∧ holdB σ.box bx'
    | none => False
  | _, _ => False

section
variable {P : Program} {T : List (Nat × TyI)}
theorem callO_of_aw {f N : Nat} {fn : Func} {c : Code} {args : List AV} {bx : BoxL} {r : AV} {bx' : BoxL} (hf : P.funcs[f]? = some fn) (hb : fn.body = some c) (hN : fn.ntmps = N) (hcall : ∀ vs w, (callFunc f vs).run P w = .ok (.enter f vs) w)
    (hT : TabOK P T) (hl : Nat.ble args.length N = true) (hkeep : ((names bx).all fun x => (names bx').contains x) = true) (hreal : (bx'.all fun p => p.2.real) = true) {rs : List ResultVar} (hrs : fn.results.toList = rs)
    (h : ∀ cx : Cx, cx.ref = names bx → AW P cx N c (initR args bx) (retKR2 T rs r bx')) : CallR P f args bx r bx' := by
  classical
  refine ⟨hcall, fun M β w vs hG hr hM hbx hβ => ?_⟩
  refine calls_of_wp hf hb ?_
  let cx : Cx := { B := w.heap.size, ref := names bx, β0 := β }
  have hlen := hr.length
  have hl := Nat.le_of_ble_eq_true hl
  have hex : ∀ x, x ∈ names bx → ∃ p, β x = some p := fun x hx => by
    obtain ⟨k, c, e⟩ := hbx.has x hx
    exact ⟨_, e⟩
  have i0 : Inv cx N M β (initR args bx) { tmps := vs.toArray ++ Array.replicate (fn.ntmps - vs.toArray.size) undef, defers := [] } w := by
    refine ⟨rfl, by simp; omega, ⟨Nat.le_refl _, by obtain ⟨bs, hG, hN2⟩ := hG; exact ⟨bs, hG, fun g t m => ⟨hG.lt m, by rintro ⟨x, c, _, hx⟩; exact hN2 g t m x c hx⟩⟩⟩, fun t => ?_, hM, fun x p e => openB.has (hβ x p e), fun x b e => hbx.rep x b (openB.get e), fun x y b1 b2 b c c' h1 h2 e1 e2 => ?_, fun x b1 b c h1 e => ?_, fun x b1 b c h1 e => ?_, fun x hx => ⟨rfl, hex x hx⟩⟩
    · have := envOf.rep (k := 0) (t := t) (List.replicate (fn.ntmps - vs.length) undef) hr (Nat.zero_le _)
      simp only [Nat.sub_zero] at this
      simp only [initR]
      have e : (vs.toArray ++ Array.replicate (fn.ntmps - vs.toArray.size) undef).getD t undef = (vs ++ List.replicate (fn.ntmps - vs.length) undef).getD t undef := by
        simp [← List.toArray_replicate]
      rw [e]
      exact this
    · exact hbx.inj x y b c c' (mem_names (openB.get h1)) (mem_names (openB.get h2)) e1 e2
    · exact hbx.apart x b c (mem_names (openB.get h1)) e
    · exact .inr ⟨x, c, mem_names (openB.get h1), e⟩
  refine wp_mono (wpIn_wide.1 (h cx rfl M β _ w i0)) ?_
  rintro e a' w' ⟨σ', M', β', hk, i', hg, hkp⟩
  have fin : ∀ ts, resL T σ' rs = some ts → LeQ (ofTs (keepTs (names bx') ⟨σ'.env, shutB σ'.box bx'⟩ ts)) r → holdB σ'.box bx' → a'.defers = [] ∧ ∃ v, (results fn a'.tmps).run P w' = .ok v w' ∧ ∃ v' M' β', Ending.returned v = .returned v' ∧ Nm.le β β' ∧ r.Rep M' β' v' ∧ Grow w.heap.size M M' ∧ MemOK M' w' ∧ BoxesOK M' β' w' bx' ∧
      (∀ x b c, x ∈ names bx' → β' x = some (b, c) → w.heap.size ≤ b ∨ ∃ y c', β y = some (b, c')) ∧
      w'.os = w.os ∧ w'.tape = w.tape ∧ w'.output = w.output ∧ w.heap.size ≤ w'.heap.size ∧ (∀ k, k < w.heap.size → (∀ y c, β y ≠ some (k, c)) → w'.heap[k]? = w.heap[k]?) := by
    intro ts hts hsub hhold
    obtain ⟨vs', hrun, hrep⟩ := resL.rep hT i' hts
    let isB : Nat → Prop := fun b => ∃ x c, x ∈ names bx' ∧ β' x = some (b, c)
    let F : Mem := fun b o => if b < w.heap.size then M' b o else if isB b then none else w'.cell? ⟨b, o, none⟩
    have hlive : ∀ x, x ∈ names bx' → ∃ b, getB σ'.box x = some (some b) := fun x hx => by
      obtain ⟨b, hb⟩ := of_names hx
      exact ⟨b, holdB.get hhold hb⟩
    have hMF : Mem.le M' F := fun b o u e => by
      by_cases hbl : b < w.heap.size
      · simp [F, hbl, e]
      · have : ¬ isB b := by
          rintro ⟨x, c, hx, hx2⟩
          obtain ⟨bc, hbc⟩ := hlive x hx
          rw [i'.apart x bc b c hbc hx2 o] at e
          cases e
        simp only [F, if_neg hbl, if_neg this]
        exact i'.mem b o u e
    have hFc : ∀ x bc b c, getB (shutB σ'.box bx') x = some (some bc) → β' x = some (b, c) → ∀ o u, w'.cell? ⟨b, o, none⟩ = some u → F b o = some u := by
      intro x bc b c e e' o u hu
      obtain ⟨hnx, ex⟩ := shutB.get e
      have hnb : ¬ isB b := by
        rintro ⟨y, c', hy, hy2⟩
        obtain ⟨bc', hbc'⟩ := hlive y hy
        exact hnx (i'.inj y x bc' bc b c' c hbc' ex hy2 e' ▸ hy)
      rcases i'.low x bc b c ex e' with h | h
      · have : ¬ b < w.heap.size := by have : w.heap.size ≤ b := h; omega
        simp only [F, if_neg this, if_neg hnb]; exact hu
      · obtain ⟨y, c', hy, hy2⟩ := h
        have hy' : y ∈ names bx' := by
          rw [List.all_eq_true] at hkeep
          simpa using hkeep y hy
        have e1 : β' y = some (b, c') := by rw [(i'.ref y hy).1]; exact hy2
        exact (hnb ⟨y, c', hy', e1⟩).elim
    have hconv := keepTs.rep (names bx') (i'.shut bx') hMF hFc hrep
    refine ⟨i'.defers, (if h : vs'.toArray.size = 1 then vs'.toArray[0] else .tuple vs'.toArray), ?_, _, F, β', rfl, ?_, hsub F β' _ ?_, ⟨fun b o u e => hMF b o u (hg.le b o u e), fun b o u e => ?_⟩, fun b o u e => ?_, ?_, ?_, hkp.os, hkp.tape, hkp.output, hkp.size, ?_⟩
    · have : (fn.results.mapM (resSem a'.tmps)).run P w' = .ok vs'.toArray w' := by
        rw [← Array.toArray_toList (xs := fn.results), List.mapM_toArray, hrs]
        simp only [Sem.run_map, hrun, Result.andThen]
      have e : results fn a'.tmps = (do let vs ← fn.results.mapM (resSem a'.tmps); pure (if h : vs.size = 1 then vs[0] else .tuple vs)) := by
        unfold results
        congr 1
      rw [e]
      simp only [Sem.run_bind, this, Result.andThen, Sem.run_pure]
    · intro x p e
      rw [(i'.ref x (hβ x p e)).1]
      exact e
    · cases hts' : keepTs (names bx') ⟨σ'.env, shutB σ'.box bx'⟩ ts with
      | nil =>
        rw [hts'] at hconv
        cases vs' with
        | nil => exact ⟨[], rfl, trivial⟩
        | cons _ _ => exact hconv.elim
      | cons t r' =>
        rw [hts'] at hconv
        cases vs' with
        | nil => exact hconv.elim
        | cons v vs'' =>
          cases r' with
          | nil =>
            cases vs'' with
            | cons _ _ => exact hconv.2.elim
            | nil =>
              have := hconv.1
              simp only [List.size_toArray, List.length_cons, List.length_nil, Nat.zero_add, dite_true, ofTs]
              cases t with
              | s x => exact this
              | g cs => exact this
          | cons t2 r2 =>
            cases vs'' with
            | nil => exact hconv.2.elim
            | cons v2 vs3 =>
              have hne : ¬ (v :: v2 :: vs3).toArray.size = 1 := by simp
              rw [dif_neg hne]
              exact ⟨_, rfl, hconv⟩
    · by_cases hbl : b < w.heap.size
      · simp only [F, if_pos hbl] at e
        exact hg.new b o u e
      · exact .inr (by omega)
    · by_cases hbl : b < w.heap.size
      · simp only [F, if_pos hbl] at e
        exact i'.mem b o u e
      · simp only [F, if_neg hbl] at e
        split at e
        · cases e
        · exact e
    · refine ⟨fun x hx => ?_, fun x b hb => ?_, fun x y b c c' hx hy e1 e2 => ?_, fun x b c hx e o => ?_⟩
      · obtain ⟨b, hb⟩ := of_names hx
        rw [List.all_eq_true] at hreal
        exact (i'.box x b (holdB.get hhold hb)).exb (hreal _ hb)
      · exact RepBox.mono hMF (Nm.le_refl β') rfl (fun _ _ _ => rfl) (i'.box x b (holdB.get hhold hb))
      · obtain ⟨bx1, h1⟩ := hlive x hx
        obtain ⟨bx2, h2⟩ := hlive y hy
        exact i'.inj x y bx1 bx2 b c c' h1 h2 e1 e2
      · obtain ⟨bx1, h1⟩ := hlive x hx
        have hB : isB b := ⟨x, c, hx, e⟩
        by_cases hbl : b < w.heap.size
        · simp only [F, if_pos hbl]
          exact i'.apart x bx1 b c h1 e o
        · simp only [F, if_neg hbl, if_pos hB]
    · intro x b c hx e
      obtain ⟨bx1, h1⟩ := hlive x hx
      rcases i'.low x bx1 b c h1 e with h | ⟨y, c', hy, hy2⟩
      · exact .inl h
      · exact .inr ⟨y, c', hy2⟩
    · intro k hk hnk
      exact hkp.block k hk (by rintro ⟨x, c, _, hx⟩; exact hnk x c hx)
  cases e with
  | ret =>
    simp only [retKR2] at hk
    split at hk
    · rename_i ts hts; exact fin ts hts hk.1 hk.2
    · exact hk.elim
  | normal =>
    simp only [retKR2] at hk
    split at hk
    · rename_i ts hts; exact fin ts hts hk.1 hk.2
    · exact hk.elim
  | _ => exact hk.elim
theorem callO_of_ex {rc : List Nat} {f N : Nat} {fn : Func} {c : Code} {args : List AV} {bx : BoxL} {r : AV} {bx' : BoxL} (hf : P.funcs[f]? = some fn) (hb : fn.body = some c) (hN : fn.ntmps = N) (hcall : ∀ vs w, (callFunc f vs).run P w = .ok (.enter f vs) w)
    (hT : TabOK P T) (hm : P.follows .mixedOrders = true) (hl : Nat.ble args.length N = true) (hkeep : ((names bx).all fun x => (names bx').contains x) = true) (hreal : (bx'.all fun p => p.2.real) = true) {rs : List ResultVar} (hrs : fn.results.toList = rs)
    (h : ∀ cx : Cx, cx.ref = names bx → ex P T N (names bx) rc cx c (initR args bx) (retKR2 T rs r bx')) : CallR P f args bx r bx' :=
  callO_of_aw hf hb hN hcall hT hl hkeep hreal hrs fun cx href => ex.sound hT hm href c (h cx href)
end
end Go.Ax

/- Short words for proofs with the executor. -/
namespace Go.Ax
open Go.RowKit
theorem sk {p q : Prop} (h : q) : (p → p) ∧ q := ⟨id, h⟩
theorem st {q : Prop} (h : q) : True ∧ q := ⟨trivial, h⟩
theorem sg {b : Bool} {q : Prop} (h : q) : gimp (b = false) (some (gpol false b)) ∧ q := ⟨fun h => by simpa [gpol] using h, h⟩
theorem sh {b : Bool} {q : Prop} (h : q) : gimp (b = true) (some (gpol true b)) ∧ q := ⟨fun h => by simpa [gpol] using h, h⟩
theorem sn1 {b c : Bool} {q : Prop} (h : q) : imp (some c) (gimp (b = true) (some (c && gpol true b))) ∧ q := ⟨fun h1 h2 => by simp [h1, h2, gpol], h⟩
theorem sn0 {b c : Bool} {q : Prop} (h : q) : imp (some c) (gimp (b = false) (some (c && gpol false b))) ∧ q := ⟨fun h1 h2 => by simp [h1, h2, gpol], h⟩
theorem su {c : Bool} {p q : Prop} (h : q) : imp (some c) (gimp p none) ∧ q := ⟨fun _ => trivial, h⟩
theorem ob {p q : Prop} (h : p) (k : q) : p ∧ q := ⟨h, k⟩
theorem oi {p q : Prop} (h : p) (k : q) : imp none p ∧ q := ⟨h, k⟩
theorem og {p q : Prop} {b : Bool} (h : b = true → p) (k : q) : (b = true → p) ∧ q := ⟨h, k⟩
theorem callG {P : Program} {f : FuncId} {args : List AV} {r : AV} {K : AV → Prop} {b : Bool} {X : Prop} (h : CallP P f args r) (k : K r) : (∃ r, (b = true → CallP P f args r) ∧ K r) ∨ X := .inl ⟨r, fun _ => h, k⟩
theorem callGo {P : Program} {f : FuncId} {args : List AV} {r : AV} {K : AV → Prop} {b : Bool} {X : Prop} (h : b = true → CallP P f args r) (k : K r) : (∃ r, (b = true → CallP P f args r) ∧ K r) ∨ X := .inl ⟨r, h, k⟩
theorem callN {P : Program} {f : FuncId} {args : List AV} {r : AV} {K : AV → Prop} {X : Prop} (h : CallP P f args r) (k : K r) : (∃ r, CallP P f args r ∧ K r) ∨ X := .inl ⟨r, h, k⟩
/-- A guarded call that is not made. -/
theorem callF {P : Program} {f : FuncId} {args : List AV} (r : AV) {K : AV → Prop} {b : Bool} {X : Prop} (h : b = false) (k : K r) : (∃ r, (b = true → CallP P f args r) ∧ K r) ∨ X := .inl ⟨r, fun h' => by rw [h] at h'; (cases h'), k⟩
theorem CallK.of {P : Program} {σ : St} {f : FuncId} {ars : List AV} {r : AV} (ren : List (Nat × Nat)) {args : List AV} {bx : BoxL} (h : CallR P f args bx r bx) (he : ars = renAs ren args) (hm : matchB ren σ.box bx) (hk : okK ren args bx = true) (hf : flatA r = true) (hx : ((names bx).all fun x => (catL (reachA σ) ars).contains (look ren x)) = true) : CallK P σ f ars r := ⟨ren, args, bx, h, he, hm, hk, hf, hx⟩
/-- A call that is handed boxes and leaves them ars they are. -/
theorem callKN {P : Program} {σ : St} {f : FuncId} {ars : List AV} {r : AV} {K : AV → Prop} {X : Prop} (h : CallK P σ f ars r) (k : K r) : X ∨ (∃ r, CallK P σ f ars r ∧ K r) := .inr ⟨r, h, k⟩
theorem callKG {P : Program} {σ : St} {f : FuncId} {ars : List AV} {r : AV} {K : AV → Prop} {b : Bool} {X : Prop} (h : b = true → CallK P σ f ars r) (k : K r) : X ∨ (∃ r, (b = true → CallK P σ f ars r) ∧ K r) := .inr ⟨r, h, k⟩
theorem LeD.slc' {n m s : Nat} {f g : Nat → Nat → DV} (e : n = m) (h : ∀ i j, i < n → j < s → LeD (f i j) (g i j)) : LeD (.slc n s f) (.slc m s g) := by subst e; exact LeD.slc h
theorem LeAs.capD {σ : St} {c : Nat → DV} : ∀ {k j : Nat}, LeAs (convAs σ (capD c k j)) (capD c k j)
  | 0, _ => trivial
  | _ + 1, _ => ⟨LeD.refl _, LeAs.capD⟩
abbrev w64 (n : Int) : Int := IntKind.i64.wrap n
abbrev dI (x : Int) : DV := .val (.int .i64 x)
abbrev vI (x : Int) : AV := .s (.d (.val (.int .i64 x)))
abbrev vB (b : Bool) : AV := .s (.d (.val (.bool b)))
theorem SubR.lit {b c : Bool} (h : b = c) : SubR (.s (.d (.lit b))) (vB c) := by subst h; exact fun _ _ r => r
theorem w64_of {n : Int} (h : -9223372036854775808 ≤ n) (k : n ≤ 9223372036854775807) : w64 n = n := by
  unfold w64
  exact IntWalk.i64_in n ⟨h, k⟩
def intEl (l : List Int) : Nat → Nat → DV := fun i _ => dI (l.getD i 0)
def dInts (l : List Int) : DV := .slc l.length 1 (intEl l)
abbrev vInts (l : List Int) : AV := .s (.d (dInts l))
end Go.Ax
namespace Go.Ax
open Go.RowKit
theorem bif_len {α : Type} (l : List α) : (bif l.isEmpty then 0 else l.length) = l.length := by cases l <;> rfl
theorem isEmpty_snoc {α : Type} (l : List α) (x : α) : (l ++ [x]).isEmpty = false := by cases l <;> rfl
theorem LeBx.snoc {α : Type} [Inhabited α] {e s : Nat} {l : List α} {x : α} {el : α → Nat → DV} {g : Nat → Nat → DV} (hg : ∀ j, j < s → g 0 j = el x j) :
    LeBx (.row e ((bif l.isEmpty then 0 else l.length) + 1) s (catF (bif l.isEmpty then 0 else l.length) (fun i => el (l.getD i default)) g)) (.mrow e (l ++ [x]).length s (fun i => el ((l ++ [x]).getD i default))) := by
  rw [bif_len]
  refine LeBx.mrow (by simp) fun i j hi hj => LeD.of_eq ?_
  unfold catF
  by_cases h : i < l.length
  · rw [if_pos h]
    simp only [List.getD_eq_getElem?_getD, List.getElem?_append_left h]
  · have : i = l.length := by omega
    subst this
    rw [if_neg h, Nat.sub_self, hg j hj]
    simp only [List.getD_eq_getElem?_getD, List.getElem?_concat_length, Option.getD_some]
/-- Four cells, or fewer, by their number. -/
theorem lt1 {p : Nat → Prop} (h : p 0) : ∀ j, j < 1 → p j := fun j hj => by match j, hj with | 0, _ => exact h
theorem lt2 {p : Nat → Prop} (h : p 0) (h1 : p 1) : ∀ j, j < 2 → p j := fun j hj => by match j, hj with | 0, _ => exact h | 1, _ => exact h1
theorem lt3 {p : Nat → Prop} (h : p 0) (h1 : p 1) (h2 : p 2) : ∀ j, j < 3 → p j := fun j hj => by match j, hj with | 0, _ => exact h | 1, _ => exact h1 | 2, _ => exact h2
theorem lt4 {p : Nat → Prop} (h : p 0) (h1 : p 1) (h2 : p 2) (h3 : p 3) : ∀ j, j < 4 → p j := fun j hj => by match j, hj with | 0, _ => exact h | 1, _ => exact h1 | 2, _ => exact h2 | 3, _ => exact h3
theorem lt5 {p : Nat → Prop} (h : p 0) (h1 : p 1) (h2 : p 2) (h3 : p 3) (h4 : p 4) : ∀ j, j < 5 → p j := fun j hj => by match j, hj with | 0, _ => exact h | 1, _ => exact h1 | 2, _ => exact h2 | 3, _ => exact h3 | 4, _ => exact h4
theorem fit1 {s : Nat} {g : Nat → Nat → DV} (h : ∀ j, j < s → (g 0 j).fit = true) : fitAll 1 s g := fun k j hk hj => by
  have : k = 0 := by omega
  subst this; exact h j hj
end Go.Ax
namespace Go.Ax
theorem SubR.mo {α : Type} {l : List α} {s : Nat} {f : Nat → Nat → DV} : SubR (.s (.d (.slc (bif l.isEmpty then 0 else l.length) s f))) (.s (.d (.slc l.length s f))) := SubR.of_eq (by rw [bif_len])
theorem filterMap_range_succ {β : Type} (f : Nat → Option β) (n : Nat) : (List.range (n + 1)).filterMap f = (List.range n).filterMap f ++ (f n).toList := by
  rw [List.range_succ, List.filterMap_append]
  cases h : f n <;> simp [h]
end Go.Ax
namespace Go.Ax
/-- A row's cells are those of the list's elements. -/
def RowIs {α : Type} [Inhabited α] (s n : Nat) (f : Nat → Nat → DV) (el : α → Nat → DV) (l : List α) : Prop := n = l.length ∧ ∀ i j, i < n → j < s → f i j = el (l.getD i default) j
section
variable {α : Type} [Inhabited α] {s n e : Nat} {f g : Nat → Nat → DV} {el : α → Nat → DV} {l : List α} {x : α}
theorem RowIs.refl : RowIs s l.length (fun i => el (l.getD i default)) el l := ⟨rfl, fun _ _ _ _ => rfl⟩
theorem RowIs.bif : RowIs s (bif l.isEmpty then 0 else l.length) (fun i => el (l.getD i default)) el l := ⟨bif_len l, fun _ _ _ _ => rfl⟩
theorem RowIs.snoc (h : RowIs s n f el l) (hg : ∀ j, j < s → g 0 j = el x j) : RowIs s (n + 1) (catF n f g) el (l ++ [x]) := by
  obtain ⟨rfl, h⟩ := h
  refine ⟨by simp, fun i j hi hj => ?_⟩
  unfold catF
  by_cases hl : i < l.length
  · rw [if_pos hl, h i j hl hj]
    simp only [List.getD_eq_getElem?_getD, List.getElem?_append_left hl]
  · have : i = l.length := by omega
    subst this
    rw [if_neg hl, Nat.sub_self, hg j hj]
    simp only [List.getD_eq_getElem?_getD, List.getElem?_concat_length, Option.getD_some]
theorem RowIs.one (hg : ∀ j, j < s → g 0 j = el x j) : RowIs s 1 g el [x] := by
  refine ⟨rfl, fun i j hi hj => ?_⟩
  have : i = 0 := by omega
  subst this
  exact hg j hj
theorem RowIs.mrow (h : RowIs s n f el l) : LeBx (.row e n s f) (.mrow e l.length s (fun i => el (l.getD i default))) :=
  LeBx.mrow h.1 fun i j hi hj => LeD.of_eq (h.2 i j hi hj)
theorem RowIs.row (h : RowIs s n f el l) : LeBx (.row e n s f) (.row e l.length s (fun i => el (l.getD i default))) :=
  LeBx.row h.1 fun i j hi hj => LeD.of_eq (h.2 i j hi hj)
theorem RowIs.slc (h : RowIs s n f el l) : LeD (.slc n s f) (.slc l.length s (fun i => el (l.getD i default))) :=
  LeD.slc' h.1 fun i j hi hj => LeD.of_eq (h.2 i j hi hj)
end
theorem LeQ.lit {b c : Bool} (h : b = c) : LeQ (.s (.d (.lit b))) (.s (.d (.val (.bool c)))) := by subst h; exact fun _ _ _ r => r
theorem LeQ.int {x y : Int} (h : x = y) : LeQ (.s (.d (.val (.int .i64 x)))) (vI y) := by subst h; exact LeQ.rfl
theorem LeQ.bool {x y : Bool} (h : x = y) : LeQ (.s (.d (.val (.bool x)))) (vB y) := by subst h; exact LeQ.rfl
end Go.Ax

/- What came in, read as data, as abstract values. -/
namespace Go.Ax
open Go.RowKit

/-- Cells of type t, k of them, are what 'rep' says of some a that is 'ok'. -/
def Rd (P : Program) (t : TypeId) (k : Nat) {α : Type} (rep : α → List SV) (ok : α → Prop) : Prop :=
  P.cellsOf t = k ∧ ∀ (H : Type) (enc : TypeId × Value → H) (W : World) (base : Nat) (spare : Nat → Bool) (held : Bool) (fuel : Nat) (cs : List Value) (x : DataW H × List MemPlace),
    DataW.trod enc P W base spare held fuel t cs = some x → cs.length = k ∧ ∃ a, ok a ∧ RepL (full W) nb (rep a) cs

theorem rd_int {P : Program} {t : TypeId} {k : IntKind} (ht : P.underlying t = some (.int k)) (hc : P.cellsOf t = 1) :
    Rd P t 1 (fun n : Int => [.d (.val (.int k n))]) (fun n => (Lit.int k n).wf = true) := by
  refine ⟨hc, fun H enc W base spare held fuel cs x h => ?_⟩
  obtain ⟨n, rfl, _, hw⟩ := DataW.trod_int ht h
  exact ⟨rfl, n, hw, rfl, trivial⟩
theorem rd_bool {P : Program} {t : TypeId} (ht : P.underlying t = some .bool) (hc : P.cellsOf t = 1) :
    Rd P t 1 (fun b : Bool => [.d (.val (.bool b))]) (fun _ => True) := by
  refine ⟨hc, fun H enc W base spare held fuel cs x h => ?_⟩
  obtain ⟨n, rfl, _⟩ := DataW.trod_bool ht h
  exact ⟨rfl, n, trivial, rfl, trivial⟩
theorem rd_str {P : Program} {t : TypeId} (ht : P.underlying t = some .string) (hc : P.cellsOf t = 1) :
    Rd P t 1 (fun s : ByteArray => [.d (.val (.string s))]) (fun s => s.size ≤ 9223372036854775807) := by
  refine ⟨hc, fun H enc W base spare held fuel cs x h => ?_⟩
  obtain ⟨n, rfl, _, hs⟩ := DataW.trod_string ht h
  exact ⟨rfl, n, hs, rfl, trivial⟩
theorem Rd.to {P : Program} {t : TypeId} {k : Nat} {α β : Type} {rep : α → List SV} {ok : α → Prop} {rep' : β → List SV} {ok' : β → Prop} (h : Rd P t k rep ok) (g : α → β) (hr : ∀ a, rep' (g a) = rep a) (ho : ∀ a, ok a → ok' (g a)) : Rd P t k rep' ok' := by
  refine ⟨h.1, fun H enc W base spare held fuel cs x e => ?_⟩
  obtain ⟨hl, a, ha, hrep⟩ := h.2 H enc W base spare held fuel cs x e
  exact ⟨hl, g a, ho a ha, by rw [hr]; exact hrep⟩

theorem repL_get {M : Mem} {β : Nm} {el : Nat → DV} : ∀ {cs : List SV} {vs : List Value}, RepL M β cs vs → (∀ j, j < cs.length → cs[j]? = some (.d (el j))) → ∀ j, j < cs.length → ∃ u, vs[j]? = some u ∧ (el j).Rep M u := by
  intro cs vs hr he j hj
  obtain ⟨u, hu, r⟩ := hr.get (he j hj)
  exact ⟨u, hu, r⟩

theorem rd_slice {P : Program} {t e : TypeId} {s : Nat} {α : Type} [Inhabited α] {rep : α → List SV} {ok : α → Prop} (ht : P.underlying t = some (.slice e)) (hc : P.cellsOf t = 1) (h : Rd P e s rep ok) (hs : 0 < s)
    (el : α → Nat → DV) (hl : ∀ a, (rep a).length = s) (hel : ∀ a j, j < s → (rep a)[j]? = some (.d (el a j))) :
    Rd P t 1 (fun l : List α => [.d (.slc l.length s fun i => el (l.getD i default))]) (fun l => l.length ≤ 9223372036854775807 ∧ ∀ a ∈ l, ok a) := by
  refine ⟨hc, fun H enc W base spare held fuel cs x hx => ?_⟩
  rcases Go.Deep.open_slice ht hx with ⟨rfl, _⟩ | ⟨a, len, cap, m, n, D, Pl, rfl, hb, hle, hm, hmm, _, hcell⟩
  · exact ⟨rfl, [], ⟨by simp, by simp⟩, ⟨none, 0, rfl, Nat.le_refl _, .inl rfl⟩, trivial⟩
  · have hlm : len ≤ m := by rw [hmm]; split <;> omega
    have key : ∀ i, i < len → ∃ v : α, ok v ∧ ∀ j, j < s → ∃ u, W.cell? (a.add (i * s + j)) = some u ∧ (el v j).Rep (full W) u := by
      intro i hi
      obtain ⟨cs', h1, h2⟩ := hcell i (by omega)
      obtain ⟨hlen, v, hv, hr⟩ := h.2 H enc W base spare held n cs' _ h2
      refine ⟨v, hv, fun j hj => ?_⟩
      obtain ⟨u, hu, r⟩ := repL_get (el := el v) hr (fun j hj => hel v j (by rw [hl] at hj; exact hj)) j (by rw [hl]; exact hj)
      obtain ⟨_, _, h3⟩ := World.cells?_some h1
      have := h3 j (by rw [h.1]; exact hj)
      rw [hu, Go.Deep.add_add, h.1] at this
      exact ⟨u, this, r⟩
    obtain ⟨F, hF⟩ := Go.Deep.choose_lt key
    refine ⟨rfl, (List.range len).map F, ⟨by have : maxLen = 9223372036854775807 := rfl; simp; omega, ?_⟩, ⟨some a, cap, by simp, by simpa using hle, ?_⟩, trivial⟩
    · intro v hv
      simp only [List.mem_map, List.mem_range] at hv
      obtain ⟨i, hi, rfl⟩ := hv
      exact (hF i hi).1
    · by_cases h0 : len = 0
      · exact .inl (by simp [h0])
      right
      obtain ⟨u0, hu0, _⟩ := (hF 0 (by omega)).2 0 hs
      obtain ⟨b, o, spot⟩ := a
      have hspot : spot = none := by
        have := World.cell?_spot hu0
        simpa [Addr.add] using this
      subst hspot
      refine ⟨b, o, rfl, fun i j hi hj => ?_⟩
      simp only [List.length_map, List.length_range] at hi
      obtain ⟨u, hu, r⟩ := (hF i hi).2 j hj
      refine ⟨u, ?_, ?_⟩
      · rw [cell_add, ← Nat.add_assoc] at hu
        exact hu
      · show (el (((List.range len).map F).getD i default) j).Rep (full W) u
        rw [show ((List.range len).map F).getD i default = F i by simp [hi]]
        exact r

/-- Fields from an offset on. -/
def RdF (P : Program) (fs : List Field) (off k : Nat) {α : Type} (rep : α → List SV) (ok : α → Prop) : Prop :=
  ∀ (H : Type) (enc : TypeId × Value → H) (W : World) (base : Nat) (spare : Nat → Bool) (held : Bool) (n : Nat) (cs : List Value), cs.length = k →
    (∀ f ∈ fs, ∃ x, DataW.trod enc P W base spare held n f.type ((cs.drop f.offset).take (P.cellsOf f.type)) = some x) → ∃ a, ok a ∧ RepL (full W) nb (rep a) (cs.drop off)
theorem rdf_nil {P : Program} {k : Nat} : RdF P [] k k (fun _ : Unit => []) (fun _ => True) := by
  intro H enc W base spare held n cs hk _
  rw [List.drop_eq_nil_of_le (by omega)]
  exact ⟨(), trivial, trivial⟩
theorem rdf_cons {P : Program} {f : Field} {fs : List Field} {off k s : Nat} {α β : Type} {rep : α → List SV} {ok : α → Prop} {rep' : β → List SV} {ok' : β → Prop}
    (ho : f.offset = off) (h : Rd P f.type s rep ok) (r : RdF P fs (off + s) k rep' ok') : RdF P (f :: fs) off k (fun a : α × β => rep a.1 ++ rep' a.2) (fun a => ok a.1 ∧ ok' a.2) := by
  intro H enc W base spare held n cs hk hf
  obtain ⟨x, hx⟩ := hf f (by simp)
  obtain ⟨hlen, a, ha, hr⟩ := h.2 H enc W base spare held n _ x hx
  obtain ⟨b, hb, hr'⟩ := r H enc W base spare held n cs hk (fun g hg => hf g (by simp [hg]))
  refine ⟨(a, b), ⟨ha, hb⟩, ?_⟩
  rw [h.1, ho] at hr
  have := hr.append hr'
  rw [← List.drop_drop, List.take_append_drop] at this
  exact this
theorem rd_struct {P : Program} {t : TypeId} {fs : Array Field} {l : List Field} {k : Nat} {α : Type} {rep : α → List SV} {ok : α → Prop} (ht : P.underlying t = some (.struct fs)) (hl : fs.toList = l) (hc : P.cellsOf t = k) (h : RdF P l 0 k rep ok) :
    Rd P t k rep ok := by
  refine ⟨hc, fun H enc W base spare held fuel cs x hx => ?_⟩
  obtain ⟨xs, n, _, _, hlen, hxl, hf⟩ := DataW.trod_struct ht hx
  obtain ⟨a, ha, hr⟩ := h H enc W base spare held n cs (by rw [hlen, hc]) (fun f hfm => by
    rw [← hl] at hfm
    obtain ⟨i, hi, e⟩ := List.getElem_of_mem hfm
    have h1 : fs[i]? = some f := by
      rw [← Array.getElem?_toList, List.getElem?_eq_getElem hi, e]
    have := hf i f h1
    rw [List.getElem?_eq_getElem (by rw [hxl]; simpa using hi)] at this
    exact ⟨_, this⟩)
  exact ⟨by rw [hlen, hc], a, ha, by simpa using hr⟩

/-- An argument. -/
def RdA (P : Program) (t : TypeId) {α : Type} (rep : α → AV) (ok : α → Prop) : Prop :=
  ∀ (H : Type) (enc : TypeId × Value → H) (W : World) (b0 base : Nat) (spare : Nat → Bool) (held : Bool) (v : Value) (d : DataW H) (ps : List MemPlace),
    Value.okWide P W .any b0 t v → DataW.Trod enc P W base spare held t v d ps → ∃ a, ok a ∧ (rep a).Rep (full W) nb v
theorem rda_agg {P : Program} {t : TypeId} {fs : Array Field} {k : Nat} {α : Type} {rep : α → List SV} {ok : α → Prop} (ht : P.underlying t = some (.struct fs)) (h : Rd P t k rep ok) : RdA P t (fun a => .g (rep a)) ok := by
  intro H enc W b0 base spare held v d ps hv ⟨fuel, hx⟩
  simp only [Value.okWide, ht] at hv
  obtain ⟨cs, rfl, _⟩ := hv
  obtain ⟨_, a, ha, hr⟩ := h.2 H enc W base spare held fuel _ _ hx
  exact ⟨a, ha, cs.toList, by simp, hr⟩
theorem rda_arr {P : Program} {t e : TypeId} {n k : Nat} {α : Type} {rep : α → List SV} {ok : α → Prop} (ht : P.underlying t = some (.array n e)) (h : Rd P t k rep ok) : RdA P t (fun a => .g (rep a)) ok := by
  intro H enc W b0 base spare held v d ps hv ⟨fuel, hx⟩
  simp only [Value.okWide, ht] at hv
  obtain ⟨cs, rfl, _⟩ := hv
  obtain ⟨_, a, ha, hr⟩ := h.2 H enc W base spare held fuel _ _ hx
  exact ⟨a, ha, cs.toList, by simp, hr⟩
def plainD : TypeDesc → Bool
  | .bool => true
  | .int _ => true
  | .string => true
  | .slice _ => true
  | _ => false
theorem rda_one {P : Program} {t : TypeId} {td : TypeDesc} {α : Type} {rep : α → SV} {ok : α → Prop} (ht : P.underlying t = some td) (hp : plainD td = true) (h : Rd P t 1 (fun a => [rep a]) ok) : RdA P t (fun a => .s (rep a)) ok := by
  intro H enc W b0 base spare held v d ps hv ⟨fuel, hx⟩
  obtain ⟨_, a, ha, hr⟩ := h.2 H enc W base spare held fuel _ _ hx
  have hc : v.cells.toList = [v] := by
    cases v <;> first
      | rfl
      | (simp only [Value.okWide, ht] at hv
         cases td <;> simp_all [Cell.okWide, Cell.ok, plainD])
  rw [hc] at hr
  exact ⟨a, ha, hr.1⟩
end Go.Ax

/- The square root of a float64 that came of a whole number below 2^43 is, cut to a whole number, less than 2^24. -/
namespace Go.Ax.Root
open Ieee

theorem rung_read (r : Nat) (h : r < double.infRung) : ∃ m i, double.read r = .number false m i ∧ m < 2 ^ 53 ∧ (i = double.leastPlace ∨ i = double.leastPlace + ((r / 4503599627370496 - 1 : Nat) : Int)) := by
  have e1 : double.signWeight = 9223372036854775808 := by decide
  have e2 : double.binade = 4503599627370496 := by decide
  have e3 : double.infRung = 9218868437227405312 := by decide
  have e53 : (2 : Nat) ^ 53 = 9007199254740992 := by decide
  rw [e53]
  have hlt : r < 9223372036854775808 := by omega
  have hq : r / 9223372036854775808 = 0 := Nat.div_eq_of_lt hlt
  have hm : r % 9223372036854775808 = r := Nat.mod_eq_of_lt hlt
  unfold Format.read
  rw [e1, hq, hm, e2]
  by_cases hs : r < 4503599627370496
  · rw [if_pos hs]
    exact ⟨r, _, rfl, by omega, .inl rfl⟩
  · rw [if_neg hs, if_pos h]
    refine ⟨_, _, rfl, ?_, .inr rfl⟩
    have := Nat.mod_lt r (show 0 < 4503599627370496 by decide)
    omega

/-- The kept digits are at most 2^53. -/
theorem cut_le (n drop : Nat) (h : n < 2 ^ 53 * 2 ^ drop) : Toward.even.cut false n drop ≤ 2 ^ 53 := by
  unfold Toward.cut
  simp only
  have hb : ∀ b : Bool, b.toNat ≤ 1 := fun b => by cases b <;> decide
  have hg : n / 1 <<< min drop (n.log2 + 2) < 2 ^ 53 := by
    rw [Nat.shiftLeft_eq, Nat.one_mul]
    by_cases hd : drop ≤ n.log2 + 2
    · rw [Nat.min_eq_left hd]
      exact Nat.div_lt_of_lt_mul (by rw [Nat.mul_comm]; exact h)
    · rw [Nat.min_eq_right (by omega)]
      have : n < 2 ^ (n.log2 + 2) := Nat.lt_trans Nat.lt_log2_self (Nat.pow_lt_pow_right (by decide) (by omega))
      rw [Nat.div_eq_of_lt this]
      decide
  have := hb (decide (1 <<< min drop (n.log2 + 2) < 2 * (n % 1 <<< min drop (n.log2 + 2))) || (1 <<< min drop (n.log2 + 2) == 2 * (n % 1 <<< min drop (n.log2 + 2)) && n / 1 <<< min drop (n.log2 + 2) % 2 == 1))
  omega

/-- What is read of the word nearest to mag * 2^place: its place is little above that of the last digit kept. -/
theorem nearest_read (mag : Nat) (place : Int) (h0 : mag ≠ 0) (hlo : double.leastPlace ≤ place + mag.log2 - 52) (hhi : place + mag.log2 ≤ 900) :
    ∃ m i, double.read (double.nearest false mag place) = .number false m i ∧ m < 2 ^ 53 ∧ i ≤ place + mag.log2 - 51 ∧ -1074 ≤ i := by
  have e0 : double.fractionBits = 52 := rfl
  have e2 : double.binade = 4503599627370496 := by decide
  have e3 : double.infRung = 9218868437227405312 := by decide
  have e4 : double.leastPlace = -1074 := by decide
  have hlast : max (place + (mag.log2 : Int) - (double.fractionBits : Int)) double.leastPlace = place + mag.log2 - 52 := by
    rw [e0]
    exact Int.max_eq_left hlo
  have hkept : Toward.even.cut false (mag <<< (place - (place + mag.log2 - 52)).toNat) ((place + (mag.log2 : Int) - 52) - place).toNat ≤ 2 ^ 53 := by
    apply cut_le
    rw [Nat.shiftLeft_eq]
    have hm : mag < 2 ^ (mag.log2 + 1) := Nat.lt_log2_self
    by_cases hk : 52 ≤ mag.log2
    · have h1 : (place - (place + mag.log2 - 52)).toNat = 0 := by omega
      have h2 : ((place + (mag.log2 : Int) - 52) - place).toNat = mag.log2 - 52 := by omega
      rw [h1, h2, Nat.pow_zero, Nat.mul_one, ← Nat.pow_add]
      rw [show 53 + (mag.log2 - 52) = mag.log2 + 1 by omega]
      exact hm
    · have h1 : (place - (place + mag.log2 - 52)).toNat = 52 - mag.log2 := by omega
      have h2 : ((place + (mag.log2 : Int) - 52) - place).toNat = 0 := by omega
      rw [h1, h2, Nat.pow_zero, Nat.mul_one]
      calc mag * 2 ^ (52 - mag.log2) < 2 ^ (mag.log2 + 1) * 2 ^ (52 - mag.log2) := Nat.mul_lt_mul_of_pos_right hm (Nat.two_pow_pos _)
        _ = 2 ^ 53 := by rw [← Nat.pow_add]; congr 1; omega
  unfold Format.nearest
  rw [if_neg h0, hlast]
  simp only [Format.word, Bool.false_eq_true, if_false]
  have e53 : (2 : Nat) ^ 53 = 9007199254740992 := by decide
  rw [e53] at hkept
  generalize Toward.even.cut false (mag <<< (place - (place + mag.log2 - 52)).toNat) ((place + (mag.log2 : Int) - 52) - place).toNat = kept at hkept ⊢
  rw [e2, e3, e4]
  have hA : (place + (mag.log2 : Int) - 52 - -1074).toNat = (place + mag.log2 + 1022).toNat := by congr 1; omega
  rw [hA]
  generalize hAe : (place + (mag.log2 : Int) + 1022).toNat = A
  rw [e4] at hlo
  have hAi : (A : Int) = place + mag.log2 + 1022 := by omega
  have hA1 : A ≤ 1922 := by omega
  have hmin : min (A * 4503599627370496 + kept) 9218868437227405312 = A * 4503599627370496 + kept := by
    apply Nat.min_eq_left
    omega
  rw [hmin]
  have hlt : A * 4503599627370496 + kept < double.infRung := by
    rw [e3]
    clear hmin hlo hhi hAi hlast hA
    omega
  obtain ⟨m, i, hr, hm, hi⟩ := rung_read _ hlt
  rw [e4] at hi
  refine ⟨m, i, hr, hm, ?_⟩
  have hdiv : (A * 4503599627370496 + kept) / 4503599627370496 ≤ A + 2 := by
    have h1 : A * 4503599627370496 + kept ≤ (A + 2) * 4503599627370496 := by
      rw [Nat.add_mul]
      clear hmin hlo hhi hAi hlast hA hlt hr hi
      omega
    have h2 := Nat.div_le_div_right (c := 4503599627370496) h1
    rw [Nat.mul_div_cancel _ (by decide)] at h2
    exact h2
  generalize (A * 4503599627370496 + kept) / 4503599627370496 = D at hdiv hi
  rcases hi with rfl | rfl
  · exact ⟨by omega, by omega⟩
  · exact ⟨by omega, by omega⟩

theorem rootFrom_sq (n : Nat) : ∀ (todo root : Nat), root * root ≤ n → Datum.rootFrom n todo root * Datum.rootFrom n todo root ≤ n
  | 0, _, h => h
  | todo + 1, root, h => by
    unfold Datum.rootFrom
    simp only
    apply rootFrom_sq n todo
    split
    · assumption
    · exact h

theorem log2_le {a b : Nat} (h0 : a ≠ 0) (h : a < 2 ^ (b + 1)) : a.log2 ≤ b := by
  have := Nat.log2_self_le h0
  exact Nat.le_of_lt_succ ((Nat.pow_lt_pow_iff_right (by decide : 1 < 2)).1 (Nat.lt_of_le_of_lt this h))

theorem sqrt_small (s : Int) (h0 : 0 ≤ s) (hs : s < 2 ^ 43) : ∃ r n, FloatKind.f64.format.sqrt (FloatKind.f64.nearest s) = some r ∧ (FloatKind.f64.decode r).toInt .zero = some n ∧ 0 ≤ n ∧ n < 2 ^ 24 := by
  have e4 : double.leastPlace = -1074 := by decide
  have e0 : double.fractionBits = 52 := rfl
  have hf : FloatKind.f64.format = double := rfl
  by_cases hz : s = 0
  · subst hz
    exact ⟨0, 0, by decide +kernel, by decide +kernel, by decide, by decide⟩
  obtain ⟨k, rfl⟩ := Int.eq_ofNat_of_zero_le h0
  have hk0 : k ≠ 0 := by intro h; exact hz (by simp [h])
  have hk : k < 2 ^ 43 := by exact_mod_cast hs
  have hlk : k.log2 ≤ 42 := log2_le hk0 hk
  have hn : FloatKind.f64.nearest (k : Int) = double.nearest false k 0 := by
    unfold FloatKind.nearest FloatKind.encode
    rw [hf]
    have : decide ((k : Int) < 0) = false := by simp
    simp only [this, Int.natAbs_natCast, Format.write]
  obtain ⟨m, i, hr, hm, hi, hi2⟩ := nearest_read k 0 hk0 (by rw [e4]; omega) (by omega)
  -- the root
  obtain ⟨d, hd, hdn⟩ : ∃ d, (Datum.number false m i).root 54 = some d ∧ ∃ mag p, d = .number false mag p ∧ (mag = 0 ∨ (mag ≠ 0 ∧ p + mag.log2 ≤ 22 ∧ -1022 ≤ p + mag.log2)) := by
    by_cases hm0 : m = 0
    · subst hm0
      exact ⟨_, rfl, 0, i, rfl, .inl rfl⟩
    · unfold Datum.root
      simp only [hm0, if_false]
      have hlm : m.log2 ≤ 52 := log2_le hm0 hm
      have hcast : ((2 * 54 - m.log2 : Nat) : Int) = 108 - m.log2 := by omega
      obtain ⟨q, hq, hq2⟩ : ∃ q : Nat, ((i - ((2 * 54 - m.log2 : Nat) : Int)) % 2).toNat = q ∧ q ≤ 1 := ⟨_, rfl, by omega⟩
      rw [hq]
      have hn0 : (m <<< (2 * 54 - m.log2 + q)) < 2 ^ 110 := by
        rw [Nat.shiftLeft_eq]
        calc m * 2 ^ (2 * 54 - m.log2 + q) < 2 ^ (m.log2 + 1) * 2 ^ (2 * 54 - m.log2 + q) := Nat.mul_lt_mul_of_pos_right Nat.lt_log2_self (Nat.two_pow_pos _)
          _ = 2 ^ (109 + q) := by rw [← Nat.pow_add]; congr 1; omega
          _ ≤ 2 ^ 110 := Nat.pow_le_pow_right (by decide) (by omega)
      have hn1 : 1 ≤ m <<< (2 * 54 - m.log2 + q) := by
        rw [Nat.shiftLeft_eq]
        exact Nat.mul_pos (Nat.pos_of_ne_zero hm0) (Nat.two_pow_pos _)
      generalize hN : m <<< (2 * 54 - m.log2 + q) = N at hn0 hn1 ⊢
      have hsq := rootFrom_sq N (N.log2 / 2 + 1) 0 (by omega)
      generalize Datum.rootFrom N (N.log2 / 2 + 1) 0 = root at hsq ⊢
      have hroot : root < 2 ^ 55 := by
        rcases Nat.lt_or_ge root (2 ^ 55) with h | h
        · exact h
        · have := Nat.mul_le_mul h h
          have e : (2 : Nat) ^ 55 * 2 ^ 55 = 2 ^ 110 := by decide
          omega
      have hb : (root * root != N).toNat ≤ 1 := by cases (root * root != N) <;> decide
      generalize (root * root != N).toNat = bb at hb
      refine ⟨_, rfl, 2 * root + bb, _, rfl, ?_⟩
      by_cases hz2 : 2 * root + bb = 0
      · exact .inl hz2
      · right
        have hl : (2 * root + bb).log2 ≤ 55 := log2_le hz2 (by omega)
        refine ⟨hz2, ?_, ?_⟩
        · omega
        · omega
  obtain ⟨mag, p, rfl, hmp⟩ := hdn
  have hsq : FloatKind.f64.format.sqrt (FloatKind.f64.nearest (k : Int)) = some (double.nearest false mag p) := by
    rw [hf, hn]
    unfold Format.sqrt
    rw [hr, e0, hd]
    rfl
  rcases hmp with rfl | ⟨h1, h2, h3⟩
  · refine ⟨_, 0, hsq, ?_, by decide, by decide⟩
    have : double.nearest false 0 p = 0 := rfl
    rw [this]
    decide +kernel
  · obtain ⟨m', i', hr', hm', hi', hi2'⟩ := nearest_read mag p h1 (by rw [e4]; omega) (by omega)
    have hg : FloatKind.f64.decode (double.nearest false mag p) = .number false m' i' := hr'
    refine ⟨_, _, hsq, by rw [hg]; rfl, ?_⟩
    simp only [signed, Bool.false_eq_true, if_false, Nat.shiftLeft_zero]
    have hi0 : i'.toNat = 0 := by omega
    rw [hi0, Nat.shiftLeft_zero]
    unfold Toward.cut
    simp only [Bool.toNat_false, Nat.add_zero]
    refine ⟨Int.natCast_nonneg _, ?_⟩
    have : m' / 1 <<< min (-i').toNat (m'.log2 + 2) < 2 ^ 24 := by
      rw [Nat.shiftLeft_eq, Nat.one_mul]
      by_cases hd : (-i').toNat ≤ m'.log2 + 2
      · rw [Nat.min_eq_left hd]
        apply Nat.div_lt_of_lt_mul
        calc m' < 2 ^ 53 := hm'
          _ = 2 ^ 29 * 2 ^ 24 := by decide
          _ ≤ 2 ^ (-i').toNat * 2 ^ 24 := Nat.mul_le_mul_right _ (Nat.pow_le_pow_right (by decide) (by omega))
      · rw [Nat.min_eq_right (by omega)]
        have : m' < 2 ^ (m'.log2 + 2) := Nat.lt_trans Nat.lt_log2_self (Nat.pow_lt_pow_right (by decide) (by omega))
        rw [Nat.div_eq_of_lt this]
        decide
    exact_mod_cast this
end Go.Ax.Root

/- Contracts over boxes of functions without a result: a box of the caller may become another. -/
namespace Go.Ax
open Go.RowKit

def retQ (bx' : BoxL) : Exit → St → Prop
  | .ret, σ => holdB σ.box bx'
  | .normal, σ => holdB σ.box bx'
  | _, _ => False

section
variable {P : Program} {T : List (Nat × TyI)}
theorem callQ_of_ex {rc : List Nat} {f N : Nat} {fn : Func} {c : Code} {args : List AV} {bx : BoxL} {bx' : BoxL} (hf : P.funcs[f]? = some fn) (hb : fn.body = some c) (hN : fn.ntmps = N) (hcall : ∀ vs w, (callFunc f vs).run P w = .ok (.enter f vs) w)
    (hT : TabOK P T) (hm : P.follows .mixedOrders = true) (hl : Nat.ble args.length N = true) (hreal : (bx'.all fun p => p.2.real) = true) (hrs : fn.results.toList = [])
    (h : ∀ cx : Cx, cx.ref = names bx → ex P T N (names bx) rc cx c (initR args bx) (retQ bx')) : CallR P f args bx (.t []) bx' := by
  classical
  refine ⟨hcall, fun M β w vs hG hr hM hbx hβ => ?_⟩
  refine calls_of_wp hf hb ?_
  let cx : Cx := { B := w.heap.size, ref := names bx, β0 := β }
  have hlen := hr.length
  have hl := Nat.le_of_ble_eq_true hl
  have hex : ∀ x, x ∈ names bx → ∃ p, β x = some p := fun x hx => by
    obtain ⟨k, c, e⟩ := hbx.has x hx
    exact ⟨_, e⟩
  have i0 : Inv cx N M β (initR args bx) { tmps := vs.toArray ++ Array.replicate (fn.ntmps - vs.toArray.size) undef, defers := [] } w := by
    refine ⟨rfl, by simp; omega, ⟨Nat.le_refl _, by obtain ⟨bs, hG, hN2⟩ := hG; exact ⟨bs, hG, fun g t m => ⟨hG.lt m, by rintro ⟨x, c, _, hx⟩; exact hN2 g t m x c hx⟩⟩⟩, fun t => ?_, hM, fun x p e => openB.has (hβ x p e), fun x b e => hbx.rep x b (openB.get e), fun x y b1 b2 b c c' h1 h2 e1 e2 => ?_, fun x b1 b c h1 e => ?_, fun x b1 b c h1 e => ?_, fun x hx => ⟨rfl, hex x hx⟩⟩
    · have := envOf.rep (k := 0) (t := t) (List.replicate (fn.ntmps - vs.length) undef) hr (Nat.zero_le _)
      simp only [Nat.sub_zero] at this
      simp only [initR]
      have e : (vs.toArray ++ Array.replicate (fn.ntmps - vs.toArray.size) undef).getD t undef = (vs ++ List.replicate (fn.ntmps - vs.length) undef).getD t undef := by
        simp [← List.toArray_replicate]
      rw [e]
      exact this
    · exact hbx.inj x y b c c' (mem_names (openB.get h1)) (mem_names (openB.get h2)) e1 e2
    · exact hbx.apart x b c (mem_names (openB.get h1)) e
    · exact .inr ⟨x, c, mem_names (openB.get h1), e⟩
  refine wp_mono (wpIn_wide.1 (ex.sound hT hm (cx := cx) rfl c (h cx rfl) M β _ w i0)) ?_
  rintro e a' w' ⟨σ', M', β', hk, i', hg, hkp⟩
  have fin : holdB σ'.box bx' → a'.defers = [] ∧ ∃ v, (results fn a'.tmps).run P w' = .ok v w' ∧ ∃ v' M' β', Ending.returned v = .returned v' ∧ Nm.le β β' ∧ (AV.t []).Rep M' β' v' ∧ Grow w.heap.size M M' ∧ MemOK M' w' ∧ BoxesOK M' β' w' bx' ∧
      (∀ x b c, x ∈ names bx' → β' x = some (b, c) → w.heap.size ≤ b ∨ ∃ y c', β y = some (b, c')) ∧
      w'.os = w.os ∧ w'.tape = w.tape ∧ w'.output = w.output ∧ w.heap.size ≤ w'.heap.size ∧ (∀ k, k < w.heap.size → (∀ y c, β y ≠ some (k, c)) → w'.heap[k]? = w.heap[k]?) := by
    intro hhold
    have hlive : ∀ x, x ∈ names bx' → ∃ b, getB σ'.box x = some (some b) := fun x hx => by
      obtain ⟨b, hb⟩ := of_names hx
      exact ⟨b, holdB.get hhold hb⟩
    refine ⟨i'.defers, .tuple #[], ?_, _, M', β', rfl, ?_, ⟨[], rfl, trivial⟩, hg, i'.mem, ?_, ?_, hkp.os, hkp.tape, hkp.output, hkp.size, ?_⟩
    · have e0 : fn.results = #[] := by
        rw [← Array.toArray_toList (xs := fn.results), hrs]
      have : (fn.results.mapM (resSem a'.tmps)).run P w' = .ok #[] w' := by
        rw [e0]; simp only [Array.mapM_empty, Sem.run_pure]
      have e : results fn a'.tmps = (do let vs ← fn.results.mapM (resSem a'.tmps); pure (if h : vs.size = 1 then vs[0] else .tuple vs)) := by
        unfold results
        congr 1
      rw [e]
      simp only [Sem.run_bind, this, Result.andThen, Sem.run_pure]
      rfl
    · intro x p e
      rw [(i'.ref x (hβ x p e)).1]
      exact e
    · refine ⟨fun x hx => ?_, fun x b hb => i'.box x b (holdB.get hhold hb), fun x y b c c' hx hy e1 e2 => ?_, fun x b c hx e o => ?_⟩
      · obtain ⟨b, hb⟩ := of_names hx
        rw [List.all_eq_true] at hreal
        exact (i'.box x b (holdB.get hhold hb)).exb (hreal _ hb)
      · obtain ⟨bx1, h1⟩ := hlive x hx
        obtain ⟨bx2, h2⟩ := hlive y hy
        exact i'.inj x y bx1 bx2 b c c' h1 h2 e1 e2
      · obtain ⟨bx1, h1⟩ := hlive x hx
        exact i'.apart x bx1 b c h1 e o
    · intro x b c hx e
      obtain ⟨bx1, h1⟩ := hlive x hx
      rcases i'.low x bx1 b c h1 e with h | ⟨y, c', hy, hy2⟩
      · exact .inl h
      · exact .inr ⟨y, c', hy2⟩
    · intro k hk hnk
      exact hkp.block k hk (by rintro ⟨x, c, _, hx⟩; exact hnk x c hx)
  cases e with
  | ret => exact fin hk
  | normal => exact fin hk
  | _ => exact hk.elim
end
end Go.Ax

/- A row that a cell of a box points to: no longer perhaps nil. -/
namespace Go.Ax
open Go.RowKit
theorem SubI.ownC {cx : Cx} {N : Nat} {σ : St} {e n s : Nat} {f : Nat → Nat → DV} {z : Bool} {cs : List SV} (y0 j x : Nat) (hy0 : getB σ.box y0 = some (some (.cells cs))) (hj : cs[j]? = some (.mo z x)) (hz : z = false) (hb : getB σ.box x = some (some (.mrow e n s f))) :
    SubI cx N σ ⟨σ.env, (x, some (.row e n s f)) :: σ.box⟩ := by
  intro M β a w i
  obtain ⟨_, _, vs, _, _, _, hr⟩ := i.box y0 _ hy0
  obtain ⟨v, _, r⟩ := hr.get hj
  obtain ⟨b, c, hx, hv, hc⟩ := r.2 hz
  obtain ⟨cur, h1, h2, h3, h4, h5, h6⟩ := i.box x _ hb b c hx
  have live : ∀ y bc, getB ((x, some (.row e n s f)) :: σ.box) y = some (some bc) → ∃ bc, getB σ.box y = some (some bc) := by
    intro y bc h
    rw [getB_cons] at h
    by_cases hy : x = y
    · subst hy; exact ⟨_, hb⟩
    · rw [if_neg hy] at h; exact ⟨_, h⟩
  refine ⟨β, i.defers, i.tmps, i.heap, ?_, i.mem, ?_, ?_, ?_, ?_, ?_, i.ref⟩
  · exact i.env
  · intro y p h
    obtain ⟨z, hz⟩ := i.keys y p h
    show ∃ y', getB ((x, _) :: σ.box) y = some y'
    rw [getB_cons]
    by_cases hy : x = y
    · rw [if_pos hy]; exact ⟨_, rfl⟩
    · rw [if_neg hy]; exact ⟨z, hz⟩
  · intro y bc h
    have h : getB ((x, some (.row e n s f)) :: σ.box) y = some (some bc) := h
    rw [getB_cons] at h
    by_cases hy : x = y
    · subst hy
      rw [if_pos rfl] at h
      cases h
      exact ⟨b, c, cur, hx, h1, h2, h3, h4, h5, h6⟩
    · rw [if_neg hy] at h; exact i.box y bc h
  · intro y y' bx bx' b1 c1 c2 e1 e2 g1 g2
    obtain ⟨_, e1⟩ := live _ _ e1
    obtain ⟨_, e2⟩ := live _ _ e2
    exact i.inj y y' _ _ b1 c1 c2 e1 e2 g1 g2
  · intro y bx b1 c1 e1 g1
    obtain ⟨_, e1⟩ := live _ _ e1
    exact i.apart y _ b1 c1 e1 g1
  · intro y bx b1 c1 e1 g1
    obtain ⟨_, e1⟩ := live _ _ e1
    exact i.low y _ b1 c1 e1 g1
end Go.Ax

/- Rows that become data while the boxes that were handed in stay; contracts with a result where a box of the caller becomes another. -/
namespace Go.Ax
open Go.RowKit

theorem LeQf.moOwn {box : Boxes} {fz : List Nat} {z : Bool} {x e n s : Nat} {f : Nat → Nat → DV} (h : z = false) (hx : x ∈ fz) (hb : getB box x = some (some (.row e n s f))) : LeQf box fz (.s (.mo z x)) (.s (.d (.slc n s f))) :=
  fun _ _ v hf r => hf x hx e n s f hb v (r.2 h)
def isLive : Option (Option Box) → Bool
  | some (some _) => true
  | _ => false
theorem SubM.ofR {cx : Cx} {N : Nat} {σ σ' : St} (ren : List (Nat × Nat)) (fz : List Nat) (hr : (cx.ref.all fun x => (bkeys σ'.box).contains x && Nat.beq (look ren x) x && isLive (getB σ.box x) && !fz.contains x) = true) (hi : injL ren (bkeys σ'.box) = true) (hz : (fz.all fun x => isRow (getB σ.box x)) = true) (hd : ((bkeys σ'.box).all fun x => !fz.contains (look ren x)) = true)
    (hb : boxQf ren fz σ.box (bkeys σ'.box) σ'.box) (he : envQf ren fz σ.box σ.env (bkeys σ'.box) σ'.env) : SubM cx N σ σ' := by
  classical
  intro M β a w i
  have hrr : ∀ x, x ∈ cx.ref → x ∈ bkeys σ'.box ∧ look ren x = x ∧ (∃ bc, getB σ.box x = some (some bc)) ∧ x ∉ fz := by
    intro x hx
    rw [List.all_eq_true] at hr
    have := hr x hx
    simp only [Bool.and_eq_true] at this
    obtain ⟨⟨⟨h1, h2⟩, h3⟩, h4⟩ := this
    refine ⟨by simpa using h1, Nat.eq_of_beq_eq_true h2, ?_, by simpa using h4⟩
    unfold isLive at h3
    split at h3
    · rename_i bc h; exact ⟨bc, h⟩
    · cases h3
  let ks := bkeys σ'.box
  let isZ : Nat → Prop := fun b => ∃ x c, x ∈ fz ∧ β x = some (b, c)
  let M' : Mem := fun b o => if isZ b then w.cell? ⟨b, o, none⟩ else M b o
  have hlive : ∀ x, x ∈ fz → ∃ e n s f, getB σ.box x = some (some (.row e n s f)) := by
    intro x hx
    rw [List.all_eq_true] at hz
    have := hz x hx
    unfold isRow at this
    split at this
    · rename_i e n s f h; exact ⟨e, n, s, f, h⟩
    · cases this
  have hMM : Mem.le M M' := by
    intro b o u h
    by_cases hb : isZ b
    · obtain ⟨x, c, hx, e⟩ := hb
      obtain ⟨e', n, s, f, hg⟩ := hlive x hx
      rw [i.apart x _ b c hg e o] at h; cases h
    · simp only [M', if_neg hb]; exact h
  have hF : Fz σ.box fz M' β := by
    intro x hx e n s f hg v ⟨b, c, e1, ev, hc⟩
    obtain ⟨b', c', cur, e2, hh, hl, hsz, hn, _, hcell⟩ := i.box x _ hg
    rw [e1] at e2; cases e2
    subst ev
    refine ⟨some ⟨b, 0, none⟩, c.1, by rw [hl], hn, .inr ⟨b, 0, rfl, fun k j hk hj => ?_⟩⟩
    obtain ⟨u, hu, hr⟩ := hcell k j hk hj
    have hZ : isZ b := ⟨x, c, hx, e1⟩
    exact ⟨u, by simp only [M', if_pos hZ]; simp [World.cell?, hh, hu], DV.Rep.mono hMM hr⟩
  let β' : Nm := fun x => if x ∈ ks then β (look ren x) else none
  have hin : ∀ x, x ∈ ks → β' x = β (look ren x) := fun x hx => by simp [β', hx]
  have hβ : ∀ x p, β' x = some p → x ∈ ks ∧ β (look ren x) = some p := fun x p h => by
    simp only [β'] at h
    split at h
    · exact ⟨by assumption, h⟩
    · cases h
  have hup : ∀ x, x ∈ ks → ∀ p, β (look ren x) = some p → β' x = some p := fun x hx p e => by rw [hin x hx]; exact e
  have hinj : ∀ x y, x ∈ ks → y ∈ ks → look ren x = look ren y → x = y := by
    intro x y hx hy e
    simp only [injL, List.all_eq_true] at hi
    have := hi x hx y hy
    simp only [Bool.or_eq_true] at this
    rcases this with h | h
    · exact Nat.eq_of_beq_eq_true h
    · rw [e] at h; simp at h
  have hnz : ∀ x, x ∈ ks → look ren x ∉ fz := by
    intro x hx
    rw [List.all_eq_true] at hd
    simpa using hd x hx
  have live : ∀ x b k c, getB σ'.box x = some (some b) → β' x = some (k, c) → x ∈ ks ∧ ∃ b0, getB σ.box (look ren x) = some (some b0) ∧ β (look ren x) = some (k, c) := by
    intro x b k c h e
    obtain ⟨h1, h2, h3⟩ := boxQf.get (fun _ h => h) hb x b h
    have e := (hβ x _ e).2
    obtain ⟨y, hy⟩ := i.keys _ _ e
    rw [hy] at h3
    cases y with
    | none => exact h3.elim
    | some b0 => exact ⟨h1, b0, hy, e⟩
  refine ⟨M', β', ⟨i.defers, i.tmps, i.heap, fun t => envQf.get hF hup he t _ (AV.Rep.mono hMM (Nm.le_refl β) (i.env t)), ?_, ?_, ?_, ?_, ?_, ?_, ?_⟩, hMM, ?_⟩
  · intro b o u h
    by_cases hb : isZ b
    · simp only [M', if_pos hb] at h; exact h
    · simp only [M', if_neg hb] at h; exact i.mem b o u h
  · intro x p e
    exact bkeys.has (hβ x p e).1
  · intro x b h
    obtain ⟨h1, h2, h3⟩ := boxQf.get (fun _ h => h) hb x b h
    cases hs : getB σ.box (look ren x) with
    | none =>
      rw [hs] at h3
      have hn : β' x = none := by
        rw [hin x h1]
        cases hb0 : β (look ren x) with
        | none => rfl
        | some p => obtain ⟨y, hy⟩ := i.keys _ _ hb0; rw [hs] at hy; cases hy
      cases b with
      | mrow e n s f => intro k c e; rw [hn] at e; cases e
      | _ => cases h3
    | some y =>
      cases y with
      | none => rw [hs] at h3; exact h3.elim
      | some b0 =>
        rw [hs] at h3
        have hrep := h3 M' β w (look ren x) hF (RepBox.mono hMM (Nm.le_refl β) rfl (fun _ _ _ => rfl) (i.box _ _ hs))
        cases b with
        | cells cs => exact renB.rep hup h1 h2 hrep
        | row e n s f => exact renB.rep hup h1 rfl hrep
        | mrow e n s f => intro k c e; rw [hin x h1] at e; exact hrep k c e
        | map vk l => exact renB.rep hup h1 rfl hrep
        | fresh T vs => exact renB.rep hup h1 rfl hrep
        | iter m n seen => exact renB.rep hup h1 h2 hrep
  · intro x y bx bby b c c' ex ey hx hy
    obtain ⟨kx, b0, g0, e0⟩ := live x bx b c ex hx
    obtain ⟨ky, b1, g1, e1⟩ := live y bby b c' ey hy
    exact hinj x y kx ky (i.inj _ _ b0 b1 b c c' g0 g1 e0 e1)
  · intro x bx b c ex hx o
    obtain ⟨kx, b0, g0, e0⟩ := live x bx b c ex hx
    have : ¬ isZ b := by
      rintro ⟨z, c', hz', e'⟩
      obtain ⟨e2, n, s, f, hg⟩ := hlive z hz'
      have := i.inj _ _ _ _ b c' c hg g0 e' e0
      subst this
      exact hnz x kx hz'
    simp only [M', if_neg this]
    exact i.apart _ b0 b c g0 e0 o
  · intro x bx b c ex hx
    obtain ⟨kx, b0, g0, e0⟩ := live x bx b c ex hx
    exact i.low _ b0 b c g0 e0
  · intro x hx
    obtain ⟨h1, h2, _, _⟩ := hrr x hx
    rw [hin x h1, h2]
    exact i.ref x hx
  · intro b o u h
    by_cases hb : isZ b
    · obtain ⟨x, c, hx, e⟩ := hb
      obtain ⟨e', n, s, f, hg⟩ := hlive x hx
      rcases i.low x _ b c hg e with h | ⟨y, c', hy, e0⟩
      · exact .inr h
      · obtain ⟨_, _, ⟨bc', hl⟩, hnf⟩ := hrr y hy
        have ey : β y = some (b, c') := by rw [(i.ref y hy).1]; exact e0
        exact absurd (i.inj x y _ _ b c c' hg hl e ey ▸ hx) hnf
    · simp only [M', if_neg hb] at h; exact .inl h

def retQR (cx : Cx) (N : Nat) (T : List (Nat × TyI)) (rs : List ResultVar) (r : AV) (bx' : BoxL) (e : Exit) (σ : St) : Prop :=
  (e = .ret ∨ e = .normal) ∧ ∃ σ2 ts, SubM cx N σ σ2 ∧ resL T σ2 rs = some ts ∧ LeQ (ofTs ts) r ∧ holdB σ2.box bx'

section
variable {P : Program} {T : List (Nat × TyI)}
theorem ofTs.rep {M : Mem} {β : Nm} {ts : List TV} {vs : List Value} (h : RepT M β ts vs) : (ofTs ts).Rep M β (if h : vs.toArray.size = 1 then vs.toArray[0] else .tuple vs.toArray) := by
  cases ts with
  | nil =>
    cases vs with
    | nil => exact ⟨[], rfl, trivial⟩
    | cons _ _ => exact h.elim
  | cons t r' =>
    cases vs with
    | nil => exact h.elim
    | cons v vs'' =>
      cases r' with
      | nil =>
        cases vs'' with
        | cons _ _ => exact h.2.elim
        | nil =>
          have := h.1
          simp only [List.size_toArray, List.length_cons, List.length_nil, Nat.zero_add, dite_true, ofTs]
          cases t with
          | s x => exact this
          | g cs => exact this
      | cons t2 r2 =>
        cases vs'' with
        | nil => exact h.2.elim
        | cons v2 vs3 =>
          have hne : ¬ (v :: v2 :: vs3).toArray.size = 1 := by simp
          rw [dif_neg hne]
          exact ⟨_, rfl, h⟩
theorem callQR_of_aw {f N : Nat} {fn : Func} {c : Code} {args : List AV} {bx : BoxL} {r : AV} {bx' : BoxL} (hf : P.funcs[f]? = some fn) (hb : fn.body = some c) (hN : fn.ntmps = N) (hcall : ∀ vs w, (callFunc f vs).run P w = .ok (.enter f vs) w)
    (hT : TabOK P T) (hl : Nat.ble args.length N = true) (hreal : (bx'.all fun p => p.2.real) = true) {rs : List ResultVar} (hrs : fn.results.toList = rs)
    (h : ∀ cx : Cx, cx.ref = names bx → AW P cx N c (initR args bx) (retQR cx N T rs r bx')) : CallR P f args bx r bx' := by
  classical
  refine ⟨hcall, fun M β w vs hG hr hM hbx hβ => ?_⟩
  refine calls_of_wp hf hb ?_
  let cx : Cx := { B := w.heap.size, ref := names bx, β0 := β }
  have hlen := hr.length
  have hl := Nat.le_of_ble_eq_true hl
  have hex : ∀ x, x ∈ names bx → ∃ p, β x = some p := fun x hx => by
    obtain ⟨k, c, e⟩ := hbx.has x hx
    exact ⟨_, e⟩
  have i0 : Inv cx N M β (initR args bx) { tmps := vs.toArray ++ Array.replicate (fn.ntmps - vs.toArray.size) undef, defers := [] } w := by
    refine ⟨rfl, by simp; omega, ⟨Nat.le_refl _, by obtain ⟨bs, hG, hN2⟩ := hG; exact ⟨bs, hG, fun g t m => ⟨hG.lt m, by rintro ⟨x, c, _, hx⟩; exact hN2 g t m x c hx⟩⟩⟩, fun t => ?_, hM, fun x p e => openB.has (hβ x p e), fun x b e => hbx.rep x b (openB.get e), fun x y b1 b2 b c c' h1 h2 e1 e2 => ?_, fun x b1 b c h1 e => ?_, fun x b1 b c h1 e => ?_, fun x hx => ⟨rfl, hex x hx⟩⟩
    · have := envOf.rep (k := 0) (t := t) (List.replicate (fn.ntmps - vs.length) undef) hr (Nat.zero_le _)
      simp only [Nat.sub_zero] at this
      simp only [initR]
      have e : (vs.toArray ++ Array.replicate (fn.ntmps - vs.toArray.size) undef).getD t undef = (vs ++ List.replicate (fn.ntmps - vs.length) undef).getD t undef := by
        simp [← List.toArray_replicate]
      rw [e]
      exact this
    · exact hbx.inj x y b c c' (mem_names (openB.get h1)) (mem_names (openB.get h2)) e1 e2
    · exact hbx.apart x b c (mem_names (openB.get h1)) e
    · exact .inr ⟨x, c, mem_names (openB.get h1), e⟩
  refine wp_mono (wpIn_wide.1 (h cx rfl M β _ w i0)) ?_
  rintro e a' w' ⟨σ', M', β', hk, i', hg, hkp⟩
  have fin : ∀ (σ' : St) (M' : Mem) (β' : Nm), Inv cx N M' β' σ' a' w' → Grow w.heap.size M M' → ∀ ts, resL T σ' rs = some ts → LeQ (ofTs ts) r → holdB σ'.box bx' → a'.defers = [] ∧ ∃ v, (results fn a'.tmps).run P w' = .ok v w' ∧ ∃ v' M' β', Ending.returned v = .returned v' ∧ Nm.le β β' ∧ r.Rep M' β' v' ∧ Grow w.heap.size M M' ∧ MemOK M' w' ∧ BoxesOK M' β' w' bx' ∧
      (∀ x b c, x ∈ names bx' → β' x = some (b, c) → w.heap.size ≤ b ∨ ∃ y c', β y = some (b, c')) ∧
      w'.os = w.os ∧ w'.tape = w.tape ∧ w'.output = w.output ∧ w.heap.size ≤ w'.heap.size ∧ (∀ k, k < w.heap.size → (∀ y c, β y ≠ some (k, c)) → w'.heap[k]? = w.heap[k]?) := by
    intro σ' M' β' i' hg ts hts hsub hhold
    obtain ⟨vs', hrun, hrep⟩ := resL.rep hT i' hts
    have hlive : ∀ x, x ∈ names bx' → ∃ b, getB σ'.box x = some (some b) := fun x hx => by
      obtain ⟨b, hb⟩ := of_names hx
      exact ⟨b, holdB.get hhold hb⟩
    refine ⟨i'.defers, (if h : vs'.toArray.size = 1 then vs'.toArray[0] else .tuple vs'.toArray), ?_, _, M', β', rfl, ?_, hsub _ _ _ (ofTs.rep hrep), hg, i'.mem, ?_, ?_, hkp.os, hkp.tape, hkp.output, hkp.size, ?_⟩
    · have : (fn.results.mapM (resSem a'.tmps)).run P w' = .ok vs'.toArray w' := by
        rw [← Array.toArray_toList (xs := fn.results), List.mapM_toArray, hrs]
        simp only [Sem.run_map, hrun, Result.andThen]
      have e : results fn a'.tmps = (do let vs ← fn.results.mapM (resSem a'.tmps); pure (if h : vs.size = 1 then vs[0] else .tuple vs)) := by
        unfold results
        congr 1
      rw [e]
      simp only [Sem.run_bind, this, Result.andThen, Sem.run_pure]
    · intro x p e
      rw [(i'.ref x (hβ x p e)).1]
      exact e
    · refine ⟨fun x hx => ?_, fun x b hb => i'.box x b (holdB.get hhold hb), fun x y b c c' hx hy e1 e2 => ?_, fun x b c hx e o => ?_⟩
      · obtain ⟨b, hb⟩ := of_names hx
        rw [List.all_eq_true] at hreal
        exact (i'.box x b (holdB.get hhold hb)).exb (hreal _ hb)
      · obtain ⟨bx1, h1⟩ := hlive x hx
        obtain ⟨bx2, h2⟩ := hlive y hy
        exact i'.inj x y bx1 bx2 b c c' h1 h2 e1 e2
      · obtain ⟨bx1, h1⟩ := hlive x hx
        exact i'.apart x bx1 b c h1 e o
    · intro x b c hx e
      obtain ⟨bx1, h1⟩ := hlive x hx
      rcases i'.low x bx1 b c h1 e with h | ⟨y, c', hy, hy2⟩
      · exact .inl h
      · exact .inr ⟨y, c', hy2⟩
    · intro k hk hnk
      exact hkp.block k hk (by rintro ⟨x, c, _, hx⟩; exact hnk x c hx)
  obtain ⟨he, σ2, ts, hsub, hts, hle, hhold⟩ := hk
  obtain ⟨M2, β2, i2, g2⟩ := hsub M' β' a' w' i'
  have := fin σ2 M2 β2 i2 (hg.trans g2) ts hts hle hhold
  rcases he with rfl | rfl
  · exact this
  · exact this
end
end Go.Ax

/- A part of an activation in a context of its own: all boxes are references, all older blocks are kept. -/
namespace Go.Ax
open Go.RowKit

/-- The context of a part that begins in the world w: its boxes ks are handed to it. -/
def Cx.part (w : World) (ks : List Nat) (β : Nm) (rd : Option Nat) (df : List Deferred) : Cx := { B := w.heap.size, ref := ks, β0 := β, rd := rd, df := df }

section
variable {P : Program} {cx : Cx} {N : Nat} {M : Mem} {β : Nm} {σ : St} {a : Act} {w : World} {ks : List Nat} {rd : Option Nat} {df : List Deferred}

theorem Inv.into (i : Inv cx N M β σ a w) (hin : ∀ x, x ∈ ks → ∃ bc, getB σ.box x = some (some bc)) (hall : ∀ x bc, getB σ.box x = some (some bc) → x ∈ ks) (hne : ∀ x, x ∈ ks → ∃ p, β x = some p)
    (hdf : a.defers = df) : Inv (Cx.part w ks β rd df) N M β σ a w := by
  refine ⟨hdf, i.tmps, ⟨Nat.le_refl _, ?_⟩, i.env, i.mem, i.keys, i.box, i.inj, i.apart, fun x bc b c hb e => .inr ⟨x, c, hall x bc hb, e⟩, fun x hx => ⟨rfl, hne x hx⟩⟩
  obtain ⟨bs, h1, h2⟩ := i.heap.tab
  refine ⟨bs, h1, fun g t m => ⟨h1.lt m, ?_⟩⟩
  rintro ⟨x, c, hx, e⟩
  obtain ⟨bc, hbc⟩ := hin x hx
  rcases i.low x bc g c hbc e with h | h
  · have := (h2 g t m).1; omega
  · exact (h2 g t m).2 h

theorem Keep.back (i : Inv cx N M β σ a w) (hin : ∀ x, x ∈ ks → ∃ bc, getB σ.box x = some (some bc)) {w1 w' : World} (k : Keep (Cx.part w ks β rd df) w1 w') : Keep cx w1 w' := by
  refine ⟨k.os, k.tape, k.output, k.size, fun b hb hm => k.block b (Nat.lt_of_lt_of_le hb i.heap.le) ?_⟩
  rintro ⟨x, c, hx, e⟩
  obtain ⟨bc, hbc⟩ := hin x hx
  rcases i.low x bc b c hbc e with h | h
  · omega
  · exact hm h

theorem Grow.back (i : Inv cx N M β σ a w) {M' : Mem} (g : Grow w.heap.size M M') : Grow cx.B M M' :=
  ⟨g.le, fun b o u e => (g.new b o u e).imp id (fun h => Nat.le_trans i.heap.le h)⟩

/-- Back from the part: the boxes as it left them, under an activation whose values are known. -/
theorem Inv.back (i : Inv cx N M β σ a w) (hin : ∀ x, x ∈ ks → ∃ bc, getB σ.box x = some (some bc)) (href : ∀ x, x ∈ cx.ref → x ∈ ks)
    {N' N2 : Nat} {M' : Mem} {β' : Nm} {σ' : St} {a' a2 : Act} {w' : World} {env2 : List (Nat × AV)} {rd2 : Option Nat} {df2 : List Deferred}
    (i' : Inv (Cx.part w ks β rd df) N' M' β' σ' a' w') (kb : Keep cx w w')
    (hd : a2.defers = df2) (ht : a2.tmps.size = N2) (he : ∀ t, (getE env2 t).Rep M' β' (a2.tmps.getD t undef)) :
    Inv { cx with rd := rd2, df := df2 } N2 M' β' ⟨env2, σ'.box⟩ a2 w' := by
  have h := i.heap.keep kb
  refine ⟨hd, ht, ⟨h.le, h.tab⟩, he, i'.mem, i'.keys, i'.box, i'.inj, i'.apart, fun x bc b c hb e => ?_, fun x hx => ?_⟩
  · rcases i'.low x bc b c hb e with h | ⟨y, c', hy, ey⟩
    · exact .inl (Nat.le_trans i.heap.le h)
    · obtain ⟨by', hby⟩ := hin y hy
      exact i.low y by' b c' hby ey
  · obtain ⟨e1, p, e2⟩ := i'.ref x (href x hx)
    exact ⟨e1.trans (i.ref x hx).1, p, e2⟩

/-- What the activation held at the part's begin it still holds, if its names are the part's. -/
theorem Inv.held {N' : Nat} {M' : Mem} {β' : Nm} {σ' : St} {a' : Act} {w' : World} (i' : Inv (Cx.part w ks β rd df) N' M' β' σ' a' w') (g : Grow w.heap.size M M')
    {v : AV} {u : Value} (hv : inA ks v = true) (r : v.Rep M β u) : v.Rep M' β' u :=
  AV.Rep.mono g.le (Nm.le_refl β') (inA.mono (xs := ks) (fun x hx _ e => (i'.ref x hx).1.trans e) hv r)

/-- Blocks that no B says lie as they lay. -/
structure Side (B : Nat → Prop) (w w' : World) : Prop where
  size : w.heap.size ≤ w'.heap.size
  same : ∀ (k : Nat) (o : Obj), ¬ B k → w.heap[k]? = some o → w'.heap[k]? = some o

theorem Inv.side {B : Nat → Prop} {w' : World} (i : Inv cx N M β σ a w) (h : Side B w w') (hb : ∀ x bc b c, getB σ.box x = some (some bc) → β x = some (b, c) → ¬ B b)
    (hM : ∀ b o u, M b o = some u → ¬ B b) (hT : ∀ bs, GlobB bs w → (∀ g t, (g, t) ∈ tabsL bs → g < cx.B ∧ ¬ cx.mayWrite g) → ∀ g t, (g, t) ∈ tabsL bs → ¬ B g) : Inv cx N M β σ a w' := by
  refine ⟨i.defers, i.tmps, ⟨Nat.le_trans i.heap.le h.size, ?_⟩, i.env, fun b o u e => ?_, i.keys, fun x bc e => ?_, i.inj, i.apart, i.low, i.ref⟩
  · obtain ⟨bs, h1, h2⟩ := i.heap.tab
    refine ⟨bs, fun g t m => ?_, h2⟩
    obtain ⟨e, fr, c⟩ := h1 g t m
    exact ⟨e, fr, h.same g _ (hT bs h1 h2 g t m) c⟩
  · have hc := i.mem b o u e
    have : w'.heap[b]? = w.heap[b]? := by
      cases ho : w.heap[b]? with
      | none => simp [World.cell?, ho] at hc
      | some x => exact h.same b x (hM b o u e) ho
    simpa [World.cell?, this] using hc
  · have hh : ∀ b c, β x = some (b, c) → ∀ o, w.heap[b]? = some o → w'.heap[b]? = some o := fun b c eb o ho => h.same b o (hb x bc b c e eb) ho
    have hr := i.box x bc e
    cases bc with
    | cells cs => obtain ⟨b, c, vs, T, h1, h2, h3⟩ := hr; exact ⟨b, c, vs, T, h1, hh b c h1 _ h2, h3⟩
    | row e' n s f => obtain ⟨b, c, cur, h1, h2, h3⟩ := hr; exact ⟨b, c, cur, h1, hh b c h1 _ h2, h3⟩
    | mrow e' n s f => intro b c h1; obtain ⟨cur, h2, h3⟩ := hr b c h1; exact ⟨cur, hh b c h1 _ h2, h3⟩
    | map vk l => obtain ⟨b, c, h1, h2⟩ := hr; exact ⟨b, c, h1, hh b c h1 _ h2⟩
    | fresh T vs => obtain ⟨b, c, h1, h2⟩ := hr; exact ⟨b, c, h1, hh b c h1 _ h2⟩
    | iter m n seen => obtain ⟨b, c, bm, cm, h1, h2, h3⟩ := hr; exact ⟨b, c, bm, cm, h1, h2, hh b c h1 _ h3⟩

/-- What a box's block may hold. -/
def boxy : Obj → Bool
  | .cells .. => true
  | .map .. => true
  | .mapIter .. => true
  | _ => false
theorem RepBox.boxy {M : Mem} {β : Nm} {w : World} {x b : Nat} {c : Nat × Nat} {bc : Box} (h : RepBox M β w x bc) (e : β x = some (b, c)) : ∃ o, w.heap[b]? = some o ∧ Go.Ax.boxy o = true := by
  cases bc with
  | cells cs => obtain ⟨b', c', vs, T, h1, h2, _⟩ := h; rw [h1] at e; cases e; exact ⟨_, h2, rfl⟩
  | row e' n s f => obtain ⟨b', c', cur, h1, h2, _⟩ := h; rw [h1] at e; cases e; exact ⟨_, h2, rfl⟩
  | mrow e' n s f => obtain ⟨cur, h2, _⟩ := h b c e; exact ⟨_, h2, rfl⟩
  | map vk l => obtain ⟨b', c', h1, h2⟩ := h; rw [h1] at e; cases e; exact ⟨_, h2, rfl⟩
  | fresh T vs => obtain ⟨b', c', h1, h2⟩ := h; rw [h1] at e; cases e; exact ⟨_, h2, rfl⟩
  | iter m n seen => obtain ⟨b', c', bm, cm, h1, _, h3⟩ := h; rw [h1] at e; cases e; exact ⟨_, h3, rfl⟩

/-- Blocks that hold no box may turn, and new ones may be laid. -/
theorem Inv.off {w' : World} (i : Inv cx N M β σ a w) (hs : w.heap.size ≤ w'.heap.size) (h : ∀ (k : Nat) (o : Obj), boxy o = true → w.heap[k]? = some o → w'.heap[k]? = some o) : Inv cx N M β σ a w' := by
  refine i.side (B := fun k => ∀ o : Obj, w.heap[k]? = some o → boxy o = false) ⟨hs, fun k o hk ho => ?_⟩ ?_ ?_ ?_
  · cases hb : boxy o with
    | true => exact h k o hb ho
    | false => exact absurd (fun o' ho' => by rw [ho] at ho'; cases ho'; exact hb) hk
  · intro x bc b c e eb hk
    obtain ⟨o, ho, hy⟩ := (i.box x bc e).boxy eb
    rw [hk o ho] at hy; cases hy
  · intro b o u e hk
    have hc := i.mem b o u e
    cases ho : w.heap[b]? with
    | none => simp [World.cell?, ho] at hc
    | some x =>
      have := hk x ho
      simp only [World.cell?, ho] at hc
      cases x <;> simp_all [boxy]
  · intro bs h1 _ g t m hk
    obtain ⟨e, fr, c⟩ := h1 g t m
    have := hk _ c
    cases this
end
end Go.Ax

/- Functions that hold a range over a function: their activation has a mark among its deferred calls. -/
namespace Go.Ax
open Go.RowKit

def markOf (D : Nat) : List Deferred := [{ target := .collected D, args := #[] }]
/-- After such a loop. -/
structure Marked (cx : Cx) (N : Nat) (M : Mem) (β : Nm) (σ : St) (a : Act) (w : World) (D : Nat) : Prop where
  inv : Inv { cx with rd := none, df := markOf D } N M β σ a w
  le : cx.B ≤ D
  obj : w.heap[D]? = some (.deferred (some []))

theorem Keep.cast {cx : Cx} {rd : Option Nat} {df : List Deferred} {w w' : World} (k : Keep { cx with rd := rd, df := df } w w') : Keep cx w w' := ⟨k.os, k.tape, k.output, k.size, k.block⟩

def AWM (P : Program) (cx : Cx) (N : Nat) (c : Code) (σ : St) (K : Exit → St → Prop) : Prop :=
  ∀ D M β a w, Marked cx N M β σ a w D → c.wpIn (FW none) 0 P (fun e a' w' => ∃ σ' M' β', K e σ' ∧ Marked cx N M' β' σ' a' w' D ∧ Grow cx.B M M' ∧ Keep cx w w') a w

def PostD (cx : Cx) (N : Nat) (M : Mem) (w : World) (K K2 : Exit → St → Prop) (e : Exit) (a' : Act) (w' : World) : Prop :=
  (∃ σ' M' β', K e σ' ∧ Inv cx N M' β' σ' a' w' ∧ Grow cx.B M M' ∧ Keep cx w w') ∨ (∃ D σ' M' β', K2 e σ' ∧ Marked cx N M' β' σ' a' w' D ∧ Grow cx.B M M' ∧ Keep cx w w')
def AWD (P : Program) (cx : Cx) (N : Nat) (c : Code) (σ : St) (K K2 : Exit → St → Prop) : Prop :=
  ∀ M β a w, Inv cx N M β σ a w → c.wpIn (FW none) 0 P (PostD cx N M w K K2) a w

section
variable {P : Program} {cx : Cx} {N : Nat} {σ : St} {K K2 : Exit → St → Prop} {ks : List Nat}

theorem AWD.of_aw {c : Code} (hrd : cx.rd = none) (h : AW P cx N c σ K) : AWD P cx N c σ K K2 := fun M β a w i => by
  have := h M β a w i
  rw [hrd] at this
  exact wpIn_mono this fun _ _ _ h => .inl h

theorem PostD.trans {M M1 : Mem} {w w1 : World} {e : Exit} {a' : Act} {w' : World} (g : Grow cx.B M M1) (k : Keep cx w w1) (h : PostD cx N M1 w1 K K2 e a' w') : PostD cx N M w K K2 e a' w' := by
  rcases h with ⟨s, M', β', h1, h2, h3, h4⟩ | ⟨D, s, M', β', h1, h2, h3, h4⟩
  · exact .inl ⟨s, M', β', h1, h2, g.trans h3, k.trans h4⟩
  · exact .inr ⟨D, s, M', β', h1, h2, g.trans h3, k.trans h4⟩

theorem AWD.seq {x y : Code} (h : AWD P cx N x σ (thenK (fun s => AWD P cx N y s K K2) K) (thenK (fun s => AWM P cx N y s K2) K2)) : AWD P cx N (.seq x y) σ K K2 := by
  intro M β a w i
  refine wpIn_seq (wpIn_mono (h M β a w i) ?_)
  rintro e a' w' (⟨s, M', β', k, i', hM, hk⟩ | ⟨D, s, M', β', k, i', hM, hk⟩)
  · cases e with
    | normal => exact wpIn_mono (k M' β' a' w' i') fun _ _ _ h => h.trans hM hk
    | exit id => exact .inl ⟨s, M', β', k, i', hM, hk⟩
    | goto l => exact .inl ⟨s, M', β', k, i', hM, hk⟩
    | ret => exact .inl ⟨s, M', β', k, i', hM, hk⟩
    | panic ch => exact .inl ⟨s, M', β', k, i', hM, hk⟩
    | outgrown => exact .inl ⟨s, M', β', k, i', hM, hk⟩
  · cases e with
    | normal => exact wpIn_mono (k D M' β' a' w' i') fun _ _ _ ⟨s2, M2, β2, h1, h2, h3, h4⟩ => .inr ⟨D, s2, M2, β2, h1, h2, hM.trans h3, hk.trans h4⟩
    | exit id => exact .inr ⟨D, s, M', β', k, i', hM, hk⟩
    | goto l => exact .inr ⟨D, s, M', β', k, i', hM, hk⟩
    | ret => exact .inr ⟨D, s, M', β', k, i', hM, hk⟩
    | panic ch => exact .inr ⟨D, s, M', β', k, i', hM, hk⟩
    | outgrown => exact .inr ⟨D, s, M', β', k, i', hM, hk⟩

theorem AWD.block {id : Nat} {c : Code} (h : AWD P cx N c σ (blockK id K) (blockK id K2)) : AWD P cx N (.block id c) σ K K2 := by
  intro M β a w i
  refine wpIn_block (wpIn_mono (h M β a w i) ?_)
  intro e a' w' hp
  cases e with
  | exit id' =>
    by_cases hid : id' = id
    · subst hid
      simp only [Exit.inBlock, if_true]
      simp only [PostD, blockK, Nat.beq_refl, cond_true] at hp ⊢
      exact hp
    · simp only [Exit.inBlock, hid, if_false]
      simp only [PostD, blockK, beqF hid, cond_false] at hp ⊢
      exact hp
  | _ => exact hp

/-- What follows the loop, walked as a part: its boxes are handed to it. -/
theorem AWM.part {c : Code} (hin : ∀ x, x ∈ ks → ∃ bc, getB σ.box x = some (some bc) ∧ bc.real = true) (hall : ∀ x bc, getB σ.box x = some (some bc) → x ∈ ks) (href : ∀ x, x ∈ cx.ref → x ∈ ks)
    (h : ∀ cx' : Cx, cx'.ref = ks → AW P cx' N c σ K) : AWM P cx N c σ K := by
  intro D M β a w m
  have i := m.inv
  have hin' : ∀ x, x ∈ ks → ∃ bc, getB σ.box x = some (some bc) := fun x hx => let ⟨bc, h1, _⟩ := hin x hx; ⟨bc, h1⟩
  have hne : ∀ x, x ∈ ks → ∃ p, β x = some p := fun x hx => by
    obtain ⟨bc, h1, h2⟩ := hin x hx
    obtain ⟨b, c, e⟩ := (i.box x bc h1).exb h2
    exact ⟨_, e⟩
  refine wpIn_mono (h (Cx.part w ks β none (markOf D)) rfl M β a w (i.into hin' hall hne i.defers)) ?_
  rintro e a' w' ⟨σ', M', β', k, i', g, kp⟩
  refine ⟨σ', M', β', k, ⟨Inv.back i hin' href i' (Keep.back i hin' kp) i'.defers i'.tmps i'.env, m.le, ?_⟩, Grow.back i g, (Keep.back i hin' kp).cast⟩
  refine (kp.block D (Array.getElem?_eq_some_iff.1 m.obj).1 ?_).trans m.obj
  rintro ⟨x, c, hx, ex⟩
  obtain ⟨bc, h1⟩ := hin' x hx
  obtain ⟨o, ho, hy⟩ := (i.box x bc h1).boxy ex
  rw [m.obj] at ho
  cases ho
  cases hy
end

section
variable {P : Program} {T : List (Nat × TyI)}
theorem fin_of {fn : Func} {N : Nat} {cx : Cx} {r : AV} {M : Mem} {β' : Nm} {σ' : St} {a' : Act} {w w' : World} {M' : Mem} {rs : List ResultVar} {ts : List TV} (hT : TabOK P T) (hB : cx.B = w.heap.size) (hR : cx.ref = []) (hrs : fn.results.toList = rs)
    (i' : Inv cx N M' β' σ' a' w') (hg : Grow w.heap.size M M') (hkp : Keep cx w w') (hts : resL T σ' rs = some ts) (hsub : SubR (ofTs (convTs σ' ts)) r) :
    ∃ v, (results fn a'.tmps).run P w' = .ok v w' ∧ ∃ v' M', Ending.returned v = .returned v' ∧ r.Rep M' nb v' ∧ Grow w.heap.size M M' ∧ MemOK M' w' ∧ Below w.heap.size w w' := by
  obtain ⟨vs', hrun, hrep⟩ := resL.rep hT i' hts
  let F : Mem := fun b o => if b < w.heap.size then M' b o else w'.cell? ⟨b, o, none⟩
  have hMF : Mem.le M' F := fun b o u e => by
    by_cases hbl : b < w.heap.size
    · simp [F, hbl, e]
    · simp [F, hbl, i'.mem b o u e]
  have hFc : ∀ x bc b c, getB σ'.box x = some (some bc) → β' x = some (b, c) → ∀ o u, w'.cell? ⟨b, o, none⟩ = some u → F b o = some u := by
    intro x bc b c e e' o u hu
    rcases i'.low x bc b c e e' with h | h
    · have : ¬ b < w.heap.size := by rw [hB] at h; omega
      simp [F, this, hu]
    · obtain ⟨_, _, hx, _⟩ := h; rw [hR] at hx; cases hx
  have hconv := convTs.rep i' hMF hFc hrep
  refine ⟨(if h : vs'.toArray.size = 1 then vs'.toArray[0] else .tuple vs'.toArray), ?_, _, F, rfl, hsub F _ ?_, ⟨fun b o u e => hMF b o u (hg.le b o u e), fun b o u e => ?_⟩, fun b o u e => ?_, ⟨hkp.os, hkp.tape, hkp.output, hkp.size, fun k hk => hkp.block k (by rw [hB]; exact hk) (by rintro ⟨x, c, hx, _⟩; rw [hR] at hx; cases hx)⟩⟩
  · have : (fn.results.mapM (resSem a'.tmps)).run P w' = .ok vs'.toArray w' := by
      rw [← Array.toArray_toList (xs := fn.results), List.mapM_toArray, hrs]
      simp only [Sem.run_map, hrun, Result.andThen]
    have e : results fn a'.tmps = (do let vs ← fn.results.mapM (resSem a'.tmps); pure (if h : vs.size = 1 then vs[0] else .tuple vs)) := by
      unfold results
      congr 1
    rw [e]
    simp only [Sem.run_bind, this, Result.andThen, Sem.run_pure]
  · cases hts' : convTs σ' ts with
    | nil =>
      rw [hts'] at hconv
      cases vs' with
      | nil => exact ⟨[], rfl, trivial⟩
      | cons _ _ => exact hconv.elim
    | cons t r' =>
      rw [hts'] at hconv
      cases vs' with
      | nil => exact hconv.elim
      | cons v vs'' =>
        cases r' with
        | nil =>
          cases vs'' with
          | cons _ _ => exact hconv.2.elim
          | nil =>
            have := hconv.1
            simp only [List.size_toArray, List.length_cons, List.length_nil, Nat.zero_add, dite_true, ofTs]
            cases t with
            | s x => exact this
            | g cs => exact this
        | cons t2 r2 =>
          cases vs'' with
          | nil => exact hconv.2.elim
          | cons v2 vs3 =>
            have hne : ¬ (v :: v2 :: vs3).toArray.size = 1 := by simp
            rw [dif_neg hne]
            exact ⟨_, rfl, hconv⟩
  · by_cases hbl : b < w.heap.size
    · simp [F, hbl] at e
      exact hg.new b o u e
    · exact .inr (by omega)
  · by_cases hbl : b < w.heap.size
    · simp [F, hbl] at e
      exact i'.mem b o u e
    · simp [F, hbl] at e
      exact e

theorem Keep.turn {cx : Cx} {w w' : World} (k : Keep cx w w') {D : Nat} (o : Obj) (h : cx.B ≤ D) : Keep cx w (w'.putObj D o) :=
  ⟨k.os, k.tape, k.output, by simpa using k.size, fun b hb hm => (World.putObj_heap_other (by omega)).trans (k.block b hb hm)⟩

theorem callP_of_awd {f N : Nat} {fn : Func} {c : Code} {args : List AV} {r : AV} (hf : P.funcs[f]? = some fn) (hb : fn.body = some c) (hN : fn.ntmps = N) (hcall : ∀ vs w, (callFunc f vs).run P w = .ok (.enter f vs) w)
    (hT : TabOK P T) (hl : Nat.ble args.length N = true) {rs : List ResultVar} (hrs : fn.results.toList = rs)
    (h : ∀ cx : Cx, cx.ref = [] → cx.rd = none → cx.df = [] → AWD P cx N c (initSt args) (retK T rs r) (retK T rs r)) : CallP P f args r := by
  refine ⟨hcall, fun M w vs hG hr hM => ?_⟩
  refine (callsIn_wide (n := 0)).1 (callsIn_of_wp_marks hf hb trivial ?_)
  let cx : Cx := { B := w.heap.size, ref := [], β0 := nb }
  have hlen := hr.length
  have hl := Nat.le_of_ble_eq_true hl
  have i0 : Inv cx N M nb (initSt args) { tmps := vs.toArray ++ Array.replicate (fn.ntmps - vs.toArray.size) undef, defers := [] } w := by
    refine ⟨rfl, by simp; omega, ⟨Nat.le_refl _, by obtain ⟨bs, hG⟩ := hG; exact ⟨bs, hG, fun g t m => ⟨hG.lt m, by rintro ⟨x, c, hx, _⟩; cases hx⟩⟩⟩, fun t => ?_, hM, fun _ _ e => (by cases e), fun _ _ e => (by cases e), fun _ _ _ _ _ _ _ e => (by cases e), fun _ _ _ _ e => (by cases e), fun _ _ _ _ e => (by cases e), fun _ hx => (by cases hx)⟩
    have := envOf.rep (k := 0) (t := t) (List.replicate (fn.ntmps - vs.length) undef) hr (Nat.zero_le _)
    simp only [Nat.sub_zero] at this
    simp only [initSt]
    have e : (vs.toArray ++ Array.replicate (fn.ntmps - vs.toArray.size) undef).getD t undef = (vs ++ List.replicate (fn.ntmps - vs.length) undef).getD t undef := by
      simp [← List.toArray_replicate]
    rw [e]
    exact this
  refine wpIn_mono (h cx rfl rfl rfl M nb _ w i0) ?_
  rintro e a' w' (⟨σ', M', β', hk, i', hg, hkp⟩ | ⟨D, σ', M', β', hk, m, hg, hkp⟩)
  · have fin : ∀ ts, resL T σ' rs = some ts → SubR (ofTs (convTs σ' ts)) r → LeavesInM Fence.wide 0 P fn a'.tmps (fun e w' => ∃ v M', e = .returned v ∧ r.Rep M' nb v ∧ Grow w.heap.size M M' ∧ MemOK M' w' ∧ Below w.heap.size w w') a'.defers .returning w' := by
      intro ts hts hsub
      rw [show a'.defers = [] from i'.defers]
      exact fin_of hT rfl rfl hrs i' hg hkp hts hsub
    cases e with
    | ret =>
      simp only [retK] at hk
      split at hk
      · rename_i ts hts; exact fin ts hts hk
      · exact hk.elim
    | normal =>
      simp only [retK] at hk
      split at hk
      · rename_i ts hts; exact fin ts hts hk
      · exact hk.elim
    | _ => exact hk.elim
  · have fin : ∀ ts, resL T σ' rs = some ts → SubR (ofTs (convTs σ' ts)) r → LeavesInM Fence.wide 0 P fn a'.tmps (fun e w' => ∃ v M', e = .returned v ∧ r.Rep M' nb v ∧ Grow w.heap.size M M' ∧ MemOK M' w' ∧ Below w.heap.size w w') a'.defers .returning w' := by
      intro ts hts hsub
      rw [show a'.defers = markOf D from m.inv.defers]
      refine ⟨by simp, .inl ⟨D, w'.putObj D (.deferred none), rfl, run_takeDeferred m.obj, ?_⟩⟩
      have i2 : Inv { cx with rd := none, df := markOf D } N M' β' σ' a' (w'.putObj D (.deferred none)) := m.inv.off (by simp) fun k o hy ho => by
        by_cases e : k = D
        · subst e; rw [m.obj] at ho; cases ho; cases hy
        · exact (World.putObj_heap_other e).trans ho
      exact fin_of (cx := { cx with rd := none, df := markOf D }) hT rfl rfl hrs i2 hg ⟨(hkp.turn (.deferred none) m.le).os, (hkp.turn (.deferred none) m.le).tape, (hkp.turn (.deferred none) m.le).output, (hkp.turn (.deferred none) m.le).size, (hkp.turn (.deferred none) m.le).block⟩ hts hsub
    cases e with
    | ret =>
      simp only [retK] at hk
      split at hk
      · rename_i ts hts; exact fin ts hts hk
      · exact hk.elim
    | normal =>
      simp only [retK] at hk
      split at hk
      · rename_i ts hts; exact fin ts hts hk
      · exact hk.elim
    | _ => exact hk.elim
end
end Go.Ax

/- Regions that draw their order, whose last operation waits for all others: it may be any operation (a call over boxes). -/
namespace Go.Ax
open Go.RowKit

section
variable {P : Program} {T : List (Nat × TyI)} {N : Nat} {rc : List Nat} {all : List Oper} {md : Region.Mode} {ft : List Foot}

def AnyL (P : Program) (T : List (Nat × TyI)) (N : Nat) (rc : List Nat) (all : List Oper) (md : Region.Mode) (ft : List Foot) (σf : St) (last : Nat) : Nat → Array Bool → St → Prop
  | 0, _, _ => False
  | fuel + 1, listed, σ =>
    Region.ready md all.toArray listed ≠ [] ∧
    ∀ i ∈ Region.ready md all.toArray listed, (i = last ∧ Region.ready md all.toArray (listed.setIfInBounds i true) = [] ∧ Eqv σf σ) ∨
      (i ≠ last ∧ ∃ o e f, all[i]? = some o ∧ ft[i]? = some f ∧ OkE P T N rc all o σ e f ∧ AnyL P T N rc all md ft σf last fuel (listed.setIfInBounds i true) (appE o e σ))

theorem AnyL.eqv {σf : St} {last : Nat} : ∀ (fuel : Nat) {listed : Array Bool} {σ σ' : St}, Eqv σ σ' → AnyL P T N rc all md ft σf last fuel listed σ → AnyL P T N rc all md ft σf last fuel listed σ'
  | 0, _, _, _, _, h => h
  | fuel + 1, _, _, _, k, h => ⟨h.1, fun i hi => by
    rcases h.2 i hi with ⟨h1, h2, h3⟩ | ⟨h0, o, e, f, h1, h2, h3, h4⟩
    · exact .inl ⟨h1, h2, h3.trans k⟩
    · exact .inr ⟨h0, o, e, f, h1, h2, h3.eqv k, AnyL.eqv fuel (appE.eqv k) h4⟩⟩

theorem AnyL.first {σf : St} {last : Nat} {i : Nat} {oi : Oper} {ei : Ef} {fi : Foot} (hi : all[i]? = some oi) (hfi : ft[i]? = some fi) (hil : i ≠ last) {d : Nat} (hdep : dep md all.toArray i d last = true) :
    ∀ (fuel : Nat) (listed : Array Bool) (σ : St),
      (∀ j oj fj, all[j]? = some oj → ft[j]? = some fj → j ≠ i → listed.getD j true = false → (∀ n, dep md all.toArray i n j = false) → oi.apart all.toArray oj = true ∧ ftDisj fi fj = true) → Closed md all listed →
      i ∈ Region.ready md all.toArray listed → OkE P T N rc all oi σ ei fi →
      AnyL P T N rc all md ft σf last fuel (listed.setIfInBounds i true) (appE oi ei σ) → AnyL P T N rc all md ft σf last (fuel + 1) listed σ := by
  intro fuel
  induction fuel with
  | zero => intro listed σ _ _ hr hy H; exact H.elim
  | succ fuel ih =>
    intro listed σ hfree hcl hr hy H
    refine ⟨fun h => (by rw [h] at hr; cases hr), fun j hj => ?_⟩
    by_cases hji : j = i
    · subst hji; exact .inr ⟨hil, oi, ei, fi, hi, hfi, hy, H⟩
    · obtain ⟨hjun, oj', hoj', hall⟩ := mem_ready.1 hj
      have hoj'' : all[j]? = some oj' := by simpa using hoj'
      have hnot : ∀ n, dep md all.toArray i n j = false := fun n => dep_no hcl (getD_tf (mem_ready.1 hr).1) n j oj' hoj'' hall
      have hjl : j ≠ last := fun e => by rw [e] at hnot; rw [hnot d] at hdep; cases hdep
      rcases H.2 j (ready_mono hj hji) with ⟨h1, _, _⟩ | ⟨_, oj, ej, fj, hoj, hfj, hyj, Hj⟩
      · exact absurd h1 hjl
      obtain rfl : oj = oj' := Option.some.inj (hoj.symm.trans hoj'')
      obtain ⟨hap, hft⟩ := hfree j oj fj hoj hfj hji hjun hnot
      have hyj' : OkE P T N rc all oj σ ej fj := OkE.past hy.wr hap hft hyj
      have hyi' : OkE P T N rc all oi (appE oj ej σ) ei fi := OkE.over hyj.wr hap hft hy
      have hfree' : ∀ k ok fk, all[k]? = some ok → ft[k]? = some fk → k ≠ i → (listed.setIfInBounds j true).getD k true = false →
          (∀ n, dep md all.toArray i n k = false) → oi.apart all.toArray ok = true ∧ ftDisj fi fk = true := fun k ok fk hk hfk hki hun hno => by
        refine hfree k ok fk hk hfk hki ?_ hno
        by_cases hjk : j = k
        · subst hjk; exact hjun
        · rw [getD_set_ne true hjk] at hun; exact hun
      refine .inr ⟨hjl, oj, ej, fj, hoj, hfj, hyj', ih (listed.setIfInBounds j true) (appE oj ej σ) hfree' (hcl.set hoj hall) (ready_mono hr (Ne.symm hji)) hyi' ?_⟩
      rw [Array.setIfInBounds_comm _ _ hji]
      refine AnyL.eqv fuel ?_ Hj
      obtain ⟨h1, h2, h3⟩ := Oper.apart_spec hap
      obtain ⟨k1, k2, k3⟩ := ftDisj.spec hft
      exact (appE.comm (fun d hd => h2 d hd) (fun x hx => by rw [hy.wr] at hx; rw [hyj.wr]; exact k2 x hx)).symm

/-- The check, by the kernel. -/
def lexL (md : Region.Mode) (ops : Array Oper) (ft : List Foot) (last : Nat) : Nat → Nat → Array Bool → Bool
  | 0, _, listed => (match Region.ready md ops listed with | [i] => Nat.beq i last | _ => false) && (Region.ready md ops (listed.setIfInBounds last true)).isEmpty
  | fuel + 1, k, listed => (Region.ready md ops listed).contains k && freeF md ops ft listed k && (!Nat.beq k last && dep md ops k 8 last) && lexL md ops ft last fuel (k + 1) (listed.setIfInBounds k true)

theorem AnyL.lex {last : Nat} : ∀ (l : List Oper) (k : Nat) (listed : Array Bool) (σ : St) (es : List Ef) (fs : List Foot), (∀ j o, l[j]? = some o → all[k + j]? = some o) → (∀ j, fs[j]? = ft[k + j]?) →
    Closed md all listed → lexL md all.toArray ft last l.length k listed = true → Chain P T N rc all l σ es fs → AnyL P T N rc all md ft (appAll l σ es) last (l.length + 1) listed σ
  | [], _, listed, _, [], [], _, _, _, hB, _ => by
    simp only [List.length_nil, lexL, Bool.and_eq_true] at hB
    obtain ⟨h1, h2⟩ := hB
    cases hr : Region.ready md all.toArray listed with
    | nil => rw [hr] at h1; cases h1
    | cons i t =>
      rw [hr] at h1
      cases t with
      | cons _ _ => cases h1
      | nil =>
        have hi := Nat.eq_of_beq_eq_true h1
        subst hi
        show AnyL P T N rc all md ft _ i 1 listed _
        refine ⟨by rw [hr]; simp, fun j hj => ?_⟩
        rw [hr] at hj
        obtain rfl : j = i := by simpa using hj
        exact .inl ⟨rfl, by simpa using h2, Eqv.refl _⟩
  | o :: l, k, listed, σ, e :: es, f :: fs, hl, hf, hcl, hB, ⟨h1, h2⟩ => by
    have h0 : all[k]? = some o := hl 0 o rfl
    have hf0 : ft[k]? = some f := by simpa using (hf 0).symm
    simp only [List.length_cons, lexL, Bool.and_eq_true, Bool.not_eq_true'] at hB
    obtain ⟨⟨⟨hr, hfr⟩, hne, hdp⟩, hB'⟩ := hB
    have hr' : k ∈ Region.ready md all.toArray listed := by simpa using hr
    have hkl : k ≠ last := fun e => by subst e; simp at hne
    have hall : ∀ e ∈ o.after, Region.binds md e = true → listed.getD e.on false = true := by
      obtain ⟨_, o', ho', h⟩ := mem_ready.1 hr'
      have : all[k]? = some o' := by simpa using ho'
      rw [h0] at this; cases this
      exact h
    exact AnyL.first h0 hf0 hkl hdp (l.length + 1) listed σ (freeF.spec h0 hf0 hfr) hcl hr' h1
      (AnyL.lex l (k + 1) _ _ es fs (fun j o' h => by have := hl (j + 1) o' h; simpa [Nat.add_assoc, Nat.add_comm 1 j] using this) (fun j => by have := hf (j + 1); simpa [Nat.add_assoc, Nat.add_comm 1 j] using this) (hcl.set h0 hall) hB' h2)
  | [], _, _, _, _ :: _, _, _, _, _, _, h => by cases ‹List Foot› <;> exact h.elim
  | [], _, _, _, [], _ :: _, _, _, _, _, h => h.elim
  | _ :: _, _, _, _, [], _, _, _, _, _, h => h.elim
  | _ :: _, _, _, _, _ :: _, [], _, _, _, _, h => h.elim

variable {cx : Cx} {ref : List Nat}
theorem wpAny_done {F : Fence} {n : Nat} {ops : Array Oper} {Q : Exit → Act → World → Prop} : ∀ (fuel : Nat) {listed : Array Bool} {a : Act} {w : World}, Region.ready md ops listed = [] → Q .normal a w → wpAnyIn F n P md ops Q fuel listed a w
  | 0, _, _, _, h, q => ⟨h, q⟩
  | _ + 1, _, _, _, h, q => ⟨fun _ => q, fun i hi => by rw [h] at hi; cases hi⟩

theorem AnyL.sound (hT : TabOK P T) (hrc : ∀ f, rc.contains (f + 2000000) = true → cx.ref = []) {rl : List Nat} (href : cx.ref = ref) {last : Nat} {ol : Oper} (hol : all[last]? = some ol) (hg : ol.guard = none)
    {σf : St} {K : St → Prop} (hlast : op1 P T N ref rl ol σf K) {Q : Exit → Act → World → Prop} : ∀ (fuel : Nat) {listed : Array Bool} {σ : St} {M : Mem} {β : Nm} {a : Act} {w : World},
    AnyL P T N rc all md ft σf last fuel listed σ → Inv cx N M β σ a w → (∀ a' w', Post cx N M w K a' w' → Q .normal a' w') → wpAnyIn (FW cx.rd) 0 P md all.toArray Q fuel listed a w := by
  intro fuel
  induction fuel with
  | zero => intro listed σ M β a w h; exact h.elim
  | succ fuel ih =>
    intro listed σ M β a w h i hQ
    refine ⟨fun h0 => absurd h0 h.1, fun k hk => ?_⟩
    rcases h.2 k hk with ⟨hkl, hr, heq⟩ | ⟨hkl, o, e, f, ho, hf, hok, hrest⟩
    · subst hkl
      have ho' : all.toArray[k]? = some ol := by simpa using hol
      unfold wpOpIn
      rw [ho']
      simp only
      rw [if_pos (by simp [Region.wanted, hg])]
      exact opIn (op1.nd hlast) (Oper.wp_mono (fun a' w' hp => wpAny_done fuel hr (hQ a' w' hp)) (op1.sound hT hlast href (i.eqv heq.symm)))
    · have hst := stepD.sound (cx := cx) (Q := Q) hT hrc (hok.pt (fun e' => e' = e) rfl) i
      have ho' : all.toArray[k]? = some o := by simpa using ho
      have next : ∀ a' w', PostE cx N M w o σ (fun e' => e' = e) a' w' → wpAnyIn (FW cx.rd) 0 P md all.toArray Q fuel (listed.setIfInBounds k true) a' w' := by
        rintro a' w' ⟨e', M', β', rfl, hi, hg, hkp⟩
        exact ih hrest hi fun a2 w2 hp => hQ a2 w2 (hp.trans hg hkp)
      unfold wpOpIn
      rw [ho']
      simp only
      split
      · rename_i hw
        rw [if_pos hw] at hst
        exact opIn hst.1 (Oper.wp_mono next hst.2)
      · rename_i hw
        rw [if_neg hw] at hst
        exact ⟨fun _ _ => trivial, next _ _ hst⟩

/-- A region that draws its order, whose last operation waits for all others. -/
theorem AW.drawLast (hT : TabOK P T) (hrc : ∀ f, rc.contains (f + 2000000) = true → cx.ref = []) (hm : P.follows .mixedOrders = true) (rl : List Nat) (href : cx.ref = ref) {id : Nat} {ops : Array Oper} {σ : St} {K : Exit → St → Prop} (last : Nat) {ol : Oper}
    (hol : ops.toList[last]? = some ol) (hsz : Nat.beq ops.toList.length (last + 1) = true) (hg : ol.guard = none)
    (h : runD P T N rc ops.toList (ops.toList.take last) σ [] fun σ' fs => lexL .any ops.toList.toArray fs last (ops.toList.take last).length 0 (Array.replicate ops.toList.length false) = true ∧ op1 P T N ref rl ol σ' (K .normal)) : AW P cx N (.region id ops true) σ K := by
  obtain ⟨es, gs, hc, hl, hK⟩ := runD.chain h
  intro M β a w i
  refine wpIn_region_any hm ?_
  have hany := AnyL.lex (md := .any) (ft := gs) (ops.toList.take last) 0 (Array.replicate ops.toList.length false) σ es gs (fun j o h => by
    rw [Nat.zero_add]
    exact (List.getElem?_eq_some_iff.1 h).elim fun h1 h2 => by rw [List.getElem_take] at h2; rw [List.length_take] at h1; rw [List.getElem?_eq_getElem (by omega)]; exact congrArg some h2) (by simp) (fun m om _ h => by simp [Array.getElem?_replicate] at h; split at h <;> simp_all) hl hc
  have hi : Inv cx N M β σ a { w with drawn := w.drawn + 1 } :=
    ⟨i.defers, i.tmps, ⟨i.heap.le, i.heap.tab⟩, i.env, i.mem, i.keys, i.box, i.inj, i.apart, i.low, i.ref⟩
  have := AnyL.sound (cx := cx) (Q := fun e a' w' => ∃ σ' M' β', K e σ' ∧ Inv cx N M' β' σ' a' w' ∧ Grow cx.B M M' ∧ Keep cx w w') hT hrc href hol hg hK _ hany hi (by
    rintro a' w' ⟨σ', M', β', hk, h2, h3, h4⟩
    exact ⟨_, M', β', hk, h2, h3, ⟨h4.os, h4.tape, h4.output, h4.size, h4.block⟩⟩)
  have hlen : (ops.toList.take last).length + 1 = ops.toList.length := by
    have := (List.getElem?_eq_some_iff.1 hol).1
    have := Nat.eq_of_beq_eq_true hsz
    rw [List.length_take]; omega
  rw [hlen] at this
  simpa using this
end
end Go.Ax
