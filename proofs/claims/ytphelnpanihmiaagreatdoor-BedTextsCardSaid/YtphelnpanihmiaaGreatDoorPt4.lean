/- Part 4: lemmas that the proofs of this seat share; by itself it claims nothing. -/
import Derived.Scope
import Derived.Control
import Ieee.Arith
import GoSem.Core.Float
import Derived.WalkKit
import Derived.Laws.Externs
import Derived.ProofKit
import Derived.OpenShut
import Derived.Deep.Slices
import Derived.Test.YtphelnpanihmiaaGreatDoorPt3
/- From one abstract state to another, with other names for the boxes; loops over that. -/
namespace Go.Ax
open Go.RowKit

def SubI (cx : Cx) (N : Nat) (σ σ' : St) : Prop := ∀ M β a w, Inv cx N M β σ a w → ∃ β', Inv cx N M β' σ' a w
theorem SubI.of_sub {cx : Cx} {N : Nat} {σ σ' : St} (h : Sub cx σ σ') : SubI cx N σ σ' := fun _ _ _ _ i => i.sub h
theorem SubI.trans {cx : Cx} {N : Nat} {a b c : St} (h : SubI cx N a b) (k : SubI cx N b c) : SubI cx N a c := fun M β x w i => let ⟨β', i'⟩ := h M β x w i; k M β' x w i'

theorem AW.loopI {P : Program} {cx : Cx} {N : Nat} {σ : St} {K : Exit → St → Prop} {S : Type} {c : Code} (St0 : S → St) (J : S → Prop) (μ : S → Nat) (s0 : S) (hJ : J s0) (hs : SubI cx N σ (St0 s0))
    (body : ∀ s, J s → AW P cx N c (St0 s) (thenK (fun σ' => ∃ s', J s' ∧ μ s' < μ s ∧ SubI cx N σ' (St0 s')) K)) : AW P cx N (.loop c) σ K := by
  intro M β a w i
  obtain ⟨β1, i1⟩ := hs M β a w i
  intro b k cs
  have key : ∀ n s, μ s = n → J s → ∀ M β a w, Inv cx N M β (St0 s) a w →
      ∃ e a' w', (∃ σ' M' β', K e σ' ∧ Inv cx N M' β' σ' a' w' ∧ Grow cx.B M M' ∧ Keep cx w w') ∧ Arrives P (lone (b.at a (.code c :: .inLoop c :: k)) cs w) b k cs e a' w' := by
    intro n
    induction n using Nat.strongRecOn with
    | _ n ih =>
      intro s hn hJ M β a w i
      obtain ⟨e, a₁, w₁, ⟨σ', M1, β1, hq, i1, hM, hk⟩, harr⟩ := body s hJ M β a w i b (.inLoop c :: k) cs
      cases e with
      | normal =>
        obtain ⟨s', hJ', hlt, hsub⟩ := hq
        obtain ⟨β2, i2⟩ := hsub M1 β1 a₁ w₁ i1
        obtain ⟨e₂, a₂, w₂, ⟨σ2, M2, β2, hq₂, i2, hM2, hk2⟩, harr₂⟩ := ih (μ s') (hn ▸ hlt) s' rfl hJ' M1 β2 a₁ w₁ i2
        exact ⟨e₂, a₂, w₂, ⟨σ2, M2, β2, hq₂, i2, hM.trans hM2, hk.trans hk2⟩, .of_steps (Steps.trans harr (.one step_inLoop)) harr₂⟩
      | exit id => exact ⟨_, a₁, w₁, ⟨σ', M1, β1, hq, i1, hM, hk⟩, .pass (x := .inLoop c) rfl (fun _ _ => .inl (by simp)) harr⟩
      | goto l => exact ⟨_, a₁, w₁, ⟨σ', M1, β1, hq, i1, hM, hk⟩, .pass (x := .inLoop c) rfl (fun _ _ => .inl (by simp)) harr⟩
      | ret => exact ⟨_, a₁, w₁, ⟨σ', M1, β1, hq, i1, hM, hk⟩, .pass (x := .inLoop c) rfl (fun _ _ => .inl (by simp)) harr⟩
      | panic ch => exact ⟨_, a₁, w₁, ⟨σ', M1, β1, hq, i1, hM, hk⟩, .pass (x := .inLoop c) rfl (fun _ _ => .inl (by simp)) harr⟩
      | outgrown => exact ⟨_, a₁, w₁, ⟨σ', M1, β1, hq, i1, hM, hk⟩, .pass (x := .inLoop c) rfl (fun _ _ => .inl (by simp)) harr⟩
  obtain ⟨e, a', w', hq, harr⟩ := key _ s0 rfl hJ M β1 a w i1
  exact ⟨e, a', w', hq, .of_steps (.one step_loop) harr⟩

/-- A condition, its ways by the judgement itself. -/
theorem AW.cond {P : Program} {cx : Cx} {N : Nat} {σ : St} {K : Exit → St → Prop} {c : Operand} {x y : Code} (h : exCond σ c (AW P cx N x σ K) (AW P cx N y σ K)) : AW P cx N (.cond c x y) σ K := by
  unfold exCond at h
  intro M β a w i
  split at h
  · rename_i b hv
    have hb : a.eval c = .bool b := by have := ev.rep i c; rw [hv] at this; exact this
    cases b with
    | true => exact wp_cond_true hb (h M β a w i)
    | false => exact wp_cond_false hb (h M β a w i)
  · rename_i b hv
    have hb : a.eval c = .bool b := by have := ev.rep i c; rw [hv] at this; exact this
    exact wp_cond_split hb (fun hb => h.1 hb M β a w i) (fun hb => h.2 hb M β a w i)
  · exact h.elim
def noGotoK (K : Exit → St → Prop) : Exit → St → Prop
  | .goto _, _ => False
  | e, s => K e s
/-- A scope whose labels nothing jumps to. -/
theorem AW.scope {P : Program} {cx : Cx} {N : Nat} {σ : St} {K : Exit → St → Prop} {c : Code} (h : AW P cx N c σ (noGotoK K)) : AW P cx N (.scope c) σ K := by
  intro M β a w i
  refine wp_scope_straight (wp_mono (h M β a w i) ?_)
  rintro e a' w' ⟨s, M', β', k, r⟩
  cases e with
  | goto l => exact k.elim
  | _ => exact ⟨s, M', β', k, r⟩
theorem AW.label {P : Program} {cx : Cx} {N : Nat} {σ : St} {K : Exit → St → Prop} {l : Nat} (h : K .normal σ) : AW P cx N (.label l) σ K := fun M β _ _ i => wp_label ⟨σ, M, β, h, i, Grow.refl _ _, Keep.refl _ _⟩
theorem AW.subI {P : Program} {cx : Cx} {N : Nat} {σ σ' : St} {K : Exit → St → Prop} {c : Code} (h : SubI cx N σ σ') (k : AW P cx N c σ' K) : AW P cx N c σ K := by
  intro M β a w i
  obtain ⟨β', i'⟩ := h M β a w i
  exact k M β' a w i'
/-- Cut a sequence: the first part ends normally in a state that implies another one. -/
theorem AW.cut {P : Program} {cx : Cx} {N : Nat} {σ σ' : St} {K : Exit → St → Prop} {x y : Code} (h : AW P cx N x σ fun e s => e = .normal ∧ SubI cx N s σ') (k : AW P cx N y σ' K) : AW P cx N (.seq x y) σ K := AW.seq (AW.mono h fun _ _ ⟨he, hs⟩ => by subst he; exact AW.subI hs k)

/-- What x means, y means. -/
def LeQ (x y : AV) : Prop := ∀ M β v, x.Rep M β v → y.Rep M β v
theorem LeQ.rfl {x : AV} : LeQ x x := fun _ _ _ h => h
theorem LeQ.of_eq {x y : AV} (h : x = y) : LeQ x y := h ▸ LeQ.rfl
theorem LeQ.le {x y : AV} (h : LeA x y) : LeQ x y := fun _ _ _ r => h.rep r
theorem LeQ.mo {x : Nat} {z : Bool} (h : z = false) : LeQ (.s (.own x)) (.s (.mo z x)) := by subst h; exact fun M β v r => ⟨fun h => (by cases h), fun _ => r⟩
theorem LeQ.nil {x : Nat} {z : Bool} (h : z = true) : LeQ (.s (.d (.val (.slice none 0 0)))) (.s (.mo z x)) := by subst h; exact fun M β v r => ⟨fun _ => r, fun h => (by cases h)⟩
theorem LeQ.mm {x : Nat} {z z' : Bool} (h : z = z') : LeQ (.s (.mo z x)) (.s (.mo z' x)) := h ▸ LeQ.rfl
theorem LeQ.d {x y : DV} (h : LeD x y) : LeQ (.s (.d x)) (.s (.d y)) := fun M _ v r => h M v r
def LeBx (b b' : Box) : Prop := ∀ M β w x, RepBox M β w x b → RepBox M β w x b'
theorem LeBx.rfl {b : Box} : LeBx b b := fun _ _ _ _ h => h
theorem LeBx.of_eq {x y : Box} (h : x = y) : LeBx x y := h ▸ LeBx.rfl
theorem LeBx.row {e n n' s : Nat} {f g : Nat → Nat → DV} (h : n = n') (hf : ∀ i j, i < n → j < s → LeD (f i j) (g i j)) : LeBx (.row e n s f) (.row e n' s g) := by
  subst h
  rintro M β w x ⟨b, c, cur, e1, h1, h2, h3, h4, h5, h6⟩
  exact ⟨b, c, cur, e1, h1, h2, h3, h4, h5, fun i j hi hj => let ⟨u, hu, hr⟩ := h6 i j hi hj; ⟨u, hu, hf i j hi hj M u hr⟩⟩
theorem LeBx.mrow {e n n' s : Nat} {f g : Nat → Nat → DV} (h : n = n') (hf : ∀ i j, i < n → j < s → LeD (f i j) (g i j)) : LeBx (.row e n s f) (.mrow e n' s g) := by
  subst h
  rintro M β w x ⟨b, c, cur, e1, h1, h2, h3, h4, h5, h6⟩ b' c' e2
  rw [e1] at e2; cases e2
  exact ⟨cur, h1, h2, h3, h4, h5, fun i j hi hj => let ⟨u, hu, hr⟩ := h6 i j hi hj; ⟨u, hu, hf i j hi hj M u hr⟩⟩
theorem LeBx.mrow' {e n n' s : Nat} {f g : Nat → Nat → DV} (h : n = n') (hf : ∀ i j, i < n → j < s → LeD (f i j) (g i j)) : LeBx (.mrow e n s f) (.mrow e n' s g) := by
  subst h
  intro M β w x hr b c e1
  obtain ⟨cur, h1, h2, h3, h4, h5, h6⟩ := hr b c e1
  exact ⟨cur, h1, h2, h3, h4, h5, fun i j hi hj => let ⟨u, hu, hr⟩ := h6 i j hi hj; ⟨u, hu, hf i j hi hj M u hr⟩⟩
def LeQs : List SV → List SV → Prop
  | [], [] => True
  | x :: r, y :: s => LeQ (.s x) (.s y) ∧ LeQs r s
  | _, _ => False
theorem LeQs.rep {M : Mem} {β : Nm} : ∀ {l m : List SV} {vs : List Value}, LeQs l m → RepL M β l vs → RepL M β m vs
  | [], [], [], _, _ => trivial
  | _ :: _, _ :: _, _ :: _, ⟨h, k⟩, ⟨a, r⟩ => ⟨h M β _ a, LeQs.rep k r⟩
  | [], _ :: _, _, h, _ => h.elim
  | _ :: _, [], _, h, _ => h.elim
  | [], [], _ :: _, _, h => h.elim
  | _ :: _, _ :: _, [], _, h => h.elim
theorem LeBx.cells {l m : List SV} (h : LeQs l m) : LeBx (.cells l) (.cells m) := by
  rintro M β w x ⟨b, c, vs, T, e1, h1, h2⟩
  exact ⟨b, c, vs, T, e1, h1, h.rep h2⟩

def inB1 (xs : List Nat) : Box → Bool
  | .cells cs => inSs xs cs
  | .iter m _ _ => xs.contains m
  | _ => true
def envQ (ren : List (Nat × Nat)) (src : List (Nat × AV)) (ks : List Nat) : List (Nat × AV) → Prop
  | [] => True
  | (t, v) :: r => (inA ks v = true ∧ LeQ (getE src t) (renA ren v)) ∧ envQ ren src ks r
def boxQ1 (ren : List (Nat × Nat)) (b : Box) : Option (Option Box) → Prop
  | some (some b0) => LeBx b0 (renB ren b)
  | some none => False
  | none => b.real = false
def boxQ (ren : List (Nat × Nat)) (src : Boxes) (ks : List Nat) : Boxes → Prop
  | [] => True
  | (x, some b) :: r => (inB1 ks b = true ∧ boxQ1 ren b (getB src (look ren x))) ∧ boxQ ren src ks r
  | (_, none) :: r => boxQ ren src ks r

theorem envQ.get {ren : List (Nat × Nat)} {src : List (Nat × AV)} {ks : List Nat} {M : Mem} {β β' : Nm} (h : ∀ x, x ∈ ks → ∀ p, β (look ren x) = some p → β' x = some p) : ∀ {tgt : List (Nat × AV)}, envQ ren src ks tgt → ∀ t v, (getE src t).Rep M β v → (getE tgt t).Rep M β' v
  | [], _, _, _, _ => trivial
  | (k, a) :: r, ⟨⟨h1, h2⟩, hr⟩, t, v, hv => by
    rw [getE_cons]
    by_cases e : k = t
    · rw [if_pos e]; subst e; exact renA.rep h h1 (h2 M β v hv)
    · rw [if_neg e]; exact envQ.get h hr t v hv
theorem boxQ.get {ren : List (Nat × Nat)} {src : Boxes} {ks : List Nat} : ∀ {tgt : Boxes}, (∀ x, x ∈ bkeys tgt → x ∈ ks) → boxQ ren src ks tgt → ∀ x b, getB tgt x = some (some b) → x ∈ ks ∧ inB1 ks b = true ∧ boxQ1 ren b (getB src (look ren x))
  | [], _, _, _, _, h => by cases h
  | (k, some c) :: r, hk, ⟨⟨h1, h2⟩, hr⟩, x, b, h => by
    rw [getB_cons] at h
    by_cases e : k = x
    · rw [if_pos e] at h; cases h; subst e; exact ⟨hk k (by simp [bkeys]), h1, h2⟩
    · rw [if_neg e] at h; exact boxQ.get (fun y hy => hk y (by simp [bkeys, hy])) hr x b h
  | (k, none) :: r, hk, hr, x, b, h => by
    rw [getB_cons] at h
    by_cases e : k = x
    · rw [if_pos e] at h; cases h
    · rw [if_neg e] at h; exact boxQ.get (tgt := r) (fun y hy => hk y (List.mem_cons_of_mem _ hy)) hr x b h

theorem SubI.of {cx : Cx} {N : Nat} {σ σ' : St} (ren : List (Nat × Nat)) (hr : (cx.ref.all fun x => (bkeys σ'.box).contains x && Nat.beq (look ren x) x) = true) (hi : injL ren (bkeys σ'.box) = true)
    (hb : boxQ ren σ.box (bkeys σ'.box) σ'.box) (he : envQ ren σ.env (bkeys σ'.box) σ'.env) : SubI cx N σ σ' := by
  classical
  intro M β a w i
  let ks := bkeys σ'.box
  let β' : Nm := fun x => if x ∈ ks then β (look ren x) else none
  have hin : ∀ x, x ∈ ks → β' x = β (look ren x) := fun x hx => by simp [β', hx]
  have hβ : ∀ x p, β' x = some p → x ∈ ks ∧ β (look ren x) = some p := fun x p h => by
    simp only [β'] at h
    split at h
    · exact ⟨by assumption, h⟩
    · cases h
  have hup : ∀ x, x ∈ ks → ∀ p, β (look ren x) = some p → β' x = some p := fun x hx p e => by rw [hin x hx]; exact e
  have hinj : ∀ x y, x ∈ ks → y ∈ ks → look ren x = look ren y → x = y := by
    intro x y hx hy e
    simp only [injL, List.all_eq_true] at hi
    have := hi x hx y hy
    simp only [Bool.or_eq_true] at this
    rcases this with h | h
    · exact Nat.eq_of_beq_eq_true h
    · rw [e] at h; simp at h
  have live : ∀ x b k c, getB σ'.box x = some (some b) → β' x = some (k, c) → x ∈ ks ∧ ∃ b0, getB σ.box (look ren x) = some (some b0) ∧ β (look ren x) = some (k, c) := by
    intro x b k c h e
    obtain ⟨h1, h2, h3⟩ := boxQ.get (fun _ h => h) hb x b h
    have e := (hβ x _ e).2
    obtain ⟨y, hy⟩ := i.keys _ _ e
    rw [hy] at h3
    cases y with
    | none => exact h3.elim
    | some b0 => exact ⟨h1, b0, hy, e⟩
  refine ⟨β', i.defers, i.tmps, i.heap, fun t => envQ.get hup he t _ (i.env t), i.mem, ?_, ?_, ?_, ?_, ?_, ?_⟩
  · intro x p e
    exact bkeys.has (hβ x p e).1
  · intro x b h
    obtain ⟨h1, h2, h3⟩ := boxQ.get (fun _ h => h) hb x b h
    cases hs : getB σ.box (look ren x) with
    | none =>
      rw [hs] at h3
      have hn : β' x = none := by
        rw [hin x h1]
        cases hb0 : β (look ren x) with
        | none => rfl
        | some p => obtain ⟨y, hy⟩ := i.keys _ _ hb0; rw [hs] at hy; cases hy
      cases b with
      | mrow e n s f => intro k c e; rw [hn] at e; cases e
      | _ => cases h3
    | some y =>
      cases y with
      | none => rw [hs] at h3; exact h3.elim
      | some b0 =>
        rw [hs] at h3
        have hrep := h3 M β w (look ren x) (i.box _ _ hs)
        cases b with
        | cells cs => exact renB.rep hup h1 h2 hrep
        | row e n s f => exact renB.rep hup h1 rfl hrep
        | mrow e n s f => intro k c e; rw [hin x h1] at e; exact hrep k c e
        | map vk l => exact renB.rep hup h1 rfl hrep
        | fresh T vs => exact renB.rep hup h1 rfl hrep
        | iter m n seen => exact renB.rep hup h1 h2 hrep
  · intro x y bx bby b c c' ex ey hx hy
    obtain ⟨kx, b0, g0, e0⟩ := live x bx b c ex hx
    obtain ⟨ky, b1, g1, e1⟩ := live y bby b c' ey hy
    exact hinj x y kx ky (i.inj _ _ b0 b1 b c c' g0 g1 e0 e1)
  · intro x bx b c ex hx
    obtain ⟨kx, b0, g0, e0⟩ := live x bx b c ex hx
    exact i.apart _ b0 b c g0 e0
  · intro x bx b c ex hx
    obtain ⟨kx, b0, g0, e0⟩ := live x bx b c ex hx
    exact i.low _ b0 b c g0 e0
  · intro x hx
    rw [List.all_eq_true] at hr
    have := hr x hx
    simp only [Bool.and_eq_true] at this
    have h1 : x ∈ ks := by simpa using this.1
    have h2 := Nat.eq_of_beq_eq_true this.2
    rw [hin x h1, h2]
    exact i.ref x hx
theorem SubI.of0 {cx : Cx} {N : Nat} {σ σ' : St} (h : cx.ref = []) (ren : List (Nat × Nat)) (hi : injL ren (bkeys σ'.box) = true) (hb : boxQ ren σ.box (bkeys σ'.box) σ'.box) (he : envQ ren σ.env (bkeys σ'.box) σ'.env) : SubI cx N σ σ' :=
  SubI.of ren (by rw [h]; rfl) hi hb he
/-- The same, with a state that depends on what the first part found. -/
theorem AW.cutE {P : Program} {cx : Cx} {N : Nat} {σ : St} {K : Exit → St → Prop} {x y : Code} {S : Type} (St0 : S → St) (J : S → Prop) (h : AW P cx N x σ fun e s => e = .normal ∧ ∃ q, J q ∧ SubI cx N s (St0 q)) (k : ∀ q, J q → AW P cx N y (St0 q) K) : AW P cx N (.seq x y) σ K :=
  AW.seq (AW.mono h fun _ _ ⟨he, q, hq, hs⟩ => by subst he; exact AW.subI hs (k q hq))
theorem LeQ.toNil {x : Nat} {z : Bool} (h : z = true) : LeQ (.s (.mo z x)) (.s (.d (.val (.slice none 0 0)))) := fun _ _ _ r => r.1 h
/-- A row of one's own is also a view of it. -/
theorem SubI.osl {cx : Cx} {N : Nat} {σ : St} {e n s : Nat} {f : Nat → Nat → DV} {z : Bool} (t x : Nat) (ht : getE σ.env t = .s (.mo z x)) (hz : z = false) (hb : getB σ.box x = some (some (.mrow e n s f))) :
    SubI cx N σ ⟨(t, .s (.osl x s 0 n)) :: σ.env, (x, some (.row e n s f)) :: σ.box⟩ := by
  intro M β a w i
  have r := i.env t
  rw [ht] at r
  obtain ⟨b, c, hx, hv, hc⟩ := r.2 hz
  obtain ⟨cur, h1, h2, h3, h4, h5, h6⟩ := i.box x _ hb b c hx
  have live : ∀ y bc, getB ((x, some (.row e n s f)) :: σ.box) y = some (some bc) → ∃ bc, getB σ.box y = some (some bc) := by
    intro y bc h
    rw [getB_cons] at h
    by_cases hy : x = y
    · subst hy; exact ⟨_, hb⟩
    · rw [if_neg hy] at h; exact ⟨_, h⟩
  refine ⟨β, i.defers, i.tmps, i.heap, ?_, i.mem, ?_, ?_, ?_, ?_, ?_, i.ref⟩
  · intro u
    show (getE ((t, _) :: σ.env) u).Rep M β _
    rw [getE_cons]
    by_cases hu : t = u
    · subst hu
      rw [if_pos rfl]
      exact ⟨b, c, 0, hx, by rw [hv, h2]; rfl, fun _ => (Nat.zero_mul s).symm, by omega, hc⟩
    · rw [if_neg hu]; exact i.env u
  · intro y p h
    obtain ⟨z, hz⟩ := i.keys y p h
    show ∃ y', getB ((x, _) :: σ.box) y = some y'
    rw [getB_cons]
    by_cases hy : x = y
    · rw [if_pos hy]; exact ⟨_, rfl⟩
    · rw [if_neg hy]; exact ⟨z, hz⟩
  · intro y bc h
    have h : getB ((x, some (.row e n s f)) :: σ.box) y = some (some bc) := h
    rw [getB_cons] at h
    by_cases hy : x = y
    · subst hy
      rw [if_pos rfl] at h
      cases h
      exact ⟨b, c, cur, hx, h1, h2, h3, h4, h5, h6⟩
    · rw [if_neg hy] at h; exact i.box y bc h
  · intro y y' bx bx' b1 c1 c2 e1 e2 g1 g2
    obtain ⟨_, e1⟩ := live _ _ e1
    obtain ⟨_, e2⟩ := live _ _ e2
    exact i.inj y y' _ _ b1 c1 c2 e1 e2 g1 g2
  · intro y bx b1 c1 e1 g1
    obtain ⟨_, e1⟩ := live _ _ e1
    exact i.apart y _ b1 c1 e1 g1
  · intro y bx b1 c1 e1 g1
    obtain ⟨_, e1⟩ := live _ _ e1
    exact i.low y _ b1 c1 e1 g1
theorem SubI.own {cx : Cx} {N : Nat} {σ : St} {e n s : Nat} {f : Nat → Nat → DV} {z : Bool} (t x : Nat) (ht : getE σ.env t = .s (.mo z x)) (hz : z = false) (hb : getB σ.box x = some (some (.mrow e n s f))) :
    SubI cx N σ ⟨(t, .s (.own x)) :: σ.env, (x, some (.row e n s f)) :: σ.box⟩ := by
  intro M β a w i
  have r := i.env t
  rw [ht] at r
  obtain ⟨b, c, hx, hv, hc⟩ := r.2 hz
  obtain ⟨cur, h1, h2, h3, h4, h5, h6⟩ := i.box x _ hb b c hx
  have live : ∀ y bc, getB ((x, some (.row e n s f)) :: σ.box) y = some (some bc) → ∃ bc, getB σ.box y = some (some bc) := by
    intro y bc h
    rw [getB_cons] at h
    by_cases hy : x = y
    · subst hy; exact ⟨_, hb⟩
    · rw [if_neg hy] at h; exact ⟨_, h⟩
  refine ⟨β, i.defers, i.tmps, i.heap, ?_, i.mem, ?_, ?_, ?_, ?_, ?_, i.ref⟩
  · intro u
    show (getE ((t, _) :: σ.env) u).Rep M β _
    rw [getE_cons]
    by_cases hu : t = u
    · subst hu
      rw [if_pos rfl]
      exact ⟨b, c, hx, hv, hc⟩
    · rw [if_neg hu]; exact i.env u
  · intro y p h
    obtain ⟨z, hz⟩ := i.keys y p h
    show ∃ y', getB ((x, _) :: σ.box) y = some y'
    rw [getB_cons]
    by_cases hy : x = y
    · rw [if_pos hy]; exact ⟨_, rfl⟩
    · rw [if_neg hy]; exact ⟨z, hz⟩
  · intro y bc h
    have h : getB ((x, some (.row e n s f)) :: σ.box) y = some (some bc) := h
    rw [getB_cons] at h
    by_cases hy : x = y
    · subst hy
      rw [if_pos rfl] at h
      cases h
      exact ⟨b, c, cur, hx, h1, h2, h3, h4, h5, h6⟩
    · rw [if_neg hy] at h; exact i.box y bc h
  · intro y y' bx bx' b1 c1 c2 e1 e2 g1 g2
    obtain ⟨_, e1⟩ := live _ _ e1
    obtain ⟨_, e2⟩ := live _ _ e2
    exact i.inj y y' _ _ b1 c1 c2 e1 e2 g1 g2
  · intro y bx b1 c1 e1 g1
    obtain ⟨_, e1⟩ := live _ _ e1
    exact i.apart y _ b1 c1 e1 g1
  · intro y bx b1 c1 e1 g1
    obtain ⟨_, e1⟩ := live _ _ e1
    exact i.low y _ b1 c1 e1 g1
end Go.Ax

/- From one abstract state to another: own rows that nobody writes any more become data. -/
namespace Go.Ax
open Go.RowKit

def SubM (cx : Cx) (N : Nat) (σ σ' : St) : Prop := ∀ M β a w, Inv cx N M β σ a w → ∃ M' β', Inv cx N M' β' σ' a w ∧ Grow cx.B M M'
theorem SubM.of_subI {cx : Cx} {N : Nat} {σ σ' : St} (h : SubI cx N σ σ') : SubM cx N σ σ' := fun M β a w i => let ⟨β', i'⟩ := h M β a w i; ⟨M, β', i', Grow.refl _ _⟩
theorem AW.subM {P : Program} {cx : Cx} {N : Nat} {σ σ' : St} {K : Exit → St → Prop} {c : Code} (h : SubM cx N σ σ') (k : AW P cx N c σ' K) : AW P cx N c σ K := by
  intro M β a w i
  obtain ⟨M', β', i', g⟩ := h M β a w i
  exact wp_mono (k M' β' a w i') fun _ _ _ ⟨s, M2, β2, hk, i2, g2, kp⟩ => ⟨s, M2, β2, hk, i2, g.trans g2, kp⟩
theorem AW.loopM {P : Program} {cx : Cx} {N : Nat} {σ : St} {K : Exit → St → Prop} {S : Type} {c : Code} (St0 : S → St) (J : S → Prop) (μ : S → Nat) (s0 : S) (hJ : J s0) (hs : SubM cx N σ (St0 s0))
    (body : ∀ s, J s → AW P cx N c (St0 s) (thenK (fun σ' => ∃ s', J s' ∧ μ s' < μ s ∧ SubM cx N σ' (St0 s')) K)) : AW P cx N (.loop c) σ K := by
  refine AW.subM hs ?_
  intro M β a w i b k cs
  have key : ∀ n s, μ s = n → J s → ∀ M β a w, Inv cx N M β (St0 s) a w →
      ∃ e a' w', (∃ σ' M' β', K e σ' ∧ Inv cx N M' β' σ' a' w' ∧ Grow cx.B M M' ∧ Keep cx w w') ∧ Arrives P (lone (b.at a (.code c :: .inLoop c :: k)) cs w) b k cs e a' w' := by
    intro n
    induction n using Nat.strongRecOn with
    | _ n ih =>
      intro s hn hJ M β a w i
      obtain ⟨e, a₁, w₁, ⟨σ', M1, β1, hq, i1, hM, hk⟩, harr⟩ := body s hJ M β a w i b (.inLoop c :: k) cs
      cases e with
      | normal =>
        obtain ⟨s', hJ', hlt, hsub⟩ := hq
        obtain ⟨M2, β2, i2, hg⟩ := hsub M1 β1 a₁ w₁ i1
        obtain ⟨e₂, a₂, w₂, ⟨σ2, M3, β3, hq₂, i3, hM2, hk2⟩, harr₂⟩ := ih (μ s') (hn ▸ hlt) s' rfl hJ' M2 β2 a₁ w₁ i2
        exact ⟨e₂, a₂, w₂, ⟨σ2, M3, β3, hq₂, i3, (hM.trans hg).trans hM2, hk.trans hk2⟩, .of_steps (Steps.trans harr (.one step_inLoop)) harr₂⟩
      | exit id => exact ⟨_, a₁, w₁, ⟨σ', M1, β1, hq, i1, hM, hk⟩, .pass (x := .inLoop c) rfl (fun _ _ => .inl (by simp)) harr⟩
      | goto l => exact ⟨_, a₁, w₁, ⟨σ', M1, β1, hq, i1, hM, hk⟩, .pass (x := .inLoop c) rfl (fun _ _ => .inl (by simp)) harr⟩
      | ret => exact ⟨_, a₁, w₁, ⟨σ', M1, β1, hq, i1, hM, hk⟩, .pass (x := .inLoop c) rfl (fun _ _ => .inl (by simp)) harr⟩
      | panic ch => exact ⟨_, a₁, w₁, ⟨σ', M1, β1, hq, i1, hM, hk⟩, .pass (x := .inLoop c) rfl (fun _ _ => .inl (by simp)) harr⟩
      | outgrown => exact ⟨_, a₁, w₁, ⟨σ', M1, β1, hq, i1, hM, hk⟩, .pass (x := .inLoop c) rfl (fun _ _ => .inl (by simp)) harr⟩
  obtain ⟨e, a', w', hq, harr⟩ := key _ s0 rfl hJ M β a w i
  exact ⟨e, a', w', hq, .of_steps (.one step_loop) harr⟩

/-- The rows fz are data. -/
def Fz (box : Boxes) (fz : List Nat) (M : Mem) (β : Nm) : Prop := ∀ x, x ∈ fz → ∀ e n s f, getB box x = some (some (.row e n s f)) → ∀ v, (SV.own x).Rep M β v → (DV.slc n s f).Rep M v
def LeQf (box : Boxes) (fz : List Nat) (x y : AV) : Prop := ∀ M β v, Fz box fz M β → x.Rep M β v → y.Rep M β v
theorem LeQf.of {box : Boxes} {fz : List Nat} {x y : AV} (h : LeQ x y) : LeQf box fz x y := fun M β v _ r => h M β v r
theorem LeQf.rfl {box : Boxes} {fz : List Nat} {x : AV} : LeQf box fz x x := fun _ _ _ _ r => r
theorem LeQf.then {box : Boxes} {fz : List Nat} {x y z : AV} (h : LeQf box fz x y) (k : LeQ y z) : LeQf box fz x z := fun M β v f r => k M β v (h M β v f r)
theorem LeQf.own {box : Boxes} {fz : List Nat} {x e n s : Nat} {f : Nat → Nat → DV} (hx : x ∈ fz) (hb : getB box x = some (some (.row e n s f))) : LeQf box fz (.s (.own x)) (.s (.d (.slc n s f))) :=
  fun _ _ v hf r => hf x hx e n s f hb v r
def LeQsf (box : Boxes) (fz : List Nat) : List SV → List SV → Prop
  | [], [] => True
  | x :: r, y :: s => LeQf box fz (.s x) (.s y) ∧ LeQsf box fz r s
  | _, _ => False
theorem LeQsf.rep {box : Boxes} {fz : List Nat} {M : Mem} {β : Nm} (hf : Fz box fz M β) : ∀ {l m : List SV} {vs : List Value}, LeQsf box fz l m → RepL M β l vs → RepL M β m vs
  | [], [], [], _, _ => trivial
  | _ :: _, _ :: _, _ :: _, ⟨h, k⟩, ⟨a, r⟩ => ⟨h M β _ hf a, LeQsf.rep hf k r⟩
  | [], _ :: _, _, h, _ => h.elim
  | _ :: _, [], _, h, _ => h.elim
  | [], [], _ :: _, _, h => h.elim
  | _ :: _, _ :: _, [], _, h => h.elim
theorem LeQf.g {box : Boxes} {fz : List Nat} {l m : List SV} (h : LeQsf box fz l m) : LeQf box fz (.g l) (.g m) := fun _ _ _ hf ⟨vs, e, r⟩ => ⟨vs, e, h.rep hf r⟩
def LeBxf (box : Boxes) (fz : List Nat) (b b' : Box) : Prop := ∀ M β w x, Fz box fz M β → RepBox M β w x b → RepBox M β w x b'
theorem LeBxf.rfl {box : Boxes} {fz : List Nat} {b : Box} : LeBxf box fz b b := fun _ _ _ _ _ h => h
theorem LeBxf.of {box : Boxes} {fz : List Nat} {b b' : Box} (h : LeBx b b') : LeBxf box fz b b' := fun M β w x _ r => h M β w x r
theorem LeBxf.cells {box : Boxes} {fz : List Nat} {l m : List SV} (h : LeQsf box fz l m) : LeBxf box fz (.cells l) (.cells m) := by
  rintro M β w x hf ⟨b, c, vs, T, e1, h1, h2⟩
  exact ⟨b, c, vs, T, e1, h1, h.rep hf h2⟩

def envQf (ren : List (Nat × Nat)) (fz : List Nat) (box : Boxes) (src : List (Nat × AV)) (ks : List Nat) : List (Nat × AV) → Prop
  | [] => True
  | (t, v) :: r => (inA ks v = true ∧ LeQf box fz (getE src t) (renA ren v)) ∧ envQf ren fz box src ks r
def boxQf1 (ren : List (Nat × Nat)) (fz : List Nat) (box : Boxes) (b : Box) : Option (Option Box) → Prop
  | some (some b0) => LeBxf box fz b0 (renB ren b)
  | some none => False
  | none => b.real = false
def boxQf (ren : List (Nat × Nat)) (fz : List Nat) (src : Boxes) (ks : List Nat) : Boxes → Prop
  | [] => True
  | (x, some b) :: r => (inB1 ks b = true ∧ boxQf1 ren fz src b (getB src (look ren x))) ∧ boxQf ren fz src ks r
  | (_, none) :: r => boxQf ren fz src ks r
theorem envQf.get {ren : List (Nat × Nat)} {fz : List Nat} {box : Boxes} {src : List (Nat × AV)} {ks : List Nat} {M : Mem} {β β' : Nm} (hf : Fz box fz M β) (h : ∀ x, x ∈ ks → ∀ p, β (look ren x) = some p → β' x = some p) : ∀ {tgt : List (Nat × AV)}, envQf ren fz box src ks tgt → ∀ t v, (getE src t).Rep M β v → (getE tgt t).Rep M β' v
  | [], _, _, _, _ => trivial
  | (k, a) :: r, ⟨⟨h1, h2⟩, hr⟩, t, v, hv => by
    rw [getE_cons]
    by_cases e : k = t
    · rw [if_pos e]; subst e; exact renA.rep h h1 (h2 M β v hf hv)
    · rw [if_neg e]; exact envQf.get hf h hr t v hv
theorem boxQf.get {ren : List (Nat × Nat)} {fz : List Nat} {src : Boxes} {ks : List Nat} : ∀ {tgt : Boxes}, (∀ x, x ∈ bkeys tgt → x ∈ ks) → boxQf ren fz src ks tgt → ∀ x b, getB tgt x = some (some b) → x ∈ ks ∧ inB1 ks b = true ∧ boxQf1 ren fz src b (getB src (look ren x))
  | [], _, _, _, _, h => by cases h
  | (k, some c) :: r, hk, ⟨⟨h1, h2⟩, hr⟩, x, b, h => by
    rw [getB_cons] at h
    by_cases e : k = x
    · rw [if_pos e] at h; cases h; subst e; exact ⟨hk k (by simp [bkeys]), h1, h2⟩
    · rw [if_neg e] at h; exact boxQf.get (fun y hy => hk y (by simp [bkeys, hy])) hr x b h
  | (k, none) :: r, hk, hr, x, b, h => by
    rw [getB_cons] at h
    by_cases e : k = x
    · rw [if_pos e] at h; cases h
    · rw [if_neg e] at h; exact boxQf.get (tgt := r) (fun y hy => hk y (List.mem_cons_of_mem _ hy)) hr x b h

def isRow : Option (Option Box) → Bool
  | some (some (.row _ _ _ _)) => true
  | _ => false
theorem SubM.of {cx : Cx} {N : Nat} {σ σ' : St} (href : cx.ref = []) (ren : List (Nat × Nat)) (fz : List Nat) (hi : injL ren (bkeys σ'.box) = true) (hz : (fz.all fun x => isRow (getB σ.box x)) = true) (hd : ((bkeys σ'.box).all fun x => !fz.contains (look ren x)) = true)
    (hb : boxQf ren fz σ.box (bkeys σ'.box) σ'.box) (he : envQf ren fz σ.box σ.env (bkeys σ'.box) σ'.env) : SubM cx N σ σ' := by
  classical
  intro M β a w i
  let ks := bkeys σ'.box
  let isZ : Nat → Prop := fun b => ∃ x c, x ∈ fz ∧ β x = some (b, c)
  let M' : Mem := fun b o => if isZ b then w.cell? ⟨b, o, none⟩ else M b o
  have hlive : ∀ x, x ∈ fz → ∃ e n s f, getB σ.box x = some (some (.row e n s f)) := by
    intro x hx
    rw [List.all_eq_true] at hz
    have := hz x hx
    unfold isRow at this
    split at this
    · rename_i e n s f h; exact ⟨e, n, s, f, h⟩
    · cases this
  have hMM : Mem.le M M' := by
    intro b o u h
    by_cases hb : isZ b
    · obtain ⟨x, c, hx, e⟩ := hb
      obtain ⟨e', n, s, f, hg⟩ := hlive x hx
      rw [i.apart x _ b c hg e o] at h; cases h
    · simp only [M', if_neg hb]; exact h
  have hF : Fz σ.box fz M' β := by
    intro x hx e n s f hg v ⟨b, c, e1, ev, hc⟩
    obtain ⟨b', c', cur, e2, hh, hl, hsz, hn, _, hcell⟩ := i.box x _ hg
    rw [e1] at e2; cases e2
    subst ev
    refine ⟨some ⟨b, 0, none⟩, c.1, by rw [hl], hn, .inr ⟨b, 0, rfl, fun k j hk hj => ?_⟩⟩
    obtain ⟨u, hu, hr⟩ := hcell k j hk hj
    have hZ : isZ b := ⟨x, c, hx, e1⟩
    exact ⟨u, by simp only [M', if_pos hZ]; simp [World.cell?, hh, hu], DV.Rep.mono hMM hr⟩
  let β' : Nm := fun x => if x ∈ ks then β (look ren x) else none
  have hin : ∀ x, x ∈ ks → β' x = β (look ren x) := fun x hx => by simp [β', hx]
  have hβ : ∀ x p, β' x = some p → x ∈ ks ∧ β (look ren x) = some p := fun x p h => by
    simp only [β'] at h
    split at h
    · exact ⟨by assumption, h⟩
    · cases h
  have hup : ∀ x, x ∈ ks → ∀ p, β (look ren x) = some p → β' x = some p := fun x hx p e => by rw [hin x hx]; exact e
  have hinj : ∀ x y, x ∈ ks → y ∈ ks → look ren x = look ren y → x = y := by
    intro x y hx hy e
    simp only [injL, List.all_eq_true] at hi
    have := hi x hx y hy
    simp only [Bool.or_eq_true] at this
    rcases this with h | h
    · exact Nat.eq_of_beq_eq_true h
    · rw [e] at h; simp at h
  have hnz : ∀ x, x ∈ ks → look ren x ∉ fz := by
    intro x hx
    rw [List.all_eq_true] at hd
    simpa using hd x hx
  have live : ∀ x b k c, getB σ'.box x = some (some b) → β' x = some (k, c) → x ∈ ks ∧ ∃ b0, getB σ.box (look ren x) = some (some b0) ∧ β (look ren x) = some (k, c) := by
    intro x b k c h e
    obtain ⟨h1, h2, h3⟩ := boxQf.get (fun _ h => h) hb x b h
    have e := (hβ x _ e).2
    obtain ⟨y, hy⟩ := i.keys _ _ e
    rw [hy] at h3
    cases y with
    | none => exact h3.elim
    | some b0 => exact ⟨h1, b0, hy, e⟩
  refine ⟨M', β', ⟨i.defers, i.tmps, i.heap, fun t => envQf.get hF hup he t _ (AV.Rep.mono hMM (Nm.le_refl β) (i.env t)), ?_, ?_, ?_, ?_, ?_, ?_, ?_⟩, hMM, ?_⟩
  · intro b o u h
    by_cases hb : isZ b
    · simp only [M', if_pos hb] at h; exact h
    · simp only [M', if_neg hb] at h; exact i.mem b o u h
  · intro x p e
    exact bkeys.has (hβ x p e).1
  · intro x b h
    obtain ⟨h1, h2, h3⟩ := boxQf.get (fun _ h => h) hb x b h
    cases hs : getB σ.box (look ren x) with
    | none =>
      rw [hs] at h3
      have hn : β' x = none := by
        rw [hin x h1]
        cases hb0 : β (look ren x) with
        | none => rfl
        | some p => obtain ⟨y, hy⟩ := i.keys _ _ hb0; rw [hs] at hy; cases hy
      cases b with
      | mrow e n s f => intro k c e; rw [hn] at e; cases e
      | _ => cases h3
    | some y =>
      cases y with
      | none => rw [hs] at h3; exact h3.elim
      | some b0 =>
        rw [hs] at h3
        have hrep := h3 M' β w (look ren x) hF (RepBox.mono hMM (Nm.le_refl β) rfl (fun _ _ _ => rfl) (i.box _ _ hs))
        cases b with
        | cells cs => exact renB.rep hup h1 h2 hrep
        | row e n s f => exact renB.rep hup h1 rfl hrep
        | mrow e n s f => intro k c e; rw [hin x h1] at e; exact hrep k c e
        | map vk l => exact renB.rep hup h1 rfl hrep
        | fresh T vs => exact renB.rep hup h1 rfl hrep
        | iter m n seen => exact renB.rep hup h1 h2 hrep
  · intro x y bx bby b c c' ex ey hx hy
    obtain ⟨kx, b0, g0, e0⟩ := live x bx b c ex hx
    obtain ⟨ky, b1, g1, e1⟩ := live y bby b c' ey hy
    exact hinj x y kx ky (i.inj _ _ b0 b1 b c c' g0 g1 e0 e1)
  · intro x bx b c ex hx o
    obtain ⟨kx, b0, g0, e0⟩ := live x bx b c ex hx
    have : ¬ isZ b := by
      rintro ⟨z, c', hz', e'⟩
      obtain ⟨e2, n, s, f, hg⟩ := hlive z hz'
      have := i.inj _ _ _ _ b c' c hg g0 e' e0
      subst this
      exact hnz x kx hz'
    simp only [M', if_neg this]
    exact i.apart _ b0 b c g0 e0 o
  · intro x bx b c ex hx
    obtain ⟨kx, b0, g0, e0⟩ := live x bx b c ex hx
    exact i.low _ b0 b c g0 e0
  · intro x hx
    rw [href] at hx; cases hx
  · intro b o u h
    by_cases hb : isZ b
    · obtain ⟨x, c, hx, e⟩ := hb
      obtain ⟨e', n, s, f, hg⟩ := hlive x hx
      rcases i.low x _ b c hg e with h | ⟨y, c', hy, _⟩
      · exact .inr h
      · rw [href] at hy; cases hy
    · simp only [M', if_neg hb] at h; exact .inl h
end Go.Ax

/- Contracts over boxes whose results are boxes of the call's own. -/
namespace Go.Ax
open Go.RowKit

def keepS (xs : List Nat) (σ : St) (x : SV) : SV := bif inS xs x then x else convS σ x
def keepSs (xs : List Nat) (σ : St) : List SV → List SV
  | [] => []
  | x :: r => keepS xs σ x :: keepSs xs σ r
def keepT (xs : List Nat) (σ : St) : TV → TV
  | .s x => .s (keepS xs σ x)
  | .g cs => .g (keepSs xs σ cs)
def keepTs (xs : List Nat) (σ : St) : List TV → List TV
  | [] => []
  | t :: r => keepT xs σ t :: keepTs xs σ r
section
variable {cx : Cx} {N : Nat} {M F : Mem} {β : Nm} {σ : St} {a : Act} {w : World}
theorem keepS.rep (xs : List Nat) (i : Inv cx N M β σ a w) (hM : Mem.le M F) (hF : ∀ x bc b c, getB σ.box x = some (some bc) → β x = some (b, c) → ∀ o u, w.cell? ⟨b, o, none⟩ = some u → F b o = some u) {x : SV} {v : Value} (r : x.Rep M β v) : (keepS xs σ x).Rep F β v := by
  unfold keepS
  cases inS xs x with
  | true => exact SV.Rep.mono hM (Nm.le_refl β) r
  | false => exact dS.rep i hM hF 3 _ _ r
theorem keepSs.rep (xs : List Nat) (i : Inv cx N M β σ a w) (hM : Mem.le M F) (hF : ∀ x bc b c, getB σ.box x = some (some bc) → β x = some (b, c) → ∀ o u, w.cell? ⟨b, o, none⟩ = some u → F b o = some u) : ∀ {cs : List SV} {vs : List Value}, RepL M β cs vs → RepL F β (keepSs xs σ cs) vs
  | [], [], _ => trivial
  | _ :: _, _ :: _, ⟨h, r⟩ => ⟨keepS.rep xs i hM hF h, keepSs.rep xs i hM hF r⟩
  | [], _ :: _, h => h.elim
  | _ :: _, [], h => h.elim
theorem keepTs.rep (xs : List Nat) (i : Inv cx N M β σ a w) (hM : Mem.le M F) (hF : ∀ x bc b c, getB σ.box x = some (some bc) → β x = some (b, c) → ∀ o u, w.cell? ⟨b, o, none⟩ = some u → F b o = some u) : ∀ {ts : List TV} {vs : List Value}, RepT M β ts vs → RepT F β (keepTs xs σ ts) vs
  | [], [], _ => trivial
  | .s _ :: _, _ :: _, ⟨h, r⟩ => ⟨keepS.rep xs i hM hF h, keepTs.rep xs i hM hF r⟩
  | .g _ :: _, _ :: _, ⟨⟨vs, e, h⟩, r⟩ => ⟨⟨vs, e, keepSs.rep xs i hM hF h⟩, keepTs.rep xs i hM hF r⟩
  | [], _ :: _, h => h.elim
  | _ :: _, [], h => h.elim
end
def retKR2 (T : List (Nat × TyI)) (rs : List ResultVar) (r : AV) (bx' : BoxL) : Exit → St → Prop
  | .ret, σ => match resL T σ rs with
    | some ts => LeQ (ofTs (keepTs (names bx') ⟨σ.env, shutB σ.box bx'⟩ ts)) r ∧ holdB σ.box bx'
    | none => False
  | .normal, σ => match resL T σ rs with
    | some ts => LeQ (ofTs (keepTs (names bx') ⟨σ.env, shutB σ.box bx'⟩ ts)) r ∧ holdB σ.box bx'
    | none => False
  | _, _ => False

section
variable {P : Program} {T : List (Nat × TyI)}
theorem callO_of_aw {f N : Nat} {fn : Func} {c : Code} {args : List AV} {bx : BoxL} {r : AV} {bx' : BoxL} (hf : P.funcs[f]? = some fn) (hb : fn.body = some c) (hN : fn.ntmps = N) (hcall : ∀ vs w, (callFunc f vs).run P w = .ok (.enter f vs) w)
    (hT : TabOK P T) (hl : Nat.ble args.length N = true) (hkeep : ((names bx).all fun x => (names bx').contains x) = true) (hreal : (bx'.all fun p => p.2.real) = true) {rs : List ResultVar} (hrs : fn.results.toList = rs)
    (h : ∀ cx : Cx, cx.ref = names bx → AW P cx N c (initR args bx) (retKR2 T rs r bx')) : CallR P f args bx r bx' := by
  classical
  refine ⟨hcall, fun M β w vs hG hr hM hbx hβ => ?_⟩
  refine calls_of_wp hf hb ?_
  let cx : Cx := ⟨w.heap.size, names bx, β⟩
  have hlen := hr.length
  have hl := Nat.le_of_ble_eq_true hl
  have hex : ∀ x, x ∈ names bx → ∃ p, β x = some p := fun x hx => by
    obtain ⟨k, c, e⟩ := hbx.has x hx
    exact ⟨_, e⟩
  have i0 : Inv cx N M β (initR args bx) { tmps := vs.toArray ++ Array.replicate (fn.ntmps - vs.toArray.size) undef, defers := [] } w := by
    refine ⟨rfl, by simp; omega, ⟨Nat.le_refl _, by obtain ⟨bs, hG, hN2⟩ := hG; exact ⟨bs, hG, fun g t m => ⟨hG.lt m, by rintro ⟨x, c, _, hx⟩; exact hN2 g t m x c hx⟩⟩⟩, fun t => ?_, hM, fun x p e => openB.has (hβ x p e), fun x b e => hbx.rep x b (openB.get e), fun x y b1 b2 b c c' h1 h2 e1 e2 => ?_, fun x b1 b c h1 e => ?_, fun x b1 b c h1 e => ?_, fun x hx => ⟨rfl, hex x hx⟩⟩
    · have := envOf.rep (k := 0) (t := t) (List.replicate (fn.ntmps - vs.length) undef) hr (Nat.zero_le _)
      simp only [Nat.sub_zero] at this
      simp only [initR]
      have e : (vs.toArray ++ Array.replicate (fn.ntmps - vs.toArray.size) undef).getD t undef = (vs ++ List.replicate (fn.ntmps - vs.length) undef).getD t undef := by
        simp [← List.toArray_replicate]
      rw [e]
      exact this
    · exact hbx.inj x y b c c' (mem_names (openB.get h1)) (mem_names (openB.get h2)) e1 e2
    · exact hbx.apart x b c (mem_names (openB.get h1)) e
    · exact .inr ⟨x, c, mem_names (openB.get h1), e⟩
  refine wp_mono (h cx rfl M β _ w i0) ?_
  rintro e a' w' ⟨σ', M', β', hk, i', hg, hkp⟩
  have fin : ∀ ts, resL T σ' rs = some ts → LeQ (ofTs (keepTs (names bx') ⟨σ'.env, shutB σ'.box bx'⟩ ts)) r → holdB σ'.box bx' → a'.defers = [] ∧ ∃ v, (results fn a'.tmps).run P w' = .ok v w' ∧ ∃ v' M' β', Ending.returned v = .returned v' ∧ Nm.le β β' ∧ r.Rep M' β' v' ∧ Grow w.heap.size M M' ∧ MemOK M' w' ∧ BoxesOK M' β' w' bx' ∧
      (∀ x b c, x ∈ names bx' → β' x = some (b, c) → w.heap.size ≤ b ∨ ∃ y c', β y = some (b, c')) ∧
      w'.os = w.os ∧ w'.tape = w.tape ∧ w'.output = w.output ∧ w.heap.size ≤ w'.heap.size ∧ (∀ k, k < w.heap.size → (∀ y c, β y ≠ some (k, c)) → w'.heap[k]? = w.heap[k]?) := by
    intro ts hts hsub hhold
    obtain ⟨vs', hrun, hrep⟩ := resL.rep hT i' hts
    let isB : Nat → Prop := fun b => ∃ x c, x ∈ names bx' ∧ β' x = some (b, c)
    let F : Mem := fun b o => if b < w.heap.size then M' b o else if isB b then none else w'.cell? ⟨b, o, none⟩
    have hlive : ∀ x, x ∈ names bx' → ∃ b, getB σ'.box x = some (some b) := fun x hx => by
      obtain ⟨b, hb⟩ := of_names hx
      exact ⟨b, holdB.get hhold hb⟩
    have hMF : Mem.le M' F := fun b o u e => by
      by_cases hbl : b < w.heap.size
      · simp [F, hbl, e]
      · have : ¬ isB b := by
          rintro ⟨x, c, hx, hx2⟩
          obtain ⟨bc, hbc⟩ := hlive x hx
          rw [i'.apart x bc b c hbc hx2 o] at e
          cases e
        simp only [F, if_neg hbl, if_neg this]
        exact i'.mem b o u e
    have hFc : ∀ x bc b c, getB (shutB σ'.box bx') x = some (some bc) → β' x = some (b, c) → ∀ o u, w'.cell? ⟨b, o, none⟩ = some u → F b o = some u := by
      intro x bc b c e e' o u hu
      obtain ⟨hnx, ex⟩ := shutB.get e
      have hnb : ¬ isB b := by
        rintro ⟨y, c', hy, hy2⟩
        obtain ⟨bc', hbc'⟩ := hlive y hy
        exact hnx (i'.inj y x bc' bc b c' c hbc' ex hy2 e' ▸ hy)
      rcases i'.low x bc b c ex e' with h | h
      · have : ¬ b < w.heap.size := by have : w.heap.size ≤ b := h; omega
        simp only [F, if_neg this, if_neg hnb]; exact hu
      · obtain ⟨y, c', hy, hy2⟩ := h
        have hy' : y ∈ names bx' := by
          rw [List.all_eq_true] at hkeep
          simpa using hkeep y hy
        have e1 : β' y = some (b, c') := by rw [(i'.ref y hy).1]; exact hy2
        exact (hnb ⟨y, c', hy', e1⟩).elim
    have hconv := keepTs.rep (names bx') (i'.shut bx') hMF hFc hrep
    refine ⟨i'.defers, (if h : vs'.toArray.size = 1 then vs'.toArray[0] else .tuple vs'.toArray), ?_, _, F, β', rfl, ?_, hsub F β' _ ?_, ⟨fun b o u e => hMF b o u (hg.le b o u e), fun b o u e => ?_⟩, fun b o u e => ?_, ?_, ?_, hkp.os, hkp.tape, hkp.output, hkp.size, ?_⟩
    · have : (fn.results.mapM (resSem a'.tmps)).run P w' = .ok vs'.toArray w' := by
        rw [← Array.toArray_toList (xs := fn.results), List.mapM_toArray, hrs]
        simp only [Sem.run_map, hrun, Result.andThen]
      have e : results fn a'.tmps = (do let vs ← fn.results.mapM (resSem a'.tmps); pure (if h : vs.size = 1 then vs[0] else .tuple vs)) := by
        unfold results
        congr 1
      rw [e]
      simp only [Sem.run_bind, this, Result.andThen, Sem.run_pure]
    · intro x p e
      rw [(i'.ref x (hβ x p e)).1]
      exact e
    · cases hts' : keepTs (names bx') ⟨σ'.env, shutB σ'.box bx'⟩ ts with
      | nil =>
        rw [hts'] at hconv
        cases vs' with
        | nil => exact ⟨[], rfl, trivial⟩
        | cons _ _ => exact hconv.elim
      | cons t r' =>
        rw [hts'] at hconv
        cases vs' with
        | nil => exact hconv.elim
        | cons v vs'' =>
          cases r' with
          | nil =>
            cases vs'' with
            | cons _ _ => exact hconv.2.elim
            | nil =>
              have := hconv.1
              simp only [List.size_toArray, List.length_cons, List.length_nil, Nat.zero_add, dite_true, ofTs]
              cases t with
              | s x => exact this
              | g cs => exact this
          | cons t2 r2 =>
            cases vs'' with
            | nil => exact hconv.2.elim
            | cons v2 vs3 =>
              have hne : ¬ (v :: v2 :: vs3).toArray.size = 1 := by simp
              rw [dif_neg hne]
              exact ⟨_, rfl, hconv⟩
    · by_cases hbl : b < w.heap.size
      · simp only [F, if_pos hbl] at e
        exact hg.new b o u e
      · exact .inr (by omega)
    · by_cases hbl : b < w.heap.size
      · simp only [F, if_pos hbl] at e
        exact i'.mem b o u e
      · simp only [F, if_neg hbl] at e
        split at e
        · cases e
        · exact e
    · refine ⟨fun x hx => ?_, fun x b hb => ?_, fun x y b c c' hx hy e1 e2 => ?_, fun x b c hx e o => ?_⟩
      · obtain ⟨b, hb⟩ := of_names hx
        rw [List.all_eq_true] at hreal
        exact (i'.box x b (holdB.get hhold hb)).exb (hreal _ hb)
      · exact RepBox.mono hMF (Nm.le_refl β') rfl (fun _ _ _ => rfl) (i'.box x b (holdB.get hhold hb))
      · obtain ⟨bx1, h1⟩ := hlive x hx
        obtain ⟨bx2, h2⟩ := hlive y hy
        exact i'.inj x y bx1 bx2 b c c' h1 h2 e1 e2
      · obtain ⟨bx1, h1⟩ := hlive x hx
        have hB : isB b := ⟨x, c, hx, e⟩
        by_cases hbl : b < w.heap.size
        · simp only [F, if_pos hbl]
          exact i'.apart x bx1 b c h1 e o
        · simp only [F, if_neg hbl, if_pos hB]
    · intro x b c hx e
      obtain ⟨bx1, h1⟩ := hlive x hx
      rcases i'.low x bx1 b c h1 e with h | ⟨y, c', hy, hy2⟩
      · exact .inl h
      · exact .inr ⟨y, c', hy2⟩
    · intro k hk hnk
      exact hkp.block k hk (by rintro ⟨x, c, _, hx⟩; exact hnk x c hx)
  cases e with
  | ret =>
    simp only [retKR2] at hk
    split at hk
    · rename_i ts hts; exact fin ts hts hk.1 hk.2
    · exact hk.elim
  | normal =>
    simp only [retKR2] at hk
    split at hk
    · rename_i ts hts; exact fin ts hts hk.1 hk.2
    · exact hk.elim
  | _ => exact hk.elim
theorem callO_of_ex {rc : List Nat} {f N : Nat} {fn : Func} {c : Code} {args : List AV} {bx : BoxL} {r : AV} {bx' : BoxL} (hf : P.funcs[f]? = some fn) (hb : fn.body = some c) (hN : fn.ntmps = N) (hcall : ∀ vs w, (callFunc f vs).run P w = .ok (.enter f vs) w)
    (hT : TabOK P T) (hm : P.follows .mixedOrders = true) (hl : Nat.ble args.length N = true) (hkeep : ((names bx).all fun x => (names bx').contains x) = true) (hreal : (bx'.all fun p => p.2.real) = true) {rs : List ResultVar} (hrs : fn.results.toList = rs)
    (h : ∀ cx : Cx, cx.ref = names bx → ex P T N (names bx) rc cx c (initR args bx) (retKR2 T rs r bx')) : CallR P f args bx r bx' :=
  callO_of_aw hf hb hN hcall hT hl hkeep hreal hrs fun cx href => ex.sound hT hm href c (h cx href)
end
end Go.Ax

/- Short words for proofs with the executor. -/
namespace Go.Ax
open Go.RowKit
theorem sk {p q : Prop} (h : q) : (p → p) ∧ q := ⟨id, h⟩
theorem st {q : Prop} (h : q) : True ∧ q := ⟨trivial, h⟩
theorem sg {b : Bool} {q : Prop} (h : q) : gimp (b = false) (some (gpol false b)) ∧ q := ⟨fun h => by simpa [gpol] using h, h⟩
theorem sh {b : Bool} {q : Prop} (h : q) : gimp (b = true) (some (gpol true b)) ∧ q := ⟨fun h => by simpa [gpol] using h, h⟩
theorem sn1 {b c : Bool} {q : Prop} (h : q) : imp (some c) (gimp (b = true) (some (c && gpol true b))) ∧ q := ⟨fun h1 h2 => by simp [h1, h2, gpol], h⟩
theorem sn0 {b c : Bool} {q : Prop} (h : q) : imp (some c) (gimp (b = false) (some (c && gpol false b))) ∧ q := ⟨fun h1 h2 => by simp [h1, h2, gpol], h⟩
theorem su {c : Bool} {p q : Prop} (h : q) : imp (some c) (gimp p none) ∧ q := ⟨fun _ => trivial, h⟩
theorem ob {p q : Prop} (h : p) (k : q) : p ∧ q := ⟨h, k⟩
theorem oi {p q : Prop} (h : p) (k : q) : imp none p ∧ q := ⟨h, k⟩
theorem og {p q : Prop} {b : Bool} (h : b = true → p) (k : q) : (b = true → p) ∧ q := ⟨h, k⟩
theorem callG {P : Program} {f : FuncId} {args : List AV} {r : AV} {K : AV → Prop} {b : Bool} {X : Prop} (h : CallP P f args r) (k : K r) : (∃ r, (b = true → CallP P f args r) ∧ K r) ∨ X := .inl ⟨r, fun _ => h, k⟩
theorem callGo {P : Program} {f : FuncId} {args : List AV} {r : AV} {K : AV → Prop} {b : Bool} {X : Prop} (h : b = true → CallP P f args r) (k : K r) : (∃ r, (b = true → CallP P f args r) ∧ K r) ∨ X := .inl ⟨r, h, k⟩
theorem callN {P : Program} {f : FuncId} {args : List AV} {r : AV} {K : AV → Prop} {X : Prop} (h : CallP P f args r) (k : K r) : (∃ r, CallP P f args r ∧ K r) ∨ X := .inl ⟨r, h, k⟩
/-- A guarded call that is not made. -/
theorem callF {P : Program} {f : FuncId} {args : List AV} (r : AV) {K : AV → Prop} {b : Bool} {X : Prop} (h : b = false) (k : K r) : (∃ r, (b = true → CallP P f args r) ∧ K r) ∨ X := .inl ⟨r, fun h' => by rw [h] at h'; (cases h'), k⟩
theorem CallK.of {P : Program} {σ : St} {f : FuncId} {ars : List AV} {r : AV} (ren : List (Nat × Nat)) {args : List AV} {bx : BoxL} (h : CallR P f args bx r bx) (he : ars = renAs ren args) (hm : matchB ren σ.box bx) (hk : okK ren args bx = true) (hf : flatA r = true) (hx : ((names bx).all fun x => (catL (reachA σ) ars).contains (look ren x)) = true) : CallK P σ f ars r := ⟨ren, args, bx, h, he, hm, hk, hf, hx⟩
/-- A call that is handed boxes and leaves them ars they are. -/
theorem callKN {P : Program} {σ : St} {f : FuncId} {ars : List AV} {r : AV} {K : AV → Prop} {X : Prop} (h : CallK P σ f ars r) (k : K r) : X ∨ (∃ r, CallK P σ f ars r ∧ K r) := .inr ⟨r, h, k⟩
theorem callKG {P : Program} {σ : St} {f : FuncId} {ars : List AV} {r : AV} {K : AV → Prop} {b : Bool} {X : Prop} (h : b = true → CallK P σ f ars r) (k : K r) : X ∨ (∃ r, (b = true → CallK P σ f ars r) ∧ K r) := .inr ⟨r, h, k⟩
theorem LeD.slc' {n m s : Nat} {f g : Nat → Nat → DV} (e : n = m) (h : ∀ i j, i < n → j < s → LeD (f i j) (g i j)) : LeD (.slc n s f) (.slc m s g) := by subst e; exact LeD.slc h
theorem LeAs.capD {σ : St} {c : Nat → DV} : ∀ {k j : Nat}, LeAs (convAs σ (capD c k j)) (capD c k j)
  | 0, _ => trivial
  | _ + 1, _ => ⟨LeD.refl _, LeAs.capD⟩
abbrev w64 (n : Int) : Int := IntKind.i64.wrap n
abbrev dI (x : Int) : DV := .val (.int .i64 x)
abbrev vI (x : Int) : AV := .s (.d (.val (.int .i64 x)))
abbrev vB (b : Bool) : AV := .s (.d (.val (.bool b)))
theorem SubR.lit {b c : Bool} (h : b = c) : SubR (.s (.d (.lit b))) (vB c) := by subst h; exact fun _ _ r => r
theorem w64_of {n : Int} (h : -9223372036854775808 ≤ n) (k : n ≤ 9223372036854775807) : w64 n = n := by
  unfold w64
  exact IntWalk.i64_in n ⟨h, k⟩
def intEl (l : List Int) : Nat → Nat → DV := fun i _ => dI (l.getD i 0)
def dInts (l : List Int) : DV := .slc l.length 1 (intEl l)
abbrev vInts (l : List Int) : AV := .s (.d (dInts l))
end Go.Ax
namespace Go.Ax
open Go.RowKit
theorem bif_len {α : Type} (l : List α) : (bif l.isEmpty then 0 else l.length) = l.length := by cases l <;> rfl
theorem isEmpty_snoc {α : Type} (l : List α) (x : α) : (l ++ [x]).isEmpty = false := by cases l <;> rfl
theorem LeBx.snoc {α : Type} [Inhabited α] {e s : Nat} {l : List α} {x : α} {el : α → Nat → DV} {g : Nat → Nat → DV} (hg : ∀ j, j < s → g 0 j = el x j) :
    LeBx (.row e ((bif l.isEmpty then 0 else l.length) + 1) s (catF (bif l.isEmpty then 0 else l.length) (fun i => el (l.getD i default)) g)) (.mrow e (l ++ [x]).length s (fun i => el ((l ++ [x]).getD i default))) := by
  rw [bif_len]
  refine LeBx.mrow (by simp) fun i j hi hj => LeD.of_eq ?_
  unfold catF
  by_cases h : i < l.length
  · rw [if_pos h]
    simp only [List.getD_eq_getElem?_getD, List.getElem?_append_left h]
  · have : i = l.length := by omega
    subst this
    rw [if_neg h, Nat.sub_self, hg j hj]
    simp only [List.getD_eq_getElem?_getD, List.getElem?_concat_length, Option.getD_some]
/-- Four cells, or fewer, by their number. -/
theorem lt1 {p : Nat → Prop} (h : p 0) : ∀ j, j < 1 → p j := fun j hj => by match j, hj with | 0, _ => exact h
theorem lt2 {p : Nat → Prop} (h : p 0) (h1 : p 1) : ∀ j, j < 2 → p j := fun j hj => by match j, hj with | 0, _ => exact h | 1, _ => exact h1
theorem lt3 {p : Nat → Prop} (h : p 0) (h1 : p 1) (h2 : p 2) : ∀ j, j < 3 → p j := fun j hj => by match j, hj with | 0, _ => exact h | 1, _ => exact h1 | 2, _ => exact h2
theorem lt4 {p : Nat → Prop} (h : p 0) (h1 : p 1) (h2 : p 2) (h3 : p 3) : ∀ j, j < 4 → p j := fun j hj => by match j, hj with | 0, _ => exact h | 1, _ => exact h1 | 2, _ => exact h2 | 3, _ => exact h3
theorem lt5 {p : Nat → Prop} (h : p 0) (h1 : p 1) (h2 : p 2) (h3 : p 3) (h4 : p 4) : ∀ j, j < 5 → p j := fun j hj => by match j, hj with | 0, _ => exact h | 1, _ => exact h1 | 2, _ => exact h2 | 3, _ => exact h3 | 4, _ => exact h4
theorem fit1 {s : Nat} {g : Nat → Nat → DV} (h : ∀ j, j < s → (g 0 j).fit = true) : fitAll 1 s g := fun k j hk hj => by
  have : k = 0 := by omega
  subst this; exact h j hj
end Go.Ax
namespace Go.Ax
theorem SubR.mo {α : Type} {l : List α} {s : Nat} {f : Nat → Nat → DV} : SubR (.s (.d (.slc (bif l.isEmpty then 0 else l.length) s f))) (.s (.d (.slc l.length s f))) := SubR.of_eq (by rw [bif_len])
theorem filterMap_range_succ {β : Type} (f : Nat → Option β) (n : Nat) : (List.range (n + 1)).filterMap f = (List.range n).filterMap f ++ (f n).toList := by
  rw [List.range_succ, List.filterMap_append]
  cases h : f n <;> simp [h]
end Go.Ax
namespace Go.Ax
/-- A row's cells are those of the list's elements. -/
def RowIs {α : Type} [Inhabited α] (s n : Nat) (f : Nat → Nat → DV) (el : α → Nat → DV) (l : List α) : Prop := n = l.length ∧ ∀ i j, i < n → j < s → f i j = el (l.getD i default) j
section
variable {α : Type} [Inhabited α] {s n e : Nat} {f g : Nat → Nat → DV} {el : α → Nat → DV} {l : List α} {x : α}
theorem RowIs.refl : RowIs s l.length (fun i => el (l.getD i default)) el l := ⟨rfl, fun _ _ _ _ => rfl⟩
theorem RowIs.bif : RowIs s (bif l.isEmpty then 0 else l.length) (fun i => el (l.getD i default)) el l := ⟨bif_len l, fun _ _ _ _ => rfl⟩
theorem RowIs.snoc (h : RowIs s n f el l) (hg : ∀ j, j < s → g 0 j = el x j) : RowIs s (n + 1) (catF n f g) el (l ++ [x]) := by
  obtain ⟨rfl, h⟩ := h
  refine ⟨by simp, fun i j hi hj => ?_⟩
  unfold catF
  by_cases hl : i < l.length
  · rw [if_pos hl, h i j hl hj]
    simp only [List.getD_eq_getElem?_getD, List.getElem?_append_left hl]
  · have : i = l.length := by omega
    subst this
    rw [if_neg hl, Nat.sub_self, hg j hj]
    simp only [List.getD_eq_getElem?_getD, List.getElem?_concat_length, Option.getD_some]
theorem RowIs.one (hg : ∀ j, j < s → g 0 j = el x j) : RowIs s 1 g el [x] := by
  refine ⟨rfl, fun i j hi hj => ?_⟩
  have : i = 0 := by omega
  subst this
  exact hg j hj
theorem RowIs.mrow (h : RowIs s n f el l) : LeBx (.row e n s f) (.mrow e l.length s (fun i => el (l.getD i default))) :=
  LeBx.mrow h.1 fun i j hi hj => LeD.of_eq (h.2 i j hi hj)
theorem RowIs.row (h : RowIs s n f el l) : LeBx (.row e n s f) (.row e l.length s (fun i => el (l.getD i default))) :=
  LeBx.row h.1 fun i j hi hj => LeD.of_eq (h.2 i j hi hj)
theorem RowIs.slc (h : RowIs s n f el l) : LeD (.slc n s f) (.slc l.length s (fun i => el (l.getD i default))) :=
  LeD.slc' h.1 fun i j hi hj => LeD.of_eq (h.2 i j hi hj)
end
theorem LeQ.lit {b c : Bool} (h : b = c) : LeQ (.s (.d (.lit b))) (.s (.d (.val (.bool c)))) := by subst h; exact fun _ _ _ r => r
theorem LeQ.int {x y : Int} (h : x = y) : LeQ (.s (.d (.val (.int .i64 x)))) (vI y) := by subst h; exact LeQ.rfl
theorem LeQ.bool {x y : Bool} (h : x = y) : LeQ (.s (.d (.val (.bool x)))) (vB y) := by subst h; exact LeQ.rfl
end Go.Ax

/- The data of the program, and how the executor sees it. -/
namespace Go.Ch
open Go Go.Ax Go.Proofs Go.Proofs.Tryz

theorem mix : Tryz.prog.follows .mixedOrders = true := by kernel_rfl

structure Pt where
  x : Int
  y : Int
  deriving DecidableEq, Inhabited
structure Ap where
  x : Int
  y : Int
  half : Int
  level : Int
  run : Int
  deriving DecidableEq, Inhabited
structure Reg where
  name : ByteArray
  kind : Int
  corners : List Pt
  deriving Inhabited
structure Chan where
  name : ByteArray
  axis : List Ap
  over : Int
  buffer : Int
  regions : List Reg
  deriving Inhabited
structure Grid where
  x : Int
  y : Int
  side : Int
  cols : Int
  rows : Int
  levels : List Int
  deriving Inhabited

abbrev dS (s : ByteArray) : DV := .val (.string s)
abbrev vS (s : ByteArray) : AV := .s (.d (dS s))
abbrev pt (p : Pt) : AV := .g [.d (dI p.x), .d (dI p.y)]
abbrev ap (p : Ap) : AV := .g [.d (dI p.x), .d (dI p.y), .d (dI p.half), .d (dI p.level), .d (dI p.run)]
def ptD (p : Pt) : Nat → DV
  | 0 => dI p.x
  | 1 => dI p.y
  | _ => .junk
def apD (p : Ap) : Nat → DV
  | 0 => dI p.x
  | 1 => dI p.y
  | 2 => dI p.half
  | 3 => dI p.level
  | 4 => dI p.run
  | _ => .junk
def ptEl (l : List Pt) : Nat → Nat → DV := fun i => ptD (l.getD i default)
def dPts (l : List Pt) : DV := .slc l.length 2 (ptEl l)
abbrev pts (l : List Pt) : AV := .s (.d (dPts l))
def apEl (l : List Ap) : Nat → Nat → DV := fun i => apD (l.getD i default)
def dAps (l : List Ap) : DV := .slc l.length 5 (apEl l)
def regD (p : Reg) : Nat → DV
  | 0 => dS p.name
  | 1 => dI p.kind
  | 2 => dPts p.corners
  | _ => .junk
abbrev reg (p : Reg) : AV := .g [.d (dS p.name), .d (dI p.kind), .d (dPts p.corners)]
def regEl (l : List Reg) : Nat → Nat → DV := fun i => regD (l.getD i default)
def dRegs (l : List Reg) : DV := .slc l.length 3 (regEl l)
abbrev vRegs (l : List Reg) : AV := .s (.d (dRegs l))
abbrev vAps (l : List Ap) : AV := .s (.d (dAps l))
abbrev chan (c : Chan) : AV := .g [.d (dS c.name), .d (dAps c.axis), .d (dI c.over), .d (dI c.buffer), .d (dRegs c.regions)]
abbrev grid (g : Grid) : AV := .g [.d (dI g.x), .d (dI g.y), .d (dI g.side), .d (dI g.cols), .d (dI g.rows), .d (dInts g.levels)]

theorem natOf {i : Nat} : ((i : Int)).toNat = i := rfl
theorem getD_of {α : Type} [Inhabited α] {l : List α} {i : Nat} (h : i < l.length) {d : α} : l.getD i d = l[i] := by simp [List.getElem?_eq_getElem h]
theorem decT {p : Prop} [Decidable p] (h : decide p = true) : p := of_decide_eq_true h
theorem decF {p : Prop} [Decidable p] (h : decide p = false) : ¬ p := of_decide_eq_false h

/-- What the program computes. -/
def within (n lo hi : Int) : Bool := decide (n ≥ lo) && decide (n ≤ hi)
def cross (a b c : Pt) : Int := w64 (w64 (w64 (b.x - a.x) * w64 (c.y - a.y)) - w64 (w64 (b.y - a.y) * w64 (c.x - a.x)))
def dot (a b c : Pt) : Int := w64 (w64 (w64 (b.x - a.x) * w64 (c.x - a.x)) + w64 (w64 (b.y - a.y) * w64 (c.y - a.y)))
def between (a b p : Pt) : Bool := cross a b p == 0 && within p.x (mm false a.x b.x) (mm true a.x b.x) && within p.y (mm false a.y b.y) (mm true a.y b.y)
def sgn (n : Int) : Int := if n < 0 then -1 else if n > 0 then 1 else 0
def meet (a b c d : Pt) : Bool :=
  (((between a b c || between a b d) || between c d a) || between c d b) || (decide (w64 (sgn (cross a b c) * sgn (cross a b d)) < 0) && decide (w64 (sgn (cross c d a) * sgn (cross c d b)) < 0))
def good (p : Pt) : Bool := within p.x (-1000000) 1000000 && within p.y (-1000000) 1000000
def Ap.pt (a : Ap) : Pt := ⟨a.x, a.y⟩
end Go.Ch

namespace Go.Ch
open Go Go.Ax Go.Proofs Go.Proofs.Tryz

set_option maxRecDepth 100000
set_option pp.maxSteps 400

theorem Within (n lo hi : Int) : CallP Tryz.prog 29 [vI n, vI lo, vI hi] (vB (within n lo hi)) := by
  refine callP_of_ex (rc := []) (N := 15) Tryz.func29 rfl rfl Tryz.call29 tab_ok mix rfl rfl (fun cx _ => ?_)
  exact ⟨fun h => h, fun h => h, fun h => h, trivial, SubR.refl _⟩
theorem Cross (a b c : Pt) : CallP Tryz.prog 146 [pt a, pt b, pt c] (vI (cross a b c)) := by
  refine callP_of_ex (rc := []) (N := 30) Tryz.func146 rfl rfl Tryz.call146 tab_ok mix rfl rfl (fun cx _ => ?_)
  exact SubR.refl _
theorem gcross (a b c : Pt) : CallP Tryz.prog 213 [pt a, pt b, pt c] (vI (cross a b c)) := by
  refine callP_of_ex (rc := []) (N := 30) Tryz.func213 rfl rfl Tryz.call213 tab_ok mix rfl rfl (fun cx _ => ?_)
  exact SubR.refl _
theorem Sign (n : Int) : CallP Tryz.prog 181 [vI n] (vI (sgn n)) := by
  refine callP_of_ex (rc := []) (N := 7) Tryz.func181 rfl rfl Tryz.call181 tab_ok mix rfl rfl (fun cx _ => ?_)
  refine And.intro (fun h => ?_) (fun h => And.intro (fun h' => ?_) (fun h' => ?_))
  · exact SubR.of_eq (by rw [sgn, if_pos (decT h)]; rfl)
  · exact SubR.of_eq (by rw [sgn, if_neg (decF h), if_pos (decT h')]; rfl)
  · exact SubR.of_eq (by rw [sgn, if_neg (decF h), if_neg (decF h')]; rfl)
theorem Orient (a b c : Pt) : CallP Tryz.prog 147 [pt a, pt b, pt c] (vI (sgn (cross a b c))) := by
  refine callP_of_ex (rc := []) (N := 12) Tryz.func147 rfl rfl Tryz.call147 tab_ok mix rfl rfl (fun cx _ => ?_)
  exact callN (Cross a b c) (callN (Sign _) (SubR.refl _))
theorem isNaN (n : Int) : CallP Tryz.prog 192 [vI n] (vB false) := by
  refine callP_of_ex (rc := []) (N := 6) Tryz.func192 rfl rfl Tryz.call192 tab_ok mix rfl rfl (fun cx _ => ?_)
  exact SubR.of_eq (by show vB (n != n) = vB false; simp)
theorem Between (a b p : Pt) : CallP Tryz.prog 124 [pt a, pt b, pt p] (vB (between a b p)) := by
  refine callP_of_ex (rc := []) (N := 42) Tryz.func124 rfl rfl Tryz.call124 tab_ok mix rfl rfl (fun cx _ => ?_)
  refine callN (Cross a b p) ?_
  repeat first | refine sk ?_ | refine st ?_ | refine sg ?_
  refine callG (Within _ _ _) ?_
  repeat first | refine sk ?_ | refine st ?_ | refine sg ?_
  refine callG (Within _ _ _) ?_
  repeat first | refine sk ?_ | refine st ?_ | refine sg ?_
  exact SubR.refl _
theorem Meet (a b c d : Pt) : CallP Tryz.prog 125 [pt a, pt b, pt c, pt d] (vB (meet a b c d)) := by
  refine callP_of_ex (rc := []) (N := 53) Tryz.func125 rfl rfl Tryz.call125 tab_ok mix rfl rfl (fun cx _ => ?_)
  refine callN (Between a b c) ?_
  repeat first | refine sk ?_ | refine st ?_ | refine sg ?_
  refine callG (Between a b d) ?_
  repeat first | refine sk ?_ | refine st ?_ | refine sg ?_
  refine callG (Between c d a) ?_
  repeat first | refine sk ?_ | refine st ?_ | refine sg ?_
  refine callG (Between c d b) ?_
  repeat first | refine sk ?_ | refine st ?_ | refine sg ?_
  refine And.intro (fun h => ?_) (fun h => ?_)
  · exact SubR.lit (by rw [meet, h]; rfl)
  · refine callN (Orient a b c) ?_
    refine callN (Orient a b d) ?_
    repeat first | refine sk ?_ | refine st ?_ | refine sg ?_
    refine callG (Orient c d a) ?_
    repeat first | refine sk ?_ | refine st ?_ | refine sg ?_
    refine callG (Orient c d b) ?_
    repeat first | refine sk ?_ | refine st ?_ | refine sg ?_
    refine And.intro (by kernel_rfl) ?_
    exact SubR.of_eq (by rw [meet, h]; rfl)
theorem on (a b p : Pt) : CallP Tryz.prog 204 [pt a, pt b, pt p] (vB (between a b p)) := by
  refine callP_of_ex (rc := []) (N := 52) Tryz.func204 rfl rfl Tryz.call204 tab_ok mix rfl rfl (fun cx _ => ?_)
  refine callN (gcross a b p) ?_
  repeat first | refine sk ?_ | refine st ?_ | refine sg ?_
  refine SubR.of_eq ?_
  show vB _ = vB _
  simp only [between, within, ge_iff_le, Bool.and_assoc]
theorem Compare (n m : Int) : CallP Tryz.prog 221 [vI n, vI m] (vI (sgn (n - m))) := by
  refine callP_of_ex (rc := []) (N := 20) Tryz.func221 rfl rfl Tryz.call221 tab_ok mix rfl rfl (fun cx _ => ?_)
  refine callN (isNaN n) ?_
  refine callN (isNaN m) ?_
  refine And.intro (fun h => by cases h) (fun _ => And.intro (fun h => by cases h) (fun _ => And.intro (fun h => ?_) (fun h => And.intro (fun h' => ?_) (fun h' => ?_))))
  · have := decT h
    exact SubR.of_eq (by rw [sgn, if_pos (by omega)]; rfl)
  · have := decT h'
    exact SubR.of_eq (by rw [sgn, if_neg (by omega), if_pos (by omega)]; rfl)
  · have := decF h
    have := decF h'
    exact SubR.of_eq (by rw [sgn, if_neg (by omega), if_neg (by omega)]; rfl)
theorem side (a b c : Pt) : CallP Tryz.prog 218 [pt a, pt b, pt c] (vI (sgn (cross a b c))) := by
  refine callP_of_ex (rc := []) (N := 12) Tryz.func218 rfl rfl Tryz.call218 tab_ok mix rfl rfl (fun cx _ => ?_)
  refine callN (gcross a b c) ?_
  refine callN (Compare _ 0) ?_
  exact SubR.of_eq (by show vI _ = vI _; rw [Int.sub_zero])
theorem gout1 (p : Pt) : CallP Tryz.prog 202 [pt p] (vB (!good p)) := by
  refine callP_of_ex (rc := []) (N := 21) Tryz.func202 rfl rfl Tryz.call202 tab_ok mix rfl rfl (fun cx _ => ?_)
  repeat first | refine sk ?_ | refine st ?_ | refine sg ?_
  refine SubR.of_eq ?_
  show vB _ = vB _
  refine congrArg vB ?_
  rw [Bool.eq_iff_iff]
  simp [good, within]
  omega
theorem gmeet (a b c d : Pt) : CallP Tryz.prog 205 [pt a, pt b, pt c, pt d] (vB (meet a b c d)) := by
  refine callP_of_ex (rc := []) (N := 53) Tryz.func205 rfl rfl Tryz.call205 tab_ok mix rfl rfl (fun cx _ => ?_)
  refine callN (on a b c) ?_
  repeat first | refine sk ?_ | refine st ?_ | refine sg ?_
  refine callG (on a b d) ?_
  repeat first | refine sk ?_ | refine st ?_ | refine sg ?_
  refine callG (on c d a) ?_
  repeat first | refine sk ?_ | refine st ?_ | refine sg ?_
  refine callG (on c d b) ?_
  repeat first | refine sk ?_ | refine st ?_ | refine sg ?_
  refine And.intro (fun h => ?_) (fun h => ?_)
  · exact SubR.lit (by rw [meet, h]; rfl)
  · refine callN (side a b c) ?_
    refine callN (side a b d) ?_
    repeat first | refine sk ?_ | refine st ?_ | refine sg ?_
    refine callG (side c d a) ?_
    repeat first | refine sk ?_ | refine st ?_ | refine sg ?_
    refine callG (side c d b) ?_
    repeat first | refine sk ?_ | refine st ?_ | refine sg ?_
    refine And.intro (by kernel_rfl) ?_
    exact SubR.of_eq (by rw [meet, h]; rfl)
theorem Good (p : Pt) : CallP Tryz.prog 47 [pt p] (vB (good p)) := by
  refine callP_of_ex (rc := []) (N := 11) Tryz.func47 rfl rfl Tryz.call47 tab_ok mix rfl rfl (fun cx _ => ?_)
  refine callN (Within _ _ _) ?_
  repeat first | refine sk ?_ | refine st ?_ | refine sg ?_
  refine callG (Within _ _ _) ?_
  repeat first | refine sk ?_ | refine st ?_ | refine sg ?_
  exact SubR.refl _
end Go.Ch

namespace Go.Ch
open Go Go.Ax Go.Proofs Go.Proofs.Tryz
set_option maxRecDepth 100000
set_option pp.maxSteps 400

/-- The level of a part: the number, and whether there is one. -/
def lvl (off half bottom run : Int) : Int × Bool :=
  bif decide (off ≤ half) then (bottom, true) else bif run == 0 then (0, false) else (w64 (bottom + w64 (Int.tdiv (w64 (off - half)) run)), decide (w64 (bottom + w64 (Int.tdiv (w64 (off - half)) run)) ≤ 20000))
abbrev part (off half bottom run : Int) : AV := .g [.d (dI off), .d (dI half), .d (dI bottom), .d (dI run)]
abbrev rIB (r : Int × Bool) : AV := .t [.s (.d (.val (.int .i64 r.1))), .s (.d (.val (.bool r.2)))]
theorem SubR.ib {n m : Int} {b c : Bool} (h : n = m) (k : b = c) : SubR (.t [.s (.d (.val (.int .i64 n))), .s (.d (.lit b))]) (.t [.s (.d (.val (.int .i64 m))), .s (.d (.val (.bool c)))]) := by
  subst h; subst k; exact SubR.t ⟨LeD.refl _, fun _ _ r => r, trivial⟩
def cornerG (g : Grid) (i : Int) : Pt := ⟨w64 (g.x + w64 (i.tmod g.cols * g.side)), w64 (g.y + w64 (w64 (i.tdiv g.cols) * g.side))⟩
def centreG (g : Grid) (i : Int) : Pt := ⟨w64 ((cornerG g i).x + w64 (g.side.tdiv 2)), w64 ((cornerG g i).y + w64 (g.side.tdiv 2))⟩
theorem bcorner (g : Grid) (i : Int) (h : g.cols ≠ 0) : CallP Tryz.prog 216 [grid g, vI i] (pt (cornerG g i)) := by
  refine callP_of_ex (rc := []) (N := 26) Tryz.func216 rfl rfl Tryz.call216 tab_ok mix rfl rfl (fun cx _ => ?_)
  refine oi h ?_
  refine oi h ?_
  refine And.intro (by kernel_rfl) ?_
  refine SubR.of_eq ?_
  rfl
theorem bcentre (g : Grid) (i : Int) (h : g.cols ≠ 0) : CallP Tryz.prog 200 [grid g, vI i] (pt (centreG g i)) := by
  refine callP_of_ex (rc := []) (N := 22) Tryz.func200 rfl rfl Tryz.call200 tab_ok mix rfl rfl (fun cx _ => ?_)
  refine callN (bcorner g i h) ?_
  refine oi (by decide) ?_
  refine oi (by decide) ?_
  refine SubR.of_eq ?_
  rfl
def alike (a b : Grid) : Bool := a.x == b.x && a.y == b.y && a.side == b.side && a.cols == b.cols && a.rows == b.rows
theorem corner (l : List Pt) (i : Nat) (hl : l ≠ []) : CallP Tryz.prog 123 [pts l, vI i] (pt (l.getD (i % l.length) default)) := by
  have hlen : 0 < l.length := List.length_pos_iff.2 hl
  have hm := Nat.mod_lt i hlen
  have e : (i : Int).tmod l.length = ((i % l.length : Nat) : Int) := by
    rw [Int.tmod_eq_emod_of_nonneg (by omega)]; rfl
  refine callP_of_ex (rc := []) (N := 12) Tryz.func123 rfl rfl Tryz.call123 tab_ok mix rfl rfl (fun cx _ => ?_)
  refine oi (by omega) ?_
  refine oi (by rw [e]; exact ⟨by omega, by omega⟩) ?_
  refine SubR.of_eq ?_
  show pt (l.getD ((i : Int).tmod l.length).toNat default) = _
  rw [e]; rfl
theorem gcorner (l : List Pt) (i : Nat) (hl : l ≠ []) : CallP Tryz.prog 203 [pts l, vI i] (pt (l.getD (i % l.length) default)) := by
  have hlen : 0 < l.length := List.length_pos_iff.2 hl
  have hm := Nat.mod_lt i hlen
  have e : (i : Int).tmod l.length = ((i % l.length : Nat) : Int) := by
    rw [Int.tmod_eq_emod_of_nonneg (by omega)]; rfl
  refine callP_of_ex (rc := []) (N := 12) Tryz.func203 rfl rfl Tryz.call203 tab_ok mix rfl rfl (fun cx _ => ?_)
  refine oi (by omega) ?_
  refine oi (by rw [e]; exact ⟨by omega, by omega⟩) ?_
  refine SubR.of_eq ?_
  show pt (l.getD ((i : Int).tmod l.length).toNat default) = _
  rw [e]; rfl
end Go.Ch

namespace Go.Ch
open Go Go.Ax Go.Proofs Go.Proofs.Tryz
set_option maxRecDepth 100000
set_option pp.maxSteps 400
def idxF {α : Type} (p : α → Bool) : List α → Nat → Int
  | [], _ => -1
  | x :: r, k => bif p x then k else idxF p r (k + 1)
theorem idxF_any {α : Type} (p : α → Bool) : ∀ (l : List α) (k : Nat), decide (idxF p l k ≥ 0) = l.any p
  | [], _ => rfl
  | x :: r, k => by
    rw [idxF, List.any_cons]
    cases h : p x with
    | true => simp
    | false => simpa using idxF_any p r (k + 1)
theorem indexFuncI (l : List Int) (hl : l.length ≤ 9223372036854775807) (f k : Nat) (c : Nat → DV) (p : Int → Bool) (hp : ∀ x ∈ l, CallP Tryz.prog f (vI x :: capD c k 0) (vB (p x))) :
    CallP Tryz.prog 105 [vInts l, .s (.d (.clo f k c))] (vI (idxF p l 0)) := by
  refine callP_of_ex (rc := []) (N := 19) Tryz.func105 rfl rfl Tryz.call105 tab_ok mix rfl rfl (fun cx href => ?_)
  refine AW.loop (fun i : Nat => ⟨[(0, vInts l), (1, .s (.d (.clo f k c))), (7, vI l.length), (8, vI i), (4, vI 0)], []⟩) (fun i => i ≤ l.length ∧ idxF p l 0 = idxF p (l.drop i) i) (fun i => l.length - i) 0 ⟨Nat.zero_le _, rfl⟩ ?_ ?_
  · refine Sub.of0 href trivial ⟨⟨rfl, rfl⟩, ⟨rfl, rfl⟩, ⟨rfl, rfl⟩, ⟨rfl, rfl⟩, ⟨rfl, rfl⟩, trivial⟩
  · rintro i ⟨hi, he⟩
    refine ex.sound (rc := []) tab_ok mix href _ ?_
    refine And.intro (fun h => ?_) (fun h => ?_)
    · have h : (i : Int) < l.length := decT h
      have hi' : i < l.length := by omega
      have hd : l.drop i = l[i] :: l.drop (i + 1) := List.drop_eq_getElem_cons hi'
      have hg : l.getD i default = l[i] := getD_of hi'
      refine oi ⟨by omega, by omega⟩ ?_
      refine callN ((hp (l.getD i default) (by rw [hg]; simp)).conv (args' := _) ⟨LeD.refl _, LeAs.capD⟩) ?_
      rw [hd, idxF] at he
      rw [hg]
      refine And.intro (fun h => ?_) (fun h => ?_)
      · refine SubR.of_eq ?_
        rw [he, h]; rfl
      · refine ⟨i + 1, ⟨by omega, ?_⟩, by omega, ?_⟩
        · rw [he, h]; rfl
        · refine Sub.of0 href trivial ⟨⟨rfl, rfl⟩, ⟨rfl, rfl⟩, ⟨rfl, rfl⟩, ⟨rfl, ?_⟩, ⟨rfl, rfl⟩, trivial⟩
          exact congrArg vI (w64_of (by omega) (by omega))
    · have h : ¬ (i : Int) < l.length := decF h
      have hi' : i = l.length := by omega
      subst hi'
      refine SubR.of_eq ?_
      rw [he, List.drop_length]; rfl
theorem containsI (l : List Int) (hl : l.length ≤ 9223372036854775807) (f k : Nat) (c : Nat → DV) (p : Int → Bool) (hp : ∀ x ∈ l, CallP Tryz.prog f (vI x :: capD c k 0) (vB (p x))) :
    CallP Tryz.prog 70 [vInts l, .s (.d (.clo f k c))] (vB (l.any p)) := by
  refine callP_of_ex (rc := []) (N := 9) Tryz.func70 rfl rfl Tryz.call70 tab_ok mix rfl rfl (fun cx href => ?_)
  refine callN (indexFuncI l hl f k c p hp) ?_
  exact SubR.of_eq (congrArg vB (idxF_any p l 0))
theorem indexFuncP (l : List Pt) (hl : l.length ≤ 9223372036854775807) (f k : Nat) (c : Nat → DV) (p : Pt → Bool) (hp : ∀ x ∈ l, CallP Tryz.prog f (pt x :: capD c k 0) (vB (p x))) :
    CallP Tryz.prog 217 [pts l, .s (.d (.clo f k c))] (vI (idxF p l 0)) := by
  refine callP_of_ex (rc := []) (N := 19) Tryz.func217 rfl rfl Tryz.call217 tab_ok mix rfl rfl (fun cx href => ?_)
  refine AW.loop (fun i : Nat => ⟨[(0, pts l), (1, .s (.d (.clo f k c))), (7, vI l.length), (8, vI i), (4, vI 0)], []⟩) (fun i => i ≤ l.length ∧ idxF p l 0 = idxF p (l.drop i) i) (fun i => l.length - i) 0 ⟨Nat.zero_le _, rfl⟩ ?_ ?_
  · refine Sub.of0 href trivial ⟨⟨rfl, rfl⟩, ⟨rfl, rfl⟩, ⟨rfl, rfl⟩, ⟨rfl, rfl⟩, ⟨rfl, rfl⟩, trivial⟩
  · rintro i ⟨hi, he⟩
    refine ex.sound (rc := []) tab_ok mix href _ ?_
    refine And.intro (fun h => ?_) (fun h => ?_)
    · have h : (i : Int) < l.length := decT h
      have hi' : i < l.length := by omega
      have hd : l.drop i = l[i] :: l.drop (i + 1) := List.drop_eq_getElem_cons hi'
      have hg : l.getD i default = l[i] := getD_of hi'
      refine oi ⟨by omega, by omega⟩ ?_
      refine callN ((hp (l.getD i default) (by rw [hg]; simp)).conv (args' := _) ⟨⟨LeD.refl _, LeD.refl _, trivial⟩, LeAs.capD⟩) ?_
      rw [hd, idxF] at he
      rw [hg]
      refine And.intro (fun h => ?_) (fun h => ?_)
      · refine SubR.of_eq ?_
        rw [he, h]; rfl
      · refine ⟨i + 1, ⟨by omega, ?_⟩, by omega, ?_⟩
        · rw [he, h]; rfl
        · refine Sub.of0 href trivial ⟨⟨rfl, rfl⟩, ⟨rfl, rfl⟩, ⟨rfl, rfl⟩, ⟨rfl, ?_⟩, ⟨rfl, rfl⟩, trivial⟩
          exact congrArg vI (w64_of (by omega) (by omega))
    · have h : ¬ (i : Int) < l.length := decF h
      have hi' : i = l.length := by omega
      subst hi'
      refine SubR.of_eq ?_
      rw [he, List.drop_length]; rfl
theorem containsP (l : List Pt) (hl : l.length ≤ 9223372036854775807) (f k : Nat) (c : Nat → DV) (p : Pt → Bool) (hp : ∀ x ∈ l, CallP Tryz.prog f (pt x :: capD c k 0) (vB (p x))) :
    CallP Tryz.prog 201 [pts l, .s (.d (.clo f k c))] (vB (l.any p)) := by
  refine callP_of_ex (rc := []) (N := 9) Tryz.func201 rfl rfl Tryz.call201 tab_ok mix rfl rfl (fun cx href => ?_)
  refine callN (indexFuncP l hl f k c p hp) ?_
  exact SubR.of_eq (congrArg vB (idxF_any p l 0))
end Go.Ch

namespace Go.Ch
open Go Go.Ax Go.Proofs Go.Proofs.Tryz
set_option maxRecDepth 100000
set_option pp.maxSteps 400

theorem bbetween1 (n lo hi : Int) (f g : Nat → DV) (hf : f 0 = dI lo) (hg : g 0 = dI hi) : CallP Tryz.prog 104 [vI n, .s (.d (.rp 1 f)), .s (.d (.rp 1 g))] (vB (!within n lo hi)) := by
  have h1 : LeAs [vI n, .s (.d (.rp 1 f)), .s (.d (.rp 1 g))] [vI n, .s (.d (.rp 1 fun _ => dI lo)), .s (.d (.rp 1 fun _ => dI hi))] :=
    ⟨LeD.refl _, LeD.rp fun j hj => LeD.of_eq (by rw [show j = 0 by omega]; exact hf), LeD.rp fun j hj => LeD.of_eq (by rw [show j = 0 by omega]; exact hg), trivial⟩
  refine CallP.conv ?_ h1
  refine callP_of_ex (rc := []) (N := 13) Tryz.func104 rfl rfl Tryz.call104 tab_ok mix rfl rfl (fun cx _ => ?_)
  repeat first | refine sk ?_ | refine st ?_ | refine sg ?_
  refine SubR.of_eq ?_
  show vB _ = vB _
  refine congrArg vB ?_
  rw [Bool.eq_iff_iff]
  simp [within]
def outL (lo hi : Int) (l : List Int) : Bool := l.any fun n => !within n lo hi
theorem bbetween (lo hi : Int) (l : List Int) (hl : l.length ≤ 9223372036854775807) : CallP Tryz.prog 69 [vI lo, vI hi, vInts l] (vB (!outL lo hi l)) := by
  refine callP_of_ex (rc := []) (N := 11) Tryz.func69 rfl rfl Tryz.call69 tab_ok mix rfl rfl (fun cx _ => ?_)
  refine callN (containsI l hl 104 2 _ (fun n => !within n lo hi) (fun x _ => bbetween1 x lo hi _ _ rfl rfl)) ?_
  exact SubR.refl _
theorem isLevel (n : Int) : CallP Tryz.prog 72 [vI n] (vB (within n (-20000) 20000)) := by
  refine callP_of_ex (rc := []) (N := 6) Tryz.func72 rfl rfl Tryz.call72 tab_ok mix rfl rfl (fun cx _ => ?_)
  refine callN ((bbetween (-20000) 20000 [n] (by simp)).conv (args' := _) ⟨LeD.refl _, LeD.refl _, LeD.slc fun i j hi hj => ?_, trivial⟩) ?_
  · have : i = 0 := by have : i < 1 := hi; omega
    have : j = 0 := by have : j < 1 := hj; omega
    subst i j; exact LeD.refl _
  exact SubR.of_eq (by show vB _ = vB _; simp [outL])
def badL (n : Int) : Bool := n != 30000 && !within n (-20000) 20000
theorem bcheck1 (n : Int) : CallP Tryz.prog 71 [vI n] (vB (badL n)) := by
  refine callP_of_ex (rc := []) (N := 10) Tryz.func71 rfl rfl Tryz.call71 tab_ok mix rfl rfl (fun cx _ => ?_)
  repeat first | refine sk ?_ | refine st ?_ | refine sg ?_
  refine callG (isLevel n) ?_
  repeat first | refine sk ?_ | refine st ?_ | refine sg ?_
  exact SubR.refl _
def e1 (g : Grid) : Bool := !(within g.x (-1000000) 1000000) || !(within g.y (-1000000) 1000000) || !(within g.side 100 10000) || !(within g.cols 1 1024) || !(within g.rows 1 1024)
def errG (g : Grid) : Int :=
  bif e1 g then 2
  else bif decide (w64 (g.cols * g.rows) > 1024) then 8
  else bif decide (w64 (g.x + w64 (g.cols * g.side)) > 1000000) || decide (w64 (g.y + w64 (g.rows * g.side)) > 1000000) then 2
  else bif (g.levels.length : Int) != w64 (g.cols * g.rows) then 10
  else bif g.levels.any badL then 2 else 0
theorem bcheck (g : Grid) (hl : g.levels.length ≤ 9223372036854775807) : CallP Tryz.prog 27 [grid g] (vI (errG g)) := by
  refine callP_of_ex (rc := []) (N := 69) Tryz.func27 rfl rfl Tryz.call27 tab_ok mix rfl rfl (fun cx _ => ?_)
  have two : ∀ (a b : Int) (f : Nat → Nat → DV) (h0 : f 0 0 = dI a) (h1 : f 1 0 = dI b), LeD (.slc 2 1 f) (dInts [a, b]) := by
    intro a b f h0 h1
    refine LeD.slc fun i j hi hj => ?_
    have : j = 0 := by omega
    subst j
    match i, hi with
    | 0, _ => exact LeD.of_eq h0
    | 1, _ => exact LeD.of_eq h1
  have one : ∀ (a : Int) (f : Nat → Nat → DV) (h0 : f 0 0 = dI a), LeD (.slc 1 1 f) (dInts [a]) := by
    intro a f h0
    refine LeD.slc fun i j hi hj => ?_
    have : j = 0 := by omega
    have : i = 0 := by omega
    subst i j
    exact LeD.of_eq h0
  refine callN ((bbetween (-1000000) 1000000 [g.x, g.y] (by simp)).conv (args' := _) ⟨LeD.refl _, LeD.refl _, two _ _ _ rfl rfl, trivial⟩) ?_
  repeat first | refine sk ?_ | refine st ?_ | refine sg ?_
  refine And.intro (fun h1 => ?_) (fun h1 => ?_)
  · refine ob (by rw [h1]; rfl) ?_
    refine callN ((bbetween 100 10000 [g.side] (by simp)).conv (args' := _) ⟨LeD.refl _, LeD.refl _, one _ _ rfl, trivial⟩) ?_
    repeat first | refine sk ?_ | refine st ?_ | refine sg ?_
    refine And.intro (fun h2 => ?_) (fun h2 => ?_)
    · skip
      refine ob (by rw [h2]; rfl) ?_
      refine ob (by rw [h2]; rfl) ?_
      refine callN ((bbetween 1 1024 [g.cols, g.rows] (by simp)).conv (args' := _) ⟨LeD.refl _, LeD.refl _, two _ _ _ rfl rfl, trivial⟩) ?_
      refine And.intro (fun h3 => ?_) (fun h3 => ?_)
      · exact SubR.of_eq (by rw [errG, show e1 g = true by simp [outL] at h1 h2 h3; simp [e1, h1, h2, h3]]; rfl)
      have he : e1 g = false := by simp [outL] at h1 h2 h3; simp [e1, h1, h2, h3]
      refine And.intro (fun h4 => ?_) (fun h4 => ?_)
      · exact SubR.of_eq (by rw [errG, he, h4]; rfl)
      repeat first | refine sk ?_ | refine st ?_ | refine sg ?_
      refine And.intro (fun h5 => ?_) (fun h5 => ?_)
      · exact SubR.of_eq (by rw [errG, he, h4, h5]; rfl)
      refine And.intro (fun h6 => ?_) (fun h6 => ?_)
      · exact SubR.of_eq (by rw [errG, he, h4, h5, h6]; rfl)
      refine callN ((containsI g.levels hl 71 0 (fun _ => .junk) badL (fun x _ => bcheck1 x)).conv (args' := _) ⟨LeD.refl _, LeD.clo fun j hj => absurd hj (Nat.not_lt_zero j), trivial⟩) ?_
      refine And.intro (fun h7 => ?_) (fun h7 => ?_)
      · exact SubR.of_eq (by rw [errG, he, h4, h5, h6, h7]; rfl)
      · exact SubR.of_eq (by rw [errG, he, h4, h5, h6, h7]; rfl)
    · exact SubR.of_eq (by rw [errG, show e1 g = true by simp [outL] at h1 h2; simp [e1, h1, h2]]; rfl)
  · exact SubR.of_eq (by rw [errG, show e1 g = true by simp [outL] at h1; simp [e1, h1]]; rfl)
theorem Leveled (n : Int) : CallP Tryz.prog 30 [vI n] (vB (within n (-20000) 20000)) := by
  refine callP_of_ex (rc := []) (N := 5) Tryz.func30 rfl rfl Tryz.call30 tab_ok mix rfl rfl (fun cx _ => ?_)
  refine callN (Within _ _ _) ?_
  exact SubR.refl _
theorem RCheck (g : Grid) (hl : g.levels.length ≤ 9223372036854775807) : CallP Tryz.prog 8 [grid g] (vI (errG g)) := by
  refine callP_of_ex (rc := []) (N := 89) Tryz.func8 rfl rfl Tryz.call8 tab_ok mix rfl rfl (fun cx _ => ?_)
  refine callN (Within _ _ _) ?_
  repeat first | refine sk ?_ | refine st ?_ | refine sg ?_
  refine callG (Within _ _ _) ?_
  repeat first | refine sk ?_ | refine st ?_ | refine sg ?_
  refine callG (Within _ _ _) ?_
  repeat first | refine sk ?_ | refine st ?_ | refine sg ?_
  refine callG (Within _ _ _) ?_
  repeat first | refine sk ?_ | refine st ?_ | refine sg ?_
  refine callG (Within _ _ _) ?_
  repeat first | refine sk ?_ | refine st ?_ | refine sg ?_
  refine And.intro (fun h => ?_) (fun h => ?_)
  · exact SubR.of_eq (by rw [errG, e1, h]; rfl)
  refine And.intro (fun h2 => ?_) (fun h2 => ?_)
  · exact SubR.of_eq (by rw [errG, e1, h, h2]; rfl)
  repeat first | refine sk ?_ | refine st ?_ | refine sg ?_
  refine And.intro (fun h3 => ?_) (fun h3 => ?_)
  · exact SubR.of_eq (by rw [errG, e1, h, h2, h3]; rfl)
  refine And.intro (fun h4 => ?_) (fun h4 => ?_)
  · exact SubR.of_eq (by rw [errG, e1, h, h2, h3, h4]; rfl)
  refine AW.loop (fun i : Nat => ⟨[(1, .s (.ptr 1 0)), (3, vI i)], [(1, some (.cells [.d (dI g.x), .d (dI g.y), .d (dI g.side), .d (dI g.cols), .d (dI g.rows), .d (dInts g.levels)]))]⟩) (fun i => i ≤ g.levels.length ∧ g.levels.any badL = (g.levels.drop i).any badL) (fun i => g.levels.length - i) 0 ⟨Nat.zero_le _, rfl⟩ ?_ ?_
  · refine Sub.of0 (by assumption) ⟨⟨rfl, rfl⟩, trivial⟩ ⟨⟨rfl, rfl⟩, ⟨rfl, rfl⟩, trivial⟩
  · rintro i ⟨hi, hj⟩
    refine ex.sound (rc := []) tab_ok mix (by assumption) _ ?_
    refine And.intro (fun h5 => ?_) (fun h5 => ?_)
    · have h5 : (i : Int) < g.levels.length := decT h5
      have hi' : i < g.levels.length := by omega
      have hd : g.levels.drop i = g.levels[i] :: g.levels.drop (i + 1) := List.drop_eq_getElem_cons hi'
      have hg : g.levels.getD i 0 = g.levels[i] := getD_of hi'
      refine oi ⟨by omega, by omega⟩ ?_
      repeat first | refine sk ?_ | refine st ?_ | refine sg ?_
      refine oi ?_ ?_
      · exact fun _ => ⟨by omega, by omega⟩
      repeat first | refine sk ?_ | refine st ?_ | refine sg ?_
      refine callG (Leveled _) ?_
      repeat first | refine sk ?_ | refine st ?_ | refine sg ?_
      rw [hd, List.any_cons] at hj
      refine And.intro (fun h6 => ?_) (fun h6 => ?_)
      · have h6 : badL g.levels[i] = true := hg ▸ h6
        refine SubR.of_eq ?_
        rw [errG, e1, h, h2, h3, h4, hj, h6]; rfl
      · have h6 : badL g.levels[i] = false := hg ▸ h6
        refine ⟨i + 1, ⟨by omega, by rw [hj, h6]; rfl⟩, by omega, ?_⟩
        refine Sub.of0 (by assumption) ⟨⟨rfl, rfl⟩, trivial⟩ ⟨⟨rfl, rfl⟩, ⟨rfl, ?_⟩, trivial⟩
        exact congrArg vI (w64_of (by omega) (by omega))
    · have h5 : ¬ (i : Int) < g.levels.length := decF h5
      have hi' : i = g.levels.length := by omega
      refine SubR.of_eq ?_
      rw [errG, e1, h, h2, h3, h4, hj, hi', List.drop_length]; rfl
end Go.Ch

namespace Go.Ch
open Go Go.Ax Go.Proofs Go.Proofs.Tryz
set_option maxRecDepth 100000
set_option pp.maxSteps 400

theorem errG_cols {g : Grid} (h : errG g = 0) : 1 ≤ g.cols ∧ g.cols ≤ 1024 := by
  cases he : e1 g with
  | true => rw [errG, he] at h; cases h
  | false =>
    simp [e1, within] at he
    omega
theorem bhas (g : Grid) (i : Int) (he : errG g = 0) (h0 : 0 ≤ i) (hi : i < g.levels.length) (hl : g.levels.length ≤ 9223372036854775807) : CallP Tryz.prog 99 [grid g, vI i] (vI 0) := by
  refine callP_of_ex (rc := []) (N := 19) Tryz.func99 rfl rfl Tryz.call99 tab_ok mix rfl rfl (fun cx _ => ?_)
  refine callN (bcheck g hl) ?_
  refine And.intro (fun h => ?_) (fun h => ?_)
  · rw [he] at h; cases h
  refine callN ((bbetween 0 (w64 (g.levels.length - 1)) [i] (by simp)).conv (args' := _) ⟨LeD.refl _, LeD.refl _, LeD.slc fun i j hi hj => ?_, trivial⟩) ?_
  · have : i = 0 := by have : i < 1 := hi; omega
    have : j = 0 := by have : j < 1 := hj; omega
    subst i j; exact LeD.refl _
  refine And.intro (fun h => ?_) (fun h => ?_)
  · rw [w64_of (by omega) (by omega)] at h
    simp [outL, within] at h
    omega
  · exact SubR.of_eq rfl
theorem bCentre (g : Grid) (i : Int) (he : errG g = 0) (h0 : 0 ≤ i) (hi : i < g.levels.length) (hl : g.levels.length ≤ 9223372036854775807) : CallP Tryz.prog 174 [grid g, vI i] (.t [.g [.d (dI (centreG g i).x), .d (dI (centreG g i).y)], .s (.d (dI 0))]) := by
  refine callP_of_ex (rc := []) (N := 17) Tryz.func174 rfl rfl Tryz.call174 tab_ok mix rfl rfl (fun cx _ => ?_)
  refine callN (bhas g i he h0 hi hl) ?_
  refine And.intro (fun h => by cases h) (fun _ => ?_)
  refine callN (bcentre g i (by have := errG_cols he; omega)) ?_
  exact SubR.of_eq rfl
def few (g : Grid) : Bool := (decide ((g.levels.length : Int) ≤ 40) && ((decide (g.cols ≤ 40) && decide (g.rows ≤ 40)) || (g.levels.length : Int) != w64 (g.cols * g.rows))) || (decide ((g.levels.length : Int) ≤ 1100) && errG g != 0)
attribute [local irreducible] errG in
theorem Few (g : Grid) (hl : g.levels.length ≤ 9223372036854775807) : CallP Tryz.prog 6 [grid g] (vB (few g)) := by
  refine callP_of_ex (rc := []) (N := 39) Tryz.func6 rfl rfl Tryz.call6 tab_ok mix rfl rfl (fun cx _ => ?_)
  repeat first | refine sk ?_ | refine st ?_ | refine sg ?_ | refine sh ?_ | refine su ?_ | refine sn1 ?_ | refine sn0 ?_
  refine callG (RCheck g hl) ?_
  repeat first | refine sk ?_ | refine st ?_ | refine sg ?_ | refine sh ?_ | refine su ?_ | refine sn1 ?_ | refine sn0 ?_
  exact SubR.of_eq (by show vB _ = vB _; rw [few])
end Go.Ch

namespace Go.Ch
open Go Go.Ax Go.Proofs Go.Proofs.Tryz
set_option maxRecDepth 100000
set_option pp.maxSteps 400

def u8 (s : ByteArray) (i : Nat) : Int := (s[i]!.toNat : Int)
def letter (c : Int) : Bool := (decide (c ≥ 97) && decide (c ≤ 122)) || (decide (c ≥ 65) && decide (c ≤ 90))
def badC (i : Int) (c : Int) : Bool := !letter c && (i == 0 || !((decide (c ≥ 48) && decide (c ≤ 57)) || c == 45))
theorem badC_eq (i c : Int) : (!letter c && (i == 0 || (c != 45 && (decide (c < 48) || decide (c > 57))))) = badC i c := by
  rw [badC, Bool.eq_iff_iff]
  simp
  intro _
  omega
def badFrom (s : ByteArray) : Nat → Nat → Bool
  | 0, _ => false
  | n + 1, i => badC i (u8 s i) || badFrom s n (i + 1)
def isName (s : ByteArray) : Bool := !(decide ((s.size : Int) < 1) || decide ((s.size : Int) > 12)) && !badFrom s s.size 0
theorem isName' (s : ByteArray) : isName s = (!(s.toList == (ByteArray.mk #[]).toList || decide ((s.size : Int) > 12)) && !badFrom s s.size 0) := by
  have : decide ((s.size : Int) < 1) = (s.toList == (ByteArray.mk #[]).toList) := by
    rw [Bool.eq_iff_iff]
    rw [show ((s.toList == (ByteArray.mk #[]).toList) = true) = (s.data.toList = []) by rw [ByteArray.toList_eq, ByteArray.toList_eq]; simp]
    have h1 : s.size = s.data.toList.length := by show s.data.size = _; simp
    rw [← List.length_eq_zero_iff, ← h1]
    rw [decide_eq_true_iff]
    omega
  rw [isName, this]
end Go.Ch

namespace Go.Ch
open Go Go.Ax Go.Proofs Go.Proofs.Tryz
set_option maxRecDepth 100000
set_option pp.maxSteps 400

def halve (s : Int) : Nat → Int → Int → Int
  | 0, lo, _ => lo
  | k + 1, lo, hi => bif decide (lo < hi) then (bif decide (((lo + hi) / 2) * ((lo + hi) / 2) ≥ s) then halve s k lo ((lo + hi) / 2) else halve s k ((lo + hi) / 2 + 1) hi) else lo
def span (a b : Pt) : Int := halve (dot a b b) 23 0 4000000

theorem goutside (l : List Pt) (hl : l.length ≤ 9223372036854775807) : CallP Tryz.prog 178 [pts l] (vB (l.any fun p => !good p)) := by
  refine callP_of_ex (rc := []) (N := 5) Tryz.func178 rfl rfl Tryz.call178 tab_ok mix rfl rfl (fun cx _ => ?_)
  refine callN ((containsP l hl 202 0 (fun _ => .junk) (fun p => !good p) (fun x _ => gout1 x)).conv (args' := _) ⟨LeD.refl _, LeD.clo fun j hj => absurd hj (Nat.not_lt_zero j), trivial⟩) ?_
  exact SubR.refl _
end Go.Ch

/- The square root of a float64 that came of a whole number below 2^43 is, cut to a whole number, less than 2^24. -/
namespace Go.Ax.Root
open Ieee

theorem rung_read (r : Nat) (h : r < double.infRung) : ∃ m i, double.read r = .number false m i ∧ m < 2 ^ 53 ∧ (i = double.leastPlace ∨ i = double.leastPlace + ((r / 4503599627370496 - 1 : Nat) : Int)) := by
  have e1 : double.signWeight = 9223372036854775808 := by decide
  have e2 : double.binade = 4503599627370496 := by decide
  have e3 : double.infRung = 9218868437227405312 := by decide
  have e53 : (2 : Nat) ^ 53 = 9007199254740992 := by decide
  rw [e53]
  have hlt : r < 9223372036854775808 := by omega
  have hq : r / 9223372036854775808 = 0 := Nat.div_eq_of_lt hlt
  have hm : r % 9223372036854775808 = r := Nat.mod_eq_of_lt hlt
  unfold Format.read
  rw [e1, hq, hm, e2]
  by_cases hs : r < 4503599627370496
  · rw [if_pos hs]
    exact ⟨r, _, rfl, by omega, .inl rfl⟩
  · rw [if_neg hs, if_pos h]
    refine ⟨_, _, rfl, ?_, .inr rfl⟩
    have := Nat.mod_lt r (show 0 < 4503599627370496 by decide)
    omega

/-- The kept digits are at most 2^53. -/
theorem cut_le (n drop : Nat) (h : n < 2 ^ 53 * 2 ^ drop) : Toward.even.cut false n drop ≤ 2 ^ 53 := by
  unfold Toward.cut
  simp only
  have hb : ∀ b : Bool, b.toNat ≤ 1 := fun b => by cases b <;> decide
  have hg : n / 1 <<< min drop (n.log2 + 2) < 2 ^ 53 := by
    rw [Nat.shiftLeft_eq, Nat.one_mul]
    by_cases hd : drop ≤ n.log2 + 2
    · rw [Nat.min_eq_left hd]
      exact Nat.div_lt_of_lt_mul (by rw [Nat.mul_comm]; exact h)
    · rw [Nat.min_eq_right (by omega)]
      have : n < 2 ^ (n.log2 + 2) := Nat.lt_trans Nat.lt_log2_self (Nat.pow_lt_pow_right (by decide) (by omega))
      rw [Nat.div_eq_of_lt this]
      decide
  have := hb (decide (1 <<< min drop (n.log2 + 2) < 2 * (n % 1 <<< min drop (n.log2 + 2))) || (1 <<< min drop (n.log2 + 2) == 2 * (n % 1 <<< min drop (n.log2 + 2)) && n / 1 <<< min drop (n.log2 + 2) % 2 == 1))
  omega

/-- What is read of the word nearest to mag * 2^place: its place is little above that of the last digit kept. -/
theorem nearest_read (mag : Nat) (place : Int) (h0 : mag ≠ 0) (hlo : double.leastPlace ≤ place + mag.log2 - 52) (hhi : place + mag.log2 ≤ 900) :
    ∃ m i, double.read (double.nearest false mag place) = .number false m i ∧ m < 2 ^ 53 ∧ i ≤ place + mag.log2 - 51 ∧ -1074 ≤ i := by
  have e0 : double.fractionBits = 52 := rfl
  have e2 : double.binade = 4503599627370496 := by decide
  have e3 : double.infRung = 9218868437227405312 := by decide
  have e4 : double.leastPlace = -1074 := by decide
  have hlast : max (place + (mag.log2 : Int) - (double.fractionBits : Int)) double.leastPlace = place + mag.log2 - 52 := by
    rw [e0]
    exact Int.max_eq_left hlo
  have hkept : Toward.even.cut false (mag <<< (place - (place + mag.log2 - 52)).toNat) ((place + (mag.log2 : Int) - 52) - place).toNat ≤ 2 ^ 53 := by
    apply cut_le
    rw [Nat.shiftLeft_eq]
    have hm : mag < 2 ^ (mag.log2 + 1) := Nat.lt_log2_self
    by_cases hk : 52 ≤ mag.log2
    · have h1 : (place - (place + mag.log2 - 52)).toNat = 0 := by omega
      have h2 : ((place + (mag.log2 : Int) - 52) - place).toNat = mag.log2 - 52 := by omega
      rw [h1, h2, Nat.pow_zero, Nat.mul_one, ← Nat.pow_add]
      rw [show 53 + (mag.log2 - 52) = mag.log2 + 1 by omega]
      exact hm
    · have h1 : (place - (place + mag.log2 - 52)).toNat = 52 - mag.log2 := by omega
      have h2 : ((place + (mag.log2 : Int) - 52) - place).toNat = 0 := by omega
      rw [h1, h2, Nat.pow_zero, Nat.mul_one]
      calc mag * 2 ^ (52 - mag.log2) < 2 ^ (mag.log2 + 1) * 2 ^ (52 - mag.log2) := Nat.mul_lt_mul_of_pos_right hm (Nat.two_pow_pos _)
        _ = 2 ^ 53 := by rw [← Nat.pow_add]; congr 1; omega
  unfold Format.nearest
  rw [if_neg h0, hlast]
  simp only [Format.word, Bool.false_eq_true, if_false]
  have e53 : (2 : Nat) ^ 53 = 9007199254740992 := by decide
  rw [e53] at hkept
  generalize Toward.even.cut false (mag <<< (place - (place + mag.log2 - 52)).toNat) ((place + (mag.log2 : Int) - 52) - place).toNat = kept at hkept ⊢
  rw [e2, e3, e4]
  have hA : (place + (mag.log2 : Int) - 52 - -1074).toNat = (place + mag.log2 + 1022).toNat := by congr 1; omega
  rw [hA]
  generalize hAe : (place + (mag.log2 : Int) + 1022).toNat = A
  rw [e4] at hlo
  have hAi : (A : Int) = place + mag.log2 + 1022 := by omega
  have hA1 : A ≤ 1922 := by omega
  have hmin : min (A * 4503599627370496 + kept) 9218868437227405312 = A * 4503599627370496 + kept := by
    apply Nat.min_eq_left
    omega
  rw [hmin]
  have hlt : A * 4503599627370496 + kept < double.infRung := by
    rw [e3]
    clear hmin hlo hhi hAi hlast hA
    omega
  obtain ⟨m, i, hr, hm, hi⟩ := rung_read _ hlt
  rw [e4] at hi
  refine ⟨m, i, hr, hm, ?_⟩
  have hdiv : (A * 4503599627370496 + kept) / 4503599627370496 ≤ A + 2 := by
    have h1 : A * 4503599627370496 + kept ≤ (A + 2) * 4503599627370496 := by
      rw [Nat.add_mul]
      clear hmin hlo hhi hAi hlast hA hlt hr hi
      omega
    have h2 := Nat.div_le_div_right (c := 4503599627370496) h1
    rw [Nat.mul_div_cancel _ (by decide)] at h2
    exact h2
  generalize (A * 4503599627370496 + kept) / 4503599627370496 = D at hdiv hi
  rcases hi with rfl | rfl
  · exact ⟨by omega, by omega⟩
  · exact ⟨by omega, by omega⟩

theorem rootFrom_sq (n : Nat) : ∀ (todo root : Nat), root * root ≤ n → Datum.rootFrom n todo root * Datum.rootFrom n todo root ≤ n
  | 0, _, h => h
  | todo + 1, root, h => by
    unfold Datum.rootFrom
    simp only
    apply rootFrom_sq n todo
    split
    · assumption
    · exact h

theorem log2_le {a b : Nat} (h0 : a ≠ 0) (h : a < 2 ^ (b + 1)) : a.log2 ≤ b := by
  have := Nat.log2_self_le h0
  exact Nat.le_of_lt_succ ((Nat.pow_lt_pow_iff_right (by decide : 1 < 2)).1 (Nat.lt_of_le_of_lt this h))

theorem sqrt_small (s : Int) (h0 : 0 ≤ s) (hs : s < 2 ^ 43) : ∃ r n, FloatKind.f64.format.sqrt (FloatKind.f64.nearest s) = some r ∧ (FloatKind.f64.decode r).toInt .zero = some n ∧ 0 ≤ n ∧ n < 2 ^ 24 := by
  have e4 : double.leastPlace = -1074 := by decide
  have e0 : double.fractionBits = 52 := rfl
  have hf : FloatKind.f64.format = double := rfl
  by_cases hz : s = 0
  · subst hz
    exact ⟨0, 0, by decide +kernel, by decide +kernel, by decide, by decide⟩
  obtain ⟨k, rfl⟩ := Int.eq_ofNat_of_zero_le h0
  have hk0 : k ≠ 0 := by intro h; exact hz (by simp [h])
  have hk : k < 2 ^ 43 := by exact_mod_cast hs
  have hlk : k.log2 ≤ 42 := log2_le hk0 hk
  have hn : FloatKind.f64.nearest (k : Int) = double.nearest false k 0 := by
    unfold FloatKind.nearest FloatKind.encode
    rw [hf]
    have : decide ((k : Int) < 0) = false := by simp
    simp only [this, Int.natAbs_natCast, Format.write]
  obtain ⟨m, i, hr, hm, hi, hi2⟩ := nearest_read k 0 hk0 (by rw [e4]; omega) (by omega)
  -- the root
  obtain ⟨d, hd, hdn⟩ : ∃ d, (Datum.number false m i).root 54 = some d ∧ ∃ mag p, d = .number false mag p ∧ (mag = 0 ∨ (mag ≠ 0 ∧ p + mag.log2 ≤ 22 ∧ -1022 ≤ p + mag.log2)) := by
    by_cases hm0 : m = 0
    · subst hm0
      exact ⟨_, rfl, 0, i, rfl, .inl rfl⟩
    · unfold Datum.root
      simp only [hm0, if_false]
      have hlm : m.log2 ≤ 52 := log2_le hm0 hm
      have hcast : ((2 * 54 - m.log2 : Nat) : Int) = 108 - m.log2 := by omega
      obtain ⟨q, hq, hq2⟩ : ∃ q : Nat, ((i - ((2 * 54 - m.log2 : Nat) : Int)) % 2).toNat = q ∧ q ≤ 1 := ⟨_, rfl, by omega⟩
      rw [hq]
      have hn0 : (m <<< (2 * 54 - m.log2 + q)) < 2 ^ 110 := by
        rw [Nat.shiftLeft_eq]
        calc m * 2 ^ (2 * 54 - m.log2 + q) < 2 ^ (m.log2 + 1) * 2 ^ (2 * 54 - m.log2 + q) := Nat.mul_lt_mul_of_pos_right Nat.lt_log2_self (Nat.two_pow_pos _)
          _ = 2 ^ (109 + q) := by rw [← Nat.pow_add]; congr 1; omega
          _ ≤ 2 ^ 110 := Nat.pow_le_pow_right (by decide) (by omega)
      have hn1 : 1 ≤ m <<< (2 * 54 - m.log2 + q) := by
        rw [Nat.shiftLeft_eq]
        exact Nat.mul_pos (Nat.pos_of_ne_zero hm0) (Nat.two_pow_pos _)
      generalize hN : m <<< (2 * 54 - m.log2 + q) = N at hn0 hn1 ⊢
      have hsq := rootFrom_sq N (N.log2 / 2 + 1) 0 (by omega)
      generalize Datum.rootFrom N (N.log2 / 2 + 1) 0 = root at hsq ⊢
      have hroot : root < 2 ^ 55 := by
        rcases Nat.lt_or_ge root (2 ^ 55) with h | h
        · exact h
        · have := Nat.mul_le_mul h h
          have e : (2 : Nat) ^ 55 * 2 ^ 55 = 2 ^ 110 := by decide
          omega
      have hb : (root * root != N).toNat ≤ 1 := by cases (root * root != N) <;> decide
      generalize (root * root != N).toNat = bb at hb
      refine ⟨_, rfl, 2 * root + bb, _, rfl, ?_⟩
      by_cases hz2 : 2 * root + bb = 0
      · exact .inl hz2
      · right
        have hl : (2 * root + bb).log2 ≤ 55 := log2_le hz2 (by omega)
        refine ⟨hz2, ?_, ?_⟩
        · omega
        · omega
  obtain ⟨mag, p, rfl, hmp⟩ := hdn
  have hsq : FloatKind.f64.format.sqrt (FloatKind.f64.nearest (k : Int)) = some (double.nearest false mag p) := by
    rw [hf, hn]
    unfold Format.sqrt
    rw [hr, e0, hd]
    rfl
  rcases hmp with rfl | ⟨h1, h2, h3⟩
  · refine ⟨_, 0, hsq, ?_, by decide, by decide⟩
    have : double.nearest false 0 p = 0 := rfl
    rw [this]
    decide +kernel
  · obtain ⟨m', i', hr', hm', hi', hi2'⟩ := nearest_read mag p h1 (by rw [e4]; omega) (by omega)
    have hg : FloatKind.f64.decode (double.nearest false mag p) = .number false m' i' := hr'
    refine ⟨_, _, hsq, by rw [hg]; rfl, ?_⟩
    simp only [signed, Bool.false_eq_true, if_false, Nat.shiftLeft_zero]
    have hi0 : i'.toNat = 0 := by omega
    rw [hi0, Nat.shiftLeft_zero]
    unfold Toward.cut
    simp only [Bool.toNat_false, Nat.add_zero]
    refine ⟨Int.natCast_nonneg _, ?_⟩
    have : m' / 1 <<< min (-i').toNat (m'.log2 + 2) < 2 ^ 24 := by
      rw [Nat.shiftLeft_eq, Nat.one_mul]
      by_cases hd : (-i').toNat ≤ m'.log2 + 2
      · rw [Nat.min_eq_left hd]
        apply Nat.div_lt_of_lt_mul
        calc m' < 2 ^ 53 := hm'
          _ = 2 ^ 29 * 2 ^ 24 := by decide
          _ ≤ 2 ^ (-i').toNat * 2 ^ 24 := Nat.mul_le_mul_right _ (Nat.pow_le_pow_right (by decide) (by omega))
      · rw [Nat.min_eq_right (by omega)]
        have : m' < 2 ^ (m'.log2 + 2) := Nat.lt_trans Nat.lt_log2_self (Nat.pow_lt_pow_right (by decide) (by omega))
        rw [Nat.div_eq_of_lt this]
        decide
    exact_mod_cast this
end Go.Ax.Root

namespace Go.Ch
open Go Go.Ax Go.Proofs Go.Proofs.Tryz Go.RowKit
set_option maxRecDepth 100000

end Go.Ch

namespace Go.Ch
open Go Go.Ax Go.Proofs Go.Proofs.Tryz
set_option maxRecDepth 100000
set_option pp.maxSteps 400

theorem good_iff {p : Pt} : good p = true ↔ (-1000000 ≤ p.x ∧ p.x ≤ 1000000) ∧ (-1000000 ≤ p.y ∧ p.y ≤ 1000000) := by
  simp [good, within]
theorem mul_le_of {a b A B : Int} (ha : -A ≤ a) (ha' : a ≤ A) (hb : -B ≤ b) (hb' : b ≤ B) : -(A * B) ≤ a * b ∧ a * b ≤ A * B := by
  have hA : 0 ≤ A := by omega
  have hB : 0 ≤ B := by omega
  have h1 : 0 ≤ (A - a) * (B - b) := Int.mul_nonneg (by omega) (by omega)
  have h2 : 0 ≤ (A + a) * (B + b) := Int.mul_nonneg (by omega) (by omega)
  have h3 : 0 ≤ (A - a) * (B + b) := Int.mul_nonneg (by omega) (by omega)
  have h4 : 0 ≤ (A + a) * (B - b) := Int.mul_nonneg (by omega) (by omega)
  simp only [Int.mul_add, Int.mul_sub, Int.add_mul, Int.sub_mul] at h1 h2 h3 h4
  omega
/-- The exact dot product. -/
def dotE (a b c : Pt) : Int := (b.x - a.x) * (c.x - a.x) + (b.y - a.y) * (c.y - a.y)
def crossE (a b c : Pt) : Int := (b.x - a.x) * (c.y - a.y) - (b.y - a.y) * (c.x - a.x)
theorem dot_eq {a b c : Pt} (ha : good a = true) (hb : good b = true) (hc : good c = true) : dot a b c = dotE a b c ∧ -8000000000000 ≤ dotE a b c ∧ dotE a b c ≤ 8000000000000 := by
  rw [good_iff] at ha hb hc
  have h1 := mul_le_of (a := b.x - a.x) (b := c.x - a.x) (A := 2000000) (B := 2000000) (by omega) (by omega) (by omega) (by omega)
  have h2 := mul_le_of (a := b.y - a.y) (b := c.y - a.y) (A := 2000000) (B := 2000000) (by omega) (by omega) (by omega) (by omega)
  unfold dot dotE
  rw [w64_of (n := b.x - a.x) (by omega) (by omega), w64_of (n := c.x - a.x) (by omega) (by omega), w64_of (n := b.y - a.y) (by omega) (by omega), w64_of (n := c.y - a.y) (by omega) (by omega)]
  rw [w64_of (n := (b.x - a.x) * (c.x - a.x)) (by omega) (by omega), w64_of (n := (b.y - a.y) * (c.y - a.y)) (by omega) (by omega), w64_of (by omega) (by omega)]
  exact ⟨rfl, by omega, by omega⟩
theorem cross_eq {a b c : Pt} (ha : good a = true) (hb : good b = true) (hc : good c = true) : cross a b c = crossE a b c ∧ -8000000000000 ≤ crossE a b c ∧ crossE a b c ≤ 8000000000000 := by
  rw [good_iff] at ha hb hc
  have h1 := mul_le_of (a := b.x - a.x) (b := c.y - a.y) (A := 2000000) (B := 2000000) (by omega) (by omega) (by omega) (by omega)
  have h2 := mul_le_of (a := b.y - a.y) (b := c.x - a.x) (A := 2000000) (B := 2000000) (by omega) (by omega) (by omega) (by omega)
  unfold cross crossE
  rw [w64_of (n := b.x - a.x) (by omega) (by omega), w64_of (n := c.x - a.x) (by omega) (by omega), w64_of (n := b.y - a.y) (by omega) (by omega), w64_of (n := c.y - a.y) (by omega) (by omega)]
  rw [w64_of (n := (b.x - a.x) * (c.y - a.y)) (by omega) (by omega), w64_of (n := (b.y - a.y) * (c.x - a.x)) (by omega) (by omega), w64_of (by omega) (by omega)]
  exact ⟨rfl, by omega, by omega⟩
theorem mul_self_nonneg (x : Int) : 0 ≤ x * x := by
  rcases Int.le_total 0 x with h | h
  · exact Int.mul_nonneg h h
  · exact Int.mul_nonneg_of_nonpos_of_nonpos h h
theorem sq_nonneg (a b : Pt) : 0 ≤ dotE a b b := by
  have h1 := mul_self_nonneg (b.x - a.x)
  have h2 := mul_self_nonneg (b.y - a.y)
  unfold dotE; omega
theorem mul_self_pos {x : Int} (h : x ≠ 0) : 0 < x * x := by
  have h1 := mul_self_nonneg x
  have h2 : x * x ≠ 0 := fun e => by rcases Int.mul_eq_zero.1 e with h' | h' <;> exact h h'
  omega
theorem sq_pos {a b : Pt} (h : a ≠ b) : 0 < dotE a b b := by
  have h1 := mul_self_nonneg (b.x - a.x)
  have h2 := mul_self_nonneg (b.y - a.y)
  by_cases hx : b.x - a.x = 0
  · by_cases hy : b.y - a.y = 0
    · exact absurd (by cases a; cases b; simp at hx hy ⊢; omega) h
    · have := mul_self_pos hy
      unfold dotE; omega
  · have := mul_self_pos hx
    unfold dotE; omega

/-- The least n that is not negative and whose square is at least s. -/
def IsSpan (s n : Int) : Prop := 0 ≤ n ∧ s ≤ n * n ∧ (n = 0 ∨ (n - 1) * (n - 1) < s)
theorem sq_le {a b : Int} (h0 : 0 ≤ a) (h : a ≤ b) : a * a ≤ b * b := Int.mul_le_mul h h h0 (by omega)
theorem IsSpan.le {s n m : Int} (h : IsSpan s n) (hm : 0 ≤ m) (h2 : s ≤ m * m) : n ≤ m := by
  obtain ⟨h0, h1, h3⟩ := h
  rcases Int.lt_or_le m n with hlt | hge
  · rcases h3 with rfl | h3
    · omega
    · have := sq_le hm (show m ≤ n - 1 by omega)
      omega
  · exact hge
theorem IsSpan.unique {s n m : Int} (h : IsSpan s n) (k : IsSpan s m) : n = m := Int.le_antisymm (h.le k.1 k.2.1) (k.le h.1 h.2.1)
theorem halve_spec (s : Int) : ∀ (k : Nat) (lo hi : Int), 0 ≤ lo → lo ≤ hi → hi - lo < 2 ^ k → s ≤ hi * hi → (lo = 0 ∨ (lo - 1) * (lo - 1) < s) → IsSpan s (halve s k lo hi)
  | 0, lo, hi, h0, h1, h2, h3, h4 => by
    rw [halve]
    have : lo = hi := by simp at h2; omega
    subst this
    exact ⟨h0, h3, h4⟩
  | k + 1, lo, hi, h0, h1, h2, h3, h4 => by
    rw [halve]
    rw [Int.pow_succ] at h2
    by_cases hlt : lo < hi
    · rw [decide_eq_true hlt]
      simp only [cond_true]
      by_cases hm : (lo + hi) / 2 * ((lo + hi) / 2) ≥ s
      · rw [decide_eq_true hm]
        exact halve_spec s k lo _ h0 (by omega) (by omega) hm h4
      · rw [decide_eq_false hm]
        refine halve_spec s k _ hi (by omega) (by omega) (by omega) h3 (.inr ?_)
        have : (lo + hi) / 2 + 1 - 1 = (lo + hi) / 2 := by omega
        rw [this]; omega
    · rw [decide_eq_false hlt]
      have : lo = hi := by omega
      subst this
      exact ⟨h0, h3, h4⟩
theorem span_spec {a b : Pt} (ha : good a = true) (hb : good b = true) : IsSpan (dotE a b b) (span a b) := by
  obtain ⟨h1, h2, h3⟩ := dot_eq ha hb hb
  unfold span
  rw [h1]
  exact halve_spec _ 23 0 4000000 (by omega) (by omega) (by decide) (by omega) (.inl rfl)
theorem span_bound {a b : Pt} (ha : good a = true) (hb : good b = true) : 0 ≤ span a b ∧ span a b ≤ 3000000 := by
  have h := span_spec ha hb
  obtain ⟨h1, h2, h3⟩ := dot_eq ha hb hb
  exact ⟨h.1, h.le (by omega) (by omega)⟩
theorem span_pos {a b : Pt} (ha : good a = true) (hb : good b = true) (hab : a ≠ b) : 0 < span a b := by
  have h := span_spec ha hb
  have := sq_pos hab
  have h0 := h.1
  rcases Int.lt_or_le 0 (span a b) with h' | h'
  · exact h'
  · have : span a b = 0 := by omega
    have h1 := h.2.1
    rw [this] at h1
    omega

/-- How far a place is from a line, rounded down. -/
def offs (a b p : Pt) : Int := mm true (cross a b p) (w64 (0 - cross a b p)) / span a b
theorem mm_abs {c : Int} (h : -8000000000000 ≤ c) (k : c ≤ 8000000000000) : 0 ≤ mm true c (w64 (0 - c)) ∧ mm true c (w64 (0 - c)) ≤ 8000000000000 ∧ mm true c (w64 (0 - c)) = (if c < 0 then w64 (0 - c) else c) := by
  rw [w64_of (by omega) (by omega)]
  unfold mm
  simp only
  split <;> split <;> omega
theorem offs_le {a b p : Pt} (ha : good a = true) (hb : good b = true) (hp : good p = true) (hab : a ≠ b) : 0 ≤ offs a b p ∧ offs a b p ≤ 8000000000000 := by
  obtain ⟨h1, h2, h3⟩ := cross_eq ha hb hp
  have hs := span_pos ha hb hab
  obtain ⟨h4, h5, _⟩ := mm_abs (c := cross a b p) (by omega) (by omega)
  unfold offs
  exact ⟨Int.ediv_nonneg h4 (by omega), Int.le_trans (Int.ediv_le_self _ h4) h5⟩
end Go.Ch

/- What came in, read as data, as abstract values. -/
namespace Go.Ax
open Go.RowKit

/-- Cells of type t, k of them, are what 'rep' says of some a that is 'ok'. -/
def Rd (P : Program) (t : TypeId) (k : Nat) {α : Type} (rep : α → List SV) (ok : α → Prop) : Prop :=
  P.cellsOf t = k ∧ ∀ (H : Type) (enc : TypeId × Value → H) (W : World) (base : Nat) (spare : Nat → Bool) (held : Bool) (fuel : Nat) (cs : List Value) (x : DataW H × List MemPlace),
    DataW.trod enc P W base spare held fuel t cs = some x → cs.length = k ∧ ∃ a, ok a ∧ RepL (full W) nb (rep a) cs

theorem rd_int {P : Program} {t : TypeId} {k : IntKind} (ht : P.underlying t = some (.int k)) (hc : P.cellsOf t = 1) :
    Rd P t 1 (fun n : Int => [.d (.val (.int k n))]) (fun n => (Lit.int k n).wf = true) := by
  refine ⟨hc, fun H enc W base spare held fuel cs x h => ?_⟩
  obtain ⟨n, rfl, _, hw⟩ := DataW.trod_int ht h
  exact ⟨rfl, n, hw, rfl, trivial⟩
theorem rd_bool {P : Program} {t : TypeId} (ht : P.underlying t = some .bool) (hc : P.cellsOf t = 1) :
    Rd P t 1 (fun b : Bool => [.d (.val (.bool b))]) (fun _ => True) := by
  refine ⟨hc, fun H enc W base spare held fuel cs x h => ?_⟩
  obtain ⟨n, rfl, _⟩ := DataW.trod_bool ht h
  exact ⟨rfl, n, trivial, rfl, trivial⟩
theorem rd_str {P : Program} {t : TypeId} (ht : P.underlying t = some .string) (hc : P.cellsOf t = 1) :
    Rd P t 1 (fun s : ByteArray => [.d (.val (.string s))]) (fun s => s.size ≤ 9223372036854775807) := by
  refine ⟨hc, fun H enc W base spare held fuel cs x h => ?_⟩
  obtain ⟨n, rfl, _, hs⟩ := DataW.trod_string ht h
  exact ⟨rfl, n, hs, rfl, trivial⟩
theorem Rd.to {P : Program} {t : TypeId} {k : Nat} {α β : Type} {rep : α → List SV} {ok : α → Prop} {rep' : β → List SV} {ok' : β → Prop} (h : Rd P t k rep ok) (g : α → β) (hr : ∀ a, rep' (g a) = rep a) (ho : ∀ a, ok a → ok' (g a)) : Rd P t k rep' ok' := by
  refine ⟨h.1, fun H enc W base spare held fuel cs x e => ?_⟩
  obtain ⟨hl, a, ha, hrep⟩ := h.2 H enc W base spare held fuel cs x e
  exact ⟨hl, g a, ho a ha, by rw [hr]; exact hrep⟩

theorem repL_get {M : Mem} {β : Nm} {el : Nat → DV} : ∀ {cs : List SV} {vs : List Value}, RepL M β cs vs → (∀ j, j < cs.length → cs[j]? = some (.d (el j))) → ∀ j, j < cs.length → ∃ u, vs[j]? = some u ∧ (el j).Rep M u := by
  intro cs vs hr he j hj
  obtain ⟨u, hu, r⟩ := hr.get (he j hj)
  exact ⟨u, hu, r⟩

theorem rd_slice {P : Program} {t e : TypeId} {s : Nat} {α : Type} [Inhabited α] {rep : α → List SV} {ok : α → Prop} (ht : P.underlying t = some (.slice e)) (hc : P.cellsOf t = 1) (h : Rd P e s rep ok) (hs : 0 < s)
    (el : α → Nat → DV) (hl : ∀ a, (rep a).length = s) (hel : ∀ a j, j < s → (rep a)[j]? = some (.d (el a j))) :
    Rd P t 1 (fun l : List α => [.d (.slc l.length s fun i => el (l.getD i default))]) (fun l => l.length ≤ 9223372036854775807 ∧ ∀ a ∈ l, ok a) := by
  refine ⟨hc, fun H enc W base spare held fuel cs x hx => ?_⟩
  rcases Go.Deep.open_slice ht hx with ⟨rfl, _⟩ | ⟨a, len, cap, m, n, D, Pl, rfl, hb, hle, hm, hmm, _, hcell⟩
  · exact ⟨rfl, [], ⟨by simp, by simp⟩, ⟨none, 0, rfl, Nat.le_refl _, .inl rfl⟩, trivial⟩
  · have hlm : len ≤ m := by rw [hmm]; split <;> omega
    have key : ∀ i, i < len → ∃ v : α, ok v ∧ ∀ j, j < s → ∃ u, W.cell? (a.add (i * s + j)) = some u ∧ (el v j).Rep (full W) u := by
      intro i hi
      obtain ⟨cs', h1, h2⟩ := hcell i (by omega)
      obtain ⟨hlen, v, hv, hr⟩ := h.2 H enc W base spare held n cs' _ h2
      refine ⟨v, hv, fun j hj => ?_⟩
      obtain ⟨u, hu, r⟩ := repL_get (el := el v) hr (fun j hj => hel v j (by rw [hl] at hj; exact hj)) j (by rw [hl]; exact hj)
      obtain ⟨_, _, h3⟩ := World.cells?_some h1
      have := h3 j (by rw [h.1]; exact hj)
      rw [hu, Go.Deep.add_add, h.1] at this
      exact ⟨u, this, r⟩
    obtain ⟨F, hF⟩ := Go.Deep.choose_lt key
    refine ⟨rfl, (List.range len).map F, ⟨by have : maxLen = 9223372036854775807 := rfl; simp; omega, ?_⟩, ⟨some a, cap, by simp, by simpa using hle, ?_⟩, trivial⟩
    · intro v hv
      simp only [List.mem_map, List.mem_range] at hv
      obtain ⟨i, hi, rfl⟩ := hv
      exact (hF i hi).1
    · by_cases h0 : len = 0
      · exact .inl (by simp [h0])
      right
      obtain ⟨u0, hu0, _⟩ := (hF 0 (by omega)).2 0 hs
      obtain ⟨b, o, spot⟩ := a
      have hspot : spot = none := by
        have := World.cell?_spot hu0
        simpa [Addr.add] using this
      subst hspot
      refine ⟨b, o, rfl, fun i j hi hj => ?_⟩
      simp only [List.length_map, List.length_range] at hi
      obtain ⟨u, hu, r⟩ := (hF i hi).2 j hj
      refine ⟨u, ?_, ?_⟩
      · rw [cell_add, ← Nat.add_assoc] at hu
        exact hu
      · show (el (((List.range len).map F).getD i default) j).Rep (full W) u
        rw [show ((List.range len).map F).getD i default = F i by simp [hi]]
        exact r

/-- Fields from an offset on. -/
def RdF (P : Program) (fs : List Field) (off k : Nat) {α : Type} (rep : α → List SV) (ok : α → Prop) : Prop :=
  ∀ (H : Type) (enc : TypeId × Value → H) (W : World) (base : Nat) (spare : Nat → Bool) (held : Bool) (n : Nat) (cs : List Value), cs.length = k →
    (∀ f ∈ fs, ∃ x, DataW.trod enc P W base spare held n f.type ((cs.drop f.offset).take (P.cellsOf f.type)) = some x) → ∃ a, ok a ∧ RepL (full W) nb (rep a) (cs.drop off)
theorem rdf_nil {P : Program} {k : Nat} : RdF P [] k k (fun _ : Unit => []) (fun _ => True) := by
  intro H enc W base spare held n cs hk _
  rw [List.drop_eq_nil_of_le (by omega)]
  exact ⟨(), trivial, trivial⟩
theorem rdf_cons {P : Program} {f : Field} {fs : List Field} {off k s : Nat} {α β : Type} {rep : α → List SV} {ok : α → Prop} {rep' : β → List SV} {ok' : β → Prop}
    (ho : f.offset = off) (h : Rd P f.type s rep ok) (r : RdF P fs (off + s) k rep' ok') : RdF P (f :: fs) off k (fun a : α × β => rep a.1 ++ rep' a.2) (fun a => ok a.1 ∧ ok' a.2) := by
  intro H enc W base spare held n cs hk hf
  obtain ⟨x, hx⟩ := hf f (by simp)
  obtain ⟨hlen, a, ha, hr⟩ := h.2 H enc W base spare held n _ x hx
  obtain ⟨b, hb, hr'⟩ := r H enc W base spare held n cs hk (fun g hg => hf g (by simp [hg]))
  refine ⟨(a, b), ⟨ha, hb⟩, ?_⟩
  rw [h.1, ho] at hr
  have := hr.append hr'
  rw [← List.drop_drop, List.take_append_drop] at this
  exact this
theorem rd_struct {P : Program} {t : TypeId} {fs : Array Field} {l : List Field} {k : Nat} {α : Type} {rep : α → List SV} {ok : α → Prop} (ht : P.underlying t = some (.struct fs)) (hl : fs.toList = l) (hc : P.cellsOf t = k) (h : RdF P l 0 k rep ok) :
    Rd P t k rep ok := by
  refine ⟨hc, fun H enc W base spare held fuel cs x hx => ?_⟩
  obtain ⟨xs, n, _, _, hlen, hxl, hf⟩ := DataW.trod_struct ht hx
  obtain ⟨a, ha, hr⟩ := h H enc W base spare held n cs (by rw [hlen, hc]) (fun f hfm => by
    rw [← hl] at hfm
    obtain ⟨i, hi, e⟩ := List.getElem_of_mem hfm
    have h1 : fs[i]? = some f := by
      rw [← Array.getElem?_toList, List.getElem?_eq_getElem hi, e]
    have := hf i f h1
    rw [List.getElem?_eq_getElem (by rw [hxl]; simpa using hi)] at this
    exact ⟨_, this⟩)
  exact ⟨by rw [hlen, hc], a, ha, by simpa using hr⟩

/-- An argument. -/
def RdA (P : Program) (t : TypeId) {α : Type} (rep : α → AV) (ok : α → Prop) : Prop :=
  ∀ (H : Type) (enc : TypeId × Value → H) (W : World) (b0 base : Nat) (spare : Nat → Bool) (held : Bool) (v : Value) (d : DataW H) (ps : List MemPlace),
    Value.okWide P W .any b0 t v → DataW.Trod enc P W base spare held t v d ps → ∃ a, ok a ∧ (rep a).Rep (full W) nb v
theorem rda_agg {P : Program} {t : TypeId} {fs : Array Field} {k : Nat} {α : Type} {rep : α → List SV} {ok : α → Prop} (ht : P.underlying t = some (.struct fs)) (h : Rd P t k rep ok) : RdA P t (fun a => .g (rep a)) ok := by
  intro H enc W b0 base spare held v d ps hv ⟨fuel, hx⟩
  simp only [Value.okWide, ht] at hv
  obtain ⟨cs, rfl, _⟩ := hv
  obtain ⟨_, a, ha, hr⟩ := h.2 H enc W base spare held fuel _ _ hx
  exact ⟨a, ha, cs.toList, by simp, hr⟩
theorem rda_arr {P : Program} {t e : TypeId} {n k : Nat} {α : Type} {rep : α → List SV} {ok : α → Prop} (ht : P.underlying t = some (.array n e)) (h : Rd P t k rep ok) : RdA P t (fun a => .g (rep a)) ok := by
  intro H enc W b0 base spare held v d ps hv ⟨fuel, hx⟩
  simp only [Value.okWide, ht] at hv
  obtain ⟨cs, rfl, _⟩ := hv
  obtain ⟨_, a, ha, hr⟩ := h.2 H enc W base spare held fuel _ _ hx
  exact ⟨a, ha, cs.toList, by simp, hr⟩
def plainD : TypeDesc → Bool
  | .bool => true
  | .int _ => true
  | .string => true
  | .slice _ => true
  | _ => false
theorem rda_one {P : Program} {t : TypeId} {td : TypeDesc} {α : Type} {rep : α → SV} {ok : α → Prop} (ht : P.underlying t = some td) (hp : plainD td = true) (h : Rd P t 1 (fun a => [rep a]) ok) : RdA P t (fun a => .s (rep a)) ok := by
  intro H enc W b0 base spare held v d ps hv ⟨fuel, hx⟩
  obtain ⟨_, a, ha, hr⟩ := h.2 H enc W base spare held fuel _ _ hx
  have hc : v.cells.toList = [v] := by
    cases v <;> first
      | rfl
      | (simp only [Value.okWide, ht] at hv
         cases td <;> simp_all [Cell.okWide, Cell.ok, plainD])
  rw [hc] at hr
  exact ⟨a, ha, hr.1⟩
end Go.Ax

/- What came in: channels, grids. -/
namespace Go.Ch
open Go Go.Ax Go.Proofs Go.Proofs.Tryz
set_option maxRecDepth 100000

abbrev i64ok (n : Int) : Prop := (Lit.int .i64 n).wf = true
theorem rI : Rd Tryz.prog 3 1 (fun n : Int => [.d (dI n)]) i64ok := rd_int Tryz.underlying3 (by kernel_rfl)
theorem rErr : Rd Tryz.prog 27 1 (fun n : Int => [.d (dI n)]) i64ok := rd_int Tryz.underlying27 (by kernel_rfl)
theorem rS : Rd Tryz.prog 9 1 (fun s : ByteArray => [.d (dS s)]) (fun s => s.size ≤ 9223372036854775807) := rd_str Tryz.underlying9 (by kernel_rfl)
def Pt.ok (p : Pt) : Prop := i64ok p.x ∧ i64ok p.y
theorem rPt : Rd Tryz.prog 85 2 (fun p : Pt => [.d (dI p.x), .d (dI p.y)]) Pt.ok :=
  (rd_struct Tryz.underlying85 rfl (by kernel_rfl) (rdf_cons rfl rI (rdf_cons rfl rI rdf_nil))).to (fun a => ⟨a.1, a.2.1⟩) (fun _ => rfl) (fun _ h => ⟨h.1, h.2.1⟩)
def Ap.ok (p : Ap) : Prop := i64ok p.x ∧ i64ok p.y ∧ i64ok p.half ∧ i64ok p.level ∧ i64ok p.run
theorem rPts : Rd Tryz.prog 88 1 (fun l : List Pt => [.d (dPts l)]) (fun l => l.length ≤ 9223372036854775807 ∧ ∀ a ∈ l, a.ok) :=
  rd_slice Tryz.underlying88 (by kernel_rfl) rPt (by decide) ptD (fun _ => rfl) (fun a j hj => by match j, hj with | 0, _ => rfl | 1, _ => rfl)
theorem rInts : Rd Tryz.prog 22 1 (fun l : List Int => [.d (dInts l)]) (fun l => l.length ≤ 9223372036854775807 ∧ ∀ a ∈ l, i64ok a) :=
  rd_slice Tryz.underlying22 (by kernel_rfl) rI (by decide) (fun n _ => dI n) (fun _ => rfl) (fun a j hj => by match j, hj with | 0, _ => rfl)
def Reg.ok (p : Reg) : Prop := p.name.size ≤ 9223372036854775807 ∧ i64ok p.kind ∧ p.corners.length ≤ 9223372036854775807 ∧ ∀ a ∈ p.corners, a.ok
structure Chan.ok (c : Chan) : Prop where
  name : c.name.size ≤ 9223372036854775807
  axis : c.axis.length ≤ 9223372036854775807
  aps : ∀ a ∈ c.axis, a.ok
  over : i64ok c.over
  buffer : i64ok c.buffer
  regions : c.regions.length ≤ 9223372036854775807
  regs : ∀ a ∈ c.regions, a.ok
structure Grid.ok (g : Grid) : Prop where
  x : i64ok g.x
  y : i64ok g.y
  side : i64ok g.side
  cols : i64ok g.cols
  rows : i64ok g.rows
  levels : g.levels.length ≤ 9223372036854775807
  lev : ∀ a ∈ g.levels, i64ok a
theorem rGrid : RdA Tryz.prog 24 grid Grid.ok :=
  rda_agg (k := 6) Tryz.underlying24 ((rd_struct Tryz.underlying24 rfl (by kernel_rfl) (rdf_cons rfl rI (rdf_cons rfl rI (rdf_cons rfl rI (rdf_cons rfl rI (rdf_cons rfl rI (rdf_cons rfl rInts rdf_nil))))))).to (fun a => ⟨a.1, a.2.1, a.2.2.1, a.2.2.2.1, a.2.2.2.2.1, a.2.2.2.2.2.1⟩) (fun _ => rfl)
    (fun _ h => ⟨h.1, h.2.1, h.2.2.1, h.2.2.2.1, h.2.2.2.2.1, h.2.2.2.2.2.1.1, h.2.2.2.2.2.1.2⟩))
end Go.Ch

namespace Go.Ch
open Go Go.Ax Go.Proofs Go.Proofs.Tryz
set_option maxRecDepth 100000
set_option pp.maxSteps 400
set_option maxHeartbeats 1000000

structure Prt where
  offset : Int
  half : Int
  bottom : Int
  run : Int
  deriving DecidableEq, Inhabited
def prtD (p : Prt) : Nat → DV
  | 0 => dI p.offset
  | 1 => dI p.half
  | 2 => dI p.bottom
  | 3 => dI p.run
  | _ => .junk
def prtEl (l : List Prt) : Nat → Nat → DV := fun i => prtD (l.getD i default)
def dPrts (l : List Prt) : DV := .slc l.length 4 (prtEl l)
abbrev prtS (p : Prt) : List SV := [.d (dI p.offset), .d (dI p.half), .d (dI p.bottom), .d (dI p.run)]
def oPrt (o : Option Prt) : Prt := o.getD ⟨0, 0, 0, 0⟩
abbrev rPrt (o : Option Prt) : AV := .t [.g (prtS (oPrt o)), .s (.d (.val (.bool o.isSome)))]

/-- A channel that Check accepts, as far as places are asked. -/
structure Val (c : Chan) : Prop where
  n2 : 2 ≤ c.axis.length
  n20 : c.axis.length ≤ 20
  pts : ∀ i, i < c.axis.length → good (c.axis.getD i default).pt = true
  half : ∀ i, i < c.axis.length → 1 ≤ (c.axis.getD i default).half ∧ (c.axis.getD i default).half ≤ 100000
  level : ∀ i, i < c.axis.length → c.over - 20000 ≤ (c.axis.getD i default).level ∧ (c.axis.getD i default).level ≤ 20000
  run : ∀ i, i < c.axis.length → 0 ≤ (c.axis.getD i default).run ∧ (c.axis.getD i default).run ≤ 1000
  apart : ∀ i, i + 1 < c.axis.length → (c.axis.getD i default).pt ≠ (c.axis.getD (i + 1) default).pt
  over : 0 ≤ c.over ∧ c.over ≤ 1000
  buffer : 0 ≤ c.buffer ∧ c.buffer ≤ 100000

theorem div_of {a b q r : Int} (hb : 0 < b) (h : a = q * b + r) (h0 : 0 ≤ r) (h1 : r < b) : a / b = q := by
  rw [h, Int.add_comm, Int.add_mul_ediv_right _ _ (by omega), Int.ediv_eq_zero_of_lt h0 h1, Int.zero_add]
theorem tdm (a b : Int) : a = a.tdiv b * b + a.tmod b := by
  have := Int.tmod_add_mul_tdiv a b
  rw [Int.mul_comm] at this; omega
theorem tmod_lt {a b : Int} (hb : 0 < b) : -b < a.tmod b ∧ a.tmod b < b := by
  rcases Int.le_total 0 a with h | h
  · rw [Int.tmod_eq_emod_of_nonneg h]
    have := Int.emod_nonneg a (show b ≠ 0 by omega)
    have := Int.emod_lt_of_pos a hb
    omega
  · obtain ⟨n, rfl⟩ : ∃ n : Int, a = -n := ⟨-a, by omega⟩
    rw [Int.neg_tmod, Int.tmod_eq_emod_of_nonneg (by omega)]
    have := Int.emod_nonneg n (show b ≠ 0 by omega)
    have := Int.emod_lt_of_pos n hb
    omega
theorem down_eq {a b : Int} (hb : 0 < b) (h : -9000000000000000000 ≤ a) (k : a ≤ 9000000000000000000) :
    (if a.tmod b < 0 then w64 (w64 (a.tdiv b) - 1) else w64 (a.tdiv b)) = a / b := by
  have h1 := tdm a b
  have h2 := tmod_lt (a := a) hb
  have hq : -9000000000000000000 ≤ a.tdiv b ∧ a.tdiv b ≤ 9000000000000000000 := by
    rcases Int.le_total 0 a with h0 | h0
    · rw [Int.tdiv_eq_ediv_of_nonneg h0]
      have := Int.ediv_le_self b h0
      have := Int.ediv_nonneg h0 (show 0 ≤ b by omega)
      omega
    · obtain ⟨n, rfl⟩ : ∃ n : Int, a = -n := ⟨-a, by omega⟩
      rw [Int.neg_tdiv, Int.tdiv_eq_ediv_of_nonneg (by omega)]
      have := Int.ediv_le_self (a := n) b (by omega)
      have := Int.ediv_nonneg (a := n) (by omega) (show 0 ≤ b by omega)
      omega
  split
  · rw [w64_of (n := a.tdiv b) (by omega) (by omega), w64_of (by omega) (by omega)]
    exact (div_of (r := a.tmod b + b) hb (by rw [Int.sub_mul]; omega) (by omega) (by omega)).symm
  · rw [w64_of (by omega) (by omega)]
    exact (div_of hb h1 (by omega) (by omega)).symm
theorem Floor_eq {a b : Int} (hb : 0 < b) (hb2 : b ≤ 100000000000000000) (h : -9000000000000000000 ≤ a) (k : a ≤ 9000000000000000000) :
    w64 (Int.tdiv (w64 (a - (if a.tmod b < 0 then w64 (a.tmod b + b) else a.tmod b))) b) = a / b := by
  have h1 := tdm a b
  have h2 := tmod_lt (a := a) hb
  have hm := Int.emod_nonneg a (show b ≠ 0 by omega)
  have hl := Int.emod_lt_of_pos a hb
  have hd := Int.mul_ediv_add_emod a b
  have e : (if a.tmod b < 0 then w64 (a.tmod b + b) else a.tmod b) = a % b := by
    split
    · rw [w64_of (by omega) (by omega)]
      have hx := div_of (a := a) (r := a.tmod b + b) (q := a.tdiv b - 1) hb (by rw [Int.sub_mul]; omega) (by omega) (by omega)
      rw [hx] at hd
      rw [Int.mul_sub, Int.mul_comm b] at hd
      omega
    · have hx := div_of (a := a) (r := a.tmod b) (q := a.tdiv b) hb (by omega) (by omega) (by omega)
      rw [hx] at hd
      rw [Int.mul_comm b] at hd
      omega
  rw [e, w64_of (n := a - a % b) (by omega) (by omega)]
  have e2 : a - a % b = a / b * b := by rw [Int.mul_comm]; omega
  rw [e2, Int.mul_tdiv_cancel _ (by omega)]
  have hq : -9000000000000000000 ≤ a / b ∧ a / b ≤ 9000000000000000000 := by
    constructor
    · rcases Int.le_total 0 a with h0 | h0
      · have := Int.ediv_nonneg h0 (show 0 ≤ b by omega); omega
      · have : a ≤ a / b := by
          have h3 : a / b * b ≤ a := by omega
          rcases Int.le_total 0 (a / b) with h4 | h4
          · omega
          · have h5 : a / b * b ≤ a / b := by
              have : 0 ≤ (-(a / b)) * (b - 1) := Int.mul_nonneg (by omega) (by omega)
              rw [Int.mul_sub, Int.neg_mul, Int.mul_one] at this
              omega
            rcases Int.lt_or_le (a / b) a with h6 | h6
            · exfalso
              have h7 : a < (a / b + 1) * b := by rw [Int.add_mul]; omega
              have h8 : (a / b + 1) * b ≤ a / b + 1 := by
                have : 0 ≤ (-(a / b + 1)) * (b - 1) := Int.mul_nonneg (by omega) (by omega)
                rw [Int.mul_sub, Int.neg_mul, Int.mul_one] at this
                omega
              omega
            · exact h6
        omega
    · rcases Int.le_total 0 a with h0 | h0
      · have := Int.ediv_le_self b h0; omega
      · have : a / b ≤ 0 := by
          rcases Int.lt_or_le 0 (a / b) with h6 | h6
          · have : b ≤ a / b * b := by
              have : 0 ≤ (a / b - 1) * b := Int.mul_nonneg (by omega) (by omega)
              rw [Int.sub_mul] at this; omega
            omega
          · exact h6
        omega
  exact w64_of (by omega) (by omega)

/-- A value between those of the two ends of a leg. -/
def mixE (u v s d : Int) : Int := (u * (s - d) + v * d) / s
theorem mix_in {u v s d U : Int} (hs : 0 < s) (hs2 : s ≤ 8000000000000) (hd : 0 ≤ d) (hd2 : d ≤ s) (hU : 0 ≤ U) (hU2 : U ≤ 100000) (hu : -U ≤ u) (hu2 : u ≤ U) (hv : -U ≤ v) (hv2 : v ≤ U) :
    w64 (w64 (u * w64 (s - d)) + w64 (v * d)) = u * (s - d) + v * d ∧ -800000000000000000 ≤ u * (s - d) + v * d ∧ u * (s - d) + v * d ≤ 800000000000000000 := by
  have hsd : w64 (s - d) = s - d := w64_of (by omega) (by omega)
  rw [hsd]
  have h1 := mul_le_of (a := u) (b := s - d) (A := 100000) (B := s - d) (by omega) (by omega) (by omega) (by omega)
  have h2 := mul_le_of (a := v) (b := d) (A := 100000) (B := d) (by omega) (by omega) (by omega) (by omega)
  rw [w64_of (n := u * (s - d)) (by omega) (by omega), w64_of (n := v * d) (by omega) (by omega), w64_of (by omega) (by omega)]
  exact ⟨rfl, by omega, by omega⟩

def legP (a b : Ap) (p : Pt) : Option Prt :=
  bif decide (dotE a.pt b.pt p < 0) || decide (dotE a.pt b.pt p > dotE a.pt b.pt b.pt) then none
  else some ⟨offs a.pt b.pt p, mixE a.half b.half (dotE a.pt b.pt b.pt) (dotE a.pt b.pt p), mixE a.level b.level (dotE a.pt b.pt b.pt) (dotE a.pt b.pt p), a.run⟩
def legF (c : Chan) (k : Nat) (p : Pt) : Option Prt := legP (c.axis.getD k default) (c.axis.getD (k + 1) default) p
def bendF (c : Chan) (k : Nat) (p : Pt) : Option Prt :=
  bif decide (dotE (c.axis.getD (k - 1) default).pt (c.axis.getD k default).pt p ≤ dotE (c.axis.getD (k - 1) default).pt (c.axis.getD k default).pt (c.axis.getD k default).pt) || decide (dotE (c.axis.getD k default).pt (c.axis.getD (k + 1) default).pt p ≥ 0) then none
  else some ⟨span (c.axis.getD k default).pt p, (c.axis.getD k default).half, (c.axis.getD k default).level, (c.axis.getD k default).run⟩

theorem rPrt_of {a b c d : Int} {l : Bool} {o : Option Prt} (h : ⟨a, b, c, d⟩ = oPrt o) (k : l = o.isSome) : SubR (.t [.g [.d (dI a), .d (dI b), .d (dI c), .d (dI d)], .s (.d (.lit l))]) (rPrt o) := by
  subst k
  unfold rPrt
  rw [← h]
  exact SubR.t ⟨⟨LeD.refl _, LeD.refl _, LeD.refl _, LeD.refl _, trivial⟩, fun _ _ r => r, trivial⟩

theorem down_mix {u v s d U : Int} (hs : 0 < s) (hs2 : s ≤ 8000000000000) (hd : 0 ≤ d) (hd2 : d ≤ s) (hU : 0 ≤ U) (hU2 : U ≤ 100000) (hu : -U ≤ u) (hu2 : u ≤ U) (hv : -U ≤ v) (hv2 : v ≤ U) :
    (if (w64 (w64 (u * w64 (s - d)) + w64 (v * d))).tmod s < 0 then w64 (w64 ((w64 (w64 (u * w64 (s - d)) + w64 (v * d))).tdiv s) - 1) else w64 ((w64 (w64 (u * w64 (s - d)) + w64 (v * d))).tdiv s)) = mixE u v s d := by
  obtain ⟨h1, h2, h3⟩ := mix_in hs hs2 hd hd2 hU hU2 hu hu2 hv hv2
  rw [h1]
  exact down_eq hs (by omega) (by omega)
theorem floor_mix {u v s d U : Int} (hs : 0 < s) (hs2 : s ≤ 8000000000000) (hd : 0 ≤ d) (hd2 : d ≤ s) (hU : 0 ≤ U) (hU2 : U ≤ 100000) (hu : -U ≤ u) (hu2 : u ≤ U) (hv : -U ≤ v) (hv2 : v ≤ U) :
    w64 (Int.tdiv (w64 (w64 (w64 (u * w64 (s - d)) + w64 (v * d)) - (if (w64 (w64 (u * w64 (s - d)) + w64 (v * d))).tmod s < 0 then w64 ((w64 (w64 (u * w64 (s - d)) + w64 (v * d))).tmod s + s) else (w64 (w64 (u * w64 (s - d)) + w64 (v * d))).tmod s))) s) = mixE u v s d := by
  obtain ⟨h1, h2, h3⟩ := mix_in hs hs2 hd hd2 hU hU2 hu hu2 hv hv2
  rw [h1]
  exact Floor_eq hs (by omega) (by omega) (by omega)
theorem prt_ext {a b c d a' b' c' d' : Int} (h1 : a = a') (h2 : b = b') (h3 : c = c') (h4 : d = d') : Prt.mk a b c d = Prt.mk a' b' c' d' := by subst h1; subst h2; subst h3; subst h4; rfl
abbrev up (k : Nat) : Nat := (w64 ((k : Int) + 1)).toNat
theorem up_eq {k : Nat} (h : k ≤ 1000000) : up k = k + 1 := by
  unfold up
  rw [w64_of (by omega) (by omega)]; omega
theorem rPrt_le {s0 s1 s2 s3 t : SV} {o : Option Prt} {p : Prt} {l : Bool} (ho : oPrt o = p) (hl : o.isSome = l) (h0 : LeS s0 (.d (dI p.offset))) (h1 : LeS s1 (.d (dI p.half))) (h2 : LeS s2 (.d (dI p.bottom))) (h3 : LeS s3 (.d (dI p.run))) (h4 : LeS t (.d (.val (.bool l)))) :
    SubR (.t [.g [s0, s1, s2, s3], .s t]) (rPrt o) := by
  subst ho; subst hl
  exact SubR.t ⟨⟨h0, h1, h2, h3, trivial⟩, h4, trivial⟩
abbrev axis (c : Chan) (k : Nat) : Ap := c.axis.getD k default
def partE (a b : Ap) (p : Pt) : Prt := ⟨offs a.pt b.pt p, mixE a.half b.half (dotE a.pt b.pt b.pt) (dotE a.pt b.pt p), mixE a.level b.level (dotE a.pt b.pt b.pt) (dotE a.pt b.pt p), a.run⟩
end Go.Ch

namespace Go.Ch
open Go Go.Ax Go.Proofs Go.Proofs.Tryz
set_option maxRecDepth 100000
set_option pp.maxSteps 400
set_option maxHeartbeats 1000000

/-- The bend at axis point j + 1. -/
def bendP (a q b : Ap) (p : Pt) : Option Prt :=
  bif decide (dotE a.pt q.pt p ≤ dotE a.pt q.pt q.pt) || decide (dotE q.pt b.pt p ≥ 0) then none else some ⟨span q.pt p, q.half, q.level, q.run⟩
def bendN (c : Chan) (j : Nat) (p : Pt) : Option Prt := bendP (axis c j) (axis c (j + 1)) (axis c (j + 2)) p

def legsL (c : Chan) (p : Pt) (i : Nat) : List Prt := (List.range i).filterMap fun k => legF c k p
def bendsL (c : Chan) (p : Pt) (i : Nat) : List Prt := (List.range i).filterMap fun j => bendN c j p
def partsL (c : Chan) (p : Pt) : List Prt := legsL c p (c.axis.length - 1) ++ bendsL c p (c.axis.length - 2)
abbrev chanB (c : Chan) : Box := .cells [.d (dS c.name), .d (dAps c.axis), .d (dI c.over), .d (dI c.buffer), .d (dRegs c.regions)]
abbrev ptB (p : Pt) : Box := .cells [.d (dI p.x), .d (dI p.y)]
end Go.Ch

namespace Go.Ch
open Go Go.Ax Go.Proofs Go.Proofs.Tryz
set_option maxRecDepth 100000
set_option pp.maxSteps 400
set_option maxHeartbeats 1000000

def bendR (c : Chan) (k : Nat) (p : Pt) : Option Prt := match k with
  | 0 => none
  | j + 1 => bendN c j p
def holdsL (c : Chan) (p : Pt) (i : Nat) : List Prt := (List.range i).flatMap fun k => (legF c k p).toList ++ (bendR c k p).toList
theorem holdsL_succ (c : Chan) (p : Pt) (i : Nat) : holdsL c p (i + 1) = holdsL c p i ++ ((legF c i p).toList ++ (bendR c i p).toList) := by
  unfold holdsL
  rw [List.range_succ, List.flatMap_append]
  simp
theorem toList_some {o : Option Prt} (h : o.isSome = true) : o.toList = [oPrt o] := by
  cases o with
  | none => cases h
  | some x => rfl
theorem toList_none {o : Option Prt} (h : o.isSome = false) : o.toList = [] := by
  cases o with
  | none => rfl
  | some x => cases h
theorem holdsL_len (c : Chan) (p : Pt) : ∀ i, (holdsL c p i).length ≤ 2 * i
  | 0 => Nat.zero_le _
  | i + 1 => by
    rw [holdsL_succ, List.length_append, List.length_append]
    have := holdsL_len c p i
    have h1 : (legF c i p).toList.length ≤ 1 := by cases legF c i p <;> simp
    have h2 : (bendR c i p).toList.length ≤ 1 := by cases bendR c i p <;> simp
    omega
theorem parts_holds (c : Chan) (p : Pt) (h2 : 2 ≤ c.axis.length) : ∀ x, x ∈ partsL c p ↔ x ∈ holdsL c p (c.axis.length - 1) := by
  intro x
  unfold partsL legsL bendsL holdsL
  simp only [List.mem_append, List.mem_filterMap, List.mem_range, List.mem_flatMap, Option.mem_toList]
  constructor
  · rintro (⟨k, hk, h⟩ | ⟨j, hj, h⟩)
    · exact ⟨k, hk, .inl h⟩
    · exact ⟨j + 1, by omega, .inr h⟩
  · rintro ⟨k, hk, h | h⟩
    · exact .inl ⟨k, hk, h⟩
    · cases k with
      | zero => cases h
      | succ j => exact .inr ⟨j, by omega, h⟩
end Go.Ch

namespace Go.Ch
open Go Go.Ax Go.Proofs Go.Proofs.Tryz
set_option maxRecDepth 100000
set_option pp.maxSteps 400
set_option maxHeartbeats 1000000

abbrev pAt (l : List Pt) (i : Nat) : Pt := l.getD i default
abbrev cor (l : List Pt) (i : Nat) : Pt := l.getD (i % l.length) default
def samePt (a b : Pt) : Bool := a.x == b.x && (a.y == b.y && true)
theorem samePt_iff {a b : Pt} : samePt a b = true ↔ a = b := by
  cases a; cases b; simp [samePt]
def anyB (n : Nat) (p : Nat → Bool) : Bool := (List.range n).any p
theorem anyB_true {n : Nat} {p : Nat → Bool} {i : Nat} (h : i < n) (hp : p i = true) : anyB n p = true := by
  unfold anyB; rw [List.any_eq_true]; exact ⟨i, List.mem_range.2 h, hp⟩
theorem anyB_false {n : Nat} {p : Nat → Bool} (h : ∀ i, i < n → p i = false) : anyB n p = false := by
  unfold anyB; rw [List.any_eq_false]; intro i hi; rw [h i (List.mem_range.1 hi)]; simp
theorem anyB_ex {n : Nat} {p : Nat → Bool} (h : anyB n p = true) : ∃ i, i < n ∧ p i = true := by
  unfold anyB at h; rw [List.any_eq_true] at h
  obtain ⟨i, hi, hp⟩ := h
  exact ⟨i, List.mem_range.1 hi, hp⟩
def edgeBad (l : List Pt) (i : Nat) : Bool := between (pAt l i) (cor l (i + 1)) (cor l (i + 2)) || between (cor l (i + 1)) (cor l (i + 2)) (pAt l i)
def meetAt (l : List Pt) (i k : Nat) : Bool := ((((k + 1) % l.length : Nat) : Int) != (i : Int)) && meet (pAt l i) (cor l (i + 1)) (pAt l k) (cor l (k + 1))
def meetBad (l : List Pt) (i k : Nat) : Bool := decide (i + 2 ≤ k) && meetAt l i k
def badI (l : List Pt) (i : Nat) : Bool := edgeBad l i || anyB l.length (meetBad l i)
def badG (l : List Pt) (i : Nat) : Bool := samePt (pAt l i) (cor l (i + 1)) || badI l i
def pairBad (l : List Pt) (i : Nat) : Bool := anyB i fun k => samePt (pAt l i) (pAt l k)
def formBad (l : List Pt) : Bool := anyB l.length (badG l)
def formBadR (l : List Pt) : Bool := anyB l.length (pairBad l) || anyB l.length (badI l)

theorem between_self (a b : Pt) : between a b a = true := by
  unfold between cross
  have e : w64 (w64 (w64 (b.x - a.x) * w64 (a.y - a.y)) - w64 (w64 (b.y - a.y) * w64 (a.x - a.x))) = 0 := by
    rw [Int.sub_self, Int.sub_self, show w64 0 = 0 from rfl, Int.mul_zero, Int.mul_zero]; rfl
  rw [e]
  simp [within, mm]
  constructor
  · constructor <;> split <;> omega
  · constructor <;> split <;> omega
theorem formBad_eq (l : List Pt) (h3 : 3 ≤ l.length) : formBadR l = formBad l := by
  rw [Bool.eq_iff_iff]
  unfold formBad formBadR
  rw [Bool.or_eq_true]
  constructor
  · rintro (h | h)
    · obtain ⟨i, hi, h⟩ := anyB_ex h
      obtain ⟨k, hk, h⟩ := anyB_ex h
      have e := samePt_iff.1 h
      by_cases h1 : i = k + 1
      · refine anyB_true (i := k) (by omega) ?_
        unfold badG
        have : samePt (pAt l k) (cor l (k + 1)) = true := by
          rw [samePt_iff]
          unfold cor
          rw [Nat.mod_eq_of_lt (by omega), ← h1]; exact e.symm
        rw [this]; rfl
      · by_cases h2 : (i + 1) % l.length = k
        · refine anyB_true (i := i) hi ?_
          unfold badG
          have : samePt (pAt l i) (cor l (i + 1)) = true := by
            rw [samePt_iff]
            unfold cor
            rw [h2]; exact e
          rw [this]; rfl
        · refine anyB_true (i := k) (by omega) ?_
          unfold badG badI
          have : anyB l.length (meetBad l k) = true := by
            refine anyB_true (i := i) hi ?_
            unfold meetBad meetAt
            rw [decide_eq_true (by omega), Bool.true_and, Bool.and_eq_true]
            refine ⟨by rw [bne_iff_ne]; intro h; exact h2 (by exact_mod_cast h), ?_⟩
            unfold meet
            rw [e, between_self]; rfl
          rw [this]; simp
    · obtain ⟨i, hi, h⟩ := anyB_ex h
      refine anyB_true hi ?_
      unfold badG; rw [h]; simp
  · intro h
    obtain ⟨i, hi, h⟩ := anyB_ex h
    unfold badG at h
    rw [Bool.or_eq_true] at h
    rcases h with h | h
    · left
      have e := samePt_iff.1 h
      unfold cor at e
      have hm := Nat.mod_lt (i + 1) (show 0 < l.length by omega)
      have hne : (i + 1) % l.length ≠ i := by
        intro h'
        by_cases hc : i + 1 < l.length
        · rw [Nat.mod_eq_of_lt hc] at h'; omega
        · have : i + 1 = l.length := by omega
          rw [this, Nat.mod_self] at h'; omega
      rcases Nat.lt_or_gt_of_ne hne with h1 | h1
      · refine anyB_true hi (anyB_true h1 ?_)
        rw [samePt_iff]; exact e
      · refine anyB_true hm (anyB_true h1 ?_)
        rw [samePt_iff]; exact e.symm
    · exact .inr (anyB_true hi h)

theorem simple (l : List Pt) (h3 : 3 ≤ l.length) (h40 : l.length ≤ 40) : CallP Tryz.prog 180 [pts l] (vB (!formBad l)) := by
  have hne : l ≠ [] := by intro h; subst h; simp at h3
  refine callP_of_ex (rc := []) (N := 69) Tryz.func180 rfl rfl Tryz.call180 tab_ok mix rfl rfl (fun cx href => ?_)
  refine AW.loopI (fun i : Nat => ⟨[(0, pts l), (3, vI l.length), (11, vI l.length), (12, vI i)], []⟩) (fun i => i ≤ l.length ∧ ∀ j, j < i → badG l j = false) (fun i => l.length - i) 0 ⟨Nat.zero_le _, fun j hj => absurd hj (Nat.not_lt_zero j)⟩ ?_ ?_
  · exact SubI.of0 href [] rfl trivial ⟨⟨rfl, LeQ.rfl⟩, ⟨rfl, LeQ.rfl⟩, ⟨rfl, LeQ.rfl⟩, ⟨rfl, LeQ.rfl⟩, trivial⟩
  · rintro i ⟨hi, hj⟩
    refine ex.sound (rc := []) tab_ok mix href _ ?_
    refine And.intro (fun h => ?_) (fun h => ?_)
    · have h : (i : Int) < l.length := decT h
      have e1 : w64 ((i : Int) + 1) = ((i + 1 : Nat) : Int) := w64_of (by omega) (by omega)
      have e2 : w64 ((i : Int) + 2) = ((i + 2 : Nat) : Int) := w64_of (by omega) (by omega)
      have c1 : CallP Tryz.prog 203 [pts l, vI (w64 ((i : Int) + 1))] (pt (cor l (i + 1))) := by rw [e1]; exact gcorner l (i + 1) hne
      have c2 : CallP Tryz.prog 203 [pts l, vI (w64 ((i : Int) + 2))] (pt (cor l (i + 2))) := by rw [e2]; exact gcorner l (i + 2) hne
      refine oi ⟨by omega, by omega⟩ ?_
      refine callN c1 ?_
      refine callN c2 ?_
      refine And.intro (by kernel_rfl) ?_
      repeat first | refine sk ?_ | refine st ?_ | refine sg ?_ | refine sh ?_ | refine su ?_ | refine sn1 ?_ | refine sn0 ?_
      refine callG (on (pAt l i) (cor l (i + 1)) (cor l (i + 2))) ?_
      repeat first | refine sk ?_ | refine st ?_ | refine sg ?_ | refine sh ?_ | refine su ?_ | refine sn1 ?_ | refine sn0 ?_
      refine callG (on (cor l (i + 1)) (cor l (i + 2)) (pAt l i)) ?_
      repeat first | refine sk ?_ | refine st ?_ | refine sg ?_ | refine sh ?_ | refine su ?_ | refine sn1 ?_ | refine sn0 ?_
      refine And.intro (fun h' => ?_) (fun h' => ?_)
      · have h' : (samePt (pAt l i) (cor l (i + 1)) || between (pAt l i) (cor l (i + 1)) (cor l (i + 2)) || between (cor l (i + 1)) (cor l (i + 2)) (pAt l i)) = true := h'
        refine SubR.lit ?_
        have : formBad l = true := anyB_true (i := i) (by omega) (by unfold badG badI edgeBad; rw [Bool.or_assoc] at h'; rw [← Bool.or_assoc, h']; rfl)
        rw [this]; rfl
      · have h' : (samePt (pAt l i) (cor l (i + 1)) || between (pAt l i) (cor l (i + 1)) (cor l (i + 2)) || between (cor l (i + 1)) (cor l (i + 2)) (pAt l i)) = false := h'
        refine AW.loopI (fun k : Nat => ⟨[(0, pts l), (3, vI l.length), (11, vI l.length), (12, vI i), (4, vI i), (5, .s (.ptr 5 0)), (6, .s (.ptr 6 0)), (8, vI k)], [(5, some (ptB (pAt l i))), (6, some (ptB (cor l (i + 1))))]⟩) (fun k => i + 2 ≤ k ∧ k ≤ l.length + 2 ∧ ∀ m, m < k → meetBad l i m = false) (fun k => l.length + 2 - k) (i + 2) ⟨by omega, by omega, fun m hm => by unfold meetBad; rw [decide_eq_false (by omega)]; rfl⟩ ?_ ?_
        · exact SubI.of0 href [] rfl ⟨⟨rfl, LeBx.rfl⟩, ⟨rfl, LeBx.rfl⟩, trivial⟩ ⟨⟨rfl, LeQ.rfl⟩, ⟨rfl, LeQ.rfl⟩, ⟨rfl, LeQ.rfl⟩, ⟨rfl, LeQ.rfl⟩, ⟨rfl, LeQ.rfl⟩, ⟨rfl, LeQ.rfl⟩, ⟨rfl, LeQ.rfl⟩, ⟨rfl, LeQ.int e2⟩, trivial⟩
        · rintro k ⟨hk1, hk2, hm⟩
          refine ex.sound (rc := []) tab_ok mix href _ ?_
          refine And.intro (fun h'' => ?_) (fun h'' => ?_)
          · have h'' : (k : Int) < l.length := decT h''
            have e3 : w64 ((k : Int) + 1) = ((k + 1 : Nat) : Int) := w64_of (by omega) (by omega)
            have e4 : (w64 ((k : Int) + 1)).tmod l.length = (((k + 1) % l.length : Nat) : Int) := by
              rw [e3, Int.tmod_eq_emod_of_nonneg (by omega)]; rfl
            have c3 : CallP Tryz.prog 203 [pts l, vI (w64 ((k : Int) + 1))] (pt (cor l (k + 1))) := by rw [e3]; exact gcorner l (k + 1) hne
            refine oi (by omega) ?_
            repeat first | refine sk ?_ | refine st ?_ | refine sg ?_ | refine sh ?_ | refine su ?_ | refine sn1 ?_ | refine sn0 ?_
            refine og (fun _ => ⟨by omega, by omega⟩) ?_
            repeat first | refine sk ?_ | refine st ?_ | refine sg ?_ | refine sh ?_ | refine su ?_ | refine sn1 ?_ | refine sn0 ?_
            refine callG c3 ?_
            repeat first | refine sk ?_ | refine st ?_ | refine sg ?_ | refine sh ?_ | refine su ?_ | refine sn1 ?_ | refine sn0 ?_
            refine callG (gmeet (pAt l i) (cor l (i + 1)) (pAt l k) (cor l (k + 1))) ?_
            repeat first | refine sk ?_ | refine st ?_ | refine sg ?_ | refine sh ?_ | refine su ?_ | refine sn1 ?_ | refine sn0 ?_
            refine And.intro (by kernel_rfl) ?_
            have key : (((w64 ((k : Int) + 1)).tmod l.length != (i : Int)) && meet (pAt l i) (cor l (i + 1)) (pAt l k) (cor l (k + 1))) = meetBad l i k := by
              unfold meetBad meetAt
              rw [decide_eq_true hk1, e4]; rfl
            refine And.intro (fun h3' => ?_) (fun h3' => ?_)
            · have h3' : meetBad l i k = true := key.symm.trans h3'
              refine SubR.lit ?_
              have : formBad l = true := anyB_true (i := i) (by omega) (by unfold badG badI; rw [anyB_true (i := k) (by omega) h3']; simp)
              rw [this]; rfl
            · have h3' : meetBad l i k = false := key.symm.trans h3'
              refine ⟨k + 1, ⟨by omega, by omega, fun m hm' => ?_⟩, by omega, ?_⟩
              · by_cases hmk : m = k
                · rw [hmk]; exact h3'
                · exact hm m (by omega)
              · exact SubI.of0 href [] rfl ⟨⟨rfl, LeBx.rfl⟩, ⟨rfl, LeBx.rfl⟩, trivial⟩ ⟨⟨rfl, LeQ.rfl⟩, ⟨rfl, LeQ.rfl⟩, ⟨rfl, LeQ.rfl⟩, ⟨rfl, LeQ.rfl⟩, ⟨rfl, LeQ.rfl⟩, ⟨rfl, LeQ.rfl⟩, ⟨rfl, LeQ.rfl⟩, ⟨rfl, LeQ.int e3⟩, trivial⟩
          · have h'' : ¬ (k : Int) < l.length := decF h''
            refine ⟨i + 1, ⟨by omega, fun j hj' => ?_⟩, by omega, ?_⟩
            · by_cases hji : j = i
              · subst hji
                have hb : anyB l.length (meetBad l j) = false := anyB_false fun m hm' => hm m (by omega)
                unfold badG badI edgeBad
                rw [hb]
                simp only [Bool.or_eq_false_iff] at h' ⊢
                exact ⟨h'.1.1, ⟨h'.1.2, h'.2⟩, trivial⟩
              · exact hj j (by omega)
            · exact SubI.of0 href [] rfl trivial ⟨⟨rfl, LeQ.rfl⟩, ⟨rfl, LeQ.rfl⟩, ⟨rfl, LeQ.rfl⟩, ⟨rfl, LeQ.int e1⟩, trivial⟩
    · have h : ¬ (i : Int) < l.length := decF h
      refine SubR.lit ?_
      have : formBad l = false := anyB_false fun j hj' => hj j (by omega)
      rw [this]; rfl
def errPoly (l : List Pt) : Int :=
  bif decide ((l.length : Int) < 3) then 10 else bif decide ((l.length : Int) > 40) then 8 else bif l.any (fun p => !good p) then 2 else bif formBad l then 3 else 0
theorem shape1 (l : List Pt) : CallP Tryz.prog 175 [pts l] (vB (decide ((l.length : Int) < 3))) := by
  refine callP_of_ex (rc := []) (N := 6) Tryz.func175 rfl rfl Tryz.call175 tab_ok mix rfl rfl (fun cx href => ?_)
  exact SubR.refl _
theorem shape2 (l : List Pt) : CallP Tryz.prog 176 [pts l] (vB (decide ((l.length : Int) > 40))) := by
  refine callP_of_ex (rc := []) (N := 6) Tryz.func176 rfl rfl Tryz.call176 tab_ok mix rfl rfl (fun cx href => ?_)
  exact SubR.refl _
theorem shape3 (l : List Pt) (hl : l.length ≤ 9223372036854775807) : CallP Tryz.prog 177 [pts l] (vB (l.any fun p => !good p)) := by
  refine callP_of_ex (rc := []) (N := 5) Tryz.func177 rfl rfl Tryz.call177 tab_ok mix rfl rfl (fun cx href => ?_)
  exact callN (goutside l hl) (SubR.refl _)
theorem shape4 (l : List Pt) (h3 : 3 ≤ l.length) (h40 : l.length ≤ 40) : CallP Tryz.prog 179 [pts l] (vB (formBad l)) := by
  refine callP_of_ex (rc := []) (N := 6) Tryz.func179 rfl rfl Tryz.call179 tab_ok mix rfl rfl (fun cx href => ?_)
  exact callN (simple l h3 h40) (SubR.of_eq (by show vB (!(!_)) = _; simp))
abbrev shapeC : List SV := [.d (dI 10), .d (.clo 175 0 fun _ => .junk), .d (dI 8), .d (.clo 176 0 fun _ => .junk), .d (dI 2), .d (.clo 177 0 fun _ => .junk), .d (dI 3), .d (.clo 179 0 fun _ => .junk)]
theorem shapes : CallP Tryz.prog 145 [] (.g shapeC) := by
  refine callP_of_ex (rc := []) (N := 6) Tryz.func145 rfl rfl Tryz.call145 tab_ok mix rfl rfl (fun cx href => ?_)
  exact SubR.le ⟨LeD.refl _, LeD.clo fun j hj => absurd hj (Nat.not_lt_zero j), LeD.refl _, LeD.clo fun j hj => absurd hj (Nat.not_lt_zero j), LeD.refl _, LeD.clo fun j hj => absurd hj (Nat.not_lt_zero j), LeD.refl _, LeD.clo fun j hj => absurd hj (Nat.not_lt_zero j), trivial⟩
theorem gCheckPolygon (l : List Pt) (hl : l.length ≤ 9223372036854775807) : CallP Tryz.prog 122 [pts l] (vI (errPoly l)) := by
  refine callP_of_ex (rc := []) (N := 16) Tryz.func122 rfl rfl Tryz.call122 tab_ok mix rfl rfl (fun cx href => ?_)
  refine callN shapes ?_
  refine AW.loopI (fun i : Nat => ⟨[(0, pts l), (5, .g shapeC), (6, vI i)], []⟩)
    (fun i => i ≤ 4 ∧ (0 < i → decide ((l.length : Int) < 3) = false) ∧ (1 < i → decide ((l.length : Int) > 40) = false) ∧ (2 < i → (l.any fun p => !good p) = false) ∧ (3 < i → formBad l = false)) (fun i => 4 - i) 0 ⟨by omega, fun h => absurd h (by omega), fun h => absurd h (by omega), fun h => absurd h (by omega), fun h => absurd h (by omega)⟩ ?_ ?_
  · exact SubI.of0 href [] rfl trivial ⟨⟨rfl, LeQ.rfl⟩, ⟨rfl, LeQ.rfl⟩, ⟨rfl, LeQ.rfl⟩, trivial⟩
  · rintro i ⟨hi, h1, h2, h3, h4⟩
    refine ex.sound (rc := []) tab_ok mix href _ ?_
    match i, hi with
    | 0, _ =>
      refine And.intro (fun _ => ?_) (fun h => by cases h)
      refine oi ⟨by omega, by omega⟩ ?_
      refine callN (shape1 l) ?_
      refine And.intro (fun h => ?_) (fun h => ?_)
      · exact SubR.of_eq (by unfold errPoly; rw [h]; rfl)
      · refine ⟨1, ⟨by omega, fun _ => h, fun h => absurd h (by omega), fun h => absurd h (by omega), fun h => absurd h (by omega)⟩, by omega, ?_⟩
        exact SubI.of0 href [] rfl trivial ⟨⟨rfl, LeQ.rfl⟩, ⟨rfl, LeQ.rfl⟩, ⟨rfl, LeQ.rfl⟩, trivial⟩
    | 1, _ =>
      refine And.intro (fun _ => ?_) (fun h => by cases h)
      refine oi ⟨by omega, by omega⟩ ?_
      refine callN (shape2 l) ?_
      refine And.intro (fun h => ?_) (fun h => ?_)
      · exact SubR.of_eq (by unfold errPoly; rw [h1 (by omega), h]; rfl)
      · refine ⟨2, ⟨by omega, fun _ => h1 (by omega), fun _ => h, fun h => absurd h (by omega), fun h => absurd h (by omega)⟩, by omega, ?_⟩
        exact SubI.of0 href [] rfl trivial ⟨⟨rfl, LeQ.rfl⟩, ⟨rfl, LeQ.rfl⟩, ⟨rfl, LeQ.rfl⟩, trivial⟩
    | 2, _ =>
      refine And.intro (fun _ => ?_) (fun h => by cases h)
      refine oi ⟨by omega, by omega⟩ ?_
      refine callN (shape3 l hl) ?_
      refine And.intro (fun h => ?_) (fun h => ?_)
      · exact SubR.of_eq (by unfold errPoly; rw [h1 (by omega), h2 (by omega), h]; rfl)
      · refine ⟨3, ⟨by omega, fun _ => h1 (by omega), fun _ => h2 (by omega), fun _ => h, fun h => absurd h (by omega)⟩, by omega, ?_⟩
        exact SubI.of0 href [] rfl trivial ⟨⟨rfl, LeQ.rfl⟩, ⟨rfl, LeQ.rfl⟩, ⟨rfl, LeQ.rfl⟩, trivial⟩
    | 3, _ =>
      refine And.intro (fun _ => ?_) (fun h => by cases h)
      refine oi ⟨by omega, by omega⟩ ?_
      have g1 := decF (h1 (by omega))
      have g2 := decF (h2 (by omega))
      refine callN (shape4 l (by omega) (by omega)) ?_
      refine And.intro (fun h => ?_) (fun h => ?_)
      · exact SubR.of_eq (by unfold errPoly; rw [h1 (by omega), h2 (by omega), h3 (by omega), h]; rfl)
      · refine ⟨4, ⟨by omega, fun _ => h1 (by omega), fun _ => h2 (by omega), fun _ => h3 (by omega), fun _ => h⟩, by omega, ?_⟩
        exact SubI.of0 href [] rfl trivial ⟨⟨rfl, LeQ.rfl⟩, ⟨rfl, LeQ.rfl⟩, ⟨rfl, LeQ.rfl⟩, trivial⟩
    | 4, _ =>
      refine And.intro (fun h => by cases h) (fun _ => ?_)
      exact SubR.of_eq (by unfold errPoly; rw [h1 (by omega), h2 (by omega), h3 (by omega), h4 (by omega)]; rfl)
end Go.Ch

namespace Go.Ch
open Go Go.Ax Go.Proofs Go.Proofs.Tryz
set_option maxRecDepth 100000
set_option pp.maxSteps 400
set_option maxHeartbeats 1000000

theorem any_getD {α : Type} [Inhabited α] (p : α → Bool) (l : List α) (i : Nat) (hi : i < l.length) (h : p (l.getD i default) = true) : l.any p = true := by
  rw [List.any_eq_true]
  exact ⟨l[i], by simp, by rw [getD_of hi] at h; exact h⟩
theorem any_drop {α : Type} [Inhabited α] (p : α → Bool) (l : List α) (h : ∀ i, i < l.length → p (l.getD i default) = false) : l.any p = false := by
  rw [List.any_eq_false]
  intro x hx
  obtain ⟨i, hi, rfl⟩ := List.getElem_of_mem hx
  have := h i hi
  rw [getD_of hi] at this
  rw [this]; simp
theorem rCheckPolygon (l : List Pt) (hl : l.length ≤ 9223372036854775807) : CallP Tryz.prog 89 [pts l] (vI (errPoly l)) := by
  refine callP_of_ex (rc := []) (N := 102) Tryz.func89 rfl rfl Tryz.call89 tab_ok mix rfl rfl (fun cx href => ?_)
  refine And.intro (fun h1 => ?_) (fun h1 => ?_)
  · exact SubR.of_eq (by unfold errPoly; rw [h1]; rfl)
  refine And.intro (fun h2 => ?_) (fun h2 => ?_)
  · exact SubR.of_eq (by unfold errPoly; rw [h1, h2]; rfl)
  have g1 := decF h1
  have g2 := decF h2
  have hne : l ≠ [] := by intro h; subst h; simp at g1
  refine AW.loopI (fun i : Nat => ⟨[(0, pts l), (3, vI i)], []⟩) (fun i => i ≤ l.length ∧ ∀ j, j < i → good (pAt l j) = true) (fun i => l.length - i) 0 ⟨Nat.zero_le _, fun j hj => absurd hj (Nat.not_lt_zero j)⟩ ?_ ?_
  · exact SubI.of0 href [] rfl trivial ⟨⟨rfl, LeQ.rfl⟩, ⟨rfl, LeQ.rfl⟩, trivial⟩
  · rintro i ⟨hi, hj⟩
    refine ex.sound (rc := []) tab_ok mix href _ ?_
    refine And.intro (fun h => ?_) (fun h => ?_)
    · have h : (i : Int) < l.length := decT h
      refine oi ⟨by omega, by omega⟩ ?_
      refine callN (Good (pAt l i)) ?_
      refine And.intro (fun h' => ?_) (fun h' => ?_)
      · have h' : (!good (pAt l i)) = true := h'
        refine SubR.of_eq ?_
        unfold errPoly
        rw [h1, h2, any_getD (fun p => !good p) l i (by omega) h']; rfl
      · have h' : (!good (pAt l i)) = false := h'
        refine ⟨i + 1, ⟨by omega, fun j hj' => ?_⟩, by omega, ?_⟩
        · by_cases hji : j = i
          · rw [hji]; simpa using h'
          · exact hj j (by omega)
        · exact SubI.of0 href [] rfl trivial ⟨⟨rfl, LeQ.rfl⟩, ⟨rfl, LeQ.int (w64_of (by omega) (by omega))⟩, trivial⟩
    · have h : ¬ (i : Int) < l.length := decF h
      have h3 : (l.any fun p => !good p) = false := any_drop _ l fun j hj' => by rw [hj j (by omega)]; rfl
      have fin : ∀ b, formBadR l = b → errPoly l = bif b then 3 else 0 := by
        intro b hb
        unfold errPoly
        rw [h1, h2, h3, ← formBad_eq l (by omega), hb]; rfl
      -- the pairs
      refine AW.loopI (fun i : Nat => ⟨[(0, pts l), (4, vI l.length), (5, vI i)], []⟩) (fun i => i ≤ l.length ∧ ∀ j, j < i → pairBad l j = false) (fun i => l.length - i) 0 ⟨Nat.zero_le _, fun j hj => absurd hj (Nat.not_lt_zero j)⟩ ?_ ?_
      · exact SubI.of0 href [] rfl trivial ⟨⟨rfl, LeQ.rfl⟩, ⟨rfl, LeQ.rfl⟩, ⟨rfl, LeQ.rfl⟩, trivial⟩
      · rintro i ⟨hi, hj⟩
        refine ex.sound (rc := []) tab_ok mix href _ ?_
        refine And.intro (fun h => ?_) (fun h => ?_)
        · have h : (i : Int) < l.length := decT h
          refine AW.loopI (fun k : Nat => ⟨[(0, pts l), (4, vI l.length), (5, vI i), (6, vI k)], []⟩) (fun k => k ≤ i ∧ ∀ j, j < k → samePt (pAt l i) (pAt l j) = false) (fun k => i - k) 0 ⟨Nat.zero_le _, fun j hj => absurd hj (Nat.not_lt_zero j)⟩ ?_ ?_
          · exact SubI.of0 href [] rfl trivial ⟨⟨rfl, LeQ.rfl⟩, ⟨rfl, LeQ.rfl⟩, ⟨rfl, LeQ.rfl⟩, ⟨rfl, LeQ.rfl⟩, trivial⟩
          · rintro k ⟨hk, hm⟩
            refine ex.sound (rc := []) tab_ok mix href _ ?_
            refine And.intro (fun h' => ?_) (fun h' => ?_)
            · have h' : (k : Int) < i := decT h'
              refine oi ⟨by omega, by omega⟩ ?_
              refine oi ⟨by omega, by omega⟩ ?_
              refine And.intro (by kernel_rfl) ?_
              refine And.intro (fun h'' => ?_) (fun h'' => ?_)
              · have h'' : samePt (pAt l i) (pAt l k) = true := h''
                exact SubR.of_eq (by rw [fin true (by unfold formBadR; rw [anyB_true (i := i) (by omega) (anyB_true (i := k) (by omega) h'')]; rfl)]; rfl)
              · have h'' : samePt (pAt l i) (pAt l k) = false := h''
                refine ⟨k + 1, ⟨by omega, fun j hj' => ?_⟩, by omega, ?_⟩
                · by_cases hjk : j = k
                  · rw [hjk]; exact h''
                  · exact hm j (by omega)
                · exact SubI.of0 href [] rfl trivial ⟨⟨rfl, LeQ.rfl⟩, ⟨rfl, LeQ.rfl⟩, ⟨rfl, LeQ.rfl⟩, ⟨rfl, LeQ.int (w64_of (by omega) (by omega))⟩, trivial⟩
            · have h' : ¬ (k : Int) < i := decF h'
              refine ⟨i + 1, ⟨by omega, fun j hj' => ?_⟩, by omega, ?_⟩
              · by_cases hji : j = i
                · rw [hji]; exact anyB_false fun m hm' => hm m (by omega)
                · exact hj j (by omega)
              · exact SubI.of0 href [] rfl trivial ⟨⟨rfl, LeQ.rfl⟩, ⟨rfl, LeQ.rfl⟩, ⟨rfl, LeQ.int (w64_of (by omega) (by omega))⟩, trivial⟩
        · have h : ¬ (i : Int) < l.length := decF h
          have hpair : anyB l.length (pairBad l) = false := anyB_false fun j hj' => hj j (by omega)
          -- the edges
          refine AW.loopI (fun i : Nat => ⟨[(0, pts l), (4, vI l.length), (7, vI i)], []⟩) (fun i => i ≤ l.length ∧ ∀ j, j < i → badI l j = false) (fun i => l.length - i) 0 ⟨Nat.zero_le _, fun j hj => absurd hj (Nat.not_lt_zero j)⟩ ?_ ?_
          · exact SubI.of0 href [] rfl trivial ⟨⟨rfl, LeQ.rfl⟩, ⟨rfl, LeQ.rfl⟩, ⟨rfl, LeQ.rfl⟩, trivial⟩
          · rintro i ⟨hi, hj⟩
            refine ex.sound (rc := []) tab_ok mix href _ ?_
            refine And.intro (fun h => ?_) (fun h => ?_)
            · have h : (i : Int) < l.length := decT h
              have e1 : w64 ((i : Int) + 1) = ((i + 1 : Nat) : Int) := w64_of (by omega) (by omega)
              have e2 : w64 ((i : Int) + 2) = ((i + 2 : Nat) : Int) := w64_of (by omega) (by omega)
              have c0 : CallP Tryz.prog 123 [pts l, vI i] (pt (pAt l i)) := by have := corner l i hne; rw [Nat.mod_eq_of_lt (by omega)] at this; exact this
              have c1 : CallP Tryz.prog 123 [pts l, vI (w64 ((i : Int) + 1))] (pt (cor l (i + 1))) := by rw [e1]; exact corner l (i + 1) hne
              have c2 : CallP Tryz.prog 123 [pts l, vI (w64 ((i : Int) + 2))] (pt (cor l (i + 2))) := by rw [e2]; exact corner l (i + 2) hne
              refine callN c0 ?_
              refine callN c1 ?_
              refine callN c2 ?_
              refine callN (Between (pAt l i) (cor l (i + 1)) (cor l (i + 2))) ?_
              repeat first | refine sk ?_ | refine st ?_ | refine sg ?_ | refine sh ?_ | refine su ?_ | refine sn1 ?_ | refine sn0 ?_
              refine callG (Between (cor l (i + 1)) (cor l (i + 2)) (pAt l i)) ?_
              repeat first | refine sk ?_ | refine st ?_ | refine sg ?_ | refine sh ?_ | refine su ?_ | refine sn1 ?_ | refine sn0 ?_
              refine And.intro (fun h' => ?_) (fun h' => ?_)
              · have h' : edgeBad l i = true := h'
                exact SubR.of_eq (by rw [fin true (by unfold formBadR; rw [anyB_true (i := i) (p := badI l) (by omega) (by unfold badI; rw [h']; rfl)]; simp)]; rfl)
              · have h' : edgeBad l i = false := h'
                refine AW.loopI (fun k : Nat => ⟨[(0, pts l), (4, vI l.length), (7, vI i), (8, .s (.ptr 8 0)), (9, .s (.ptr 9 0)), (11, vI k)], [(8, some (ptB (pAt l i))), (9, some (ptB (cor l (i + 1))))]⟩) (fun k => i + 2 ≤ k ∧ k ≤ l.length + 2 ∧ ∀ m, m < k → meetBad l i m = false) (fun k => l.length + 2 - k) (i + 2) ⟨by omega, by omega, fun m hm => by unfold meetBad; rw [decide_eq_false (by omega)]; rfl⟩ ?_ ?_
                · exact SubI.of0 href [] rfl ⟨⟨rfl, LeBx.rfl⟩, ⟨rfl, LeBx.rfl⟩, trivial⟩ ⟨⟨rfl, LeQ.rfl⟩, ⟨rfl, LeQ.rfl⟩, ⟨rfl, LeQ.rfl⟩, ⟨rfl, LeQ.rfl⟩, ⟨rfl, LeQ.rfl⟩, ⟨rfl, LeQ.int e2⟩, trivial⟩
                · rintro k ⟨hk1, hk2, hm⟩
                  refine ex.sound (rc := []) tab_ok mix href _ ?_
                  refine And.intro (fun h'' => ?_) (fun h'' => ?_)
                  · have h'' : (k : Int) < l.length := decT h''
                    have e3 : w64 ((k : Int) + 1) = ((k + 1 : Nat) : Int) := w64_of (by omega) (by omega)
                    have e4 : (w64 ((k : Int) + 1)).tmod l.length = (((k + 1) % l.length : Nat) : Int) := by
                      rw [e3, Int.tmod_eq_emod_of_nonneg (by omega)]; rfl
                    have d0 : CallP Tryz.prog 123 [pts l, vI k] (pt (pAt l k)) := by have := corner l k hne; rw [Nat.mod_eq_of_lt (by omega)] at this; exact this
                    have d1 : CallP Tryz.prog 123 [pts l, vI (w64 ((k : Int) + 1))] (pt (cor l (k + 1))) := by rw [e3]; exact corner l (k + 1) hne
                    refine oi (by omega) ?_
                    repeat first | refine sk ?_ | refine st ?_ | refine sg ?_ | refine sh ?_ | refine su ?_ | refine sn1 ?_ | refine sn0 ?_
                    refine callG d0 ?_
                    repeat first | refine sk ?_ | refine st ?_ | refine sg ?_ | refine sh ?_ | refine su ?_ | refine sn1 ?_ | refine sn0 ?_
                    refine callG d1 ?_
                    repeat first | refine sk ?_ | refine st ?_ | refine sg ?_ | refine sh ?_ | refine su ?_ | refine sn1 ?_ | refine sn0 ?_
                    refine callG (Meet (pAt l i) (cor l (i + 1)) (pAt l k) (cor l (k + 1))) ?_
                    repeat first | refine sk ?_ | refine st ?_ | refine sg ?_ | refine sh ?_ | refine su ?_ | refine sn1 ?_ | refine sn0 ?_
                    refine And.intro (by kernel_rfl) ?_
                    have key : (((w64 ((k : Int) + 1)).tmod l.length != (i : Int)) && meet (pAt l i) (cor l (i + 1)) (pAt l k) (cor l (k + 1))) = meetBad l i k := by
                      unfold meetBad meetAt
                      rw [decide_eq_true hk1, e4]; rfl
                    refine And.intro (fun h3' => ?_) (fun h3' => ?_)
                    · have h3' : meetBad l i k = true := key.symm.trans h3'
                      exact SubR.of_eq (by rw [fin true (by unfold formBadR; rw [anyB_true (i := i) (p := badI l) (by omega) (by unfold badI; rw [anyB_true (i := k) (by omega) h3']; simp)]; simp)]; rfl)
                    · have h3' : meetBad l i k = false := key.symm.trans h3'
                      refine ⟨k + 1, ⟨by omega, by omega, fun m hm' => ?_⟩, by omega, ?_⟩
                      · by_cases hmk : m = k
                        · rw [hmk]; exact h3'
                        · exact hm m (by omega)
                      · exact SubI.of0 href [] rfl ⟨⟨rfl, LeBx.rfl⟩, ⟨rfl, LeBx.rfl⟩, trivial⟩ ⟨⟨rfl, LeQ.rfl⟩, ⟨rfl, LeQ.rfl⟩, ⟨rfl, LeQ.rfl⟩, ⟨rfl, LeQ.rfl⟩, ⟨rfl, LeQ.rfl⟩, ⟨rfl, LeQ.int e3⟩, trivial⟩
                  · have h'' : ¬ (k : Int) < l.length := decF h''
                    refine ⟨i + 1, ⟨by omega, fun j hj' => ?_⟩, by omega, ?_⟩
                    · by_cases hji : j = i
                      · subst hji
                        have hb : anyB l.length (meetBad l j) = false := anyB_false fun m hm' => hm m (by omega)
                        unfold badI
                        rw [hb, h']; rfl
                      · exact hj j (by omega)
                    · exact SubI.of0 href [] rfl trivial ⟨⟨rfl, LeQ.rfl⟩, ⟨rfl, LeQ.rfl⟩, ⟨rfl, LeQ.int e1⟩, trivial⟩
            · have h : ¬ (i : Int) < l.length := decF h
              exact SubR.of_eq (by rw [fin false (by unfold formBadR; rw [hpair, anyB_false (p := badI l) fun j hj' => hj j (by omega)]; rfl)]; rfl)
end Go.Ch

namespace Go.Ch
open Go Go.Ax Go.Proofs Go.Proofs.Tryz
set_option maxRecDepth 100000
set_option pp.maxSteps 400
set_option maxHeartbeats 1000000

def sameS (a b : ByteArray) : Bool := a.toList == b.toList
def regErr (r : Reg) (before : List Reg) : Int :=
  bif !isName r.name then 4 else bif before.any (fun q => sameS q.name r.name) then 5 else bif !within r.kind 0 3 then 2 else errPoly r.corners
def capR (s : ByteArray) : Nat → DV
  | 0 => dS s
  | _ => .junk
def badA (over : Int) (a : Ap) : Bool := !good a.pt || !within a.half 1 100000 || !within a.level (w64 (over - 20000)) 20000 || !within a.run 0 1000
def sameA (l : List Ap) (i : Nat) : Bool := decide ((i : Int) > 0) && samePt (l.getD i default).pt (l.getD (w64 ((i : Int) - 1)).toNat default).pt
def axErrF (over : Int) (l : List Ap) : Nat → Nat → Int
  | 0, _ => 0
  | n + 1, i => bif badA over (l.getD i default) then 2 else bif sameA l i then 5 else axErrF over l n (i + 1)
def axErr (c : Chan) : Int := bif decide ((c.axis.length : Int) < 2) then 10 else bif decide ((c.axis.length : Int) > 20) then 8 else axErrF c.over c.axis c.axis.length 0
def regErrF (l : List Reg) : Nat → Nat → Int
  | 0, _ => 0
  | n + 1, i => bif regErr (l.getD i default) (l.take i) != 0 then regErr (l.getD i default) (l.take i) else regErrF l n (i + 1)
def errC (c : Chan) : Int :=
  bif !isName c.name then 4
  else bif !within c.over 0 1000 || !within c.buffer 0 100000 then 2
  else bif axErr c != 0 then axErr c
  else bif decide ((c.regions.length : Int) > 20) then 8
  else regErrF c.regions c.regions.length 0
theorem take_regs (l : List Reg) (i : Nat) (hi : i ≤ l.length) : LeD (.slc (i : Int).toNat 3 (regEl l)) (dRegs (l.take i)) := by
  refine LeD.slc' (by simp; omega) fun a b ha hb => LeD.of_eq ?_
  have ha : a < i := ha
  unfold regEl
  congr 1
  simp [ha]
theorem Reg.okD {l : List Reg} (h : ∀ a ∈ l, a.ok) {i : Nat} (hi : i < l.length) : (l.getD i default).ok := by
  rw [getD_of hi]; exact h _ (List.getElem_mem hi)
end Go.Ch

namespace Go.Ch
open Go Go.Ax Go.Proofs Go.Proofs.Tryz
set_option maxRecDepth 100000
set_option pp.maxSteps 400
set_option maxHeartbeats 1000000

def gridD (g : Grid) : Nat → DV
  | 0 => dI g.x
  | 1 => dI g.y
  | 2 => dI g.side
  | 3 => dI g.cols
  | 4 => dI g.rows
  | 5 => dInts g.levels
  | _ => .junk
def gridEl (l : List Grid) : Nat → Nat → DV := fun i => gridD (l.getD i default)
def dGrids (l : List Grid) : DV := .slc l.length 6 (gridEl l)
def gridsErr (l : List Grid) : Nat → Nat → Int
  | 0, _ => bif ((l.length : Int) == 2) && !alike (l.getD 0 default) (l.getD 1 default) then 10 else 0
  | n + 1, i => bif errG (l.getD i default) != 0 then errG (l.getD i default) else gridsErr l n (i + 1)
def withErr (c : Chan) (l : List Grid) : Int := bif errC c != 0 then errC c else gridsErr l l.length 0
theorem withErr1 (c : Chan) (g : Grid) : withErr c [g] = bif errC c != 0 then errC c else errG g := by
  unfold withErr
  cases h : errC c != 0
  · show gridsErr [g] 1 0 = errG g
    show (bif errG g != 0 then errG g else 0) = errG g
    cases h' : errG g != 0
    · simp at h'; exact h'.symm
    · rfl
  · rfl
theorem withErr2 (c : Chan) (a b : Grid) : withErr c [a, b] = bif errC c != 0 then errC c else bif errG a != 0 then errG a else bif errG b != 0 then errG b else bif !alike a b then 10 else 0 := rfl
theorem axErrF_zero {over : Int} {l : List Ap} : ∀ {n i : Nat}, axErrF over l n i = 0 → ∀ j, i ≤ j → j < i + n → badA over (l.getD j default) = false ∧ sameA l j = false
  | 0, i, _, j, h1, h2 => by omega
  | n + 1, i, h, j, h1, h2 => by
    rw [axErrF] at h
    cases hb : badA over (l.getD i default) with
    | true => rw [hb] at h; cases h
    | false =>
      cases hs : sameA l i with
      | true => rw [hb, hs] at h; cases h
      | false =>
        rw [hb, hs] at h
        by_cases hij : j = i
        · subst hij; exact ⟨hb, hs⟩
        · exact axErrF_zero (n := n) (i := i + 1) h j (by omega) (by omega)
theorem val_of (c : Chan) (h : errC c = 0) : Val c := by
  unfold errC at h
  cases h1 : isName c.name with
  | false => rw [h1] at h; cases h
  | true =>
    rw [h1] at h
    cases h2 : (!within c.over 0 1000 || !within c.buffer 0 100000) with
    | true => rw [h2] at h; cases h
    | false =>
      rw [h2] at h
      cases h3 : axErr c != 0 with
      | true =>
        rw [h3] at h
        have h : axErr c = 0 := h
        rw [h] at h3; cases h3
      | false =>
        have h3 : axErr c = 0 := by simpa using h3
        unfold axErr at h3
        cases a1 : decide ((c.axis.length : Int) < 2) with
        | true => rw [a1] at h3; cases h3
        | false =>
          cases a2 : decide ((c.axis.length : Int) > 20) with
          | true => rw [a1, a2] at h3; cases h3
          | false =>
            rw [a1, a2] at h3
            have h3 : axErrF c.over c.axis c.axis.length 0 = 0 := h3
            have g1 := decF a1
            have g2 := decF a2
            simp [within] at h2
            have hov : w64 (c.over - 20000) = c.over - 20000 := w64_of (by omega) (by omega)
            have hA : ∀ i, i < c.axis.length → badA c.over (axis c i) = false ∧ sameA c.axis i = false := fun i hi => axErrF_zero h3 i (Nat.zero_le _) (by omega)
            have hB : ∀ i, i < c.axis.length → good (axis c i).pt = true ∧ (1 ≤ (axis c i).half ∧ (axis c i).half ≤ 100000) ∧ (c.over - 20000 ≤ (axis c i).level ∧ (axis c i).level ≤ 20000) ∧ (0 ≤ (axis c i).run ∧ (axis c i).run ≤ 1000) := by
              intro i hi
              have := (hA i hi).1
              unfold badA at this
              rw [hov] at this
              simp only [Bool.or_eq_false_iff, Bool.not_eq_false'] at this
              obtain ⟨⟨⟨q1, q2⟩, q3⟩, q4⟩ := this
              simp only [within, Bool.and_eq_true, decide_eq_true_eq, ge_iff_le] at q2 q3 q4
              exact ⟨q1, q2, q3, q4⟩
            refine ⟨by omega, by omega, fun i hi => (hB i hi).1, fun i hi => (hB i hi).2.1, fun i hi => (hB i hi).2.2.1, fun i hi => (hB i hi).2.2.2, fun i hi => ?_, by omega, by omega⟩
            intro he
            have := (hA (i + 1) hi).2
            unfold sameA at this
            rw [decide_eq_true (by omega), Bool.true_and, w64_of (by omega) (by omega)] at this
            have e : ((((i + 1 : Nat) : Int) - 1).toNat) = i := by omega
            rw [e] at this
            rw [samePt_iff.2 he.symm] at this
            cases this
end Go.Ch

namespace Go.Ch
open Go Go.Ax Go.Proofs Go.Proofs.Tryz
set_option maxRecDepth 100000
set_option pp.maxSteps 400
set_option maxHeartbeats 1000000

structure GVal (g : Grid) : Prop where
  x : -1000000 ≤ g.x ∧ g.x ≤ 1000000
  y : -1000000 ≤ g.y ∧ g.y ≤ 1000000
  side : 100 ≤ g.side ∧ g.side ≤ 10000
  cols : 1 ≤ g.cols ∧ g.cols ≤ 1024
  rows : 1 ≤ g.rows ∧ g.rows ≤ 1024
  most : g.cols * g.rows ≤ 1024
  right : g.x + g.cols * g.side ≤ 1000000
  top : g.y + g.rows * g.side ≤ 1000000
  len : (g.levels.length : Int) = g.cols * g.rows
  lev : ∀ n ∈ g.levels, n = 30000 ∨ (-20000 ≤ n ∧ n ≤ 20000)
theorem GVal.of {g : Grid} (h : errG g = 0) : GVal g := by
  unfold errG at h
  cases h1 : e1 g with
  | true => rw [h1] at h; cases h
  | false =>
    rw [h1] at h
    unfold e1 at h1
    simp only [Bool.or_eq_false_iff, Bool.not_eq_false'] at h1
    obtain ⟨⟨⟨⟨q1, q2⟩, q3⟩, q4⟩, q5⟩ := h1
    simp only [within, Bool.and_eq_true, decide_eq_true_eq, ge_iff_le] at q1 q2 q3 q4 q5
    have m1 := mul_le_of (a := g.cols) (b := g.rows) (A := 1024) (B := 1024) (by omega) (by omega) (by omega) (by omega)
    have m2 := mul_le_of (a := g.cols) (b := g.side) (A := 1024) (B := 10000) (by omega) (by omega) (by omega) (by omega)
    have m3 := mul_le_of (a := g.rows) (b := g.side) (A := 1024) (B := 10000) (by omega) (by omega) (by omega) (by omega)
    rw [w64_of (n := g.cols * g.rows) (by omega) (by omega), w64_of (n := g.cols * g.side) (by omega) (by omega), w64_of (n := g.rows * g.side) (by omega) (by omega),
      w64_of (n := g.x + g.cols * g.side) (by omega) (by omega), w64_of (n := g.y + g.rows * g.side) (by omega) (by omega)] at h
    cases h2 : decide (g.cols * g.rows > 1024) with
    | true => rw [h2] at h; cases h
    | false =>
      rw [h2] at h
      cases h3 : (decide (g.x + g.cols * g.side > 1000000) || decide (g.y + g.rows * g.side > 1000000)) with
      | true => rw [h3] at h; cases h
      | false =>
        rw [h3] at h
        cases h4 : ((g.levels.length : Int) != g.cols * g.rows) with
        | true => rw [h4] at h; cases h
        | false =>
          rw [h4] at h
          cases h5 : g.levels.any badL with
          | true => rw [h5] at h; cases h
          | false =>
            simp only [Bool.or_eq_false_iff, decide_eq_false_iff_not] at h2 h3
            have h4 : (g.levels.length : Int) = g.cols * g.rows := by simpa using h4
            refine ⟨q1, q2, q3, q4, q5, by omega, by omega, by omega, h4, fun n hn => ?_⟩
            rw [List.any_eq_false] at h5
            have := h5 n hn
            by_cases hu : n = 30000
            · exact .inl hu
            · right
              simp [badL, within, hu] at this
              omega
theorem GVal.n {g : Grid} (h : GVal g) : g.levels.length ≤ 1024 := by have := h.len; have := h.most; omega
theorem centre_good {g : Grid} (h : GVal g) {i : Nat} (hi : i < g.levels.length) : good (centreG g i) = true ∧
    centreG g i = ⟨g.x + (i : Int) % g.cols * g.side + g.side / 2, g.y + (i : Int) / g.cols * g.side + g.side / 2⟩ := by
  obtain ⟨hx, hy, hs, hc, hr, hm, hR, hT, hl, _⟩ := h
  have i0 : (0 : Int) ≤ (i : Int) := by omega
  have e1 : (i : Int).tmod g.cols = (i : Int) % g.cols := Int.tmod_eq_emod_of_nonneg i0
  have e2 : (i : Int).tdiv g.cols = (i : Int) / g.cols := Int.tdiv_eq_ediv_of_nonneg i0
  have m0 := Int.emod_nonneg (i : Int) (show g.cols ≠ 0 by omega)
  have m1 := Int.emod_lt_of_pos (i : Int) (show 0 < g.cols by omega)
  have d0 := Int.ediv_nonneg i0 (show 0 ≤ g.cols by omega)
  have d1 : (i : Int) / g.cols < g.rows := by
    apply Int.ediv_lt_of_lt_mul (by omega)
    rw [Int.mul_comm g.rows, ← hl]; omega
  have p1 : (i : Int) % g.cols * g.side ≤ (g.cols - 1) * g.side := Int.mul_le_mul_of_nonneg_right (by omega) (by omega)
  have p0 : 0 ≤ (i : Int) % g.cols * g.side := Int.mul_nonneg m0 (by omega)
  have p2 : (i : Int) / g.cols * g.side ≤ (g.rows - 1) * g.side := Int.mul_le_mul_of_nonneg_right (by omega) (by omega)
  have p3 : 0 ≤ (i : Int) / g.cols * g.side := Int.mul_nonneg d0 (by omega)
  rw [Int.sub_mul] at p1 p2
  have hh : g.side.tdiv 2 = g.side / 2 := Int.tdiv_eq_ediv_of_nonneg (by omega)
  have key : centreG g i = ⟨g.x + (i : Int) % g.cols * g.side + g.side / 2, g.y + (i : Int) / g.cols * g.side + g.side / 2⟩ := by
    unfold centreG cornerG
    simp only [e1, e2, hh]
    have lt : (i : Int) / g.cols ≤ 1024 := by omega
    rw [w64_of (n := (i : Int) % g.cols * g.side) (by omega) (by omega), w64_of (n := (i : Int) / g.cols) (by omega) (by omega), w64_of (n := (i : Int) / g.cols * g.side) (by omega) (by omega), w64_of (n := g.side / 2) (by omega) (by omega),
      w64_of (n := g.x + (i : Int) % g.cols * g.side) (by omega) (by omega), w64_of (n := g.y + (i : Int) / g.cols * g.side) (by omega) (by omega), w64_of (by omega) (by omega), w64_of (by omega) (by omega)]
  refine ⟨?_, key⟩
  rw [good_iff, key]
  simp only
  omega

abbrev gridB (g : Grid) : Box := .cells [.d (dI g.x), .d (dI g.y), .d (dI g.side), .d (dI g.cols), .d (dI g.rows), .d (dInts g.levels)]
/-- What one cell adds. -/
def payS (h : Int → Int → Int → Int) (b a : Grid) (over sum : Int) (i : Nat) (level : Int) : Int :=
  bif b.levels.getD i 0 != 30000 && a.levels.getD i 0 != 30000 then w64 (sum + w64 (w64 (b.side * b.side) * mm true 0 (h (b.levels.getD i 0) (a.levels.getD i 0) (w64 (level - over))))) else sum
abbrev payB (fh : Nat) (c : Chan) (b a : Grid) (sum : Int) : BoxL := [(1001, gridB b), (1002, gridB a), (1003, .cells [.d (dI sum)]), (1004, .cells [.d (.clo fh 0 fun _ => .junk)]), (1005, chanB c)]
end Go.Ch

namespace Go.Ch
open Go Go.Ax Go.Proofs Go.Proofs.Tryz
set_option maxRecDepth 100000
set_option pp.maxSteps 400
set_option maxHeartbeats 1000000

theorem errG_val {g : Grid} (h : GVal g) : g.levels.length ≤ 9223372036854775807 := by have := h.n; omega
abbrev rIE (n e : Int) : AV := .t [.s (.d (dI n)), .s (.d (dI e))]
theorem alike_len {a b : Grid} (ha : GVal a) (hb : GVal b) (h : alike a b = true) : b.levels.length = a.levels.length := by
  unfold alike at h
  simp only [Bool.and_eq_true, beq_iff_eq] at h
  have h1 := ha.len
  have h2 := hb.len
  rw [h.1.2, h.2] at h1
  omega
theorem withErr2_zero {c : Chan} {a b : Grid} (h : withErr c [a, b] = 0) : errC c = 0 ∧ errG a = 0 ∧ errG b = 0 ∧ alike a b = true := by
  rw [withErr2] at h
  cases h1 : errC c != 0 with
  | true => rw [h1] at h; simp at h1; exact absurd h h1
  | false =>
    cases h2 : errG a != 0 with
    | true => rw [h1, h2] at h; simp at h2; exact absurd h h2
    | false =>
      cases h3 : errG b != 0 with
      | true => rw [h1, h2, h3] at h; simp at h3; exact absurd h h3
      | false =>
        cases h4 : alike a b with
        | false => rw [h1, h2, h3, h4] at h; cases h
        | true => simp at h1 h2 h3; exact ⟨h1, h2, h3, rfl⟩
def paidH (x y z : Int) : Int := w64 (x - mm true y z)
def overH (x y z : Int) : Int := w64 (mm false x z - y)
end Go.Ch

namespace Go.Ch
open Go Go.Ax Go.Proofs Go.Proofs.Tryz
set_option maxRecDepth 100000
set_option pp.maxSteps 400
set_option maxHeartbeats 1000000

theorem catF0 {f g : Nat → Nat → DV} : catF 0 f g = g := by
  funext i j
  unfold catF
  rw [if_neg (Nat.not_lt_zero i), Nat.sub_zero]
theorem rowSet_self {f : Nat → Nat → DV} {i : Nat} {x : DV} : rowSet f i 0 [.d x] i 0 = x := by
  unfold rowSet; rw [if_pos rfl]; rfl
theorem rowSet_ne {f : Nat → Nat → DV} {i k j : Nat} {cs : List SV} (h : k ≠ i) : rowSet f i 0 cs k j = f k j := by
  unfold rowSet; rw [if_neg h]
end Go.Ch

namespace Go.Ch
open Go Go.Ax Go.Proofs Go.Proofs.Tryz
set_option maxRecDepth 100000
set_option pp.maxSteps 400
set_option maxHeartbeats 1000000

structure PrtOk (c : Chan) (x : Prt) : Prop where
  off : 0 ≤ x.offset ∧ x.offset ≤ 8000000000000
  half : 1 ≤ x.half ∧ x.half ≤ 100000
  bottom : c.over - 20000 ≤ x.bottom ∧ x.bottom ≤ 20000
  run : 0 ≤ x.run ∧ x.run ≤ 1000
theorem legP_some {a b : Ap} {p : Pt} {x : Prt} (h : legP a b p = some x) : 0 ≤ dotE a.pt b.pt p ∧ dotE a.pt b.pt p ≤ dotE a.pt b.pt b.pt ∧ x = partE a b p := by
  unfold legP at h
  cases hb : (decide (dotE a.pt b.pt p < 0) || decide (dotE a.pt b.pt p > dotE a.pt b.pt b.pt)) with
  | true => rw [hb] at h; cases h
  | false =>
    rw [hb] at h
    simp only [Bool.or_eq_false_iff, decide_eq_false_iff_not] at hb
    simp only [cond_false, Option.some.injEq] at h
    exact ⟨by omega, by omega, h.symm⟩
theorem bendP_some {a q b : Ap} {p : Pt} {x : Prt} (h : bendP a q b p = some x) : x = ⟨span q.pt p, q.half, q.level, q.run⟩ := by
  unfold bendP at h
  cases hb : (decide (dotE a.pt q.pt p ≤ dotE a.pt q.pt q.pt) || decide (dotE q.pt b.pt p ≥ 0)) with
  | true => rw [hb] at h; cases h
  | false => rw [hb] at h; simp only [cond_false, Option.some.injEq] at h; exact h.symm
end Go.Ch

namespace Go.Ch
open Go Go.Ax Go.Proofs Go.Proofs.Tryz
set_option maxRecDepth 100000
set_option pp.maxSteps 400
set_option maxHeartbeats 1000000

abbrev uI (x : Int) : AV := .s (.d (.val (.int .u64 x)))
abbrev duI (x : Int) : DV := .val (.int .u64 x)
theorem u64_of {n : Int} (h : 0 ≤ n) (k : n ≤ 18446744073709551615) : IntKind.u64.wrap n = n := by
  rw [IntKind.wrap_u64]; omega
theorem andM {y : Int} (h : 0 ≤ y) (k : y < 4294967296) : andI .u64 y 4294967295 = y := by
  obtain ⟨n, rfl⟩ := Int.eq_ofNat_of_zero_le h
  have hn : n < 4294967296 := by omega
  unfold andI
  have e : (BitVec.ofInt IntKind.u64.bits (n : Int) &&& BitVec.ofInt IntKind.u64.bits 4294967295).toNat = n := by
    show (BitVec.ofInt 64 (n : Int) &&& BitVec.ofInt 64 4294967295).toNat = n
    rw [BitVec.toNat_and, show (BitVec.ofInt 64 4294967295).toNat = 2 ^ 32 - 1 from rfl, Nat.and_two_pow_sub_one_eq_mod, BitVec.toNat_ofInt]
    omega
  rw [e]
  exact u64_of (by omega) (by omega)
theorem shr0 {y : Int} (h : 0 ≤ y) (k : y < 4294967296) : shrI .u64 y 32 = 0 := by
  show y.fdiv 4294967296 = 0
  rw [Int.fdiv_eq_ediv_of_nonneg _ (by omega)]
  omega
/-- The row while it is filled. -/
def fillF (v : Int) (k : Nat) : Nat → Nat → DV := fun i _ => if i < k then dI v else dI 0
theorem cpF_fill {v : Int} {k q : Nat} {i j : Nat} (hq : q ≤ k) : cpF k q (fillF v k) (fun i => fillF v k (0 + i)) i j = fillF v (k + q) i j := by
  unfold cpF
  show (if k ≤ i ∧ i < k + q then (if 0 + (i - k) < k then dI v else dI 0) else (if i < k then dI v else dI 0)) = (if i < k + q then dI v else dI 0)
  by_cases h1 : k ≤ i ∧ i < k + q
  · rw [if_pos h1, if_pos (by omega), if_pos (by omega)]
  · rw [if_neg h1]
    by_cases h2 : i < k
    · rw [if_pos h2, if_pos (by omega)]
    · rw [if_neg h2, if_neg (by omega)]
end Go.Ch

namespace Go.Ch
open Go Go.Ax Go.Proofs Go.Proofs.Tryz
set_option maxRecDepth 100000
set_option pp.maxSteps 400
set_option maxHeartbeats 1000000

def smallH (c : Chan) : Bool :=
  (((decide ((c.name.size : Int) > 40) || (decide ((c.axis.length : Int) > 6) && decide ((c.axis.length : Int) ≤ 20))) || decide ((c.axis.length : Int) > 25)) || (decide ((c.regions.length : Int) > 4) && decide ((c.regions.length : Int) ≤ 20))) || decide ((c.regions.length : Int) > 25)
def smallR (r : Reg) : Bool := ((decide ((r.corners.length : Int) > 8) && decide ((r.corners.length : Int) ≤ 40)) || decide ((r.corners.length : Int) > 45)) || decide ((r.name.size : Int) > 40)
def small (c : Chan) : Bool := !smallH c && !c.regions.any smallR
structure Sm (c : Chan) : Prop where
  axis : c.axis.length ≤ 25
  regions : c.regions.length ≤ 25
  corners : ∀ i, i < c.regions.length → (c.regions.getD i default).corners.length ≤ 45
theorem Sm.of {c : Chan} (h : small c = true) : Sm c := by
  unfold small at h
  simp only [Bool.and_eq_true, Bool.not_eq_true'] at h
  obtain ⟨h1, h2⟩ := h
  unfold smallH at h1
  simp only [Bool.or_eq_false_iff, decide_eq_false_iff_not] at h1
  refine ⟨by omega, by omega, fun i hi => ?_⟩
  rw [List.any_eq_false] at h2
  have := h2 _ (List.getElem_mem hi)
  rw [getD_of hi]
  unfold smallR at this
  simp at this
  omega
theorem el_sub {α : Type} [Inhabited α] {l : List α} {s : Nat} {el : α → Nat → DV} : RowIs s (0 + l.length) (catF 0 (rowF s []) fun i => el (l.getD i default)) el l := by
  rw [Nat.zero_add, catF0]; exact RowIs.refl
end Go.Ch

namespace Go.Ch
open Go Go.Ax Go.Proofs Go.Proofs.Tryz
set_option maxRecDepth 100000
set_option pp.maxSteps 400
set_option maxHeartbeats 1000000

def mainS : ByteArray := ⟨#[77, 97, 105, 110]⟩
def straightC : Chan := ⟨mainS, [⟨0, 0, 1000, -1000, 4⟩, ⟨10000, 0, 1000, -1000, 4⟩], 30, 0, []⟩
def stripG (n : Int) : Grid := ⟨0, -250, 500, 20, 1, List.replicate 20 n⟩
theorem intRow {l : List Int} : RowIs 1 (bif l.isEmpty then 0 else l.length) (intEl l) (fun x _ => dI x) l := ⟨bif_len l, fun _ _ _ _ => rfl⟩
theorem straight_ok : straightC.ok := by
  refine ⟨by decide, by decide, ?_, by decide, by decide, by decide, by intro a ha; cases ha⟩
  intro a ha
  simp only [straightC, List.mem_cons, List.not_mem_nil, or_false] at ha
  rcases ha with rfl | rfl
  · exact ⟨by decide, by decide, by decide, by decide, by decide⟩
  · exact ⟨by decide, by decide, by decide, by decide, by decide⟩
theorem strip_ok {n : Int} (h : i64ok n) : (stripG n).ok := by
  refine ⟨show i64ok 0 by decide, show i64ok (-250) by decide, show i64ok 500 by decide, show i64ok 20 by decide, show i64ok 1 by decide, by simp [stripG], ?_⟩
  intro a ha
  have := List.eq_of_mem_replicate ha
  subst this; exact h
end Go.Ch

namespace Go.Ch
open Go Go.Ax Go.Proofs Go.Proofs.Tryz
set_option maxRecDepth 100000
set_option pp.maxSteps 400
set_option maxHeartbeats 1000000

/-- Where a place lies along a line, rounded down. -/
def alongV (a b p : Pt) : Int := dotE a b p / span a b
theorem alongV_le {a b p : Pt} (ha : good a = true) (hb : good b = true) (hp : good p = true) (hd : 0 ≤ dotE a b p) : 0 ≤ alongV a b p ∧ alongV a b p ≤ 8000000000000 := by
  obtain ⟨_, _, h3⟩ := dot_eq ha hb hp
  have hs := (span_bound ha hb).1
  unfold alongV
  exact ⟨Int.ediv_nonneg hd hs, Int.le_trans (Int.ediv_le_self _ hd) h3⟩
def spanC (c : Chan) (k : Nat) : Int := span (axis c k).pt (axis c (k + 1)).pt
def lenF (c : Chan) : Nat → Int
  | 0 => 0
  | k + 1 => lenF c k + spanC c k
theorem lenF_le {c : Chan} (hv : Val c) : ∀ k, k < c.axis.length → 0 ≤ lenF c k ∧ lenF c k ≤ 3000000 * k
  | 0, _ => by simp [lenF]
  | k + 1, h => by
    have h1 := lenF_le hv k (by omega)
    have h2 : 0 ≤ span (axis c k).pt (axis c (k + 1)).pt ∧ span (axis c k).pt (axis c (k + 1)).pt ≤ 3000000 := span_bound (hv.pts k (by omega)) (hv.pts (k + 1) h)
    rw [lenF]; unfold spanC; omega
/-- The first of some tries that gives something. -/
def first {α : Type} (f : Nat → Option α) : Nat → Option α
  | 0 => none
  | n + 1 => (first f n).or (f n)
theorem first_some {α : Type} {f : Nat → Option α} {x : α} {i : Nat} (h : first f i = some x) : ∀ k, first f (i + k) = some x
  | 0 => h
  | k + 1 => by rw [← Nat.add_assoc, first, first_some h k]; rfl
theorem first_hit {α : Type} {f : Nat → Option α} {x : α} {i n : Nat} (h : first f i = none) (hx : f i = some x) (hn : i < n) : first f n = some x := by
  have h1 : first f (i + 1) = some x := by rw [first, h, hx]; rfl
  have := first_some h1 (n - (i + 1))
  rwa [show i + 1 + (n - (i + 1)) = n by omega] at this
theorem first_miss {α : Type} {f : Nat → Option α} {i : Nat} (h : first f i = none) (hx : f i = none) : first f (i + 1) = none := by rw [first, h, hx]; rfl
theorem first_shift {α : Type} {f g : Nat → Option α} (h0 : f 0 = none) (h : ∀ j, f (j + 1) = g j) : ∀ n, first f (n + 1) = first g n
  | 0 => by rw [first, first, h0]; rfl
  | n + 1 => by rw [first, first_shift h0 h n, h]; rfl

def onL (c : Chan) (p : Pt) (k : Nat) : Option (Int × Int) := (legF c k p).map fun x => (lenF c k + alongV (axis c k).pt (axis c (k + 1)).pt p, x.offset)
def onB (c : Chan) (p : Pt) (j : Nat) : Option (Int × Int) := (bendN c j p).map fun x => (lenF c (j + 1), x.offset)
def onR (c : Chan) (p : Pt) (k : Nat) : Option (Int × Int) := (bendR c k p).map fun x => (lenF c k, x.offset)
def alongF (c : Chan) (p : Pt) : Option (Int × Int) := (first (onL c p) (c.axis.length - 1)).or (first (onB c p) (c.axis.length - 2))
theorem onR_first (c : Chan) (p : Pt) (h : 2 ≤ c.axis.length) : first (onR c p) (c.axis.length - 1) = first (onB c p) (c.axis.length - 2) := by
  have := first_shift (f := onR c p) (g := onB c p) rfl (fun _ => rfl) (c.axis.length - 2)
  rwa [show c.axis.length - 2 + 1 = c.axis.length - 1 by omega] at this
def oII (o : Option (Int × Int)) : Int × Int := o.getD (0, 0)
theorem legF_dot {c : Chan} {k : Nat} {p : Pt} (h : (legF c k p).isSome = true) : 0 ≤ dotE (axis c k).pt (axis c (k + 1)).pt p := by
  unfold legF legP at h
  cases h' : (decide (dotE (c.axis.getD k default).pt (c.axis.getD (k + 1) default).pt p < 0) || decide (dotE (c.axis.getD k default).pt (c.axis.getD (k + 1) default).pt p > dotE (c.axis.getD k default).pt (c.axis.getD (k + 1) default).pt (c.axis.getD (k + 1) default).pt))
  · simp only [Bool.or_eq_false_iff, decide_eq_false_iff_not] at h'
    show 0 ≤ dotE (c.axis.getD k default).pt (c.axis.getD (k + 1) default).pt p
    omega
  · rw [h'] at h; cases h
theorem onL_some {c : Chan} {p : Pt} {k : Nat} (h : (legF c k p).isSome = true) : onL c p k = some (lenF c k + alongV (axis c k).pt (axis c (k + 1)).pt p, (oPrt (legF c k p)).offset) := by
  obtain ⟨x, hx⟩ := Option.isSome_iff_exists.1 h
  unfold onL; rw [hx]; rfl
theorem onB_some {c : Chan} {p : Pt} {k : Nat} (h : (bendN c k p).isSome = true) : onB c p k = some (lenF c (k + 1), (oPrt (bendN c k p)).offset) := by
  obtain ⟨x, hx⟩ := Option.isSome_iff_exists.1 h
  unfold onB; rw [hx]; rfl
theorem onR_some {c : Chan} {p : Pt} {k : Nat} (h : (bendR c k p).isSome = true) : onR c p k = some (lenF c k, (oPrt (bendR c k p)).offset) := by
  obtain ⟨x, hx⟩ := Option.isSome_iff_exists.1 h
  unfold onR; rw [hx]; rfl
theorem map_none {α β : Type} {o : Option α} {f : α → β} (h : o.isSome = false) : o.map f = none := by
  cases o with
  | none => rfl
  | some x => cases h
abbrev rIII (a b e : Int) : AV := .t [.s (.d (dI a)), .s (.d (dI b)), .s (.d (dI e))]
def alongR (c : Chan) (p : Pt) : Int × Int × Int := bif errC c != 0 then (0, 0, errC c) else bif !good p then (0, 0, 2) else ((oII (alongF c p)).1, (oII (alongF c p)).2, bif (alongF c p).isSome then 0 else 11)
abbrev rIIB (a b : Int) (e : Bool) : AV := .t [.s (.d (dI a)), .s (.d (dI b)), .s (.d (.val (.bool e)))]
end Go.Ch

namespace Go.Ch
open Go Go.Ax Go.Proofs Go.Proofs.Tryz
set_option maxRecDepth 100000
set_option pp.maxSteps 400
set_option maxHeartbeats 1000000

theorem first_none {α : Type} {f : Nat → Option α} : ∀ {n : Nat}, first f n = none → ∀ k, k < n → f k = none
  | 0, _, k, hk => absurd hk (Nat.not_lt_zero k)
  | n + 1, h, k, hk => by
    rw [first, Option.or_eq_none_iff] at h
    rcases Nat.lt_or_ge k n with h' | h'
    · exact first_none h.1 k h'
    · obtain rfl : k = n := by omega
      exact h.2
end Go.Ch

namespace Go.Ch
open Go Go.Ax Go.Proofs Go.Proofs.Tryz
set_option maxRecDepth 100000
set_option pp.maxSteps 400
set_option maxHeartbeats 1000000

abbrev prtA (x : Prt) : AV := .g (prtS x)
def onBot (x : Prt) : Bool := decide (x.offset ≤ x.half)
def botF (c : Chan) (p : Pt) : Bool := (partsL c p).any onBot
theorem parts_len (c : Chan) (p : Pt) : (partsL c p).length ≤ 2 * c.axis.length := by
  unfold partsL legsL bendsL
  rw [List.length_append]
  have h1 := List.length_filterMap_le (fun k => legF c k p) (List.range (c.axis.length - 1))
  have h2 := List.length_filterMap_le (fun k => bendN c k p) (List.range (c.axis.length - 2))
  rw [List.length_range] at h1 h2
  omega
theorem botF_holds (c : Chan) (p : Pt) (h2 : 2 ≤ c.axis.length) : (holdsL c p (c.axis.length - 1)).any onBot = botF c p := by
  unfold botF
  rw [Bool.eq_iff_iff, List.any_eq_true, List.any_eq_true]
  exact ⟨fun ⟨x, hx, h⟩ => ⟨x, (parts_holds c p h2 x).2 hx, h⟩, fun ⟨x, hx, h⟩ => ⟨x, (parts_holds c p h2 x).1 hx, h⟩⟩
def lv (g : Grid) (k : Int) : Int := g.levels.getD k.toNat 0
def botI (c : Chan) (g : Grid) (i : Nat) : Bool := botF c (centreG g i)
def stepC (g : Grid) (r : Int × Bool) (i : Nat) : Int × Bool := (bif decide (r.1 < 0) || decide (lv g i > lv g r.1) then (i : Int) else r.1, r.2 || lv g i == 30000)
def contF (c : Chan) (g : Grid) : Nat → Int × Bool
  | 0 => (-1, false)
  | i + 1 => bif !botI c g i then contF c g i else stepC g (contF c g i) i
def ctlR (c : Chan) (g : Grid) : Int × Int := bif withErr c [g] != 0 then (0, withErr c [g]) else bif decide ((contF c g g.levels.length).1 < 0) then (0, 11) else bif (contF c g g.levels.length).2 then (0, 12) else ((contF c g g.levels.length).1, 0)
theorem withErr1_zero {c : Chan} {g : Grid} (h : withErr c [g] = 0) : errC c = 0 ∧ errG g = 0 := by
  rw [withErr1] at h
  cases h1 : errC c != 0 with
  | true => rw [h1] at h; simp at h1; exact absurd h h1
  | false => rw [h1] at h; exact ⟨by simpa using h1, h⟩
theorem contF_in (c : Chan) (g : Grid) : ∀ i, -1 ≤ (contF c g i).1 ∧ (contF c g i).1 < i
  | 0 => by simp [contF]
  | i + 1 => by
    have ih := contF_in c g i
    rw [contF]
    cases h : botI c g i with
    | false => simp only [Bool.not_false, cond_true]; omega
    | true =>
      simp only [Bool.not_true, cond_false]
      unfold stepC
      cases h2 : decide ((contF c g i).1 < 0) || decide (lv g i > lv g (contF c g i).1) with
      | true => simp only [cond_true]; omega
      | false => simp only [cond_false]; omega
end Go.Ch

namespace Go.Ch
open Go Go.Ax Go.Proofs Go.Proofs.Tryz
set_option maxRecDepth 100000
set_option pp.maxSteps 400
set_option maxHeartbeats 1000000

def knownF (g : Grid) (k : Int) : Bool := (decide (k ≥ 0) && decide (k < g.levels.length)) && lv g k != 30000
def hiStep (g : Grid) (b k : Int) : Int := bif knownF g k && ((decide (b < 0) || decide (lv g k > lv g b)) || (lv g k == lv g b && decide (k < b))) then k else b
def hiF (g : Grid) (l : List Int) : Int := l.foldl (hiStep g) (-1)
theorem hiF_take {g : Grid} {l : List Int} {i : Nat} (h : i < l.length) : hiF g (l.take (i + 1)) = hiStep g (hiF g (l.take i)) (l.getD i 0) := by
  unfold hiF
  rw [List.take_add_one, List.getElem?_eq_getElem h, List.foldl_append]
  have e : l.getD i 0 = l[i] := by simp [List.getD_eq_getElem?_getD, h]
  rw [e]; rfl
def botsL (c : Chan) (g : Grid) (i : Nat) : List Int := (List.range i).filterMap fun k => bif botI c g k then some (k : Int) else none
theorem botsL_succ (c : Chan) (g : Grid) (i : Nat) : botsL c g (i + 1) = bif botI c g i then botsL c g i ++ [(i : Int)] else botsL c g i := by
  unfold botsL
  rw [filterMap_range_succ]
  cases botI c g i <;> simp
theorem botsL_len (c : Chan) (g : Grid) (i : Nat) : (botsL c g i).length ≤ i := by
  have := List.length_filterMap_le (fun k => bif botI c g k then some (k : Int) else none) (List.range i)
  rw [List.length_range] at this
  exact this
theorem botsL_mem {c : Chan} {g : Grid} {i : Nat} {k : Int} (h : k ∈ botsL c g i) : 0 ≤ k ∧ k < i := by
  unfold botsL at h
  simp only [List.mem_filterMap, List.mem_range] at h
  obtain ⟨j, hj, h⟩ := h
  cases h2 : botI c g j with
  | false => rw [h2] at h; cases h
  | true => rw [h2] at h; simp at h; omega
def flF (c : Chan) (g : Grid) (i : Nat) : Nat → Nat → DV := fun k _ => dI (if k < i ∧ botI c g k = false then 30000 else g.levels.getD k 0)
def floorG (c : Chan) (g : Grid) : Grid := { g with levels := (List.range g.levels.length).map fun k => if botI c g k = false then 30000 else g.levels.getD k 0 }
end Go.Ch

namespace Go.Ch
open Go Go.Ax Go.Proofs Go.Proofs.Tryz
set_option maxRecDepth 100000
set_option pp.maxSteps 400
set_option maxHeartbeats 1000000

def unkB (g : Grid) (k : Int) : Bool := lv g k == 30000
def rCtlR (c : Chan) (g : Grid) : Int × Int := bif (botsL c g g.levels.length).isEmpty then (0, 11) else bif (botsL c g g.levels.length).any (unkB g) then (0, 12) else (hiF g (botsL c g g.levels.length), 0)
theorem cont_bots (c : Chan) (g : Grid) : ∀ i, i ≤ g.levels.length → decide ((contF c g i).1 < 0) = (botsL c g i).isEmpty ∧ (contF c g i).2 = (botsL c g i).any (unkB g) ∧ ((contF c g i).2 = false → hiF g (botsL c g i) = (contF c g i).1)
  | 0, _ => ⟨rfl, rfl, fun _ => rfl⟩
  | i + 1, hi => by
    obtain ⟨h1, h2, h3⟩ := cont_bots c g i (by omega)
    have hin := contF_in c g i
    rw [contF, botsL_succ]
    cases hb : botI c g i with
    | false => exact ⟨h1, h2, h3⟩
    | true =>
      simp only [Bool.not_true, cond_false, cond_true]
      refine ⟨?_, ?_, fun h => ?_⟩
      · rw [isEmpty_snoc]
        unfold stepC
        cases hs : decide ((contF c g i).1 < 0) || decide (lv g i > lv g (contF c g i).1) with
        | true => simp only [cond_true, decide_eq_false_iff_not]; omega
        | false =>
          simp only [Bool.or_eq_false_iff, decide_eq_false_iff_not] at hs
          simp only [cond_false, decide_eq_false_iff_not]; exact hs.1
      · unfold stepC
        rw [List.any_append, h2]
        simp [unkB]
      · unfold stepC at h ⊢
        simp only [Bool.or_eq_false_iff] at h
        have h3 := h3 h.1
        unfold hiF at h3 ⊢
        rw [List.foldl_append, h3]
        show hiStep g (contF c g i).1 i = _
        have hk : knownF g (i : Int) = true := by
          unfold knownF
          have : (lv g (i : Int) != 30000) = true := by simpa using h.2
          rw [this, decide_eq_true (show (i : Int) ≥ 0 by omega), decide_eq_true (show (i : Int) < g.levels.length by omega)]; rfl
        have hlt : decide ((i : Int) < (contF c g i).1) = false := decide_eq_false (by omega)
        unfold hiStep
        rw [hk, hlt, Bool.and_false, Bool.or_false, Bool.true_and]
theorem ctl_eq (c : Chan) (g : Grid) (h : withErr c [g] = 0) : ctlR c g = rCtlR c g := by
  obtain ⟨h1, h2, h3⟩ := cont_bots c g _ (Nat.le_refl _)
  unfold ctlR rCtlR
  rw [h, ← h1, ← h2]
  cases hb : (contF c g g.levels.length).2 with
  | true => rfl
  | false => rw [h3 hb]; rfl
end Go.Ch

/- Contracts over boxes of functions without a result: a box of the caller may become another. -/
namespace Go.Ax
open Go.RowKit

def retQ (bx' : BoxL) : Exit → St → Prop
  | .ret, σ => holdB σ.box bx'
  | .normal, σ => holdB σ.box bx'
  | _, _ => False

section
variable {P : Program} {T : List (Nat × TyI)}
theorem callQ_of_ex {rc : List Nat} {f N : Nat} {fn : Func} {c : Code} {args : List AV} {bx : BoxL} {bx' : BoxL} (hf : P.funcs[f]? = some fn) (hb : fn.body = some c) (hN : fn.ntmps = N) (hcall : ∀ vs w, (callFunc f vs).run P w = .ok (.enter f vs) w)
    (hT : TabOK P T) (hm : P.follows .mixedOrders = true) (hl : Nat.ble args.length N = true) (hreal : (bx'.all fun p => p.2.real) = true) (hrs : fn.results.toList = [])
    (h : ∀ cx : Cx, cx.ref = names bx → ex P T N (names bx) rc cx c (initR args bx) (retQ bx')) : CallR P f args bx (.t []) bx' := by
  classical
  refine ⟨hcall, fun M β w vs hG hr hM hbx hβ => ?_⟩
  refine calls_of_wp hf hb ?_
  let cx : Cx := ⟨w.heap.size, names bx, β⟩
  have hlen := hr.length
  have hl := Nat.le_of_ble_eq_true hl
  have hex : ∀ x, x ∈ names bx → ∃ p, β x = some p := fun x hx => by
    obtain ⟨k, c, e⟩ := hbx.has x hx
    exact ⟨_, e⟩
  have i0 : Inv cx N M β (initR args bx) { tmps := vs.toArray ++ Array.replicate (fn.ntmps - vs.toArray.size) undef, defers := [] } w := by
    refine ⟨rfl, by simp; omega, ⟨Nat.le_refl _, by obtain ⟨bs, hG, hN2⟩ := hG; exact ⟨bs, hG, fun g t m => ⟨hG.lt m, by rintro ⟨x, c, _, hx⟩; exact hN2 g t m x c hx⟩⟩⟩, fun t => ?_, hM, fun x p e => openB.has (hβ x p e), fun x b e => hbx.rep x b (openB.get e), fun x y b1 b2 b c c' h1 h2 e1 e2 => ?_, fun x b1 b c h1 e => ?_, fun x b1 b c h1 e => ?_, fun x hx => ⟨rfl, hex x hx⟩⟩
    · have := envOf.rep (k := 0) (t := t) (List.replicate (fn.ntmps - vs.length) undef) hr (Nat.zero_le _)
      simp only [Nat.sub_zero] at this
      simp only [initR]
      have e : (vs.toArray ++ Array.replicate (fn.ntmps - vs.toArray.size) undef).getD t undef = (vs ++ List.replicate (fn.ntmps - vs.length) undef).getD t undef := by
        simp [← List.toArray_replicate]
      rw [e]
      exact this
    · exact hbx.inj x y b c c' (mem_names (openB.get h1)) (mem_names (openB.get h2)) e1 e2
    · exact hbx.apart x b c (mem_names (openB.get h1)) e
    · exact .inr ⟨x, c, mem_names (openB.get h1), e⟩
  refine wp_mono (ex.sound hT hm (cx := cx) rfl c (h cx rfl) M β _ w i0) ?_
  rintro e a' w' ⟨σ', M', β', hk, i', hg, hkp⟩
  have fin : holdB σ'.box bx' → a'.defers = [] ∧ ∃ v, (results fn a'.tmps).run P w' = .ok v w' ∧ ∃ v' M' β', Ending.returned v = .returned v' ∧ Nm.le β β' ∧ (AV.t []).Rep M' β' v' ∧ Grow w.heap.size M M' ∧ MemOK M' w' ∧ BoxesOK M' β' w' bx' ∧
      (∀ x b c, x ∈ names bx' → β' x = some (b, c) → w.heap.size ≤ b ∨ ∃ y c', β y = some (b, c')) ∧
      w'.os = w.os ∧ w'.tape = w.tape ∧ w'.output = w.output ∧ w.heap.size ≤ w'.heap.size ∧ (∀ k, k < w.heap.size → (∀ y c, β y ≠ some (k, c)) → w'.heap[k]? = w.heap[k]?) := by
    intro hhold
    have hlive : ∀ x, x ∈ names bx' → ∃ b, getB σ'.box x = some (some b) := fun x hx => by
      obtain ⟨b, hb⟩ := of_names hx
      exact ⟨b, holdB.get hhold hb⟩
    refine ⟨i'.defers, .tuple #[], ?_, _, M', β', rfl, ?_, ⟨[], rfl, trivial⟩, hg, i'.mem, ?_, ?_, hkp.os, hkp.tape, hkp.output, hkp.size, ?_⟩
    · have e0 : fn.results = #[] := by
        rw [← Array.toArray_toList (xs := fn.results), hrs]
      have : (fn.results.mapM (resSem a'.tmps)).run P w' = .ok #[] w' := by
        rw [e0]; simp only [Array.mapM_empty, Sem.run_pure]
      have e : results fn a'.tmps = (do let vs ← fn.results.mapM (resSem a'.tmps); pure (if h : vs.size = 1 then vs[0] else .tuple vs)) := by
        unfold results
        congr 1
      rw [e]
      simp only [Sem.run_bind, this, Result.andThen, Sem.run_pure]
      rfl
    · intro x p e
      rw [(i'.ref x (hβ x p e)).1]
      exact e
    · refine ⟨fun x hx => ?_, fun x b hb => i'.box x b (holdB.get hhold hb), fun x y b c c' hx hy e1 e2 => ?_, fun x b c hx e o => ?_⟩
      · obtain ⟨b, hb⟩ := of_names hx
        rw [List.all_eq_true] at hreal
        exact (i'.box x b (holdB.get hhold hb)).exb (hreal _ hb)
      · obtain ⟨bx1, h1⟩ := hlive x hx
        obtain ⟨bx2, h2⟩ := hlive y hy
        exact i'.inj x y bx1 bx2 b c c' h1 h2 e1 e2
      · obtain ⟨bx1, h1⟩ := hlive x hx
        exact i'.apart x bx1 b c h1 e o
    · intro x b c hx e
      obtain ⟨bx1, h1⟩ := hlive x hx
      rcases i'.low x bx1 b c h1 e with h | ⟨y, c', hy, hy2⟩
      · exact .inl h
      · exact .inr ⟨y, c', hy2⟩
    · intro k hk hnk
      exact hkp.block k hk (by rintro ⟨x, c, _, hx⟩; exact hnk x c hx)
  cases e with
  | ret => exact fin hk
  | normal => exact fin hk
  | _ => exact hk.elim
end
end Go.Ax

namespace Go.Ch
open Go Go.Ax Go.Proofs Go.Proofs.Tryz
set_option maxRecDepth 100000
set_option pp.maxSteps 400
set_option maxHeartbeats 1000000

/-- What one cell has to lose. -/
def needS (g : Grid) (sum : Int) (i : Nat) (level : Int) : Int :=
  bif g.levels.getD i 0 != 30000 then w64 (sum + w64 (w64 (g.side * g.side) * mm true 0 (w64 (g.levels.getD i 0 - level)))) else sum
abbrev needB (g : Grid) (sum : Int) : BoxL := [(1001, gridB g), (1002, .cells [.d (dI sum)])]
def openB (g : Grid) : List Int → BoxL
  | [] => [(1001, gridB g), (1002, .cells [.d (.val (.slice none 0 0))])]
  | x :: r => [(1001, gridB g), (1002, .cells [.own 1003]), (1003, .row 3 (x :: r).length 1 (intEl (x :: r)))]
def openHit (g : Grid) (i : Nat) (level : Int) : Bool := g.levels.getD i 0 != 30000 && decide (g.levels.getD i 0 > level)
end Go.Ch

namespace Go.Ch
open Go Go.Ax Go.Proofs Go.Proofs.Tryz
set_option maxRecDepth 100000
set_option pp.maxSteps 400
set_option maxHeartbeats 1000000

abbrev rGE (g : Grid) (e : Int) : AV := .t [.g [.d (dI g.x), .d (dI g.y), .d (dI g.side), .d (dI g.cols), .d (dI g.rows), .d (dInts g.levels)], .s (.d (dI e))]
def zeroG : Grid := ⟨0, 0, 0, 0, 0, []⟩
theorem zero_rGE {e e' : Int} (h : e = e') : SubR (.t [.g (zvs ty24.zero), .s (.d (dI e))]) (rGE zeroG e') := by
  subst h
  exact SubR.t ⟨⟨LeD.refl _, LeD.refl _, LeD.refl _, LeD.refl _, LeD.refl _, LeD.nil, trivial⟩, LeD.refl _, trivial⟩
end Go.Ch

namespace Go.Ch
open Go Go.Ax Go.Proofs Go.Proofs.Tryz
set_option maxRecDepth 100000
set_option pp.maxSteps 400
set_option maxHeartbeats 1000000

theorem snoc_cons {α : Type} : ∀ (l : List α) (x : α), ∃ y r, l ++ [x] = y :: r
  | [], x => ⟨x, [], rfl⟩
  | y :: r, x => ⟨y, r ++ [x], rfl⟩
abbrev rIntsE (l : List Int) (e : Int) : AV := .t [.s (.d (dInts l)), .s (.d (dI e))]
end Go.Ch

namespace Go.Ch
open Go Go.Ax Go.Proofs Go.Proofs.Tryz
set_option maxRecDepth 100000
set_option pp.maxSteps 400
set_option maxHeartbeats 1000000

theorem rIntsEq (a : List Int) (ha : a.length ≤ 1000000) : CallP Tryz.prog 35 [vInts a, vInts a] (vB true) := by
  refine callP_of_ex (rc := []) (N := 26) Tryz.func35 rfl rfl Tryz.call35 tab_ok mix rfl rfl (fun cx href => ?_)
  refine And.intro (fun h => ?_) (fun _ => ?_)
  · exfalso
    have h : ((a.length : Int) != (a.length : Int)) = true := h
    simp at h
  refine AW.loopI (fun i : Nat => ⟨[(0, vInts a), (1, vInts a), (5, vI i)], []⟩) (fun i => i ≤ a.length) (fun i => a.length - i) 0 (Nat.zero_le _) ?_ ?_
  · exact SubI.of0 href [] rfl trivial ⟨⟨rfl, LeQ.rfl⟩, ⟨rfl, LeQ.rfl⟩, ⟨rfl, LeQ.rfl⟩, trivial⟩
  · intro i hi
    refine ex.sound (rc := []) tab_ok mix href _ ?_
    refine And.intro (fun h => ?_) (fun h => ?_)
    · have h : decide ((i : Int) < a.length) = true := h
      have h := of_decide_eq_true h
      refine oi ⟨by omega, by omega⟩ ?_
      refine oi ⟨by omega, by omega⟩ ?_
      refine And.intro (by kernel_rfl) ?_
      refine And.intro (fun h2 => ?_) (fun _ => ?_)
      · exfalso
        have h2 : (a.getD i 0 != a.getD i 0) = true := h2
        simp at h2
      · refine ⟨i + 1, by omega, by omega, ?_⟩
        exact SubI.of0 href [] rfl trivial ⟨⟨rfl, LeQ.rfl⟩, ⟨rfl, LeQ.rfl⟩, ⟨rfl, LeQ.int (w64_of (by omega) (by omega))⟩, trivial⟩
    · exact SubR.lit rfl

def excS (g d : Grid) (sum : Int) (i : Nat) : Int :=
  bif d.levels.getD i 0 != 30000 && g.levels.getD i 0 != 30000 then w64 (sum + w64 (w64 (g.side * g.side) * mm true 0 (w64 (g.levels.getD i 0 - d.levels.getD i 0)))) else sum
def excF (g d : Grid) : Nat → Int
  | 0 => 0
  | i + 1 => excS g d (excF g d i) i
end Go.Ch

namespace Go.Ch
open Go Go.Ax Go.Proofs Go.Proofs.Tryz
set_option maxRecDepth 100000
set_option pp.maxSteps 400
set_option maxHeartbeats 1000000

theorem rSame (g : Grid) (hl : g.levels.length ≤ 1000000) : CallP Tryz.prog 11 [grid g, grid g] (vB true) := by
  refine callP_of_ex (rc := []) (N := 45) Tryz.func11 rfl rfl Tryz.call11 tab_ok mix rfl rfl (fun cx href => ?_)
  repeat first | refine sk ?_ | refine st ?_ | refine sg ?_ | refine sh ?_ | refine su ?_ | refine sn1 ?_ | refine sn0 ?_
  refine callG (rIntsEq g.levels hl) ?_
  repeat first | refine sk ?_ | refine st ?_ | refine sg ?_ | refine sh ?_ | refine su ?_ | refine sn1 ?_ | refine sn0 ?_
  refine SubR.of_eq ?_
  show vB (((((g.x == g.x && g.y == g.y) && g.side == g.side) && g.cols == g.cols) && g.rows == g.rows) && true) = vB true
  simp
theorem errG_levels {g : Grid} {l : List Int} (h : errG g = 0) (hn : l.length = g.levels.length) (hb : l.any badL = false) : errG { g with levels := l } = 0 := by
  unfold errG at h ⊢
  rw [show e1 { g with levels := l } = e1 g from rfl]
  cases h1 : e1 g with
  | true => rw [h1] at h; cases h
  | false =>
    rw [h1] at h
    simp only [cond_false, hn, hb] at h ⊢
    cases h2 : decide (w64 (g.cols * g.rows) > 1024) with
    | true => rw [h2] at h; cases h
    | false =>
      rw [h2] at h
      simp only [cond_false] at h ⊢
      cases h3 : (decide (w64 (g.x + w64 (g.cols * g.side)) > 1000000) || decide (w64 (g.y + w64 (g.rows * g.side)) > 1000000)) with
      | true => rw [h3] at h; cases h
      | false =>
        rw [h3] at h
        simp only [cond_false] at h ⊢
        cases h4 : ((g.levels.length : Int) != w64 (g.cols * g.rows)) with
        | true => rw [h4] at h; cases h
        | false => rfl
theorem few_len {g : Grid} (h : few g = true) : g.levels.length ≤ 1100 := by
  unfold few at h
  simp only [Bool.or_eq_true, Bool.and_eq_true, decide_eq_true_eq] at h
  omega
end Go.Ch
