/- Part 3: lemmas that the proofs of this seat share; by itself it claims nothing. -/
import Derived.Scope
import Derived.Control
import Derived.Test.YtgkghihpebdpgaaPt2
/- The executor's operations yield one value: what holds of the continuation holds of that value, and it serves every continuation. -/
namespace Go.Ax
open Go.RowKit

/-- C hands some one r on. -/
def Point {α : Type} (C : (α → Prop) → Prop) (r : α) : Prop := ∀ K, K r → C K

section
variable {P : Program} {T : List (Nat × TyI)} {σ : St} {g : Option Bool}

theorem fe.point {v : AV} {K : AV → Prop} (h : fe g v K) : ∃ r, K r ∧ Point (fe g v) r := by
  cases v with
  | s x => exact ⟨_, h, fun _ k => k⟩
  | g cs => exact ⟨_, h, fun _ k => k⟩
  | t ts => exact ⟨_, h, fun _ k => k⟩
  | ib b x => cases g with
    | none => exact ⟨_, h.2, fun _ k => ⟨h.1, k⟩⟩
    | some gb => exact ⟨_, h.2, fun _ k => ⟨h.1, k⟩⟩
  | ig b cs => cases g with
    | none => exact ⟨_, h.2, fun _ k => ⟨h.1, k⟩⟩
    | some gb => exact ⟨_, h.2, fun _ k => ⟨h.1, k⟩⟩

/-- Behind a fetched operand. -/
theorem fe.pt {α : Type} {v : AV} {C : AV → (α → Prop) → Prop} {K : α → Prop} (h : fe g v fun va => C va K) (hC : ∀ va K, C va K → ∃ r, K r ∧ Point (C va) r) :
    ∃ r, K r ∧ Point (fun K => fe g v fun va => C va K) r := by
  obtain ⟨va, h1, h2⟩ := fe.point h
  obtain ⟨r, h3, h4⟩ := hC va K h1
  exact ⟨r, h3, fun K k => h2 _ (h4 K k)⟩

theorem fetch.pt {α : Type} : ∀ {l : List Operand} {C : List AV → (α → Prop) → Prop} {K : α → Prop}, fetch g σ l (fun as => C as K) → (∀ as K, C as K → ∃ r, K r ∧ Point (C as) r) →
    ∃ r, K r ∧ Point (fun K => fetch g σ l fun as => C as K) r
  | [], C, K, h, hC => by
    obtain ⟨r, h3, h4⟩ := hC [] K h
    exact ⟨r, h3, fun K k => h4 K k⟩
  | x :: r, C, K, h, hC => by
    simp only [fetch] at h ⊢
    exact fe.pt (C := fun va K => fetch g σ r fun l => C (va :: l) K) h (fun va K h => fetch.pt (C := fun l K => C (va :: l) K) h (fun as K h => hC _ K h))
theorem ints.pt {α : Type} : ∀ {l : List Operand} {C : List (IntKind × Int) → (α → Prop) → Prop} {K : α → Prop}, ints g σ l (fun as => C as K) → (∀ as K, C as K → ∃ r, K r ∧ Point (C as) r) →
    ∃ r, K r ∧ Point (fun K => ints g σ l fun as => C as K) r
  | [], C, K, h, hC => by
    obtain ⟨r, h3, h4⟩ := hC [] K h
    exact ⟨r, h3, fun K k => h4 K k⟩
  | x :: r, C, K, h, hC => by
    simp only [ints] at h ⊢
    refine fe.pt (C := fun va K => match va with | .s (.d (.val (.int k n))) => ints g σ r fun l => C ((k, n) :: l) K | _ => False) h (fun va K h => ?_)
    split at h
    · exact ints.pt (C := fun l K => C (_ :: l) K) h (fun as K h => hC _ K h)
    · exact h.elim
theorem parts.pt {α : Type} : ∀ {l : List (Nat × Operand)} {C : List (Nat × List SV) → (α → Prop) → Prop} {K : α → Prop}, parts g σ l (fun as => C as K) → (∀ as K, C as K → ∃ r, K r ∧ Point (C as) r) →
    ∃ r, K r ∧ Point (fun K => parts g σ l fun as => C as K) r
  | [], C, K, h, hC => by
    obtain ⟨r, h3, h4⟩ := hC [] K h
    exact ⟨r, h3, fun K k => h4 K k⟩
  | (i, x) :: r, C, K, h, hC => by
    simp only [parts] at h ⊢
    refine fe.pt (C := fun va K => match cellsA va with | some cs => (bif allOne cs then parts g σ r fun l => C ((i, cs) :: l) K else False) | none => False) h (fun va K h => ?_)
    split at h
    · rename_i cs hcs
      cases ho : allOne cs with
      | false => rw [ho] at h; exact h.elim
      | true =>
        rw [ho] at h
        obtain ⟨r', h1, h2⟩ := parts.pt (C := fun l K => C (_ :: l) K) h (fun as K h => hC _ K h)
        refine ⟨r', h1, fun K k => ?_⟩
        simp only [cond_true]
        exact h2 K k
    · exact h.elim

theorem loadV.pt {agg : Bool} {size : Nat} {va : AV} {K : AV → Prop} (h : loadV σ agg size g va K) : ∃ r, K r ∧ Point (loadV σ agg size g va) r := by
  unfold loadV at h
  split at h
  · rename_i x off
    split at h
    · rename_i cs hb
      split at h
      · cases hle : Nat.ble (off + size) cs.length with
        | false => rw [hle] at h; exact h.elim
        | true => rw [hle] at h; exact ⟨_, h, fun K k => by unfold loadV; simp only [hb, hle, cond_true]; exact k⟩
      · split at h
        · rename_i c hc
          exact ⟨_, h, fun K k => by unfold loadV; simp only [hb, hc]; exact k⟩
        · exact h.elim
    · exact h.elim
  · rename_i x i s o
    split at h
    · rename_i e n s' f hb
      cases hc : (Nat.beq s s' && Nat.ble (o + cnt agg size) s) with
      | false => rw [hc] at h; exact h.elim
      | true =>
        rw [hc] at h
        cases agg with
        | true => exact ⟨_, h.2, fun K k => by unfold loadV; simp only [hb, hc, cond_true]; exact ⟨h.1, k⟩⟩
        | false => exact ⟨_, h.2, fun K k => by unfold loadV; simp only [hb, hc, cond_true]; exact ⟨h.1, k⟩⟩
    · rename_i e n s' f hb
      cases hc : (Nat.beq s s' && Nat.ble (o + cnt agg size) s) with
      | false => rw [hc] at h; exact h.elim
      | true =>
        rw [hc] at h
        cases agg with
        | true => exact ⟨_, h.2, fun K k => by unfold loadV; simp only [hb, hc, cond_true]; exact ⟨h.1, k⟩⟩
        | false => exact ⟨_, h.2, fun K k => by unfold loadV; simp only [hb, hc, cond_true]; exact ⟨h.1, k⟩⟩
    · exact h.elim
  · rename_i m f
    split at h
    · cases hle : Nat.ble size m with
      | false => rw [hle] at h; exact h.elim
      | true => rw [hle] at h; exact ⟨_, h, fun K k => by unfold loadV; simp only [hle, cond_true]; exact k⟩
    · cases hle : Nat.ble 1 m with
      | false => rw [hle] at h; exact h.elim
      | true => rw [hle] at h; exact ⟨_, h, fun K k => by unfold loadV; simp only [hle, cond_true]; exact k⟩
  · exact h.elim

theorem fieldV.pt {s f : Nat} {va : AV} {K : AV → Prop} (h : fieldV T s f va K) : ∃ r, K r ∧ Point (fieldV T s f va) r := by
  unfold fieldV at h
  split at h
  case h_2 => exact h.elim
  rename_i ti hti
  split at h
  case h_2 => exact h.elim
  rename_i off sz hf
  split at h
  case h_2 => exact h.elim
  rename_i hu
  cases hz : Nat.beq sz 0 with
  | true => rw [hz] at h; exact h.elim
  | false =>
    rw [hz] at h
    simp only [cond_false] at h
    split at h
    case h_4 => exact h.elim
    all_goals exact ⟨_, h, fun K k => by unfold fieldV; simp only [hti, hf, hu, hz, cond_false]; exact k⟩

theorem idxV.pt {t : Nat} {va vi : AV} {K : AV → Prop} (h : idxV T σ t g va vi K) : ∃ r, K r ∧ Point (idxV T σ t g va vi) r := by
  unfold idxV at h
  split at h
  case h_2 => exact h.elim
  rename_i ti hti
  split at h
  case h_3 => exact h.elim
  rotate_left
  · rename_i len e hu
    split at h
    case h_2 => exact h.elim
    rename_i te hte
    split at h
    case h_2 => exact h.elim
    split at h
    case h_4 => exact h.elim
    all_goals exact ⟨_, h.2, fun K k => by unfold idxV; simp only [hti, hu, hte]; exact ⟨h.1, k⟩⟩
  rename_i e hu
  split at h
  case h_2 => exact h.elim
  rename_i te hte
  split at h
  case h_2 => exact h.elim
  split at h
  case h_5 => exact h.elim
  rotate_left
  rotate_left
  rotate_left
  · rename_i x' s lo m
    cases hs : Nat.beq s te.size with
    | false => rw [hs] at h; exact h.elim
    | true => rw [hs] at h; exact ⟨_, h.2, fun K k => by unfold idxV; simp only [hti, hu, hte, hs, cond_true]; exact ⟨h.1, k⟩⟩
  · rename_i len s f
    cases hs : Nat.beq s te.size with
    | false => rw [hs] at h; exact h.elim
    | true => rw [hs] at h; exact ⟨_, h.2, fun K k => by unfold idxV; simp only [hti, hu, hte, hs, cond_true]; exact ⟨h.1, k⟩⟩
  · split at h
    case h_2 => exact h.elim
    rename_i e' len s f hb
    cases hs : Nat.beq s te.size with
    | false => rw [hs] at h; exact h.elim
    | true => rw [hs] at h; exact ⟨_, h.2, fun K k => by unfold idxV; simp only [hti, hu, hte, hb, hs, cond_true]; exact ⟨h.1, k⟩⟩
  · split at h
    case h_2 => exact h.elim
    rename_i e' len s f hb
    cases hs : Nat.beq s te.size with
    | false => rw [hs] at h; exact h.elim
    | true => rw [hs] at h; exact ⟨_, h.2, fun K k => by unfold idxV; simp only [hti, hu, hte, hb, hs, cond_true]; exact ⟨h.1, k⟩⟩

theorem strV.pt {t : Nat} {va vi : AV} {K : AV → Prop} (h : strV T t g va vi K) : ∃ r, K r ∧ Point (strV T t g va vi) r := by
  unfold strV at h
  split at h
  case h_2 => exact h.elim
  rename_i ti hti
  split at h
  case h_3 => exact h.elim
  · rename_i hu
    split at h
    case h_2 => exact h.elim
    exact ⟨_, h.2, fun K k => by unfold strV; simp only [hti, hu]; exact ⟨h.1, k⟩⟩
  · rename_i hu
    split at h
    case h_2 => exact h.elim
    rename_i te hte
    split at h
    case h_2 => exact h.elim
    rename_i cs kk n
    obtain ⟨hin, h⟩ := h
    split at h
    · rename_i hagg
      cases hle : Nat.ble (n.toNat * te.size + te.size) cs.length with
      | false => rw [hle] at h; exact h.elim
      | true => rw [hle] at h; exact ⟨_, h, fun K k => by unfold strV; simp only [hti, hu, hte, hagg, hle, cond_true]; exact ⟨hin, k⟩⟩
    · rename_i hagg
      split at h
      case h_2 => exact h.elim
      rename_i c hc
      exact ⟨_, h, fun K k => by unfold strV; simp only [hti, hu, hte, hagg, hc]; exact ⟨hin, k⟩⟩

theorem extV.pt {n : Nat} {va : AV} {K : AV → Prop} (h : extV n va K) : ∃ r, K r ∧ Point (extV n va) r := by
  unfold extV at h
  split at h
  case h_2 => exact h.elim
  rename_i ts
  split at h
  case h_3 => exact h.elim
  · rename_i hs
    exact ⟨_, h, fun K k => by unfold extV; simp only [hs]; exact k⟩
  · rename_i hs
    exact ⟨_, h, fun K k => by unfold extV; simp only [hs]; exact k⟩

theorem unV.pt {op : UnOp} {va : AV} {K : AV → Prop} (h : unV op va K) : ∃ r, K r ∧ Point (unV op va) r := by
  unfold unV at h
  split at h
  case h_4 => exact h.elim
  · rename_i b
    cases b <;> exact ⟨_, h, fun K k => k⟩
  · exact ⟨_, h, fun K k => k⟩
  · exact ⟨_, h, fun K k => k⟩

theorem pickV.pt {g : Option Bool} {vc vx vy : AV} {K : AV → Prop} (h : pickV g vc vx vy K) : ∃ r, K r ∧ Point (pickV g vc vx vy) r := by
  unfold pickV at h
  split at h
  case h_3 => exact h.elim
  · rename_i b
    cases b
    · obtain ⟨r, h1, h2⟩ := fe.point h; exact ⟨r, h1, fun K k => h2 K k⟩
    · obtain ⟨r, h1, h2⟩ := fe.point h; exact ⟨r, h1, fun K k => h2 K k⟩
  · rename_i b
    split at h
    case h_2 => exact h.elim
    rename_i p gp q gq hp hq
    obtain ⟨h1, h2, h⟩ := h
    cases e1 : isL false vy with
    | true => rw [e1] at h; exact ⟨_, h, fun K k => by unfold pickV; simp only [hp, hq, e1, cond_true]; exact ⟨h1, h2, k⟩⟩
    | false =>
      rw [e1] at h
      cases e2 : isL true vx with
      | true => rw [e2] at h; exact ⟨_, h, fun K k => by unfold pickV; simp only [hp, hq, e1, e2, cond_true, cond_false]; exact ⟨h1, h2, k⟩⟩
      | false => rw [e2] at h; exact ⟨_, h, fun K k => by unfold pickV; simp only [hp, hq, e1, e2, cond_false]; exact ⟨h1, h2, k⟩⟩

theorem convV.pt {src dst : Nat} {va : AV} {K : AV → Prop} (h : convV T src dst va K) : ∃ r, K r ∧ Point (convV T src dst va) r := by
  unfold convV at h
  split at h
  case h_2 => exact h.elim
  rename_i ts td hts htd
  split at h
  case h_5 => exact h.elim
  · rename_i e1 e2
    exact ⟨_, h, fun K k => by unfold convV; simp only [hts, htd, e1, e2]; exact k⟩
  · rename_i e1 e2
    exact ⟨_, h, fun K k => by unfold convV; simp only [hts, htd, e1, e2]; exact k⟩
  · rename_i e1 e2
    exact ⟨_, h, fun K k => by unfold convV; simp only [hts, htd, e1, e2]; exact k⟩
  · rename_i e1 e2
    obtain ⟨n, h1, h⟩ := h
    exact ⟨_, h, fun K k => by unfold convV; simp only [hts, htd, e1, e2]; exact ⟨n, h1, k⟩⟩

theorem nilV.pt {va : AV} {K : AV → Prop} (h : nilV va K) : ∃ r, K r ∧ Point (nilV va) r := by
  unfold nilV at h
  split at h
  case h_6 => exact h.elim
  all_goals exact ⟨_, h, fun K k => k⟩

theorem lenV.pt {t : Nat} {va : AV} {K : AV → Prop} (h : lenV T σ t va K) : ∃ r, K r ∧ Point (lenV T σ t va) r := by
  unfold lenV at h
  split at h
  case h_2 => exact h.elim
  rename_i ti hti
  split at h
  case h_8 => exact h.elim
  · rename_i hu; exact ⟨_, h, fun K k => by unfold lenV; simp only [hti, hu]; exact k⟩
  · rename_i hu
    split at h
    case h_2 => exact h.elim
    rename_i hb
    exact ⟨_, h, fun K k => by unfold lenV; simp only [hti, hu, hb]; exact k⟩
  · rename_i hu
    split at h
    case h_2 => exact h.elim
    rename_i hb
    exact ⟨_, h, fun K k => by unfold lenV; simp only [hti, hu, hb]; exact k⟩
  · rename_i hu; exact ⟨_, h, fun K k => by unfold lenV; simp only [hti, hu]; exact k⟩
  · rename_i hu; exact ⟨_, h, fun K k => by unfold lenV; simp only [hti, hu]; exact k⟩
  · rename_i hu; exact ⟨_, h, fun K k => by unfold lenV; simp only [hti, hu]; exact k⟩
  · rename_i hu; exact ⟨_, h, fun K k => by unfold lenV; simp only [hti, hu]; exact k⟩

theorem buildV.pt {t : Nat} {ps : List (Nat × List SV)} {K : AV → Prop} (h : buildV T t ps K) : ∃ r, K r ∧ Point (buildV T t ps) r := by
  unfold buildV at h
  split at h
  case h_2 => exact h.elim
  rename_i ti hti
  split at h
  case h_3 => exact h.elim
  · rename_i hu
    split at h
    case h_2 => exact h.elim
    rename_i cs hcs
    exact ⟨_, h, fun K k => by unfold buildV; simp only [hti, hu, hcs]; exact k⟩
  · rename_i n e hu
    split at h
    case h_2 => exact h.elim
    rename_i te hte
    split at h
    case h_2 => exact h.elim
    rename_i cs hcs
    exact ⟨_, h, fun K k => by unfold buildV; simp only [hti, hu, hte, hcs]; exact k⟩

theorem binI.pt {op : BinOp} {k : IntKind} {x y : Int} {K : AV → Prop} (h : binI op k g x y K) : ∃ r, K r ∧ Point (binI op k g x y) r := by
  unfold binI at h
  split at h <;> first
    | exact h.elim
    | exact ⟨_, h, fun K k => k⟩
    | exact ⟨_, h.2, fun K k => ⟨h.1, k⟩⟩
theorem binS.pt {op : BinOp} {x y : ByteArray} {K : AV → Prop} (h : binS op g x y K) : ∃ r, K r ∧ Point (binS op g x y) r := by
  unfold binS at h
  split at h <;> first
    | exact h.elim
    | exact ⟨_, h, fun K k => k⟩
    | exact ⟨_, h.2, fun K k => ⟨h.1, k⟩⟩
theorem bin.pt {op : BinOp} {t : Nat} {va vb : AV} {K : AV → Prop} (h : bin T op t g va vb K) : ∃ r, K r ∧ Point (bin T op t g va vb) r := by
  unfold bin at h
  split at h
  · rename_i k a k' b
    by_cases hk : k = k'
    · subst hk
      simp only [decide_true, cond_true] at h
      obtain ⟨r, h1, h2⟩ := binI.pt h
      exact ⟨r, h1, fun K k => by unfold bin; simp only [decide_true, cond_true]; exact h2 K k⟩
    · simp only [hk, decide_false, cond_false] at h
  · obtain ⟨r, h1, h2⟩ := binS.pt h
    exact ⟨r, h1, fun K k => h2 K k⟩
  · split at h
    case h_2 => exact h.elim
    rename_i i hi
    split at h
    case h_2 => exact h.elim
    rename_i e hu
    cases op <;> first
      | exact h.elim
      | exact ⟨_, h, fun K k => by unfold bin; simp only [hi, hu]; exact k⟩
  · rename_i xs ys
    split at h
    case h_2 => exact h.elim
    rename_i i hi
    cases hc : (i.ints && (kindOK i.zero xs && kindOK i.zero ys)) with
    | false => rw [hc] at h; exact h.elim
    | true =>
      rw [hc] at h
      simp only [cond_true] at h
      split at h
      case h_2 => exact h.elim
      rename_i b hb
      cases op <;> first
        | exact h.elim
        | exact ⟨_, h, fun K k => by unfold bin; simp only [hi, hc, cond_true, hb]; exact k⟩
  · split at h
    case h_2 => exact h.elim
    rename_i i hi
    split at h
    case h_2 => exact h.elim
    rename_i e hu
    cases op <;> first
      | exact h.elim
      | exact ⟨_, h, fun K k => by unfold bin; simp only [hi, hu]; exact k⟩
  · split at h
    case h_2 => exact h.elim
    rename_i i hi
    split at h
    case h_2 => exact h.elim
    rename_i e hu
    cases op <;> first
      | exact h.elim
      | exact ⟨_, h, fun K k => by unfold bin; simp only [hi, hu]; exact k⟩
  · rename_i n1 n2 n3 n4 n5
    split at h
    case h_2 => exact h.elim
    rename_i a b ha hb
    split at h
    case h_2 => exact h.elim
    rename_i i hi
    split at h
    case h_2 => exact h.elim
    rename_i hu
    cases op <;> first
      | exact h.elim
      | exact ⟨_, h, fun K k => by unfold bin; simp only [ha, hb, hi, hu]; exact k⟩

theorem optI.pt {α : Type} {x : Option Operand} {C : Option Int → (α → Prop) → Prop} {K : α → Prop} (h : optI g σ x fun r => C r K) (hC : ∀ r K, C r K → ∃ e, K e ∧ Point (C r) e) :
    ∃ e, K e ∧ Point (fun K => optI g σ x fun r => C r K) e := by
  cases x with
  | none => exact hC none K h
  | some x =>
    simp only [optI] at h ⊢
    refine fe.pt (C := fun va K => match va with | .s (.d (.val (.int _ n))) => C (some n) K | _ => False) h (fun va K h => ?_)
    split at h
    · exact hC _ K h
    · exact h.elim

theorem doCall.pt {f : FuncId} {args : List AV} {K : AV → Prop} (h : doCall P σ g f args K) : ∃ r, K r ∧ Point (doCall P σ g f args) r := by
  obtain ⟨r, h1, h2⟩ := h
  cases hb : (!flatA r && refAs args) with
  | true => rw [hb] at h2; exact h2.elim
  | false => rw [hb] at h2; exact ⟨r, h2, fun K k => ⟨r, h1, by rw [hb]; exact k⟩⟩
theorem doCallK.pt {f : FuncId} {args : List AV} {K : AV → Prop} (h : doCallK P σ g f args K) : ∃ r, K r ∧ Point (doCallK P σ g f args) r := by
  rcases h with h | ⟨r, h1, h2⟩
  · obtain ⟨r, h1, h2⟩ := doCall.pt h
    exact ⟨r, h1, fun K k => .inl (h2 K k)⟩
  · exact ⟨r, h2, fun K k => .inr ⟨r, h1, k⟩⟩
theorem callVK.pt {vf : AV} {args : List AV} {K : AV → Prop} (h : callVK P σ g vf args K) : ∃ r, K r ∧ Point (callVK P σ g vf args) r := by
  unfold callVK at h
  split at h
  case h_3 => exact h.elim
  · obtain ⟨r, h1, h2⟩ := doCallK.pt h; exact ⟨r, h1, fun K k => h2 K k⟩
  · obtain ⟨r, h1, h2⟩ := doCallK.pt h; exact ⟨r, h1, fun K k => h2 K k⟩

theorem sliceV.pt {t : Nat} {vx : AV} {lo hi : Option Operand} {K : AV → Prop} (h : sliceV T σ t g vx lo hi K) : ∃ r, K r ∧ Point (sliceV T σ t g vx lo hi) r := by
  unfold sliceV at h
  split at h
  case h_2 => exact h.elim
  rename_i ti hti
  split at h
  case h_3 => exact h.elim
  · rename_i e hu
    split at h
    case h_2 => exact h.elim
    rename_i te hte
    split at h
    case h_5 => exact h.elim
    case h_4 =>
      obtain ⟨r, h1, h2⟩ := optI.pt (C := fun l (K : AV → Prop) => optI g σ hi fun h => Go.Ax.imp g (l.getD 0 = 0 ∧ h.getD 0 = 0) ∧ K (.s (.d (.val (.slice none 0 0))))) h (fun l K h => by
        refine optI.pt (C := fun h (K : AV → Prop) => Go.Ax.imp g (l.getD 0 = 0 ∧ h.getD 0 = 0) ∧ K (.s (.d (.val (.slice none 0 0))))) h (fun hh K h => ⟨_, h.2, fun K k => ⟨h.1, k⟩⟩))
      refine ⟨r, h1, fun K k => ?_⟩
      unfold sliceV
      simp only [hti, hu, hte]
      exact h2 K k
    · rename_i n s f
      cases hs : Nat.beq s te.size with
      | false => rw [hs] at h; exact h.elim
      | true =>
        rw [hs] at h
        simp only [cond_true] at h
        obtain ⟨r, h1, h2⟩ := optI.pt (C := fun l (K : AV → Prop) => optI g σ hi fun h => Go.Ax.imp g (0 ≤ l.getD 0 ∧ l.getD 0 ≤ h.getD n ∧ h.getD n ≤ n) ∧
              (match (generalizing := false) l with
              | none => K (.s (.d (.slc (h.getD n).toNat s f)))
              | some l => K (.s (.d (.slc (h.getD n - l).toNat s fun i => f (l.toNat + i)))))) h (fun l K h => by
          refine optI.pt (C := fun h (K : AV → Prop) => Go.Ax.imp g (0 ≤ l.getD 0 ∧ l.getD 0 ≤ h.getD n ∧ h.getD n ≤ n) ∧
              (match (generalizing := false) l with
              | none => K (.s (.d (.slc (h.getD n).toNat s f)))
              | some l => K (.s (.d (.slc (h.getD n - l).toNat s fun i => f (l.toNat + i)))))) h (fun hh K h => ?_)
          cases l with
          | none => exact ⟨_, h.2, fun K k => ⟨h.1, k⟩⟩
          | some l => exact ⟨_, h.2, fun K k => ⟨h.1, k⟩⟩)
        refine ⟨r, h1, fun K k => ?_⟩
        unfold sliceV
        simp only [hti, hu, hte, hs, cond_true]
        exact h2 K k
    · rename_i x'
      split at h
      case h_2 => exact h.elim
      rename_i e' n s f hbx
      cases hs : Nat.beq s te.size with
      | false => rw [hs] at h; exact h.elim
      | true =>
        rw [hs] at h
        simp only [cond_true] at h
        obtain ⟨r, h1, h2⟩ := optI.pt (C := fun l (K : AV → Prop) => optI g σ hi fun h => Go.Ax.imp g (0 ≤ l.getD 0 ∧ l.getD 0 ≤ h.getD n ∧ h.getD n ≤ n) ∧ K (.s (.osl x' s (l.getD 0).toNat ((h.getD n).toNat - (l.getD 0).toNat)))) h (fun l K h => by
          refine optI.pt (C := fun h (K : AV → Prop) => Go.Ax.imp g (0 ≤ l.getD 0 ∧ l.getD 0 ≤ h.getD n ∧ h.getD n ≤ n) ∧ K (.s (.osl x' s (l.getD 0).toNat ((h.getD n).toNat - (l.getD 0).toNat)))) h (fun hh K h => ⟨_, h.2, fun K k => ⟨h.1, k⟩⟩))
        refine ⟨r, h1, fun K k => ?_⟩
        unfold sliceV
        simp only [hti, hu, hte, hbx, hs, cond_true]
        exact h2 K k
    · rename_i x' s lo0 n
      cases hs : Nat.beq s te.size with
      | false => rw [hs] at h; exact h.elim
      | true =>
        rw [hs] at h
        simp only [cond_true] at h
        obtain ⟨r, h1, h2⟩ := optI.pt (C := fun l (K : AV → Prop) => optI g σ hi fun h => Go.Ax.imp g (0 ≤ l.getD 0 ∧ l.getD 0 ≤ h.getD n ∧ h.getD n ≤ n) ∧ K (.s (.osl x' s (lo0 + (l.getD 0).toNat) ((h.getD n).toNat - (l.getD 0).toNat)))) h (fun l K h => by
          refine optI.pt (C := fun h (K : AV → Prop) => Go.Ax.imp g (0 ≤ l.getD 0 ∧ l.getD 0 ≤ h.getD n ∧ h.getD n ≤ n) ∧ K (.s (.osl x' s (lo0 + (l.getD 0).toNat) ((h.getD n).toNat - (l.getD 0).toNat)))) h (fun hh K h => ⟨_, h.2, fun K k => ⟨h.1, k⟩⟩))
        refine ⟨r, h1, fun K k => ?_⟩
        unfold sliceV
        simp only [hti, hu, hte, hs, cond_true]
        exact h2 K k
  · rename_i hu
    split at h
    case h_2 => exact h.elim
    rename_i s
    obtain ⟨r, h1, h2⟩ := optI.pt (C := fun l (K : AV → Prop) => optI g σ hi fun h => Go.Ax.imp g (0 ≤ l.getD 0 ∧ l.getD 0 ≤ h.getD s.size ∧ h.getD s.size ≤ s.size) ∧
            K (.s (.d (.val (.string (s.extract (l.getD 0).toNat (h.getD s.size).toNat)))))) h (fun l K h => by
      refine optI.pt (C := fun h (K : AV → Prop) => Go.Ax.imp g (0 ≤ l.getD 0 ∧ l.getD 0 ≤ h.getD s.size ∧ h.getD s.size ≤ s.size) ∧
            K (.s (.d (.val (.string (s.extract (l.getD 0).toNat (h.getD s.size).toNat)))))) h (fun hh K h => ⟨_, h.2, fun K k => ⟨h.1, k⟩⟩))
    refine ⟨r, h1, fun K k => ?_⟩
    unfold sliceV
    simp only [hti, hu]
    exact h2 K k

theorem capV.pt {t : Nat} {va : AV} {K : AV → Prop} (h : capV T t va K) : ∃ r, K r ∧ Point (capV T t va) r := by
  unfold capV at h
  split at h
  case h_2 => exact h.elim
  rename_i ti hti
  split at h
  case h_2 => exact h.elim
  rename_i e b n c hu
  exact ⟨_, h, fun K k => by unfold capV; simp only [hti, hu]; exact k⟩
theorem lookV.pt {t : Nat} {ok : Bool} {va vb : AV} {K : AV → Prop} (h : lookV T σ t ok g va vb K) : ∃ r, K r ∧ Point (lookV T σ t ok g va vb) r := by
  unfold lookV at h
  split at h
  case h_2 => exact h.elim
  rename_i b k
  split at h
  case h_2 => exact h.elim
  rename_i vk l hb
  split at h
  case h_2 => exact h.elim
  rename_i ti hti
  split at h
  case h_2 => exact h.elim
  rename_i kt et hu
  cases hk : (isK T kt && (getT T et).isSome) with
  | false => rw [hk] at h; exact h.elim
  | true =>
    rw [hk] at h
    cases ok with
    | true => exact ⟨_, h, fun K k => by unfold lookV; simp only [hb, hti, hu, hk, cond_true]; exact k⟩
    | false => exact ⟨_, h.2, fun K k => by unfold lookV; simp only [hb, hti, hu, hk, cond_true]; exact ⟨h.1, k⟩⟩
theorem opV.pt {op : Op} {K : AV → Prop} (h : opV P T op σ g K) : ∃ r, K r ∧ Point (opV P T op σ g) r := by
  cases op with
  | move x => exact fe.point h
  | assign x => exact fe.point h
  | pick c x y => exact fe.pt (C := fun vc K => pickV g vc (ev σ x) (ev σ y) K) h (fun _ _ h => pickV.pt h)
  | load t x =>
    refine fe.pt (C := fun va K => match getT T t with | some ti => loadV σ ti.agg ti.size g va K | none => False) h (fun va K h => ?_)
    split at h
    · exact loadV.pt h
    · exact h.elim
  | fieldAddr s x f => exact fe.pt (C := fun va K => fieldV T s f va K) h (fun _ _ h => fieldV.pt h)
  | binOp op t x y ty => exact fe.pt (C := fun va K => fe g (ev σ y) fun vb => bin T op t g va vb K) h (fun va K h => fe.pt (C := fun vb K => bin T op t g va vb K) h (fun _ _ h => bin.pt h))
  | unOp op t x => exact fe.pt (C := fun va K => unV op va K) h (fun _ _ h => unV.pt h)
  | convert src dst x => exact fe.pt (C := fun va K => convV T src dst va K) h (fun _ _ h => convV.pt h)
  | nilCheck x => exact fe.pt (C := fun va K => nilV va K) h (fun _ _ h => nilV.pt h)
  | extract x k => exact extV.pt h
  | indexAddr t x y => exact fe.pt (C := fun va K => fe g (ev σ y) fun vb => idxV T σ t g va vb K) h (fun va K h => fe.pt (C := fun vb K => idxV T σ t g va vb K) h (fun _ _ h => idxV.pt h))
  | index t x y => exact fe.pt (C := fun va K => fe g (ev σ y) fun vb => strV T t g va vb K) h (fun va K h => fe.pt (C := fun vb K => strV T t g va vb K) h (fun _ _ h => strV.pt h))
  | lookup t x y ok => exact fe.pt (C := fun va K => fe g (ev σ y) fun vb => lookV T σ t ok g va vb K) h (fun va K h => fe.pt (C := fun vb K => lookV T σ t ok g va vb K) h (fun _ _ h => lookV.pt h))
  | slice t x lo hi mx =>
    cases mx with
    | some m => exact h.elim
    | none => exact fe.pt (C := fun va K => sliceV T σ t g va lo hi K) h (fun _ _ h => sliceV.pt h)
  | build t pa => exact parts.pt (C := fun ps K => buildV T t ps K) h (fun _ _ h => buildV.pt h)
  | makeFunc fn fs caps =>
    cases fn with
    | func f =>
      simp only [opV] at h
      split at h
      case h_2 => exact h.elim
      rename_i hfs
      split at h
      case h_2 => exact h.elim
      rename_i cs hcs
      exact ⟨_, h, fun K k => by simp only [opV, hfs, hcs]; exact k⟩
    | _ => exact h.elim
  | call c =>
    obtain ⟨callee, args, tys⟩ := c
    cases callee with
    | value fo => exact fe.pt (C := fun vf K => fetch g σ args.toList fun as => callVK P σ g vf as K) h (fun vf K h => fetch.pt (C := fun as K => callVK P σ g vf as K) h (fun _ _ h => callVK.pt h))
    | invoke r m => exact h.elim
    | builtin b =>
      cases b with
      | len =>
        simp only [opV] at h
        split at h
        case h_2 => exact h.elim
        rename_i x t hx ht
        obtain ⟨r, h1, h2⟩ := fe.pt (C := fun va K => lenV T σ t va K) h (fun _ _ h => lenV.pt h)
        exact ⟨r, h1, fun K k => by simp only [opV, hx, ht]; exact h2 K k⟩
      | cap =>
        simp only [opV] at h
        split at h
        case h_2 => exact h.elim
        rename_i x t hx ht
        obtain ⟨r, h1, h2⟩ := fe.pt (C := fun va K => capV T t va K) h (fun _ _ h => capV.pt h)
        exact ⟨r, h1, fun K k => by simp only [opV, hx, ht]; exact h2 K k⟩
      | max =>
        refine ints.pt (C := fun l K => match l with | (k, n) :: r => K (mmL true k n r) | [] => False) h (fun l K h => ?_)
        split at h
        · exact ⟨_, h, fun K k => k⟩
        · exact h.elim
      | min =>
        refine ints.pt (C := fun l K => match l with | (k, n) :: r => K (mmL false k n r) | [] => False) h (fun l K h => ?_)
        split at h
        · exact ⟨_, h, fun K k => k⟩
        · exact h.elim
      | _ => exact h.elim
  | _ => exact h.elim

end
end Go.Ax

/- One operation of a region that draws its order. -/
namespace Go.Ax
open Go.RowKit

/-- What an operation changes: its temporary, some boxes. -/
abbrev Ef := Option AV × Boxes
/-- The new boxes ahead of the old ones. -/
def appB : Boxes → Boxes → Boxes
  | [], s => s
  | [p], s => p :: s
  | [p, q], s => p :: q :: s
  | l, s => l ++ s
theorem appB_eq {u s : Boxes} : appB u s = u ++ s := by
  unfold appB
  split <;> rfl
/-- One box has been laid, two boxes have been laid. -/
def K1 (K : AV → Boxes → Prop) (v : AV) (bx : Boxes) : Prop :=
  match bx with
  | p :: _ => K v [p]
  | [] => False
def K2 (K : AV → Boxes → Prop) (v : AV) (bx : Boxes) : Prop :=
  match bx with
  | p :: q :: _ => K v [p, q]
  | _ => False

def opD (T : List (Nat × TyI)) (d : Nat) (op : Op) (σ : St) (K : AV → Boxes → Prop) : Prop :=
  match op with
  | .alloc t => allocX T σ d t (K1 K)
  | .box _ x => boxX σ d x (K1 K)
  | .store t x y => storeX T σ t x y (K1 K)
  | .buildSlice t len pa => bslX T σ d t len pa.toList (K1 K)
  | .call c => match c.callee with
    | .builtin .copy => match c.args.toList, c.argTypes.toList with
      | [x, y], [t, _] => copyX T σ t x y (K1 K)
      | _, _ => False
    | .builtin .append => match c.args.toList, c.argTypes.toList with
      | [x, y], [t, t'] => bif Nat.beq t t' then (match ev σ x with
        | .s (.own _) => appX T σ [] d t x y (K2 K)
        | .s (.mo _ _) => appX T σ [] d t x y (K2 K)
        | .s (.d _) => appX T σ [] d t x y (K1 K)
        | _ => False) else False
      | _, _ => False
    | _ => False
  | _ => False

section
variable {P : Program} {T : List (Nat × TyI)} {N : Nat} {ref rc : List Nat} {σ σ' : St} {d : Nat}

theorem alloc.pt {t : Nat} {C : AV → Boxes → Prop} (h : allocX T σ d t C) : ∃ r b, C r ((d, some b) :: σ.box) ∧ ∀ σ', getB σ'.box d = getB σ.box d → ∀ C' : AV → Boxes → Prop, C' r ((d, some b) :: σ'.box) → allocX T σ' d t C' := by
  unfold allocX at h
  split at h
  case h_2 => exact h.elim
  rename_i ti hti
  split at h
  case h_2 => exact h.elim
  rename_i hd
  exact ⟨_, _, h, fun σ' e C' k => by unfold allocX; simp only [hti, e, hd]; exact k⟩

theorem boxX.pt {x : Operand} {C : AV → Boxes → Prop} (h : boxX σ d x C) : ∃ r b, C r ((d, some b) :: σ.box) ∧ ∀ σ', getB σ'.box d = getB σ.box d → ev σ' x = ev σ x → ∀ C' : AV → Boxes → Prop, C' r ((d, some b) :: σ'.box) → boxX σ' d x C' := by
  unfold boxX at h
  replace h := fe.point h
  obtain ⟨va, h, hp⟩ := h
  split at h
  case h_2 => exact h.elim
  rename_i cs hcs
  cases hone : allOne cs with
  | false => rw [hone] at h; exact h.elim
  | true =>
    rw [hone] at h
    simp only [cond_true] at h
    split at h
    case h_2 => exact h.elim
    rename_i hd
    refine ⟨_, _, h, fun σ' e ex C' k => ?_⟩
    unfold boxX
    rw [ex]
    refine hp _ ?_
    simp only [hcs, hone, cond_true, e, hd]
    exact k

theorem storeX.pt {t : Nat} {x y : Operand} {C : AV → Boxes → Prop} (h : storeX T σ t x y C) : ∃ r n b, C r ((n, some b) :: σ.box) ∧ ∀ σ', getB σ'.box n = getB σ.box n → ev σ' x = ev σ x → ev σ' y = ev σ y → ∀ C' : AV → Boxes → Prop, C' r ((n, some b) :: σ'.box) → storeX T σ' t x y C' := by
  unfold storeX at h
  replace h := fe.point h
  obtain ⟨va, h, hp⟩ := h
  replace h := fe.point h
  obtain ⟨vv, h, hp2⟩ := h
  split at h
  case h_2 => exact h.elim
  rename_i ti cs hti hcs
  cases hone : (allOne cs && Nat.beq cs.length ti.size) with
  | false => rw [hone] at h; exact h.elim
  | true =>
    rw [hone] at h
    simp only [cond_true] at h
    split at h
    case h_3 => exact h.elim
    · rename_i b off
      split at h
      case h_2 => exact h.elim
      rename_i old hb
      cases hle : Nat.ble (off + ti.size) old.length with
      | false => rw [hle] at h; exact h.elim
      | true =>
        rw [hle] at h
        refine ⟨_, _, _, h, fun σ' e ex ey C' k => ?_⟩
        unfold storeX
        rw [ex, ey]
        refine hp _ (hp2 _ ?_)
        simp only [hti, hcs, hone, cond_true, e, hb, hle]
        exact k
    · rename_i b ix s off
      split at h
      case h_3 => exact h.elim
      · rename_i e n s' f hb
        cases hc : (allD cs && Nat.beq s s' && Nat.ble (off + ti.size) s) with
        | false => rw [hc] at h; exact h.elim
        | true =>
          rw [hc] at h
          refine ⟨_, _, _, h.2, fun σ' e ex ey C' k => ?_⟩
          unfold storeX
          rw [ex, ey]
          refine hp _ (hp2 _ ?_)
          simp only [hti, hcs, hone, cond_true, e, hb, hc]
          exact ⟨h.1, k⟩
      · rename_i e n s' f hb
        cases hc : (allD cs && Nat.beq s s' && Nat.ble (off + ti.size) s) with
        | false => rw [hc] at h; exact h.elim
        | true =>
          rw [hc] at h
          refine ⟨_, _, _, h.2, fun σ' e ex ey C' k => ?_⟩
          unfold storeX
          rw [ex, ey]
          refine hp _ (hp2 _ ?_)
          simp only [hti, hcs, hone, cond_true, e, hb, hc]
          exact ⟨h.1, k⟩

theorem parts.point {g : Option Bool} {l : List (Nat × Operand)} {K : List (Nat × List SV) → Prop} (h : parts g σ l K) : ∃ ps, K ps ∧ Point (parts g σ l) ps := by
  obtain ⟨r, h1, h2⟩ := parts.pt (α := List (Nat × List SV)) (C := fun ps K => K ps) h (fun ps K h => ⟨ps, h, fun _ k => k⟩)
  exact ⟨r, h1, h2⟩

theorem bslX.pt {t len : Nat} {pa : List (Nat × Operand)} {C : AV → Boxes → Prop} (h : bslX T σ d t len pa C) : ∃ r b, C r ((d, some b) :: σ.box) ∧ ∀ σ', getB σ'.box d = getB σ.box d → AgE (pa.map (·.2)) σ σ' → ∀ C' : AV → Boxes → Prop, C' r ((d, some b) :: σ'.box) → bslX T σ' d t len pa C' := by
  unfold bslX at h
  replace h := parts.point h
  obtain ⟨ps, h, hp⟩ := h
  split at h
  case h_2 => exact h.elim
  rename_i ti hti
  split at h
  case h_2 => exact h.elim
  rename_i e hu
  split at h
  case h_2 => exact h.elim
  rename_i te hte
  split at h
  case h_2 => exact h.elim
  rename_i cs hcs
  cases hc : (allD cs && Nat.ble (len * te.size) 16777216 && Nat.blt 0 te.size && Nat.beq te.zero.length te.size) with
  | false => rw [hc] at h; exact h.elim
  | true =>
    rw [hc] at h
    simp only [cond_true] at h
    split at h
    case h_2 => exact h.elim
    rename_i hd
    refine ⟨_, _, h, fun σ' e hE C' k => ?_⟩
    unfold bslX
    refine parts.congr hE (hp _ ?_)
    simp only [hti, hu, hte, hcs, hc, cond_true, e, hd]
    exact k

theorem srcX.congr {va : AV} (h : AgB (reachA σ va) σ σ') : srcX σ' va = srcX σ va := by
  have key : ∀ y, y ∈ reachA σ va → getB σ'.box y = getB σ.box y := fun y hy => h y hy
  unfold srcX
  split
  · rw [key _ (by simp [reachA, reach])]
  · rfl
  · rw [key _ (by simp [reachA, reach])]
  · rfl
theorem copyX.pt {t : Nat} {x y : Operand} {C : AV → Boxes → Prop} (h : copyX T σ t x y C) : ∃ r n b, C r ((n, some b) :: σ.box) ∧ ∀ σ', getB σ'.box n = getB σ.box n → ev σ' x = ev σ x → ev σ' y = ev σ y → AgB (reachA σ (ev σ y)) σ σ' → ∀ C' : AV → Boxes → Prop, C' r ((n, some b) :: σ'.box) → copyX T σ' t x y C' := by
  unfold copyX at h
  replace h := fe.point h
  obtain ⟨vx, h, hp⟩ := h
  replace h := fe.point (fe.imp (K' := fun r => Strip (ev σ y) r ∧ _) (fun r hs k => ⟨hs, k⟩) h)
  obtain ⟨vy, ⟨hst, h⟩, hp2⟩ := h
  split at h
  case h_2 => exact h.elim
  rename_i ti hti
  split at h
  case h_2 => exact h.elim
  rename_i e hu
  split at h
  case h_2 => exact h.elim
  rename_i te hte
  split at h
  case h_2 => exact h.elim
  rename_i k s' g hsrc
  split at h
  case h_2 => exact h.elim
  rename_i b lo m hdst
  split at h
  case h_2 => exact h.elim
  rename_i e' n s f hb
  cases hc : (Nat.beq te.size 1 && Nat.beq s 1 && Nat.beq s' 1) with
  | false => rw [hc] at h; exact h.elim
  | true =>
    rw [hc] at h
    refine ⟨_, _, _, h.2, fun σ' e ex ey hr C' kk => ?_⟩
    unfold copyX
    rw [ex, ey]
    refine hp _ (hp2 _ ?_)
    rw [← hst.reach σ] at hr
    simp only [hti, hu, hte, srcX.congr hr, hsrc, hdst, e, hb, hc, cond_true]
    exact ⟨h.1, kk⟩

theorem appX.pt {t : Nat} {x y : Operand} {C : AV → Boxes → Prop} (h : appX T σ [] d t x y C) : ∃ r u z, C r (u ++ σ.box) ∧ Strip (ev σ x) (.s z) ∧ (match z with | .d _ => ∃ p, u = [p] | _ => ∃ p q, u = [p, q]) ∧ ∀ σ', (∀ n, n ∈ u.map (·.1) → getB σ'.box n = getB σ.box n) → ev σ' x = ev σ x → ev σ' y = ev σ y → AgB (reachA σ (ev σ y)) σ σ' → ∀ C' : AV → Boxes → Prop, C' r (u ++ σ'.box) → appX T σ' [] d t x y C' := by
  unfold appX at h
  replace h := fe.point (fe.imp (K' := fun r => Strip (ev σ x) r ∧ _) (fun r hs k => ⟨hs, k⟩) h)
  obtain ⟨vx, ⟨hsx, h⟩, hp⟩ := h
  replace h := fe.point (fe.imp (K' := fun r => Strip (ev σ y) r ∧ _) (fun r hs k => ⟨hs, k⟩) h)
  obtain ⟨vy, ⟨hst, h⟩, hp2⟩ := h
  split at h
  case h_2 => exact h.elim
  rename_i ti hti
  split at h
  case h_2 => exact h.elim
  rename_i e hu
  split at h
  case h_2 => exact h.elim
  rename_i te hte
  split at h
  case h_2 => exact h.elim
  rename_i hd
  split at h
  case h_2 => exact h.elim
  rename_i m s' g hsrc
  cases hc : (Nat.beq s' te.size && Nat.blt 0 te.size && Nat.blt 0 te.bytes && Nat.beq te.zero.length te.size) with
  | false => rw [hc] at h; exact h.elim
  | true =>
    rw [hc] at h
    simp only [cond_true] at h
    split at h
    · rename_i b
      split at h
      case h_2 => exact h.elim
      rename_i e' n s f hb
      cases hc2 : (Nat.beq e' e && Nat.beq s te.size) with
      | false => rw [hc2] at h; exact h.elim
      | true =>
        rw [hc2] at h
        simp only [cond_true] at h
        refine ⟨_, [(d, some (.row e (n + m) te.size (catF n f g))), (b, none)], _, h.2.2, hsx, ⟨_, _, rfl⟩, fun σ' eb ex ey hr C' kk => ?_⟩
        have e1 : getB σ'.box d = none := by rw [eb d (by simp)]; exact hd
        have e2 : getB σ'.box b = some (some (.row e' n s f)) := by rw [eb b (by simp)]; exact hb
        unfold appX
        rw [ex, ey]
        refine hp _ (hp2 _ ?_)
        rw [← hst.reach σ] at hr
        simp only [hti, hu, hte, e1, srcX.congr hr, hsrc, hc, cond_true, e2, hc2]
        exact ⟨h.1, h.2.1, kk⟩
    · rename_i z b
      split at h
      case h_2 => exact h.elim
      rename_i e' n s f hb
      cases hc2 : (Nat.beq e' e && Nat.beq s te.size) with
      | false => rw [hc2] at h; exact h.elim
      | true =>
        rw [hc2] at h
        simp only [cond_true] at h
        refine ⟨_, [(d, some (.row e ((bif z then 0 else n) + m) te.size (catF (bif z then 0 else n) f g))), (b, none)], _, h.2.2.2, hsx, ⟨_, _, rfl⟩, fun σ' eb ex ey hr C' kk => ?_⟩
        have e1 : getB σ'.box d = none := by rw [eb d (by simp)]; exact hd
        have e2 : getB σ'.box b = some (some (.mrow e' n s f)) := by rw [eb b (by simp)]; exact hb
        unfold appX
        rw [ex, ey]
        refine hp _ (hp2 _ ?_)
        rw [← hst.reach σ] at hr
        simp only [hti, hu, hte, e1, srcX.congr hr, hsrc, hc, cond_true, e2, hc2]
        exact ⟨h.1, h.2.1, h.2.2.1, kk⟩
    · refine ⟨_, [(d, some (.row e m te.size g))], _, h.2.2, hsx, ⟨_, rfl⟩, fun σ' eb ex ey hr C' kk => ?_⟩
      have e1 : getB σ'.box d = none := by rw [eb d (by simp)]; exact hd
      unfold appX
      rw [ex, ey]
      refine hp _ (hp2 _ ?_)
      rw [← hst.reach σ] at hr
      simp only [hti, hu, hte, e1, srcX.congr hr, hsrc, hc, cond_true]
      exact ⟨h.1, h.2.1, kk⟩
    · exact h.elim

/-- The operands of an operation, and their order. -/
theorem opD.pt {op : Op} {K : AV → Boxes → Prop} (h : opD T d op σ K) :
    ∃ r u, K r u ∧ (∀ σ', (∀ n, n ∈ u.map (·.1) → getB σ'.box n = getB σ.box n) → AgE op.operands.toList σ σ' → AgB (rdOp σ op) σ σ' → ∀ K' : AV → Boxes → Prop, K' r u → opD T d op σ' K') ∧
      ∀ ref, opX T ref d op σ fun v bx => v = r ∧ bx = u ++ σ.box := by
  cases op with
  | alloc t =>
    simp only [opD] at h
    obtain ⟨r, b, h1, h2⟩ := alloc.pt h
    refine ⟨r, [(d, some b)], h1, fun σ' e _ _ K' k => ?_, fun _ => ?_⟩
    · simp only [opD]; exact h2 σ' (e d (by simp)) _ k
    · simp only [opX]; exact h2 σ rfl _ ⟨rfl, rfl⟩
  | box t x =>
    simp only [opD] at h
    obtain ⟨r, b, h1, h2⟩ := boxX.pt h
    refine ⟨r, [(d, some b)], h1, fun σ' e he _ K' k => ?_, fun _ => ?_⟩
    · simp only [opD]; exact h2 σ' (e d (by simp)) (he x (by simp [Op.operands])) _ k
    · simp only [opX]; exact h2 σ rfl rfl _ ⟨rfl, rfl⟩
  | store t x y =>
    simp only [opD] at h
    obtain ⟨r, n, b, h1, h2⟩ := storeX.pt h
    refine ⟨r, [(n, some b)], h1, fun σ' e he _ K' k => ?_, fun _ => ?_⟩
    · simp only [opD]; exact h2 σ' (e n (by simp)) (he x (by simp [Op.operands])) (he y (by simp [Op.operands])) _ k
    · simp only [opX]; exact h2 σ rfl rfl rfl _ ⟨rfl, rfl⟩
  | buildSlice t len pa =>
    simp only [opD] at h
    obtain ⟨r, b, h1, h2⟩ := bslX.pt h
    refine ⟨r, [(d, some b)], h1, fun σ' e he _ K' k => ?_, fun _ => ?_⟩
    · simp only [opD]; exact h2 σ' (e d (by simp)) (fun y hy => he y (by simpa [Op.operands] using hy)) _ k
    · simp only [opX]; exact h2 σ rfl (fun _ _ => rfl) _ ⟨rfl, rfl⟩
  | call c =>
    obtain ⟨callee, args, tys⟩ := c
    simp only [opD] at h
    split at h
    · split at h
      case h_2 => exact h.elim
      rename_i x y t t' hx ht
      obtain ⟨r, n, b, h1, h2⟩ := copyX.pt h
      have e1 : args = #[x, y] := by apply Array.ext'; simpa using hx
      have e2 : tys = #[t, t'] := by apply Array.ext'; simpa using ht
      subst e1; subst e2
      refine ⟨r, [(n, some b)], h1, fun σ' e he hr K' k => ?_, fun _ => ?_⟩
      · simp only [opD]
        exact h2 σ' (e n (by simp)) (he x (by simp [Op.operands, Call.operands])) (he y (by simp [Op.operands, Call.operands])) (hr.mono fun m hm => by
          simp only [rdOp]; exact mem_catL (j := 1) (c := y) (by simp [Op.operands, Call.operands]) hm) _ k
      · simp only [opX]; exact h2 σ rfl rfl rfl (fun _ _ => rfl) _ ⟨rfl, rfl⟩
    · split at h
      case h_2 => exact h.elim
      rename_i x y t t' hx ht
      cases htt : Nat.beq t t' with
      | false => rw [htt] at h; exact h.elim
      | true =>
        rw [htt] at h
        simp only [cond_true] at h
        have e1 : args = #[x, y] := by apply Array.ext'; simpa using hx
        have e2 : tys = #[t, t'] := by apply Array.ext'; simpa using ht
        subst e1; subst e2
        have two : ∀ {z : SV}, ev σ x = .s z → (∀ q, z ≠ .d q) → (∀ i j k l, z ≠ .osl i j k l) → (∀ σ' (K' : AV → Boxes → Prop), ev σ' x = .s z → appX T σ' [] d t x y (K2 K') → opD T d (.call ⟨.builtin .append, #[x, y], #[t, t']⟩) σ' K') → appX T σ [] d t x y (K2 K) → ∃ r u, K r u ∧ (∀ σ', (∀ n, n ∈ u.map (·.1) → getB σ'.box n = getB σ.box n) → AgE (Op.operands (.call ⟨.builtin .append, #[x, y], #[t, t']⟩)).toList σ σ' → AgB (rdOp σ (.call ⟨.builtin .append, #[x, y], #[t, t']⟩)) σ σ' → ∀ K' : AV → Boxes → Prop, K' r u → opD T d (.call ⟨.builtin .append, #[x, y], #[t, t']⟩) σ' K') ∧
            ∀ ref, opX T ref d (.call ⟨.builtin .append, #[x, y], #[t, t']⟩) σ fun v bx => v = r ∧ bx = u ++ σ.box := by
          intro z hz hnd hno hop h
          obtain ⟨r, u, z', h1, hst, hu, h2⟩ := appX.pt h
          rw [hz] at hst
          have hzz : z' = z := by
            rcases hst with e | ⟨_, _, e, _⟩ | ⟨_, _, e, _⟩
            · cases e; rfl
            · cases e
            · cases e
          subst hzz
          have hu : ∃ p q, u = [p, q] := by
            split at hu
            · rename_i q; exact absurd rfl (hnd q)
            · exact hu
          obtain ⟨p, q, rfl⟩ := hu
          refine ⟨r, [p, q], h1, fun σ' e he hr K' k => ?_, fun ref => ?_⟩
          · have ex := he x (by simp [Op.operands, Call.operands])
            refine hop σ' K' (ex.trans hz) ?_
            exact h2 σ' e ex (he y (by simp [Op.operands, Call.operands])) (hr.mono fun m hm => by
              simp only [rdOp]; exact mem_catL (j := 1) (c := y) (by simp [Op.operands, Call.operands]) hm) _ k
          · have := h2 σ (fun _ _ => rfl) rfl rfl (fun _ _ => rfl) (fun v bx => v = r ∧ bx = [p, q] ++ σ.box) ⟨rfl, rfl⟩
            simp only [opX, htt, cond_true, hz]
            split
            · rename_i e; cases e; exact absurd rfl (hno _ _ _ _)
            · exact this
        split at h
        · rename_i b hv
          exact two hv (fun q e => nomatch e) (fun i j k l e => nomatch e) (fun σ' K' e h => by simp only [opD, htt, cond_true, e]; exact h) h
        · rename_i b c hv
          exact two hv (fun q e => nomatch e) (fun i j k l e => nomatch e) (fun σ' K' e h => by simp only [opD, htt, cond_true, e]; exact h) h
        · rename_i q hv
          obtain ⟨r, u, z', h1, hst, hu, h2⟩ := appX.pt h
          rw [hv] at hst
          have hzz : z' = .d q := by
            rcases hst with e | ⟨_, _, e, _⟩ | ⟨_, _, e, _⟩
            · cases e; rfl
            · cases e
            · cases e
          subst hzz
          obtain ⟨p, rfl⟩ := hu
          refine ⟨r, [p], h1, fun σ' e he hr K' k => ?_, fun ref => ?_⟩
          · have ex := he x (by simp [Op.operands, Call.operands])
            have := h2 σ' e ex (he y (by simp [Op.operands, Call.operands])) (hr.mono fun m hm => by
              simp only [rdOp]; exact mem_catL (j := 1) (c := y) (by simp [Op.operands, Call.operands]) hm) (K1 K') k
            simp only [opD, htt, cond_true, ex, hv]
            exact this
          · have := h2 σ (fun _ _ => rfl) rfl rfl (fun _ _ => rfl) (fun v bx => v = r ∧ bx = [p] ++ σ.box) ⟨rfl, rfl⟩
            simp only [opX, htt, cond_true, hv]
            exact this
        · exact h.elim
    · exact h.elim
  | _ => exact h.elim

/-- The boxes that live. -/
def liveB (box : Boxes) (x : Nat) : Option Box := match getB box x with
  | some (some b) => some b
  | _ => none
theorem liveB_some {box : Boxes} {x : Nat} {b : Box} : liveB box x = some b ↔ getB box x = some (some b) := by
  unfold liveB
  split
  · rename_i c h; rw [h]; simp
  · rename_i h
    constructor
    · intro h2; cases h2
    · intro h2; exact absurd h2 (h b)
theorem liveB_or {u v : Boxes} {x : Nat} (h : liveB u x = liveB v x) : getB u x = getB v x ∨ ((∀ b, getB u x ≠ some (some b)) ∧ ∀ b, getB v x ≠ some (some b)) := by
  cases hu : liveB u x with
  | some b =>
    rw [hu] at h
    exact .inl ((liveB_some.1 hu).trans (liveB_some.1 h.symm).symm)
  | none =>
    rw [hu] at h
    refine .inr ⟨fun b hb => ?_, fun b hb => ?_⟩
    · rw [liveB_some.2 hb] at hu; cases hu
    · rw [liveB_some.2 hb] at h; cases h
theorem dS_live {σ σ' : St} (h : ∀ x, liveB σ.box x = liveB σ'.box x) : ∀ (n : Nat) (x : SV), dS n σ x = dS n σ' x := by
  have own : ∀ n x, dS n σ (.own x) = dS n σ' (.own x) := by
    intro n x
    cases n <;>
    · simp only [dS]
      rcases liveB_or (h x) with e | ⟨e1, e2⟩
      · rw [e]
      · split
        · rename_i hb; exact absurd hb (e1 _)
        · split
          · rename_i hb; exact absurd hb (e2 _)
          · rfl
  have mo : ∀ n z x, dS n σ (.mo z x) = dS n σ' (.mo z x) := by
    intro n z x
    cases n <;>
    · simp only [dS]
      rcases liveB_or (h x) with e | ⟨e1, e2⟩
      · rw [e]
      · split
        · rename_i hb; exact absurd hb (e1 _)
        · split
          · rename_i hb; exact absurd hb (e2 _)
          · rfl
  have osl : ∀ n x s lo m, dS n σ (.osl x s lo m) = dS n σ' (.osl x s lo m) := by
    intro n x s lo m
    cases n <;>
    · simp only [dS]
      rcases liveB_or (h x) with e | ⟨e1, e2⟩
      · rw [e]
      · split
        · rename_i hb; exact absurd hb (e1 _)
        · split
          · rename_i hb; exact absurd hb (e2 _)
          · rfl
  intro n
  induction n with
  | zero =>
    intro x
    cases x with
    | own x => exact own _ _
    | mo z x => exact mo _ _ _
    | osl x s lo m => exact osl _ _ _ _ _
    | _ => rfl
  | succ n ih =>
    intro x
    cases x with
    | own x => exact own _ _
    | mo z x => exact mo _ _ _
    | osl x s lo m => exact osl _ _ _ _ _
    | ptr x off =>
      simp only [dS]
      rcases liveB_or (h x) with e | ⟨e1, e2⟩
      · rw [e]
        split
        · rename_i cs hb
          congr 1
          funext j
          split
          · exact ih _
          · rfl
        · rfl
      · split
        · rename_i hb; exact absurd hb (e1 _)
        · split
          · rename_i hb; exact absurd hb (e2 _)
          · rfl
    | clo f cs =>
      simp only [dS]
      congr 1
      funext i
      split
      · rfl
      · exact ih _
      · rfl
    | _ => rfl
theorem convAs_live {σ σ' : St} (h : ∀ x, liveB σ.box x = liveB σ'.box x) (l : List AV) : convAs σ l = convAs σ' l := by
  have hs : ∀ cs : List SV, convSs σ cs = convSs σ' cs := by
    intro cs
    induction cs with
    | nil => rfl
    | cons c r ih => simp only [convSs, convS, ih, dS_live h]
  induction l with
  | nil => rfl
  | cons v r ih =>
    simp only [convAs, ih]
    congr 1
    cases v with
    | s x => simp only [convA, convS, dS_live h]
    | g cs => simp only [convA, hs]
    | _ => rfl
theorem keepO_live {zs : List Nat} {x : Nat} : ∀ {box : Boxes}, liveB (keepO zs box) x = bif zs.contains x then liveB box x else none
  | [] => by cases zs.contains x <;> rfl
  | (k, b) :: r => by
    have ih := keepO_live (zs := zs) (x := x) (box := r)
    unfold liveB at *
    rw [keepO, getB_cons, getB_cons]
    by_cases e : k = x
    · subst e
      rw [if_pos rfl, if_pos rfl]
      cases zs.contains k <;> rfl
    · rw [if_neg e, if_neg e]; exact ih
theorem killO_none {zs : List Nat} {x : Nat} : ∀ {box : Boxes}, getB (killO zs box) x = match getB box x with
    | none => none
    | some b => some (bif zs.contains x then none else b)
  | [] => rfl
  | (k, b) :: r => by
    rw [killO, getB_cons, getB_cons]
    by_cases e : k = x
    · subst e
      rw [if_pos rfl, if_pos rfl]
    · rw [if_neg e, if_neg e]; exact killO_none
def deadL (zs : List Nat) : Boxes := zs.map fun z => (z, none)
theorem deadL_get {zs : List Nat} {x : Nat} : getB (deadL zs) x = bif zs.contains x then some none else none := by
  induction zs with
  | nil => rfl
  | cons z r ih =>
    show getB ((z, none) :: deadL r) x = _
    rw [getB_cons]
    by_cases e : z = x
    · subst e; rw [if_pos rfl]; simp
    · rw [if_neg e, ih]
      have : (z :: r).contains x = r.contains x := by
        simp only [List.contains_cons]
        rw [show (x == z) = false by simpa using fun h => e h.symm]
        rfl
      rw [this]

/-- A call that makes a box, or one that takes over boxes as data, in a region that draws its order; asked for by the function's number and a million, or two. -/
def isRD (rc : List Nat) (σ : St) (op : Op) : Option (Operand × List Operand) :=
  match op with
  | .call { callee := .value fo, args, .. } => match ev σ fo with
    | .s (.clo f _) => bif rc.contains (f + 1000000) || rc.contains (f + 2000000) then some (fo, args.toList) else none
    | _ => none
  | _ => none
def callOD (P : Program) (rc : List Nat) (σ : St) (vf : AV) (as : List AV) (K : AV → Boxes → Prop) : Prop :=
  match vf with
  | .s (.clo f cs) => bif rc.contains (f + 2000000) then
      ∃ zs r, (zs.all fun z => (liveB σ.box z).isSome) = true ∧ CallP P f (convAs ⟨σ.env, keepO zs σ.box⟩ (as ++ capA cs)) r ∧ K r (deadL zs)
    else ∃ ren args r y b, CallR P f args [] r [(y, b)] ∧ as ++ capA cs = renAs ren args ∧ renOK ren [] args [] r [(y, b)] = true ∧ getB σ.box (look ren y) = none ∧ K (renA ren r) [(look ren y, some (renB ren b))]
  | _ => False
theorem isRD.op {rc : List Nat} {o : Oper} {fo : Operand} {l : List Operand} (h : isRD rc σ o.op = some (fo, l)) : (∃ f cs, ev σ fo = .s (.clo f cs)) ∧ ∃ args tys, o.op = .call { callee := .value fo, args := args, argTypes := tys } ∧ args.toList = l := by
  unfold isRD at h
  split at h
  · rename_i fo' args tys hop
    split at h
    · rename_i f cs hv
      cases hc : (rc.contains (f + 1000000) || rc.contains (f + 2000000)) with
      | false => rw [hc] at h; cases h
      | true => rw [hc] at h; simp only [cond_true, Option.some.injEq, Prod.mk.injEq] at h; obtain ⟨rfl, rfl⟩ := h; exact ⟨⟨_, _, hv⟩, _, _, hop, rfl⟩
    · cases h
  · cases h
theorem isRD.congr {rc : List Nat} {op : Op} (he : AgE op.operands.toList σ σ') : isRD rc σ' op = isRD rc σ op := by
  unfold isRD
  split
  · rw [he _ (by simp [Op.operands, Call.operands])]
  · rfl
theorem callOD.pt {vf : AV} {as : List AV} {K : Ef → Prop} (h : callOD P rc σ vf as fun v u => K (some v, u)) : ∃ e, K e ∧ Point (fun K : Ef → Prop => callOD P rc σ vf as fun v u => K (some v, u)) e := by
  unfold callOD at h
  split at h
  case h_2 => exact h.elim
  rename_i f cs
  cases hc : rc.contains (f + 2000000) with
  | true =>
    rw [hc] at h
    simp only [cond_true] at h
    obtain ⟨zs, r, h1, h2, h3⟩ := h
    exact ⟨_, h3, fun K k => by simp only [callOD, hc, cond_true]; exact ⟨zs, r, h1, h2, k⟩⟩
  | false =>
    rw [hc] at h
    simp only [cond_false] at h
    obtain ⟨ren, args, r, y, b, h1, h2, h3, h4, h5⟩ := h
    exact ⟨_, h5, fun K k => by simp only [callOD, hc, cond_false]; exact ⟨ren, args, r, y, b, h1, h2, h3, h4, k⟩⟩
theorem callOD.congr {vf : AV} {as : List AV} {K K' : AV → Boxes → Prop} (hk : ∀ v u, K v u → (∀ n, n ∈ u.map (·.1) → getB σ'.box n = getB σ.box n) ∧ K' v u) (h : callOD P rc σ vf as K) : callOD P rc σ' vf as K' := by
  unfold callOD at *
  split at h
  case h_2 => exact h.elim
  rename_i f cs
  cases hc : rc.contains (f + 2000000) with
  | true =>
    rw [hc] at h
    simp only [cond_true] at h
    simp only [cond_true]
    obtain ⟨zs, r, h1, h2, h3⟩ := h
    obtain ⟨q1, q2⟩ := hk _ _ h3
    have q : ∀ z, z ∈ zs → getB σ'.box z = getB σ.box z := fun z hz => q1 z (by unfold deadL; rw [List.map_map]; exact List.mem_map.2 ⟨z, hz, rfl⟩)
    refine ⟨zs, r, ?_, ?_, q2⟩
    · rw [List.all_eq_true] at h1 ⊢
      intro z hz
      have := h1 z hz
      unfold liveB at this ⊢
      rw [q z hz]; exact this
    · rw [convAs_live (σ' := ⟨σ.env, keepO zs σ.box⟩)]
      · exact h2
      · intro x
        show liveB (keepO zs σ'.box) x = liveB (keepO zs σ.box) x
        rw [keepO_live, keepO_live]
        cases hz : zs.contains x with
        | false => rfl
        | true =>
          have hz : x ∈ zs := by simpa using hz
          unfold liveB
          rw [q x hz]
  | false =>
    rw [hc] at h
    simp only [cond_false] at h
    simp only [cond_false]
    obtain ⟨ren, args, r, y, b, h1, h2, h3, h4, h5⟩ := h
    obtain ⟨q1, q2⟩ := hk _ _ h5
    exact ⟨ren, args, r, y, b, h1, h2, h3, (q1 _ (by simp)).trans h4, q2⟩
theorem callOD.spec {o : Oper} {fo : Operand} {l : List Operand} {K : AV → Boxes → Prop} {cx : Cx} (hq : isRD rc σ o.op = some (fo, l)) (hrc : ∀ f, rc.contains (f + 2000000) = true → cx.ref = [])
    (h : fe none (ev σ fo) fun vf => fetch none σ l fun as => callOD P rc σ vf as K) :
    ∃ r u, K r u ∧ ∀ N M β a w, Inv cx N M β σ a w → ∃ f vs, (execOp a.eval o).run P w = .ok (.enter f vs) w ∧
      Calls P f vs w fun e w' => ∃ v M' β', e = .returned v ∧ r.Rep M' β' v ∧ Inv cx N M' β' ⟨σ.env, u ++ σ.box⟩ a w' ∧ Grow cx.B M M' ∧ Keep cx w w' := by
  obtain ⟨⟨f, cs, hv⟩, ho⟩ := isRD.op hq
  have h2 : fetch none σ l fun as => callOD P rc σ (.s (.clo f cs)) as K := by rw [hv] at h; exact h
  cases hc : rc.contains (f + 2000000) with
  | true =>
    have h3 : fe none (ev σ fo) fun vf => fetch none σ l fun as => eatX P σ vf as fun r bx => ∃ zs, (zs.all fun z => (liveB σ.box z).isSome) = true ∧ K r (deadL zs) ∧ bx = killO zs σ.box := by
      rw [hv]
      refine fetch.congr (fun _ _ => rfl) (fun as _ h => ?_) h2
      unfold callOD at h
      simp only [hc, cond_true] at h
      obtain ⟨zs, r, h1, h2, h3⟩ := h
      exact ⟨zs, r, h2, zs, h1, h3, rfl⟩
    obtain ⟨r, bx, ⟨zs, hz, hk, rfl⟩, hs⟩ := eat.spec ho h3
    refine ⟨r, _, hk, fun N M β a w i => ?_⟩
    obtain ⟨f, vs, hrun, hcall⟩ := hs cx N M β a w (hrc _ hc) i
    refine ⟨f, vs, hrun, hcall.mono ?_⟩
    rintro e w' ⟨v, M', β', e1, hr, i', hg, hkp⟩
    have hb : ∀ x, getB (deadL zs ++ σ.box) x = getB (killO zs σ.box) x := by
      intro x
      have happ : getB (deadL zs ++ σ.box) x = match getB (deadL zs) x with | some y => some y | none => getB σ.box x := by
        generalize deadL zs = u
        induction u with
        | nil => rfl
        | cons p r ih =>
          obtain ⟨k, b⟩ := p
          rw [List.cons_append, getB_cons, getB_cons]
          by_cases e : k = x
          · rw [if_pos e, if_pos e]
          · rw [if_neg e, if_neg e]; exact ih
      rw [happ, deadL_get, killO_none]
      cases hx : zs.contains x with
      | false => cases getB σ.box x <;> rfl
      | true =>
        have hx : x ∈ zs := by simpa using hx
        rw [List.all_eq_true] at hz
        have := hz x hx
        cases hg : getB σ.box x with
        | none => unfold liveB at this; rw [hg] at this; cases this
        | some b => rfl
    refine ⟨v, M', β', e1, hr, ⟨i'.defers, i'.tmps, i'.heap, i'.env, i'.mem, fun x p e => by rw [hb]; exact i'.keys x p e, fun x bc e => i'.box x bc (by rw [← hb]; exact e),
      fun x y bx bby b c c' ex ey => i'.inj x y bx bby b c c' (by rw [← hb]; exact ex) (by rw [← hb]; exact ey), fun x bc b c e => i'.apart x bc b c (by rw [← hb]; exact e), fun x bc b c e => i'.low x bc b c (by rw [← hb]; exact e), i'.ref⟩, hg, hkp⟩
  | false =>
    have h3 : fe none (ev σ fo) fun vf => fetch none σ l fun as => callRX P σ vf as fun v bx => ∃ u, K v u ∧ bx = u ++ σ.box := by
      rw [hv]
      refine fetch.congr (fun _ _ => rfl) (fun as _ h => ?_) h2
      unfold callOD at h
      simp only [hc, cond_false] at h
      obtain ⟨ren, args, r, y, b, h1, h2, h3, h4, h5⟩ := h
      refine ⟨ren, args, [], r, [(y, b)], h1, h2, trivial, ?_, _, h5, rfl⟩
      simp only [renOK, Bool.and_eq_true] at h3 ⊢
      refine ⟨h3.1, ?_⟩
      simp [names, freshL, h4]
    obtain ⟨r, bx, ⟨u, hk, rfl⟩, hs⟩ := callR.spec ho h3
    exact ⟨r, u, hk, fun N M β a w i => hs cx N M β a w i⟩

/-- One operation of the region. -/
def stepD (P : Program) (T : List (Nat × TyI)) (N : Nat) (rc : List Nat) (all : List Oper) (o : Oper) (σ : St) (K : Ef → Prop) : Prop :=
  let run : Prop := match o.dst with
    | some d => bif Nat.blt d N then
        (match isX o.op with
        | true => opD T d o.op σ fun v u => K (some v, u)
        | false => match isRD rc σ o.op with
          | some (fo, args) => fe none (ev σ fo) fun vf => fetch none σ args fun as => callOD P rc σ vf as fun v u => K (some v, u)
          | none => opV P T o.op σ none fun v => K (some v, [])) else False
    | none => match isX o.op with
        | true => opD T 0 o.op σ fun _ u => K (none, u)
        | false => False
  match o.guard with
  | none => run
  | some (j, pol) => match guardTmp all j with
    | none => False
    | some t => match getE σ.env t with
      | .s (.d (.lit b)) => match b, pol with
        | true, true => run
        | false, false => run
        | _, _ => match o.dst with
          | some d => bif Nat.blt d N then K (some (.s (.d .junk)), []) else False
          | none => K (none, [])
      | .s (.d (.val (.bool b))) => match isX o.op with
        | true => b = pol ∧ run
        | false => match o.dst with
          | some d => bif Nat.blt d N then opV P T o.op σ (some (gpol pol b)) fun v => K (some (wrapG (gpol pol b) v), []) else False
          | none => False
      | .ib c (.d (.val (.bool b))) => match isX o.op with
        | true => False
        | false => match o.dst with
          | some d => bif Nat.blt d N then opV P T o.op σ (some (c && gpol pol b)) fun v => K (some (wrapG (c && gpol pol b) v), []) else False
          | none => False
      | _ => False

def appE (o : Oper) (e : Ef) (σ : St) : St :=
  ⟨match o.dst, e.1 with | some d, some v => (d, v) :: σ.env | _, _ => σ.env, appB e.2 σ.box⟩

end
end Go.Ax

/- Any order of the operations comes to the same state. -/
namespace Go.Ax
open Go.RowKit

section
variable {P : Program} {T : List (Nat × TyI)} {N : Nat} {ref rc : List Nat} {all : List Oper}

theorem stepD.pt {o : Oper} {σ : St} {K : Ef → Prop} (h : stepD P T N rc all o σ K) : ∃ e, K e ∧ Point (stepD P T N rc all o σ) e := by
  have run : ∀ {K : Ef → Prop}, (match o.dst with
    | some d => bif Nat.blt d N then
        (match isX o.op with
        | true => opD T d o.op σ fun v u => K (some v, u)
        | false => match isRD rc σ o.op with
          | some (fo, args) => fe none (ev σ fo) fun vf => fetch none σ args fun as => callOD P rc σ vf as fun v u => K (some v, u)
          | none => opV P T o.op σ none fun v => K (some v, [])) else False
    | none => match isX o.op with
        | true => opD T 0 o.op σ fun _ u => K (none, u)
        | false => False) → ∃ e, K e ∧ ∀ K' : Ef → Prop, K' e → (match o.dst with
    | some d => bif Nat.blt d N then
        (match isX o.op with
        | true => opD T d o.op σ fun v u => K' (some v, u)
        | false => match isRD rc σ o.op with
          | some (fo, args) => fe none (ev σ fo) fun vf => fetch none σ args fun as => callOD P rc σ vf as fun v u => K' (some v, u)
          | none => opV P T o.op σ none fun v => K' (some v, [])) else False
    | none => match isX o.op with
        | true => opD T 0 o.op σ fun _ u => K' (none, u)
        | false => False) := by
    intro K h
    split at h
    · rename_i d hd
      cases hN : Nat.blt d N with
      | false => rw [hN] at h; exact h.elim
      | true =>
        rw [hN] at h
        simp only [cond_true] at h ⊢
        split at h
        · obtain ⟨r, u, h1, h2, _⟩ := opD.pt h
          exact ⟨_, h1, fun K' k => h2 σ (fun _ _ => rfl) (fun _ _ => rfl) (fun _ _ => rfl) _ k⟩
        · split at h
          · rename_i fo args hq
            obtain ⟨r, h1, h2⟩ := fe.pt (C := fun vf K => fetch none σ args fun as => callOD P rc σ vf as fun v u => K (some v, u)) h (fun vf K h => fetch.pt (C := fun as K => callOD P rc σ vf as fun v u => K (some v, u)) h (fun _ _ h => callOD.pt h))
            exact ⟨r, h1, fun K' k => h2 K' k⟩
          · obtain ⟨r, h1, h2⟩ := opV.pt h
            exact ⟨_, h1, fun K' k => h2 _ k⟩
    · split at h
      · obtain ⟨r, u, h1, h2, _⟩ := opD.pt h
        exact ⟨_, h1, fun K' k => h2 σ (fun _ _ => rfl) (fun _ _ => rfl) (fun _ _ => rfl) _ k⟩
      · exact h.elim
  unfold stepD at h
  simp only at h
  split at h
  · rename_i hg
    obtain ⟨e, h1, h2⟩ := run h
    refine ⟨e, h1, fun K' k => ?_⟩
    unfold stepD
    simp only [hg]
    exact h2 K' k
  · rename_i j pol hg
    split at h
    · exact h.elim
    · rename_i t ht
      split at h
      · rename_i b hv
        have skip : (match o.dst with
          | some d => bif Nat.blt d N then K (some (.s (.d .junk)), []) else False
          | none => K (none, [])) → ∃ e, K e ∧ ∀ K' : Ef → Prop, K' e → (match o.dst with
          | some d => bif Nat.blt d N then K' (some (.s (.d .junk)), []) else False
          | none => K' (none, [])) := by
          intro h
          split at h
          · rename_i d hd
            cases hN : Nat.blt d N with
            | false => rw [hN] at h; exact h.elim
            | true => rw [hN] at h; exact ⟨_, h, fun K' k => k⟩
          · exact ⟨_, h, fun K' k => k⟩
        cases b <;> cases pol
        · obtain ⟨e, h1, h2⟩ := run h
          exact ⟨e, h1, fun K' k => by unfold stepD; simp only [hg, ht, hv]; exact h2 K' k⟩
        · obtain ⟨e, h1, h2⟩ := skip h
          exact ⟨e, h1, fun K' k => by unfold stepD; simp only [hg, ht, hv]; exact h2 K' k⟩
        · obtain ⟨e, h1, h2⟩ := skip h
          exact ⟨e, h1, fun K' k => by unfold stepD; simp only [hg, ht, hv]; exact h2 K' k⟩
        · obtain ⟨e, h1, h2⟩ := run h
          exact ⟨e, h1, fun K' k => by unfold stepD; simp only [hg, ht, hv]; exact h2 K' k⟩
      · rename_i b hv
        split at h
        · rename_i hx
          have run' := @run
          simp only [hx] at run'
          obtain ⟨e, h1, h2⟩ := run' h.2
          refine ⟨e, h1, fun K' k => ?_⟩
          unfold stepD
          simp only [hg, ht, hv, hx]
          exact ⟨h.1, h2 K' k⟩
        · rename_i hx
          split at h
          · rename_i d hd
            cases hN : Nat.blt d N with
            | false => rw [hN] at h; exact h.elim
            | true =>
              rw [hN] at h
              obtain ⟨r, h1, h2⟩ := opV.pt h
              exact ⟨_, h1, fun K' k => by unfold stepD; simp only [hg, ht, hv, hx, hd, hN, cond_true]; exact h2 _ k⟩
          · exact h.elim
      · rename_i c b hv
        split at h
        · exact h.elim
        · rename_i hx
          split at h
          · rename_i d hd
            cases hN : Nat.blt d N with
            | false => rw [hN] at h; exact h.elim
            | true =>
              rw [hN] at h
              obtain ⟨r, h1, h2⟩ := opV.pt h
              exact ⟨_, h1, fun K' k => by unfold stepD; simp only [hg, ht, hv, hx, hd, hN, cond_true]; exact h2 _ k⟩
          · exact h.elim
      · exact h.elim

/-- What an operation reads and writes among the boxes. -/
abbrev Foot := List Nat × List Nat
def footOf (σ : St) (o : Oper) (e : Ef) : Foot := (rdOp σ o.op, e.2.map (·.1))

def AgT (all : List Oper) (o : Oper) (σ σ' : St) : Prop := ∀ t, t ∈ o.looksAt all.toArray → getE σ'.env t = getE σ.env t

theorem AgT.ev {o : Oper} {σ σ' : St} (h : AgT all o σ σ') : AgE o.op.operands.toList σ σ' := by
  intro x hx
  cases x with
  | tmp t =>
    refine h t ?_
    simp only [Oper.looksAt, List.mem_append, List.mem_filterMap]
    exact .inl ⟨_, hx, rfl⟩
  | _ => rfl
theorem AgT.guard {o : Oper} {σ σ' : St} (h : AgT all o σ σ') {j : Nat} {pol : Bool} {t : Nat} (hg : o.guard = some (j, pol)) (ht : guardTmp all j = some t) : getE σ'.env t = getE σ.env t := by
  refine h t ?_
  simp only [Oper.looksAt, List.mem_append, hg]
  refine .inr ?_
  have : ((all.toArray[j]?).bind (·.dst)) = some t := by simpa [guardTmp] using ht
  rw [this]
  simp

theorem rdOp.congr {op : Op} {σ σ' : St} (he : AgE op.operands.toList σ σ') (hb : AgB (rdOp σ op) σ σ') : rdOp σ' op = rdOp σ op := by
  have hr : ∀ (n : Nat) (x : SV), AgB (reach n σ x) σ σ' → reach n σ' x = reach n σ x := by
    intro n
    induction n with
    | zero => intro x _; cases x <;> rfl
    | succ n ih =>
      intro x h
      have cat : ∀ {α : Type} (f f' : α → List Nat) (l : List α), (∀ c, c ∈ l → f' c = f c) → catL f' l = catL f l := by
        intro α f f' l hl
        induction l with
        | nil => rfl
        | cons c r ihl => simp only [catL]; rw [hl c (by simp), ihl (fun c hc => hl c (List.mem_cons_of_mem _ hc))]
      cases x with
      | ptr x off =>
        simp only [reach, h x (by simp [reach])]
        congr 1
        cases hb : getB σ.box x with
        | none => rfl
        | some y => cases y with
          | none => rfl
          | some bc => cases bc with
            | row e n s f => rfl
            | mrow e n s f => rfl
            | map vk l => rfl
            | iter q n t => rfl
            | cells cs =>
              simp only
              refine cat _ _ cs (fun c hc => ih c (fun m hm => h m ?_))
              simp only [reach, hb]
              obtain ⟨j, hj⟩ := List.getElem?_of_mem hc
              exact List.mem_cons_of_mem _ (mem_catL hj hm)
      | clo f cs =>
        simp only [reach]
        refine cat _ _ cs (fun c hc => ?_)
        cases c with
        | d x => rfl
        | ptr x off =>
          refine ih _ (fun m hm => h m ?_)
          obtain ⟨j, hj⟩ := List.getElem?_of_mem hc
          exact mem_catL (f := fun c => match c with | .d _ => [] | .ptr x off => reach n σ (.ptr x off)) hj hm
      | _ => rfl
  have hrA : ∀ v : AV, AgB (reachA σ v) σ σ' → reachA σ' v = reachA σ v := by
    have hcs : ∀ cs : List SV, AgB (catL (reach 4 σ) cs) σ σ' → catL (reach 4 σ') cs = catL (reach 4 σ) cs := by
      intro cs
      induction cs with
      | nil => intro _; rfl
      | cons c r ih => intro h; simp only [catL]; rw [hr 4 c (h.mono fun m hm => List.mem_append_left _ hm), ih (h.mono fun m hm => List.mem_append_right _ hm)]
    intro v h
    cases v with
    | s x => exact hr 4 x h
    | ib b x => exact hr 4 x h
    | g cs => exact hcs cs h
    | ig b cs => exact hcs cs h
    | t ts => rfl
  have hrF : ∀ v : AV, AgB (reachF σ v) σ σ' → reachF σ' v = reachF σ v := by
    have hcs : ∀ cs : List CV, AgB (catL (fun c => match c with | .d _ => [] | .ptr x off => reach 4 σ (.ptr x off)) cs) σ σ' →
        catL (fun c => match c with | .d _ => [] | .ptr x off => reach 4 σ' (.ptr x off)) cs = catL (fun c => match c with | .d _ => [] | .ptr x off => reach 4 σ (.ptr x off)) cs := by
      intro cs
      induction cs with
      | nil => intro _; rfl
      | cons c r ih =>
        intro h
        simp only [catL]
        rw [ih (h.mono fun m hm => List.mem_append_right _ hm)]
        congr 1
        cases c with
        | d x => rfl
        | ptr x off => exact hr 4 _ (h.mono fun m hm => List.mem_append_left _ hm)
    intro v h
    cases v with
    | s x => cases x with
      | clo f cs => exact hcs cs h
      | _ => rfl
    | ib b x => cases x with
      | clo f cs => exact hcs cs h
      | _ => rfl
    | _ => rfl
  have hl : ∀ l : List Operand, AgE l σ σ' → AgB (catL (fun x => reachA σ (Ax.ev σ x)) l) σ σ' → catL (fun x => reachA σ' (Ax.ev σ' x)) l = catL (fun x => reachA σ (Ax.ev σ x)) l := by
    intro l
    induction l with
    | nil => intro _ _; rfl
    | cons x r ih =>
      intro he h
      simp only [catL]
      rw [he x (by simp), hrA _ (h.mono fun m hm => List.mem_append_left _ hm), ih (fun y hy => he y (List.mem_cons_of_mem _ hy)) (h.mono fun m hm => List.mem_append_right _ hm)]
  unfold rdOp at *
  split at hb
  · rename_i fo args tys
    rw [he fo (by simp [Op.operands, Call.operands]), hrF _ (hb.mono fun m hm => List.mem_append_left _ hm),
      hl _ (fun y hy => he y (by simp [Op.operands, Call.operands]; exact .inr (by simpa using hy))) (hb.mono fun m hm => List.mem_append_right _ hm)]
  all_goals first | rfl | exact hl _ he hb

/-- The operation has just this effect in this state. -/
structure OkE (P : Program) (T : List (Nat × TyI)) (N : Nat) (rc : List Nat) (all : List Oper) (o : Oper) (σ : St) (e : Ef) (f : Foot) : Prop where
  pt : Point (stepD P T N rc all o σ) e
  rd : rdOp σ o.op = f.1
  wr : e.2.map (·.1) = f.2

theorem OkE.congr {o : Oper} {σ σ' : St} {e : Ef} {f : Foot} (h : OkE P T N rc all o σ e f) (ht : AgT all o σ σ') (hr : AgB f.1 σ σ') (hw : ∀ x, x ∈ f.2 → getB σ'.box x = getB σ.box x) : OkE P T N rc all o σ' e f := by
  have hE := ht.ev
  have hrd : AgB (rdOp σ o.op) σ σ' := by rw [h.rd]; exact hr
  refine ⟨fun K k => ?_, (rdOp.congr hE hrd).trans h.rd, h.wr⟩
  have hk := h.pt (fun e' => e' = e ∧ K e') ⟨rfl, k⟩
  have run : (match o.dst with
    | some d => bif Nat.blt d N then
        (match isX o.op with
        | true => opD T d o.op σ fun v u => (some v, u) = e ∧ K (some v, u)
        | false => match isRD rc σ o.op with
          | some (fo, args) => fe none (Ax.ev σ fo) fun vf => fetch none σ args fun as => callOD P rc σ vf as fun v u => (some v, u) = e ∧ K (some v, u)
          | none => opV P T o.op σ none fun v => (some v, []) = e ∧ K (some v, [])) else False
    | none => match isX o.op with
        | true => opD T 0 o.op σ fun _ u => (none, u) = e ∧ K (none, u)
        | false => False) → (match o.dst with
    | some d => bif Nat.blt d N then
        (match isX o.op with
        | true => opD T d o.op σ' fun v u => K (some v, u)
        | false => match isRD rc σ' o.op with
          | some (fo, args) => fe none (Ax.ev σ' fo) fun vf => fetch none σ' args fun as => callOD P rc σ' vf as fun v u => K (some v, u)
          | none => opV P T o.op σ' none fun v => K (some v, [])) else False
    | none => match isX o.op with
        | true => opD T 0 o.op σ' fun _ u => K (none, u)
        | false => False) := by
    intro h1
    have hwr := h.wr
    split at h1
    · rename_i d hd
      cases hN : Nat.blt d N with
      | false => rw [hN] at h1; exact h1.elim
      | true =>
        rw [hN] at h1
        simp only [cond_true] at h1 ⊢
        split at h1
        · obtain ⟨r, u, ⟨he, hK⟩, h2, _⟩ := opD.pt h1
          rw [← he] at hwr
          exact h2 σ' (fun n hn => hw n (by rw [← hwr]; exact hn)) hE hrd _ hK
        · rw [isRD.congr hE]
          split at h1
          · rename_i fo args hq
            obtain ⟨_, args', tys, hop, hl⟩ := isRD.op hq
            rw [hop] at hE
            rw [hE fo (by simp [Op.operands, Call.operands])]
            refine fe.imp (fun vf _ h => ?_) h1
            refine fetch.congr (fun y hy => hE y (by simp [Op.operands, Call.operands]; exact .inr (by rw [← hl] at hy; simpa using hy))) (fun as _ h => ?_) h
            refine callOD.congr (fun v u hk => ⟨fun n hn => ?_, hk.2⟩) h
            refine hw n ?_
            rw [← hwr, ← hk.1]; exact hn
          · exact opV.congr hE hrd ((opV.pt h1).elim fun r hr => hr.2 _ hr.1.2)
    · split at h1
      · obtain ⟨r, u, ⟨he, hK⟩, h2, _⟩ := opD.pt h1
        rw [← he] at hwr
        exact h2 σ' (fun n hn => hw n (by rw [← hwr]; exact hn)) hE hrd _ hK
      · exact h1.elim
  unfold stepD at hk ⊢
  simp only at hk ⊢
  split at hk
  · exact run hk
  · rename_i j pol hg
    split at hk
    · exact hk.elim
    · rename_i t htt
      have hgt := ht.guard hg htt
      simp only [hgt]
      split at hk
      · rename_i b hv
        cases b <;> cases pol
        · exact run hk
        · simp only at hk ⊢
          split at hk
          · rename_i d hd
            cases hN : Nat.blt d N with
            | false => rw [hN] at hk; exact hk.elim
            | true => rw [hN] at hk; exact hk.2
          · exact hk.2
        · simp only at hk ⊢
          split at hk
          · rename_i d hd
            cases hN : Nat.blt d N with
            | false => rw [hN] at hk; exact hk.elim
            | true => rw [hN] at hk; exact hk.2
          · exact hk.2
        · exact run hk
      · rename_i b hv
        split at hk
        · rename_i hx
          have run' := run
          simp only [hx] at run' ⊢
          exact ⟨hk.1, run' hk.2⟩
        · split at hk
          · rename_i d hd
            cases hN : Nat.blt d N with
            | false => rw [hN] at hk; exact hk.elim
            | true =>
              rw [hN] at hk
              simp only [cond_true] at hk ⊢
              exact opV.congr hE hrd ((opV.pt hk).elim fun r hr => hr.2 _ hr.1.2)
          · exact hk.elim
      · rename_i c b hv
        split at hk
        · exact hk.elim
        · split at hk
          · rename_i d hd
            cases hN : Nat.blt d N with
            | false => rw [hN] at hk; exact hk.elim
            | true =>
              rw [hN] at hk
              simp only [cond_true] at hk ⊢
              exact opV.congr hE hrd ((opV.pt hk).elim fun r hr => hr.2 _ hr.1.2)
          · exact hk.elim
      · exact hk.elim

end
end Go.Ax

/- From the text's order to every order, and to the judgement. -/
namespace Go.Ax
open Go.RowKit

/-- The same under every look-up. -/
structure Eqv (σ σ' : St) : Prop where
  env : ∀ t, getE σ'.env t = getE σ.env t
  box : ∀ x, getB σ'.box x = getB σ.box x
theorem Eqv.refl (σ : St) : Eqv σ σ := ⟨fun _ => rfl, fun _ => rfl⟩
theorem Eqv.symm {σ σ' : St} (h : Eqv σ σ') : Eqv σ' σ := ⟨fun t => (h.env t).symm, fun x => (h.box x).symm⟩
theorem Eqv.trans {a b c : St} (h : Eqv a b) (k : Eqv b c) : Eqv a c := ⟨fun t => (k.env t).trans (h.env t), fun x => (k.box x).trans (h.box x)⟩

theorem appE_env {o : Oper} {e : Ef} {σ : St} (t : Nat) : getE (appE o e σ).env t = match o.dst, e.1 with | some d, some v => if d = t then v else getE σ.env t | _, _ => getE σ.env t := by
  unfold appE
  cases o.dst with
  | none => rfl
  | some d => cases e.1 with
    | none => rfl
    | some v => exact getE_cons d v σ.env t
theorem getB_app {u v : Boxes} {x : Nat} : getB (u ++ v) x = match getB u x with | some y => some y | none => getB v x := by
  induction u with
  | nil => rfl
  | cons p r ih =>
    obtain ⟨k, b⟩ := p
    rw [List.cons_append, getB_cons, getB_cons]
    by_cases e : k = x
    · rw [if_pos e, if_pos e]
    · rw [if_neg e, if_neg e]; exact ih
theorem getB_notin {u : Boxes} {x : Nat} (h : x ∉ u.map (·.1)) : getB u x = none := by
  induction u with
  | nil => rfl
  | cons p r ih =>
    obtain ⟨k, b⟩ := p
    simp only [List.map_cons, List.mem_cons, not_or] at h
    rw [getB_cons, if_neg (fun e => h.1 e.symm)]
    exact ih h.2
theorem appE_box {o : Oper} {e : Ef} {σ : St} (x : Nat) : getB (appE o e σ).box x = match getB e.2 x with | some y => some y | none => getB σ.box x := by
  unfold appE
  simp only [appB_eq]
  exact getB_app

theorem appE.eqv {o : Oper} {e : Ef} {σ σ' : St} (h : Eqv σ σ') : Eqv (appE o e σ) (appE o e σ') := by
  refine ⟨fun t => ?_, fun x => ?_⟩
  · rw [appE_env, appE_env, h.env]
  · rw [appE_box, appE_box, h.box]

/-- Two feet do not tread on one another. -/
def ftDisj (f h : Foot) : Bool :=
  (f.2.all fun x => !(h.1.contains x) && !(h.2.contains x)) && (h.2.all fun x => !(f.1.contains x))
theorem ftDisj.spec {f h : Foot} (hd : ftDisj f h = true) : (∀ x, x ∈ f.2 → x ∉ h.1) ∧ (∀ x, x ∈ f.2 → x ∉ h.2) ∧ (∀ x, x ∈ h.2 → x ∉ f.1) := by
  simp only [ftDisj, Bool.and_eq_true, List.all_eq_true] at hd
  obtain ⟨h1, h2⟩ := hd
  refine ⟨fun x hx => ?_, fun x hx => ?_, fun x hx => ?_⟩
  · simpa using (h1 x hx).1
  · simpa using (h1 x hx).2
  · simpa using h2 x hx

theorem appE.comm {o p : Oper} {e u : Ef} {σ : St} (hd : ∀ d, o.dst = some d → p.dst ≠ some d) (hb : ∀ x, x ∈ e.2.map (·.1) → x ∉ u.2.map (·.1)) :
    Eqv (appE o e (appE p u σ)) (appE p u (appE o e σ)) := by
  refine ⟨fun t => ?_, fun x => ?_⟩
  · simp only [appE_env]
    cases ho : o.dst with
    | none => rfl
    | some d => cases he : e.1 with
      | none => rfl
      | some v => cases hp : p.dst with
        | none => rfl
        | some d' => cases hu : u.1 with
          | none => rfl
          | some v' =>
            have hne : d' ≠ d := fun h => hd d ho (by rw [hp, h])
            simp only
            by_cases h1 : d = t
            · subst h1; simp [hne]
            · simp [h1]
  · simp only [appE_box]
    by_cases h1 : x ∈ e.2.map (·.1)
    · rw [getB_notin (hb x h1)]
    · rw [getB_notin h1]

section
variable {P : Program} {T : List (Nat × TyI)} {N : Nat} {rc : List Nat} {all : List Oper} {md : Region.Mode} {ft : List Foot}

theorem OkE.eqv {o : Oper} {σ σ' : St} {e : Ef} {f : Foot} (h : OkE P T N rc all o σ e f) (k : Eqv σ σ') : OkE P T N rc all o σ' e f :=
  h.congr (fun t _ => k.env t) (fun x _ => k.box x) (fun x _ => k.box x)

/-- Whatever order is picked from here on. -/
def AnyC (P : Program) (T : List (Nat × TyI)) (N : Nat) (rc : List Nat) (all : List Oper) (md : Region.Mode) (ft : List Foot) (σf : St) : Nat → Array Bool → St → Prop
  | 0, listed, σ => Region.ready md all.toArray listed = [] ∧ Eqv σf σ
  | fuel + 1, listed, σ =>
    (Region.ready md all.toArray listed = [] → Eqv σf σ) ∧
    ∀ i ∈ Region.ready md all.toArray listed, ∃ o e f, all[i]? = some o ∧ ft[i]? = some f ∧ OkE P T N rc all o σ e f ∧ AnyC P T N rc all md ft σf fuel (listed.setIfInBounds i true) (appE o e σ)

theorem AnyC.eqv {σf : St} : ∀ (fuel : Nat) {listed : Array Bool} {σ σ' : St}, Eqv σ σ' → AnyC P T N rc all md ft σf fuel listed σ → AnyC P T N rc all md ft σf fuel listed σ'
  | 0, _, _, _, k, h => ⟨h.1, h.2.trans k⟩
  | fuel + 1, _, _, _, k, h => ⟨fun h0 => (h.1 h0).trans k, fun i hi => by
    obtain ⟨o, e, f, h1, h2, h3, h4⟩ := h.2 i hi
    exact ⟨o, e, f, h1, h2, h3.eqv k, AnyC.eqv fuel (appE.eqv k) h4⟩⟩

/-- Operation oi is apart from oj: what oi does leaves oj's state alone. -/
theorem AgT.appE {oi oj : Oper} {e : Ef} {σ : St} (h : ∀ d, oi.dst = some d → d ∉ oj.looksAt all.toArray) : AgT all oj σ (appE oi e σ) := by
  intro t ht
  rw [appE_env]
  cases ho : oi.dst with
  | none => rfl
  | some d => cases e.1 with
    | none => rfl
    | some v =>
      simp only
      rw [if_neg (fun (hdt : d = t) => h d ho (hdt ▸ ht))]
theorem box_appE {oi : Oper} {e : Ef} {σ : St} {x : Nat} (h : x ∉ e.2.map (·.1)) : getB (appE oi e σ).box x = getB σ.box x := by
  rw [appE_box, getB_notin h]

theorem OkE.past {oi oj : Oper} {ei ej : Ef} {fi fj : Foot} {σ : St} (hwi : ei.2.map (·.1) = fi.2) (hap : oi.apart all.toArray oj = true) (hft : ftDisj fi fj = true) (h : OkE P T N rc all oj (appE oi ei σ) ej fj) : OkE P T N rc all oj σ ej fj := by
  obtain ⟨h1, h2, h3⟩ := Oper.apart_spec hap
  obtain ⟨k1, k2, k3⟩ := ftDisj.spec hft
  have ht : AgT all oj σ (appE oi ei σ) := AgT.appE h1
  refine h.congr (fun t htt => (ht t htt).symm) (fun x hx => (box_appE (fun hw => ?_)).symm) (fun x hx => (box_appE (fun hw => ?_)).symm)
  · exact k1 x (hwi ▸ hw) hx
  · exact k2 x (hwi ▸ hw) hx
theorem OkE.over {oi oj : Oper} {ei ej : Ef} {fi fj : Foot} {σ : St} (hwj : ej.2.map (·.1) = fj.2) (hap : oi.apart all.toArray oj = true) (hft : ftDisj fi fj = true) (h : OkE P T N rc all oi σ ei fi) : OkE P T N rc all oi (appE oj ej σ) ei fi := by
  obtain ⟨h1, h2, h3⟩ := Oper.apart_spec hap
  obtain ⟨k1, k2, k3⟩ := ftDisj.spec hft
  refine h.congr (AgT.appE h3) (fun x hx => box_appE (fun hw => ?_)) (fun x hx => box_appE (fun hw => ?_))
  · exact k3 x (hwj ▸ hw) hx
  · exact k2 x hx (hwj ▸ hw)

/-- Does j wait for i, by a chain of edges? -/
def dep (md : Region.Mode) (ops : Array Oper) (i : Nat) : Nat → Nat → Bool
  | 0, _ => false
  | n + 1, j => match ops[j]? with
    | some oj => oj.after.any fun e => Region.binds md e && (Nat.beq e.on i || dep md ops i n e.on)
    | none => false
/-- What is listed, what it waits for is listed. -/
def Closed (md : Region.Mode) (all : List Oper) (listed : Array Bool) : Prop :=
  ∀ m om, all[m]? = some om → listed.getD m false = true → ∀ e ∈ om.after, Region.binds md e = true → listed.getD e.on false = true
theorem getD_tf {l : Array Bool} {i : Nat} (h : l.getD i true = false) : l.getD i false = false := by
  rcases Nat.lt_or_ge i l.size with h' | h'
  · simp [h'] at h ⊢; exact h
  · simp [Array.getElem?_eq_none h'] at h
theorem dep_no {md : Region.Mode} {listed : Array Bool} {i : Nat} (hc : Closed md all listed) (hi : listed.getD i false = false) : ∀ (n j : Nat) (oj : Oper), all[j]? = some oj → (∀ e ∈ oj.after, Region.binds md e = true → listed.getD e.on false = true) → dep md all.toArray i n j = false
  | 0, _, _, _, _ => rfl
  | n + 1, j, oj, hj, h => by
    have hj' : all.toArray[j]? = some oj := by simpa using hj
    simp only [dep, hj']
    rw [Bool.eq_false_iff]
    intro hx
    obtain ⟨e, he, hb⟩ := Array.any_eq_true'.1 hx
    simp only [Bool.and_eq_true, Bool.or_eq_true] at hb
    have hl := h e he hb.1
    rcases hb.2 with h1 | h1
    · rw [Nat.eq_of_beq_eq_true h1, hi] at hl; cases hl
    · cases ho : all[e.on]? with
      | none =>
        cases n with
        | zero => cases h1
        | succ n =>
          have : all.toArray[e.on]? = none := by simpa using ho
          simp only [dep, this] at h1
          cases h1
      | some om =>
        rw [dep_no hc hi n e.on om ho (hc e.on om ho hl)] at h1
        cases h1
theorem Closed.set {md : Region.Mode} {listed : Array Bool} {j : Nat} {oj : Oper} (hc : Closed md all listed) (hj : all[j]? = some oj) (h : ∀ e ∈ oj.after, Region.binds md e = true → listed.getD e.on false = true) : Closed md all (listed.setIfInBounds j true) := by
  have up : ∀ x, listed.getD x false = true → (listed.setIfInBounds j true).getD x false = true := fun x hx => by
    by_cases hjx : j = x
    · subst hjx
      rcases Nat.lt_or_ge j listed.size with h' | h'
      · simp [h']
      · simp [Array.getElem?_eq_none h'] at hx
    · rw [getD_set_ne false hjx]; exact hx
  intro m om hm hl e he hb
  by_cases hmj : j = m
  · subst hmj
    rw [hj] at hm; cases hm
    exact up _ (h e he hb)
  · rw [getD_set_ne false hmj] at hl
    exact up _ (hc m om hm hl e he hb)

theorem AnyC.first {σf : St} {i : Nat} {oi : Oper} {ei : Ef} {fi : Foot} (hi : all[i]? = some oi) (hfi : ft[i]? = some fi) :
    ∀ (fuel : Nat) (listed : Array Bool) (σ : St),
      (∀ j oj fj, all[j]? = some oj → ft[j]? = some fj → j ≠ i → listed.getD j true = false → (∀ n, dep md all.toArray i n j = false) → oi.apart all.toArray oj = true ∧ ftDisj fi fj = true) → Closed md all listed →
      i ∈ Region.ready md all.toArray listed → OkE P T N rc all oi σ ei fi →
      AnyC P T N rc all md ft σf fuel (listed.setIfInBounds i true) (appE oi ei σ) → AnyC P T N rc all md ft σf (fuel + 1) listed σ := by
  intro fuel
  induction fuel with
  | zero =>
    intro listed σ _ _ hr hy H
    refine ⟨fun h => (by rw [h] at hr; cases hr), fun j hj => ?_⟩
    by_cases hji : j = i
    · subst hji; exact ⟨oi, ei, fi, hi, hfi, hy, H⟩
    · have := ready_mono hj hji
      rw [H.1] at this
      cases this
  | succ fuel ih =>
    intro listed σ hfree hcl hr hy H
    refine ⟨fun h => (by rw [h] at hr; cases hr), fun j hj => ?_⟩
    by_cases hji : j = i
    · subst hji; exact ⟨oi, ei, fi, hi, hfi, hy, H⟩
    · obtain ⟨oj, ej, fj, hoj, hfj, hyj, Hj⟩ := H.2 j (ready_mono hj hji)
      obtain ⟨hjun, oj', hoj', hall⟩ := mem_ready.1 hj
      have hoj'' : all[j]? = some oj' := by simpa using hoj'
      rw [hoj] at hoj''; cases hoj''
      have hnot : ∀ n, dep md all.toArray i n j = false := fun n => dep_no hcl (getD_tf (mem_ready.1 hr).1) n j oj hoj hall
      obtain ⟨hap, hft⟩ := hfree j oj fj hoj hfj hji hjun hnot
      have hyj' : OkE P T N rc all oj σ ej fj := OkE.past hy.wr hap hft hyj
      have hyi' : OkE P T N rc all oi (appE oj ej σ) ei fi := OkE.over hyj.wr hap hft hy
      have hfree' : ∀ k ok fk, all[k]? = some ok → ft[k]? = some fk → k ≠ i → (listed.setIfInBounds j true).getD k true = false →
          (∀ n, dep md all.toArray i n k = false) → oi.apart all.toArray ok = true ∧ ftDisj fi fk = true := fun k ok fk hk hfk hki hun hno => by
        refine hfree k ok fk hk hfk hki ?_ hno
        by_cases hjk : j = k
        · subst hjk; exact hjun
        · rw [getD_set_ne true hjk] at hun; exact hun
      refine ⟨oj, ej, fj, hoj, hfj, hyj', ih (listed.setIfInBounds j true) (appE oj ej σ) hfree' (hcl.set hoj hall) (ready_mono hr (Ne.symm hji)) hyi' ?_⟩
      rw [Array.setIfInBounds_comm _ _ hji]
      refine AnyC.eqv fuel ?_ Hj
      obtain ⟨h1, h2, h3⟩ := Oper.apart_spec hap
      obtain ⟨k1, k2, k3⟩ := ftDisj.spec hft
      exact (appE.comm (fun d hd => h2 d hd) (fun x hx => by rw [hy.wr] at hx; rw [hyj.wr]; exact k2 x hx)).symm

/-- The check, by the kernel. -/
def freeF (md : Region.Mode) (ops : Array Oper) (ft : List Foot) (listed : Array Bool) (i : Nat) : Bool :=
  match ops[i]?, ft[i]? with
  | some oi, some fi => (List.range ops.size).all fun j => Nat.beq j i || listed.getD j true || match ops[j]?, ft[j]? with
      | some oj, some fj => (oi.apart ops oj && ftDisj fi fj) || dep md ops i 6 j
      | _, _ => true
  | _, _ => false
def lexF (md : Region.Mode) (ops : Array Oper) (ft : List Foot) : Nat → Nat → Array Bool → Bool
  | 0, _, listed => (Region.ready md ops listed).isEmpty
  | fuel + 1, k, listed => (Region.ready md ops listed).contains k && freeF md ops ft listed k && lexF md ops ft fuel (k + 1) (listed.setIfInBounds k true)

theorem freeF.spec {i : Nat} {oi : Oper} {fi : Foot} {listed : Array Bool} (hi : all[i]? = some oi) (hfi : ft[i]? = some fi) (h : freeF md all.toArray ft listed i = true) (j : Nat) (oj : Oper) (fj : Foot)
    (hj : all[j]? = some oj) (hfj : ft[j]? = some fj) (hne : j ≠ i) (hun : listed.getD j true = false) (hno : ∀ n, dep md all.toArray i n j = false) : oi.apart all.toArray oj = true ∧ ftDisj fi fj = true := by
  have hi' : all.toArray[i]? = some oi := by simpa using hi
  have hj' : all.toArray[j]? = some oj := by simpa using hj
  unfold freeF at h
  rw [hi', hfi] at h
  simp only [List.all_eq_true, List.mem_range] at h
  have hjlt : j < all.toArray.size := by
    have := (Array.getElem?_eq_some_iff.1 hj').1
    exact this
  have hx := h j hjlt
  rw [hj', hfj, hun] at hx
  have hb : Nat.beq j i = false := beqF hne
  rw [hb, hno 6] at hx
  simp only [Bool.false_or, Bool.or_false, Bool.and_eq_true] at hx
  exact hx

/-- The text's order. -/
def Chain (P : Program) (T : List (Nat × TyI)) (N : Nat) (rc : List Nat) (all : List Oper) : List Oper → St → List Ef → List Foot → Prop
  | [], _, [], [] => True
  | o :: l, σ, e :: es, f :: fs => OkE P T N rc all o σ e f ∧ Chain P T N rc all l (appE o e σ) es fs
  | _, _, _, _ => False
def appAll : List Oper → St → List Ef → St
  | o :: l, σ, e :: es => appAll l (appE o e σ) es
  | _, σ, _ => σ

theorem AnyC.lex : ∀ (l : List Oper) (k : Nat) (listed : Array Bool) (σ : St) (es : List Ef) (fs : List Foot), (∀ j, l[j]? = all[k + j]?) → (∀ j, fs[j]? = ft[k + j]?) →
    Closed md all listed → lexF md all.toArray ft l.length k listed = true → Chain P T N rc all l σ es fs → AnyC P T N rc all md ft (appAll l σ es) l.length listed σ
  | [], _, _, _, [], [], _, _, _, hB, _ => ⟨by simpa [lexF] using hB, Eqv.refl _⟩
  | o :: l, k, listed, σ, e :: es, f :: fs, hl, hf, hcl, hB, ⟨h1, h2⟩ => by
    have h0 : all[k]? = some o := by simpa using (hl 0).symm
    have hf0 : ft[k]? = some f := by simpa using (hf 0).symm
    simp only [List.length_cons, lexF, Bool.and_eq_true] at hB
    obtain ⟨⟨hr, hfr⟩, hB'⟩ := hB
    have hr' : k ∈ Region.ready md all.toArray listed := by simpa using hr
    have hall : ∀ e ∈ o.after, Region.binds md e = true → listed.getD e.on false = true := by
      obtain ⟨_, o', ho', h⟩ := mem_ready.1 hr'
      have : all[k]? = some o' := by simpa using ho'
      rw [h0] at this; cases this
      exact h
    exact AnyC.first h0 hf0 l.length listed σ (freeF.spec h0 hf0 hfr) hcl hr' h1
      (AnyC.lex l (k + 1) _ _ es fs (fun j => by have := hl (j + 1); simpa [Nat.add_assoc, Nat.add_comm 1 j] using this) (fun j => by have := hf (j + 1); simpa [Nat.add_assoc, Nat.add_comm 1 j] using this) (hcl.set h0 hall) hB' h2)
  | [], _, _, _, _ :: _, _, _, _, _, _, h => by cases ‹List Foot› <;> exact h.elim
  | [], _, _, _, [], _ :: _, _, _, _, _, h => h.elim
  | _ :: _, _, _, _, [], _, _, _, _, _, h => by cases ‹List Foot› <;> exact h.elim
  | _ :: _, _, _, _, _ :: _, [], _, _, _, _, h => h.elim

end
end Go.Ax

/- Regions that draw their order, in the executor. -/
namespace Go.Ax
open Go.RowKit

section
variable {P : Program} {T : List (Nat × TyI)} {N : Nat} {ref rc : List Nat} {cx : Cx} {all : List Oper}

def PostE (cx : Cx) (N : Nat) (M : Mem) (w : World) (o : Oper) (σ : St) (K : Ef → Prop) (a' : Act) (w' : World) : Prop :=
  ∃ e M' β', K e ∧ Inv cx N M' β' (appE o e σ) a' w' ∧ Grow cx.B M M' ∧ Keep cx w w'

theorem appE_v {o : Oper} {d : Nat} {v : AV} {σ : St} (hd : o.dst = some d) : appE o (some v, []) σ = setE σ d v := by
  unfold appE setE; rw [hd]; rfl
theorem appE_x {o : Oper} {d : Nat} {v : AV} {u : Boxes} {σ : St} (hd : o.dst = some d) : appE o (some v, u) σ = ⟨(d, v) :: σ.env, u ++ σ.box⟩ := by
  unfold appE; rw [hd]; simp only [appB_eq]
theorem appE_n {o : Oper} {v : Option AV} {u : Boxes} {σ : St} (hd : o.dst = none) : appE o (v, u) σ = ⟨σ.env, u ++ σ.box⟩ := by
  unfold appE; rw [hd]; simp only [appB_eq]

theorem stepD.sound (hT : TabOK P T) (hrc : ∀ f, rc.contains (f + 2000000) = true → cx.ref = []) {o : Oper} {σ : St} {K : Ef → Prop} {Q : Exit → Act → World → Prop} {M : Mem} {β : Nm} {a : Act} {w : World} (h : stepD P T N rc all o σ K) (i : Inv cx N M β σ a w) :
    if Region.wanted o (yielded all.toArray a.tmps) then o.wp P a w (PostE cx N M w o σ K) Q else PostE cx N M w o σ K (a.put o.dst undef) w := by
  have run : (match o.dst with
    | some d => bif Nat.blt d N then
        (match isX o.op with
        | true => opD T d o.op σ fun v u => K (some v, u)
        | false => match isRD rc σ o.op with
          | some (fo, args) => fe none (ev σ fo) fun vf => fetch none σ args fun as => callOD P rc σ vf as fun v u => K (some v, u)
          | none => opV P T o.op σ none fun v => K (some v, [])) else False
    | none => match isX o.op with
        | true => opD T 0 o.op σ fun _ u => K (none, u)
        | false => False) → o.wp P a w (PostE cx N M w o σ K) Q := by
    intro h
    split at h
    · rename_i d hd
      cases hN : Nat.blt d N with
      | false => rw [hN] at h; exact h.elim
      | true =>
        rw [hN] at h
        have hN : d < N := Nat.le_of_ble_eq_true hN
        simp only [cond_true] at h
        split at h
        · obtain ⟨r, u, hk, _, hx⟩ := opD.pt h
          obtain ⟨r', bx, ⟨rfl, rfl⟩, v, w', M', β', hrun, hr, hi, hg, hkp⟩ := opX.spec hT (hx cx.ref) rfl i
          unfold Oper.wp
          rcases hrun with hrun | ⟨hrun, rfl⟩
          · rw [hrun, Oper.upon_value, hd]
            exact ⟨_, M', β', hk, by rw [appE_x hd]; exact hi.put (σ := ⟨σ.env, _⟩) hN hr, hg, hkp⟩
          · rw [hrun, Oper.upon_skip, hd]
            exact ⟨_, M', β', hk, by rw [appE_x hd]; exact hi.put (σ := ⟨σ.env, _⟩) hN hr, hg, hkp⟩
        · split at h
          · rename_i fo args hq
            obtain ⟨v, u, hk, hs⟩ := callOD.spec hq hrc h
            obtain ⟨f, vs, hrun, hcall⟩ := hs N M β a w i
            unfold Oper.wp
            rw [hrun, Oper.upon_enter]
            refine hcall.mono ?_
            rintro e' w' ⟨v', M', β', rfl, hr, i', hg, hkp⟩
            simp only [hd]
            exact ⟨_, M', β', hk, by rw [appE_x hd]; exact i'.put (σ := ⟨σ.env, _⟩) hN hr, hg, hkp⟩
          obtain ⟨r, hk, hs⟩ := opV.spec hT h
          refine Oper.wp_mono ?_ (does_wp (K := fun σ' => σ' = setE σ d r) hd hN (hs actN) i rfl)
          rintro a' w' ⟨σ', M', β', rfl, h2, h3, h4⟩
          exact ⟨_, M', β', hk, by rw [appE_v hd]; exact h2, h3, h4⟩
    · rename_i hd
      split at h
      · obtain ⟨r, u, hk, _, hx⟩ := opD.pt h
        obtain ⟨r', bx, ⟨rfl, rfl⟩, v, w', M', β', hrun, hr, hi, hg, hkp⟩ := opX.spec hT (hx cx.ref) rfl i
        unfold Oper.wp
        rcases hrun with hrun | ⟨hrun, rfl⟩
        · rw [hrun, Oper.upon_value, hd]
          exact ⟨_, M', β', hk, by rw [appE_n hd]; exact hi, hg, hkp⟩
        · rw [hrun, Oper.upon_skip, hd]
          exact ⟨_, M', β', hk, by rw [appE_n hd]; exact hi, hg, hkp⟩
      · exact h.elim
  have skip : (match o.dst with
          | some d => bif Nat.blt d N then K (some (.s (.d .junk)), []) else False
          | none => K (none, [])) → PostE cx N M w o σ K (a.put o.dst undef) w := by
    intro h
    split at h
    · rename_i d hd
      cases hN : Nat.blt d N with
      | false => rw [hN] at h; exact h.elim
      | true =>
        rw [hN] at h
        have hN : d < N := Nat.le_of_ble_eq_true hN
        rw [hd]
        exact ⟨_, M, β, h, by rw [appE_v hd]; exact i.put hN trivial, Grow.refl _ _, Keep.refl _ _⟩
    · rename_i hd
      rw [hd]
      exact ⟨_, M, β, h, by unfold appE; rw [hd]; exact i, Grow.refl _ _, Keep.refl _ _⟩
  have part : ∀ {d : Nat} {gb : Bool}, o.dst = some d → d < N → (opV P T o.op σ (some gb) fun v => K (some (wrapG gb v), [])) → Region.wanted o (yielded all.toArray a.tmps) = gb →
      if Region.wanted o (yielded all.toArray a.tmps) then o.wp P a w (PostE cx N M w o σ K) Q else PostE cx N M w o σ K (a.put o.dst undef) w := by
    intro d gb hd hN h hw
    obtain ⟨r, hk, hs⟩ := opV.spec hT h
    cases hgf : gb with
    | true =>
      rw [if_pos (by rw [hw, hgf])]
      have hact : act (some gb) := fun c e => by cases e; exact hgf
      have hdo : Does P o σ (wrapG gb r) := by
        intro cx N M β a w i
        have hwr : ∀ {M β v}, r.Rep M β v → (wrapG gb r).Rep M β v := by
          intro M β v hr
          cases r with
          | s x => exact ⟨fun _ => hr, fun h => by rw [hgf] at h; cases h⟩
          | g cs => exact ⟨fun _ => hr, fun h => by rw [hgf] at h; cases h⟩
          | _ => exact trivial
        rcases hs hact cx N M β a w i with ⟨v, e, hr⟩ | ⟨f, vs, e, hc⟩
        · exact .inl ⟨v, e, hwr hr⟩
        · exact .inr ⟨f, vs, e, hc.mono fun e' w' ⟨v, M', h1, h2, h3⟩ => ⟨v, M', h1, hwr h2, h3⟩⟩
      refine Oper.wp_mono ?_ (does_wp (K := fun σ' => σ' = setE σ d (wrapG gb r)) hd hN hdo i rfl)
      rintro a' w' ⟨σ', M', β', rfl, h2, h3, h4⟩
      exact ⟨_, M', β', hk, by rw [appE_v hd]; exact h2, h3, h4⟩
    | false =>
      rw [if_neg (by rw [hw, hgf]; simp), hd]
      refine ⟨_, M, β, hk, ?_, Grow.refl _ _, Keep.refl _ _⟩
      rw [appE_v hd]
      refine i.put hN ?_
      cases r with
      | s x => exact ⟨fun h => (by rw [hgf] at h; cases h), fun _ => rfl⟩
      | g cs => exact ⟨fun h => (by rw [hgf] at h; cases h), fun _ => rfl⟩
      | _ => exact trivial
  unfold stepD at h
  simp only at h
  split at h
  · rename_i hg
    rw [if_pos (by simp [Region.wanted, hg])]
    exact run h
  · rename_i j pol hg
    split at h
    · exact h.elim
    · rename_i t ht
      split at h
      · rename_i b hv
        have hb : a.tmps.getD t undef = .bool b := by have := i.env t; rw [hv] at this; exact this
        have hw := wanted_eq hg ht hb
        cases b <;> cases pol
        · rw [if_pos (by rw [hw]; rfl)]; exact run h
        · rw [if_neg (by rw [hw]; simp)]; exact skip h
        · rw [if_neg (by rw [hw]; simp)]; exact skip h
        · rw [if_pos (by rw [hw]; rfl)]; exact run h
      · rename_i b hv
        have hb : a.tmps.getD t undef = .bool b := by have := i.env t; rw [hv] at this; exact this
        have hw := wanted_eq hg ht hb
        split at h
        · rename_i hx
          obtain ⟨hbp, h⟩ := h
          subst hbp
          have run' := run
          simp only [hx] at run'
          rw [if_pos (by rw [hw]; cases b <;> rfl)]; exact run' h
        · split at h
          · rename_i d hd
            cases hN : Nat.blt d N with
            | false => rw [hN] at h; exact h.elim
            | true =>
              rw [hN] at h
              exact part hd (Nat.le_of_ble_eq_true hN) h (by rw [hw]; cases b <;> cases pol <;> rfl)
          · exact h.elim
      · rename_i c b hv
        have hr : (AV.ib c (.d (.val (.bool b)))).Rep M β (a.tmps.getD t undef) := by have := i.env t; rw [hv] at this; exact this
        have hw : Region.wanted o (yielded all.toArray a.tmps) = (c && gpol pol b) := by
          cases c with
          | true => rw [wanted_eq hg ht (hr.1 rfl)]; cases b <;> cases pol <;> rfl
          | false => exact wanted_undef hg ht (hr.2 rfl)
        split at h
        · exact h.elim
        · split at h
          · rename_i d hd
            cases hN : Nat.blt d N with
            | false => rw [hN] at h; exact h.elim
            | true =>
              rw [hN] at h
              exact part hd (Nat.le_of_ble_eq_true hN) h hw
          · exact h.elim
      · exact h.elim

theorem Inv.eqv {σ σ' : St} {M : Mem} {β : Nm} {a : Act} {w : World} (i : Inv cx N M β σ a w) (h : Eqv σ σ') : Inv cx N M β σ' a w :=
  ⟨i.defers, i.tmps, i.heap, fun t => by rw [h.env]; exact i.env t, i.mem, fun x p e => by rw [h.box]; exact i.keys x p e, fun x bc e => i.box x bc (by rw [← h.box]; exact e),
   fun x y bx bby b c c' ex ey => i.inj x y bx bby b c c' (by rw [← h.box]; exact ex) (by rw [← h.box]; exact ey), fun x bc b c e => i.apart x bc b c (by rw [← h.box]; exact e), fun x bc b c e => i.low x bc b c (by rw [← h.box]; exact e), i.ref⟩

theorem AnyC.sound (hT : TabOK P T) (hrc : ∀ f, rc.contains (f + 2000000) = true → cx.ref = []) {md : Region.Mode} {ft : List Foot} {σf : St} {Q : Exit → Act → World → Prop} : ∀ (fuel : Nat) {listed : Array Bool} {σ : St} {M : Mem} {β : Nm} {a : Act} {w : World},
    AnyC P T N rc all md ft σf fuel listed σ → Inv cx N M β σ a w → (∀ a' w', Post cx N M w (fun σ' => σ' = σf) a' w' → Q .normal a' w') → wpAny P md all.toArray Q fuel listed a w := by
  intro fuel
  induction fuel with
  | zero =>
    intro listed σ M β a w h i hQ
    exact ⟨h.1, hQ a w ⟨σf, M, β, rfl, i.eqv h.2.symm, Grow.refl _ _, Keep.refl _ _⟩⟩
  | succ fuel ih =>
    intro listed σ M β a w h i hQ
    refine ⟨fun h0 => hQ a w ⟨σf, M, β, rfl, i.eqv (h.1 h0).symm, Grow.refl _ _, Keep.refl _ _⟩, fun k hk => ?_⟩
    obtain ⟨o, e, f, ho, hf, hok, hrest⟩ := h.2 k hk
    have hst := stepD.sound (cx := cx) (Q := Q) hT hrc (hok.pt (fun e' => e' = e) rfl) i
    have ho' : all.toArray[k]? = some o := by simpa using ho
    have next : ∀ a' w', PostE cx N M w o σ (fun e' => e' = e) a' w' → wpAny P md all.toArray Q fuel (listed.setIfInBounds k true) a' w' := by
      rintro a' w' ⟨e', M', β', rfl, hi, hg, hkp⟩
      exact ih hrest hi fun a2 w2 hp => hQ a2 w2 (hp.trans hg hkp)
    unfold wpOp
    rw [ho']
    simp only
    split
    · rename_i hw
      rw [if_pos hw] at hst
      exact .inl (Oper.wp_mono next hst)
    · rename_i hw
      rw [if_neg hw] at hst
      exact next _ _ hst

def runD (P : Program) (T : List (Nat × TyI)) (N : Nat) (rc : List Nat) (all : List Oper) : List Oper → St → List Foot → (St → List Foot → Prop) → Prop
  | [], σ, fs, K => K σ fs.reverse
  | o :: rest, σ, fs, K => stepD P T N rc all o σ fun e => runD P T N rc all rest (appE o e σ) (footOf σ o e :: fs) K

theorem runD.chain : ∀ {l : List Oper} {σ : St} {fs : List Foot} {K : St → List Foot → Prop}, runD P T N rc all l σ fs K → ∃ es gs, Chain P T N rc all l σ es gs ∧ K (appAll l σ es) (fs.reverse ++ gs)
  | [], σ, fs, K, h => ⟨[], [], trivial, by have h' : K σ fs.reverse := h; simpa [appAll] using h'⟩
  | o :: rest, σ, fs, K, h => by
    obtain ⟨e, hk, hp⟩ := stepD.pt h
    obtain ⟨es, gs, hc, hK⟩ := runD.chain hk
    refine ⟨e :: es, footOf σ o e :: gs, ⟨⟨hp, rfl, rfl⟩, hc⟩, ?_⟩
    simpa [appAll] using hK

/-- A region that draws its order. -/
theorem AW.draw (hT : TabOK P T) (hrc : ∀ f, rc.contains (f + 2000000) = true → cx.ref = []) (hm : P.follows .mixedOrders = true) {id : Nat} {ops : Array Oper} {σ : St} {K : Exit → St → Prop}
    (h : runD P T N rc ops.toList ops.toList σ [] fun σ' fs => lexF .any ops.toList.toArray fs ops.toList.length 0 (Array.replicate ops.toList.length false) = true ∧ K .normal σ') : AW P cx N (.region id ops true) σ K := by
  obtain ⟨es, gs, hc, hl, hK⟩ := runD.chain h
  intro M β a w i
  refine wp_region_any hm ?_
  have hany := AnyC.lex (md := .any) (ft := gs) ops.toList 0 (Array.replicate ops.toList.length false) σ es gs (by simp) (by simp) (fun m om _ h => by simp [Array.getElem?_replicate] at h; split at h <;> simp_all) hl hc
  have hi : Inv cx N M β σ a { w with drawn := w.drawn + 1 } :=
    ⟨i.defers, i.tmps, i.heap, i.env, i.mem, i.keys, i.box, i.inj, i.apart, i.low, i.ref⟩
  have := AnyC.sound (cx := cx) (Q := fun e a' w' => ∃ σ' M' β', K e σ' ∧ Inv cx N M' β' σ' a' w' ∧ Grow cx.B M M' ∧ Keep cx w w') hT hrc ops.toList.length hany hi (by
    rintro a' w' ⟨σ', M', β', rfl, h2, h3, h4⟩
    exact ⟨_, M', β', hK, h2, h3, ⟨h4.os, h4.tape, h4.output, h4.size, h4.block, Nat.le_trans (Nat.le_succ _) h4.drawn⟩⟩)
  simpa using this

end
end Go.Ax

/- The executor and its soundness. -/
namespace Go.Ax
open Go.RowKit

def exCond (σ : St) (c : Operand) (x y : Prop) : Prop :=
  match ev σ c with
  | .s (.d (.lit b)) => match b with
    | true => x
    | false => y
  | .s (.d (.val (.bool b))) => (b = true → x) ∧ (b = false → y)
  | _ => False
def exReg (P : Program) (T : List (Nat × TyI)) (N : Nat) (ref rc : List Nat) (ops : Array Oper) (dr : Bool) (σ : St) (K : Exit → St → Prop) : Prop :=
  match dr with
  | false => runOps P T N ref rc ops.toList ops.toList σ (K .normal)
  | true => runD P T N (bif ref.isEmpty then rc else rc.filter fun x => Nat.blt x 2000000) ops.toList ops.toList σ [] fun σ' fs => lexF .any ops.toList.toArray fs ops.toList.length 0 (Array.replicate ops.toList.length false) = true ∧ K .normal σ'
/-- The executor, by the recursor itself: the elaborator and the kernel unfold it alike. -/
def ex (P : Program) (T : List (Nat × TyI)) (N : Nat) (ref rc : List Nat) (cx : Cx) (c : Code) : St → (Exit → St → Prop) → Prop :=
  @Code.rec (fun _ => St → (Exit → St → Prop) → Prop)
    (fun σ K => K .normal σ)
    (fun _ ops dr σ K => exReg P T N ref rc ops dr σ K)
    (fun _ _ iha ihb σ K => iha σ (thenK (fun s => ihb s K) K))
    (fun c _ _ iha ihb σ K => exCond σ c (iha σ K) (ihb σ K))
    (fun id _ ih σ K => ih σ (blockK id K))
    (fun b _ σ K => AW P cx N (.loop b) σ K)
    (fun f p a b _ _ σ K => AW P cx N (.rangeFunc f p a b) σ K)
    (fun id σ K => K (.exit id) σ)
    (fun b _ σ K => AW P cx N (.scope b) σ K)
    (fun l σ K => AW P cx N (.label l) σ K)
    (fun l σ K => AW P cx N (.goto l) σ K)
    (fun σ K => K .ret σ)
    (fun w σ K => AW P cx N (.refuse w) σ K) c

theorem ex.sound {P : Program} {T : List (Nat × TyI)} {N : Nat} {ref rc : List Nat} {cx : Cx} (hT : TabOK P T) (hm : P.follows .mixedOrders = true) (href : cx.ref = ref) : ∀ (c : Code) {σ : St} {K : Exit → St → Prop}, ex P T N ref rc cx c σ K → AW P cx N c σ K := by
  intro c
  induction c with
  | skip => exact fun h => AW.skip h
  | ret => exact fun h => AW.ret h
  | exit id => exact fun h => AW.exit h
  | seq x y ihx ihy =>
    intro σ K h
    refine AW.seq (AW.mono (ihx h) ?_)
    intro e s hk
    cases e with
    | normal => exact ihy hk
    | _ => exact hk
  | block id c ih => exact fun h => AW.block (ih h)
  | cond c x y ihx ihy =>
    intro σ K h
    replace h : exCond σ c (ex P T N ref rc cx x σ K) (ex P T N ref rc cx y σ K) := h
    unfold exCond at h
    intro M β a w i
    split at h
    · rename_i b hv
      have hb : a.eval c = .bool b := by have := ev.rep i c; rw [hv] at this; exact this
      cases b with
      | true => exact wp_cond_true hb (ihx h M β a w i)
      | false => exact wp_cond_false hb (ihy h M β a w i)
    · rename_i b hv
      have hb : a.eval c = .bool b := by have := ev.rep i c; rw [hv] at this; exact this
      exact wp_cond_split hb (fun hb => ihx (h.1 hb) M β a w i) (fun hb => ihy (h.2 hb) M β a w i)
    · exact h.elim
  | region id ops dr =>
    intro σ K h
    replace h : exReg P T N ref rc ops dr σ K := h
    unfold exReg at h
    cases dr with
    | true =>
      refine AW.draw hT (fun f hf => ?_) hm h
      cases hr : ref.isEmpty with
      | true => rw [href]; exact List.isEmpty_iff.1 hr
      | false =>
        rw [hr] at hf
        simp only [cond_false, List.contains_eq_mem, decide_eq_true_eq, List.mem_filter] at hf
        have := Nat.le_of_ble_eq_true hf.2
        omega
    | false =>
      intro M β a w i
      have := runOps.sound (Q := fun e a' w' => ∃ σ' M' β', K e σ' ∧ Inv cx N M' β' σ' a' w' ∧ Grow cx.B M M' ∧ Keep cx w w') hT href ops.toList h i (fun a' w' hp => hp)
      exact wp_region_list (by simpa using this)
  | _ => exact fun h => h

end Go.Ax

/- From the executor to a contract. -/
namespace Go.Ax
open Go.RowKit

def envOf : List AV → Nat → List (Nat × AV)
  | [], _ => []
  | v :: r, k => (k, v) :: envOf r (k + 1)
def initSt (args : List AV) : St := ⟨envOf args 0, []⟩

theorem envOf.rep {M : Mem} {β : Nm} : ∀ {args : List AV} {vs : List Value} {k t : Nat} (rest : List Value), RepAs M β args vs → k ≤ t → (getE (envOf args k) t).Rep M β ((vs ++ rest).getD (t - k) undef)
  | [], [], k, t, rest, _, _ => trivial
  | v :: args, u :: vs, k, t, rest, ⟨h, r⟩, hk => by
    simp only [envOf, getE_cons]
    by_cases he : k = t
    · subst he; simpa using h
    · rw [if_neg he]
      have := envOf.rep (k := k + 1) (t := t) rest r (by omega)
      rw [show t - k = (t - (k + 1)) + 1 by omega]
      simpa using this
  | [], _ :: _, _, _, _, h, _ => h.elim
  | _ :: _, [], _, _, _, h, _ => h.elim
theorem RepAs.length : ∀ {M β} {cs : List AV} {vs : List Value}, RepAs M β cs vs → vs.length = cs.length
  | _, _, [], [], _ => rfl
  | _, _, _ :: _, _ :: _, ⟨_, r⟩ => by simp [RepAs.length r]
  | _, _, [], _ :: _, h => h.elim
  | _, _, _ :: _, [], h => h.elim

def res1 (T : List (Nat × TyI)) (σ : St) : ResultVar → Option TV
  | .tmp t => match getE σ.env t with
    | .s x => some (.s x)
    | .g cs => some (.g cs)
    | _ => none
  | .cell a t => match getT T t, getE σ.env a with
    | some ti, .s (.ptr x 0) => match getB σ.box x with
      | some (some (.cells cs)) => match ti.agg with
        | true => bif Nat.beq cs.length ti.size then some (.g cs) else none
        | false => match cs with
          | [c] => some (.s c)
          | _ => none
      | _ => none
    | _, _ => none
def resL (T : List (Nat × TyI)) (σ : St) : List ResultVar → Option (List TV)
  | [] => some []
  | x :: r => match res1 T σ x, resL T σ r with
    | some t, some ts => some (t :: ts)
    | _, _ => none
def ofT : TV → AV
  | .s x => .s x
  | .g cs => .g cs
def ofTs : List TV → AV
  | [t] => ofT t
  | ts => .t ts
def convT (σ : St) : TV → TV
  | .s x => .s (convS σ x)
  | .g cs => .g (convSs σ cs)
def convTs (σ : St) : List TV → List TV
  | [] => []
  | t :: r => convT σ t :: convTs σ r

/-- What is represented by v is represented by r. -/
def SubR (v r : AV) : Prop := ∀ M u, v.Rep M nb u → r.Rep M nb u
theorem SubR.refl (v : AV) : SubR v v := fun _ _ h => h
theorem SubR.of_eq {v r : AV} (h : v = r) : SubR v r := h ▸ SubR.refl v

def retK (T : List (Nat × TyI)) (rs : List ResultVar) (r : AV) : Exit → St → Prop
  | .ret, σ => match resL T σ rs with
    | some ts => SubR (ofTs (convTs σ ts)) r
    | none => False
  | .normal, σ => match resL T σ rs with
    | some ts => SubR (ofTs (convTs σ ts)) r
    | none => False
  | _, _ => False

section
variable {P : Program} {T : List (Nat × TyI)} {cx : Cx} {N : Nat} {M F : Mem} {β : Nm} {σ : St} {a : Act} {w : World}

def resSem (tmps : Array Value) : ResultVar → Sem Value
  | .tmp t => pure (tmps.getD t undef)
  | .cell a t => do loadVar t (← asAddr (tmps.getD a undef))

theorem res1.rep (hT : TabOK P T) (i : Inv cx N M β σ a w) {x : ResultVar} {t : TV} (h : res1 T σ x = some t) : ∃ v, (resSem a.tmps x).run P w = .ok v w ∧ t.Rep M β v := by
  cases x with
  | tmp u =>
    simp only [res1] at h
    have hr := i.env u
    refine ⟨a.tmps.getD u undef, rfl, ?_⟩
    split at h
    · rename_i e; cases h; rw [e] at hr; exact hr
    · rename_i e; cases h; rw [e] at hr; exact hr
    · cases h
  | cell u t' =>
    simp only [res1] at h
    split at h
    · rename_i ti x hti he
      have hok := hT.get hti
      have hr := i.env u
      rw [he] at hr
      obtain ⟨b, c, e1, e2⟩ := hr
      split at h
      · rename_i cs hb
        obtain ⟨b', c', vs, ty, e3, hh, hrl⟩ := i.box x _ hb
        rw [e1] at e3; cases e3
        split at h
        · rename_i hagg
          cases hl : Nat.beq cs.length ti.size with
          | false => rw [hl] at h; cases h
          | true =>
            rw [hl] at h; cases h
            have hl := Nat.eq_of_beq_eq_true hl
            have hlv := hrl.length
            refine ⟨_, ?_, vs, rfl, hrl⟩
            have hld := run_loadCells_list (P := P) w ⟨b, 0, none⟩ vs (fun j v hv => by rw [cell_add]; simp [World.cell?, hh, hv])
            have ha := hok.run_agg w
            rw [hagg] at ha
            simp [resSem, e2, asAddr, loadVar, ha, hok.run_size, ← hl, ← hlv, hld]
        · rename_i hagg
          split at h
          · cases h
            rename_i c0
            cases vs with
            | nil => exact hrl.elim
            | cons v r =>
              cases r with
              | cons _ _ => exact hrl.2.elim
              | nil =>
                refine ⟨v, ?_, hrl.1⟩
                have ha := hok.run_agg w
                rw [hagg] at ha
                have hc : w.cell? ⟨b, 0, none⟩ = some v := by simp [World.cell?, hh]
                simp [resSem, e2, asAddr, loadVar, ha, hc, run_load]
          · cases h
      · cases h
    · cases h

theorem resL.rep (hT : TabOK P T) (i : Inv cx N M β σ a w) : ∀ {l : List ResultVar} {ts : List TV}, resL T σ l = some ts → ∃ vs : List Value, (l.mapM (resSem a.tmps)).run P w = .ok vs w ∧ RepT M β ts vs
  | [], ts, h => by simp [resL] at h; subst h; exact ⟨[], rfl, trivial⟩
  | x :: r, ts, h => by
    simp only [resL] at h
    split at h
    · rename_i t ts' h1 h2
      cases h
      obtain ⟨v, e1, r1⟩ := res1.rep hT i h1
      obtain ⟨vs, e2, r2⟩ := resL.rep hT i h2
      exact ⟨v :: vs, by simp [e1, e2], r1, r2⟩
    · cases h

theorem convTs.rep (i : Inv cx N M β σ a w) (hM : Mem.le M F) (hF : ∀ x bc b c, getB σ.box x = some (some bc) → β x = some (b, c) → ∀ o u, w.cell? ⟨b, o, none⟩ = some u → F b o = some u) :
    ∀ {ts : List TV} {vs : List Value}, RepT M β ts vs → RepT F nb (convTs σ ts) vs
  | [], [], _ => trivial
  | t :: _, _ :: _, ⟨h, r⟩ => by
    refine ⟨?_, convTs.rep i hM hF r⟩
    cases t with
    | s x => exact dS.rep i hM hF 3 _ _ h
    | g cs => obtain ⟨vs, e, hr⟩ := h; exact ⟨vs, e, convSs.rep i hM hF hr⟩
  | [], _ :: _, h => h.elim
  | _ :: _, [], h => h.elim

theorem callP_of_aw {f N : Nat} {fn : Func} {c : Code} {args : List AV} {r : AV} (hf : P.funcs[f]? = some fn) (hb : fn.body = some c) (hN : fn.ntmps = N) (hcall : ∀ vs w, (callFunc f vs).run P w = .ok (.enter f vs) w)
    (hT : TabOK P T) (hl : Nat.ble args.length N = true) {rs : List ResultVar} (hrs : fn.results.toList = rs)
    (h : ∀ cx : Cx, cx.ref = [] → AW P cx N c (initSt args) (retK T rs r)) : CallP P f args r := by
  refine ⟨hcall, fun M w vs hr hM => ?_⟩
  refine calls_of_wp hf hb ?_
  let cx : Cx := ⟨w.heap.size, [], nb⟩
  have hlen := hr.length
  have hl := Nat.le_of_ble_eq_true hl
  have i0 : Inv cx N M nb (initSt args) { tmps := vs.toArray ++ Array.replicate (fn.ntmps - vs.toArray.size) undef, defers := [] } w := by
    refine ⟨rfl, by simp; omega, Nat.le_refl _, fun t => ?_, hM, fun _ _ e => (by cases e), fun _ _ e => (by cases e), fun _ _ _ _ _ _ _ e => (by cases e), fun _ _ _ _ e => (by cases e), fun _ _ _ _ e => (by cases e), fun _ hx => (by cases hx)⟩
    have := envOf.rep (k := 0) (t := t) (List.replicate (fn.ntmps - vs.length) undef) hr (Nat.zero_le _)
    simp only [Nat.sub_zero] at this
    simp only [initSt]
    have e : (vs.toArray ++ Array.replicate (fn.ntmps - vs.toArray.size) undef).getD t undef = (vs ++ List.replicate (fn.ntmps - vs.length) undef).getD t undef := by
      simp [← List.toArray_replicate]
    rw [e]
    exact this
  refine wp_mono (h cx rfl M nb _ w i0) ?_
  rintro e a' w' ⟨σ', M', β', hk, i', hg, hkp⟩
  -- the results
  have fin : ∀ ts, resL T σ' rs = some ts → SubR (ofTs (convTs σ' ts)) r → a'.defers = [] ∧ ∃ v, (results fn a'.tmps).run P w' = .ok v w' ∧ ∃ v' M', Ending.returned v = .returned v' ∧ r.Rep M' nb v' ∧ Grow w.heap.size M M' ∧ MemOK M' w' ∧ Bel w w' := by
    intro ts hts hsub
    obtain ⟨vs', hrun, hrep⟩ := resL.rep hT i' hts
    let F : Mem := fun b o => if b < w.heap.size then M' b o else w'.cell? ⟨b, o, none⟩
    have hMF : Mem.le M' F := fun b o u e => by
      by_cases hbl : b < w.heap.size
      · simp [F, hbl, e]
      · simp [F, hbl, i'.mem b o u e]
    have hFc : ∀ x bc b c, getB σ'.box x = some (some bc) → β' x = some (b, c) → ∀ o u, w'.cell? ⟨b, o, none⟩ = some u → F b o = some u := by
      intro x bc b c e e' o u hu
      rcases i'.low x bc b c e e' with h | h
      · have : ¬ b < w.heap.size := by have : w.heap.size ≤ b := h; omega
        simp [F, this, hu]
      · obtain ⟨_, _, hx, _⟩ := h; cases hx
    have hconv := convTs.rep i' hMF hFc hrep
    refine ⟨i'.defers, (if h : vs'.toArray.size = 1 then vs'.toArray[0] else .tuple vs'.toArray), ?_, _, F, rfl, hsub F _ ?_, ⟨fun b o u e => hMF b o u (hg.le b o u e), fun b o u e => ?_⟩, fun b o u e => ?_, ⟨⟨hkp.os, hkp.tape, hkp.output, hkp.size, fun k hk => hkp.block k hk (by rintro ⟨x, c, hx, _⟩; cases hx)⟩, hkp.drawn⟩⟩
    · have : (fn.results.mapM (resSem a'.tmps)).run P w' = .ok vs'.toArray w' := by
        rw [← Array.toArray_toList (xs := fn.results), List.mapM_toArray, hrs]
        simp only [Sem.run_map, hrun, Result.andThen]
      have e : results fn a'.tmps = (do let vs ← fn.results.mapM (resSem a'.tmps); pure (if h : vs.size = 1 then vs[0] else .tuple vs)) := by
        unfold results
        congr 1
      rw [e]
      simp only [Sem.run_bind, this, Result.andThen, Sem.run_pure]
    · cases hts' : convTs σ' ts with
      | nil =>
        rw [hts'] at hconv
        cases vs' with
        | nil => exact ⟨[], rfl, trivial⟩
        | cons _ _ => exact hconv.elim
      | cons t r' =>
        rw [hts'] at hconv
        cases vs' with
        | nil => exact hconv.elim
        | cons v vs'' =>
          cases r' with
          | nil =>
            cases vs'' with
            | cons _ _ => exact hconv.2.elim
            | nil =>
              have := hconv.1
              simp only [List.size_toArray, List.length_cons, List.length_nil, Nat.zero_add, dite_true, ofTs]
              cases t with
              | s x => exact this
              | g cs => exact this
          | cons t2 r2 =>
            cases vs'' with
            | nil => exact hconv.2.elim
            | cons v2 vs3 =>
              have hne : ¬ (v :: v2 :: vs3).toArray.size = 1 := by simp
              rw [dif_neg hne]
              exact ⟨_, rfl, hconv⟩
    · by_cases hbl : b < w.heap.size
      · simp [F, hbl] at e
        exact hg.new b o u e
      · exact .inr (by omega)
    · by_cases hbl : b < w.heap.size
      · simp [F, hbl] at e
        exact i'.mem b o u e
      · simp [F, hbl] at e
        exact e
  cases e with
  | ret =>
    simp only [retK] at hk
    split at hk
    · rename_i ts hts; exact fin ts hts hk
    · exact hk.elim
  | normal =>
    simp only [retK] at hk
    split at hk
    · rename_i ts hts; exact fin ts hts hk
    · exact hk.elim
  | _ => exact hk.elim

theorem callP_of_ex {rc : List Nat} {f N : Nat} {fn : Func} {c : Code} {args : List AV} {r : AV} (hf : P.funcs[f]? = some fn) (hb : fn.body = some c) (hN : fn.ntmps = N) (hcall : ∀ vs w, (callFunc f vs).run P w = .ok (.enter f vs) w)
    (hT : TabOK P T) (hm : P.follows .mixedOrders = true) (hl : Nat.ble args.length N = true) {rs : List ResultVar} (hrs : fn.results.toList = rs)
    (h : ∀ cx : Cx, cx.ref = [] → ex P T N [] rc cx c (initSt args) (retK T rs r)) : CallP P f args r :=
  callP_of_aw hf hb hN hcall hT hl hrs fun cx href => ex.sound hT hm href c (h cx href)

end
end Go.Ax

/- Facts on types: structs of integers, texts and truth values, and of such structs, are compared cell by cell. -/
namespace Go.Ax
open Go.RowKit

theorem run_part_one {P : Program} {w : World} {t : TypeId} (h : (isAgg t).run P w = .ok false w) {V : Array Value} {k : Nat} {v : Value} (hv : V[k]? = some v) : (part t V k).run P w = .ok v w := by
  simp [part, h, hv]
theorem run_part_agg {P : Program} {w : World} {t : TypeId} {m : Nat} (h : (isAgg t).run P w = .ok true w) (hs : (sizeOf t).run P w = .ok m w) {V : Array Value} {k : Nat} : (part t V k).run P w = .ok (.agg ((V.toList.drop k).take m).toArray) w := by
  have : V.extract k (k + m) = ((V.toList.drop k).take m).toArray := by
    apply Array.ext'; simp [List.extract_eq_take_drop]
  simp [part, h, hs, this]

abbrev RepL0 (xs : List SV) (vs : List Value) : Prop := RepL (fun _ _ => none) (fun _ => none) xs vs
def mkV (agg : Bool) (vs : List Value) : Value := match agg with | true => .agg vs.toArray | false => vs.headD undef
/-- At type t, whose cells are of the kinds of zs, '==' compares cell by cell. -/
structure CmpT (P : Program) (n : Nat) (t : TypeId) (agg : Bool) (zs : List Value) : Prop where
  isAgg : ∀ w, (isAgg t).run P w = .ok agg w
  size : agg = true → ∀ w, (sizeOf t).run P w = .ok zs.length w
  one : agg = false → zs.length = 1
  run : ∀ (d : Nat) (w : World) (xs ys : List SV) (vs us : List Value) (b : Bool), kindOK zs xs = true → kindOK zs ys = true → eqI xs ys = some b → RepL0 xs vs → RepL0 ys us →
    (Op.equalIn (d + n) t (mkV agg vs) (mkV agg us)).run P w = .ok b w
theorem CmpT.up {P : Program} {n : Nat} {t : TypeId} {agg : Bool} {zs : List Value} (h : CmpT P n t agg zs) : CmpT P (n + 1) t agg zs :=
  ⟨h.isAgg, h.size, h.one, fun d w xs ys vs us b h1 h2 h3 h4 h5 => by have := h.run (d + 1) w xs ys vs us b h1 h2 h3 h4 h5; rwa [show d + 1 + n = d + (n + 1) by omega] at this⟩

theorem kOK_int {k : IntKind} {z : Int} {x : SV} (h : kOK (.int k z) x = true) : ∃ k' a, intS x = some (k', a) := by
  cases hx : intS x with
  | none => simp [kOK, hx] at h
  | some p => exact ⟨p.1, p.2, rfl⟩
theorem kOK_string {s : ByteArray} {x : SV} (h : kOK (.string s) x = true) : ∃ a, strS x = some a := by
  cases hx : strS x with
  | none => simp [kOK, hx] at h
  | some p => exact ⟨p, rfl⟩
theorem kOK_bool {s : Bool} {x : SV} (h : kOK (.bool s) x = true) : ∃ a, boolS x = some a := by
  cases hx : boolS x with
  | none => simp [kOK, hx] at h
  | some p => exact ⟨p, rfl⟩
theorem kind1 {z : Value} {xs : List SV} (h : kindOK [z] xs = true) : ∃ x, xs = [x] ∧ kOK z x = true := by
  cases xs with
  | nil => cases h
  | cons x r =>
    simp only [kindOK, Bool.and_eq_true] at h
    cases r with
    | nil => exact ⟨x, rfl, h.1⟩
    | cons _ _ => exact absurd h.2 (by simp [kindOK])
theorem rep1 {x : SV} {vs : List Value} (h : RepL0 [x] vs) : ∃ v, vs = [v] ∧ x.Rep (fun _ _ => none) (fun _ => none) v := by
  cases vs with
  | nil => exact h.elim
  | cons v r => cases r with
    | nil => exact ⟨v, rfl, h.1⟩
    | cons _ _ => exact h.2.elim
theorem intS.val {x : SV} {k : IntKind} {a : Int} {M : Mem} {β : Nm} {v : Value} (h : intS x = some (k, a)) (r : x.Rep M β v) : v = .int k a := by
  unfold intS at h
  split at h
  · cases h; exact r
  · cases h
theorem intS_str {x : SV} {s : ByteArray} (h : strS x = some s) : intS x = none := by
  unfold strS at h
  split at h
  · rfl
  · cases h
theorem intS_bool {x : SV} {s : Bool} (h : boolS x = some s) : intS x = none := by
  unfold boolS at h
  split at h
  · rfl
  · rfl
  · cases h
theorem strS_bool {x : SV} {s : Bool} (h : boolS x = some s) : strS x = none := by
  unfold boolS at h
  split at h
  · rfl
  · rfl
  · cases h

section
variable {P : Program} {t : TypeId}
theorem cmp_int {k : IntKind} (z : Int) (h : P.underlying t = some (.int k)) : CmpT P 1 t false [.int k z] := by
  refine ⟨fun w => by simp [isAgg, run_underlying h], (fun h => by cases h), fun _ => rfl, fun d w xs ys vs us b h1 h2 e rx ry => ?_⟩
  obtain ⟨x, rfl, kx⟩ := kind1 h1
  obtain ⟨y, rfl, ky⟩ := kind1 h2
  obtain ⟨v, rfl, rx'⟩ := rep1 rx
  obtain ⟨u, rfl, ry'⟩ := rep1 ry
  obtain ⟨k1, a, hx⟩ := kOK_int kx
  obtain ⟨k2, a2, hy⟩ := kOK_int ky
  simp only [eqI, hx, hy] at e
  by_cases hk : k1 = k2
  · subst hk
    simp only [decide_true, cond_true, Bool.and_true, Option.some.injEq] at e
    subst e
    have ev := intS.val hx rx'
    have eu := intS.val hy ry'
    subst ev; subst eu
    exact run_equalIn_int (w := w) d t k1 k a a2 h
  · simp [hk] at e
theorem cmp_string (z : ByteArray) (h : P.underlying t = some .string) : CmpT P 1 t false [.string z] := by
  refine ⟨fun w => by simp [isAgg, run_underlying h], (fun h => by cases h), fun _ => rfl, fun d w xs ys vs us b h1 h2 e rx ry => ?_⟩
  obtain ⟨x, rfl, kx⟩ := kind1 h1
  obtain ⟨y, rfl, ky⟩ := kind1 h2
  obtain ⟨v, rfl, rx'⟩ := rep1 rx
  obtain ⟨u, rfl, ry'⟩ := rep1 ry
  obtain ⟨a, hx⟩ := kOK_string kx
  obtain ⟨a2, hy⟩ := kOK_string ky
  simp only [eqI, intS_str hx, hx, hy, Bool.and_true, Option.some.injEq] at e
  subst e
  have ev := strS.val hx rx'
  have eu := strS.val hy ry'
  subst ev; subst eu
  exact run_equalIn_string (w := w) d t a a2 h
theorem cmp_bool (z : Bool) (h : P.underlying t = some .bool) : CmpT P 1 t false [.bool z] := by
  refine ⟨fun w => by simp [isAgg, run_underlying h], (fun h => by cases h), fun _ => rfl, fun d w xs ys vs us b h1 h2 e rx ry => ?_⟩
  obtain ⟨x, rfl, kx⟩ := kind1 h1
  obtain ⟨y, rfl, ky⟩ := kind1 h2
  obtain ⟨v, rfl, rx'⟩ := rep1 rx
  obtain ⟨u, rfl, ry'⟩ := rep1 ry
  obtain ⟨a, hx⟩ := kOK_bool kx
  obtain ⟨a2, hy⟩ := kOK_bool ky
  simp only [eqI, intS_bool hx, strS_bool hx, hx, hy, Bool.and_true, Option.some.injEq] at e
  subst e
  have ev := boolS.val hx rx'
  have eu := boolS.val hy ry'
  subst ev; subst eu
  exact run_equalIn_bool' (w := w) d t a a2 h
end

def CmpF (P : Program) (n : Nat) : List Field → List Value → Nat → Prop
  | [], zs, _ => zs = []
  | f :: fs, zs, k => f.name ≠ "_" ∧ f.offset = k ∧ ∃ agg zf rest, zs = zf ++ rest ∧ CmpT P n f.type agg zf ∧ CmpF P n fs rest (k + zf.length)

theorem kindOK_app : ∀ {zf rest : List Value} {xs : List SV}, kindOK (zf ++ rest) xs = true → kindOK zf (xs.take zf.length) = true ∧ kindOK rest (xs.drop zf.length) = true ∧ zf.length ≤ xs.length
  | [], _, _, h => ⟨rfl, h, Nat.zero_le _⟩
  | z :: zf, rest, [], h => by cases h
  | z :: zf, rest, x :: xs, h => by
    simp only [List.cons_append, kindOK, Bool.and_eq_true] at h
    obtain ⟨i1, i2, i3⟩ := kindOK_app h.2
    exact ⟨by simp only [List.length_cons, List.take_succ_cons, kindOK, Bool.and_eq_true]; exact ⟨h.1, i1⟩, by simpa using i2, by simp; omega⟩
theorem eqI_none {x y : SV} {r s : List SV} (h : eqI r s = none) : eqI (x :: r) (y :: s) = none := by
  simp only [eqI, h]
/-- One cell. -/
def eq1 (x y : SV) : Option Bool := eqI [x] [y]
theorem eqI_cons {x y : SV} {r s : List SV} {b : Bool} (h : eqI (x :: r) (y :: s) = some b) : ∃ b1 b2, eq1 x y = some b1 ∧ eqI r s = some b2 ∧ b = (b1 && b2) := by
  cases hc : eqI r s with
  | none => rw [eqI_none hc] at h; cases h
  | some c =>
    simp only [eqI, hc] at h
    split at h
    · rename_i k1 a k2 b' c' ha hb hc'
      cases hc'
      by_cases hk : k1 = k2
      · subst hk
        simp only [decide_true, cond_true, Option.some.injEq] at h
        exact ⟨a == b', c, by simp [eq1, eqI, ha, hb], rfl, h.symm⟩
      · simp [hk] at h
    · rename_i c' hc' hn
      cases hc'
      split at h
      · rename_i a b' ha hb
        cases h
        exact ⟨a.toList == b'.toList, c, by simp [eq1, eqI, intS_str ha, ha, hb], rfl, rfl⟩
      · rename_i hns
        split at h
        · rename_i a b' ha hb
          cases h
          exact ⟨a == b', c, by simp [eq1, eqI, intS_bool ha, strS_bool ha, ha, hb], rfl, rfl⟩
        · cases h
    · rename_i hc'
      cases hc'
theorem eqI_of {x y : SV} {r s : List SV} {b1 b2 : Bool} (h : eq1 x y = some b1) (k : eqI r s = some b2) : eqI (x :: r) (y :: s) = some (b1 && b2) := by
  simp only [eq1, eqI] at h
  split at h
  · rename_i k1 a k2 b' c' ha hb hc'
    cases hc'
    by_cases hk : k1 = k2
    · subst hk
      simp only [decide_true, cond_true, Option.some.injEq, Bool.and_true] at h
      simp [eqI, k, ha, hb, h]
    · simp [hk] at h
  · rename_i c' hc' hn
    cases hc'
    split at h
    · rename_i a b' ha hb
      simp only [Bool.and_true, Option.some.injEq] at h
      simp [eqI, k, intS_str ha, ha, hb, h]
    · split at h
      · rename_i a b' ha hb
        simp only [Bool.and_true, Option.some.injEq] at h
        simp [eqI, k, intS_bool ha, strS_bool ha, ha, hb, h]
      · cases h
  · rename_i hc'
    cases hc'
theorem eqI_app : ∀ (m : Nat) {xs ys : List SV} {b : Bool}, eqI xs ys = some b → m ≤ xs.length → ∃ b1 b2, eqI (xs.take m) (ys.take m) = some b1 ∧ eqI (xs.drop m) (ys.drop m) = some b2 ∧ b = (b1 && b2)
  | 0, xs, ys, b, h, _ => ⟨true, b, by simp [eqI], by simpa using h, by simp⟩
  | m + 1, [], ys, b, h, hl => by simp at hl
  | m + 1, x :: xs, [], b, h, hl => by simp [eqI] at h
  | m + 1, x :: xs, y :: ys, b, h, hl => by
    obtain ⟨c1, c2, h1, h2, rfl⟩ := eqI_cons h
    obtain ⟨d1, d2, h3, h4, rfl⟩ := eqI_app m h2 (by simpa using hl)
    exact ⟨c1 && d1, d2, by simp only [List.take_succ_cons]; exact eqI_of h1 h3, by simpa using h4, by rw [Bool.and_assoc]⟩
theorem eqI_nil {xs : List SV} {b : Bool} (h : eqI [] xs = some b) : b = true := by
  cases xs with
  | nil => simp only [eqI, Option.some.injEq] at h; exact h.symm
  | cons _ _ => cases h
theorem RepL0.take' {xs : List SV} {vs : List Value} (n : Nat) (h : RepL0 xs vs) : RepL0 (xs.take n) (vs.take n) := RepL.take n h

theorem eqFields_run {P : Program} {n d : Nat} {V U : Array Value} : ∀ {fs : List Field} {zs : List Value} {k : Nat} {w : World} {xs ys : List SV} {b : Bool} {vs us : List Value}, CmpF P n fs zs k → kindOK zs xs = true → kindOK zs ys = true → eqI xs ys = some b → RepL0 xs vs → RepL0 ys us →
    V.toList.drop k = vs → U.toList.drop k = us → (Op.eqFields (d + n) V U fs).run P w = .ok b w
  | [], zs, k, w, xs, ys, b, vs, us, hz, h1, h2, e, _, _, _, _ => by
    have hz : zs = [] := hz
    subst hz
    cases xs with
    | nil => rw [eqI_nil e]; rfl
    | cons _ _ => cases h1
  | f :: fs, zs, k, w, xs, ys, b, vs, us, hz, h1, h2, e, rx, ry, hv, hu => by
    obtain ⟨hn, hk, agg, zf, rest, rfl, hc, hf⟩ := hz
    obtain ⟨k1, k2, k3⟩ := kindOK_app h1
    obtain ⟨k4, k5, k6⟩ := kindOK_app h2
    obtain ⟨b1, b2, e1, e2, rfl⟩ := eqI_app zf.length e k3
    have lx := rx.length
    have ly := ry.length
    have ih := eqFields_run (w := w) (V := V) (U := U) (d := d) hf k2 k5 e2 (RepL.drop zf.length rx) (RepL.drop zf.length ry) (by rw [← hv, List.drop_drop]) (by rw [← hu, List.drop_drop])
    have hr := hc.run d w _ _ _ _ _ k1 k4 e1 (RepL.take zf.length rx) (RepL.take zf.length ry)
    have part : ∀ (W : Array Value) (ws : List Value), W.toList.drop k = ws → zf.length ≤ ws.length → (part f.type W k).run P w = .ok (mkV agg (ws.take zf.length)) w := by
      intro W ws hw hl
      cases agg with
      | true => rw [run_part_agg (hc.isAgg w) (hc.size rfl w), hw]; rfl
      | false =>
        have h0 := hc.one rfl
        rw [h0] at hl ⊢
        cases ws with
        | nil => simp at hl
        | cons v r =>
          show _ = Result.ok v w
          refine run_part_one (hc.isAgg w) ?_
          have : (W.toList.drop k)[0]? = some v := by rw [hw]; rfl
          simpa using this
    simp only [Op.eqFields, hn, ne_eq, not_false_eq_true, if_true, Sem.run_bind, hk, part V vs hv (by omega), part U us hu (by omega), Result.andThen, hr, Sem.run_ite]
    cases b1 with
    | true => simpa using ih
    | false => simp

theorem cmp_struct {P : Program} {t n : Nat} {fs : Array Field} {zs : List Value} (hund : P.underlying t = some (.struct fs)) (hp : P.stoodInHeld t = false) (hs : ∀ w, (sizeOf t).run P w = .ok zs.length w) (hf : CmpF P n fs.toList zs 0) : CmpT P (n + 1) t true zs := by
  refine ⟨fun w => by simp [isAgg, run_underlying hund], fun _ => hs, (fun h => by cases h), fun d w xs ys vs us b h1 h2 e rx ry => ?_⟩
  have hff : P.fieldsOf t = fs := by simp [Program.fieldsOf, hund]
  show (Op.equalIn (d + n + 1) t _ _).run P w = _
  simp only [mkV]
  rw [run_equalIn_struct w (d + n) t vs.toArray us.toArray (by rw [hff]; exact hund) hp, hff]
  exact eqFields_run hf h1 h2 e rx ry (by simp) (by simp)
theorem size_of {P : Program} {t n : Nat} {ti : TypeInfo} (h : P.info? t = some ti) (hn : ti.size = n) (w : World) : (sizeOf t).run P w = .ok n w := by
  simp [sizeOf, typeInfo, h, hn]
theorem ints_struct {P : Program} {t n : Nat} {zs : List Value} (h : CmpT P n t true zs) (hn : n ≤ 10000) :
    ∀ (w : World) (xs ys : List SV) (vs us : List Value) (b : Bool), kindOK zs xs = true → kindOK zs ys = true → eqI xs ys = some b → RepL0 xs vs → RepL0 ys us →
    (Op.equal t (.agg vs.toArray) (.agg us.toArray)).run P w = .ok b w := by
  intro w xs ys vs us b h1 h2 e rx ry
  have := h.run (10000 - n) w xs ys vs us b h1 h2 e rx ry
  rwa [show 10000 - n + n = 10000 by omega] at this

end Go.Ax

/- From the executor to a contract over boxes. -/
namespace Go.Ax
open Go.RowKit

def openB : BoxL → Boxes
  | [] => []
  | (x, b) :: r => (x, some b) :: openB r
def initR (args : List AV) (bx : BoxL) : St := ⟨envOf args 0, openB bx⟩
def shutB (box : Boxes) : BoxL → Boxes
  | [] => box
  | (x, _) :: r => (x, none) :: shutB box r
def holdB (box : Boxes) : BoxL → Prop
  | [] => True
  | (x, b) :: r => getB box x = some (some b) ∧ holdB box r

theorem openB.get {x : Nat} {b : Box} : ∀ {bx : BoxL}, getB (openB bx) x = some (some b) → (x, b) ∈ bx
  | [], h => by cases h
  | (y, c) :: r, h => by
    simp only [openB] at h
    rw [getB_cons] at h
    by_cases e : y = x
    · rw [if_pos e] at h; cases h; subst e; simp
    · rw [if_neg e] at h
      exact List.mem_cons_of_mem _ (openB.get h)
theorem openB.has {x : Nat} : ∀ {bx : BoxL}, x ∈ names bx → ∃ y, getB (openB bx) x = some y
  | [], h => by cases h
  | (y, c) :: r, h => by
    simp only [openB]
    rw [getB_cons]
    by_cases e : y = x
    · rw [if_pos e]; exact ⟨_, rfl⟩
    · rw [if_neg e]
      simp only [names, List.mem_cons] at h
      exact openB.has (h.resolve_left (fun h => e h.symm))
theorem shutB.get {box : Boxes} {x : Nat} {b : Box} : ∀ {bx : BoxL}, getB (shutB box bx) x = some (some b) → x ∉ names bx ∧ getB box x = some (some b)
  | [], h => ⟨by simp [names], h⟩
  | (y, c) :: r, h => by
    simp only [shutB] at h
    rw [getB_cons] at h
    by_cases e : y = x
    · rw [if_pos e] at h; cases h
    · rw [if_neg e] at h
      obtain ⟨h1, h2⟩ := shutB.get h
      refine ⟨?_, h2⟩
      simp only [names, List.mem_cons]
      rintro (h | h)
      · exact e h.symm
      · exact h1 h
theorem shutB.has {box : Boxes} {x : Nat} {y : Option Box} (h : getB box x = some y) : ∀ {bx : BoxL}, ∃ y, getB (shutB box bx) x = some y
  | [] => ⟨y, h⟩
  | (z, c) :: r => by
    simp only [shutB]
    rw [getB_cons]
    by_cases e : z = x
    · rw [if_pos e]; exact ⟨_, rfl⟩
    · rw [if_neg e]; exact shutB.has h
theorem holdB.get {box : Boxes} {x : Nat} {b : Box} : ∀ {bx : BoxL}, holdB box bx → (x, b) ∈ bx → getB box x = some (some b)
  | [], _, h => by cases h
  | (y, c) :: r, ⟨h, hr⟩, hm => by
    cases hm with
    | head => exact h
    | tail _ hm => exact holdB.get hr hm

def retKR (T : List (Nat × TyI)) (rs : List ResultVar) (r : AV) (bx' : BoxL) : Exit → St → Prop
  | .ret, σ => match resL T σ rs with
    | some ts => SubR (ofTs (convTs ⟨σ.env, shutB σ.box bx'⟩ ts)) r ∧ holdB σ.box bx'
    | none => False
  | .normal, σ => match resL T σ rs with
    | some ts => SubR (ofTs (convTs ⟨σ.env, shutB σ.box bx'⟩ ts)) r ∧ holdB σ.box bx'
    | none => False
  | _, _ => False

section
variable {P : Program} {T : List (Nat × TyI)}

theorem Inv.shut {cx : Cx} {N : Nat} {M : Mem} {β : Nm} {σ : St} {a : Act} {w : World} (i : Inv cx N M β σ a w) (bx' : BoxL) : Inv cx N M β ⟨σ.env, shutB σ.box bx'⟩ a w := by
  refine ⟨i.defers, i.tmps, i.heap, i.env, i.mem, ?_, ?_, ?_, ?_, ?_, i.ref⟩
  · intro x p e
    obtain ⟨y, hy⟩ := i.keys x p e
    exact shutB.has hy
  · exact fun x bc h => i.box x bc (shutB.get h).2
  · exact fun x y bx bby b c c' hx hy => i.inj x y bx bby b c c' (shutB.get hx).2 (shutB.get hy).2
  · exact fun x bc b c h => i.apart x bc b c (shutB.get h).2
  · exact fun x bc b c h => i.low x bc b c (shutB.get h).2

theorem AV.Rep.of_T {M : Mem} {β : Nm} {r : AV} {v : Value} (h : r.Rep M nb v) : r.Rep M β v := AV.Rep.mono (Mem.le_refl _) (fun _ _ h => by cases h) h

theorem callR_of_aw {f N : Nat} {fn : Func} {c : Code} {args : List AV} {bx : BoxL} {r : AV} {bx' : BoxL} (hf : P.funcs[f]? = some fn) (hb : fn.body = some c) (hN : fn.ntmps = N) (hcall : ∀ vs w, (callFunc f vs).run P w = .ok (.enter f vs) w)
    (hT : TabOK P T) (hl : Nat.ble args.length N = true) (hkeep : ((names bx).all fun x => (names bx').contains x) = true) (hreal : (bx'.all fun p => p.2.real) = true) {rs : List ResultVar} (hrs : fn.results.toList = rs)
    (h : ∀ cx : Cx, cx.ref = names bx → AW P cx N c (initR args bx) (retKR T rs r bx')) : CallR P f args bx r bx' := by
  classical
  refine ⟨hcall, fun M β w vs hr hM hbx hβ => ?_⟩
  refine calls_of_wp hf hb ?_
  let cx : Cx := ⟨w.heap.size, names bx, β⟩
  have hlen := hr.length
  have hl := Nat.le_of_ble_eq_true hl
  have hex : ∀ x, x ∈ names bx → ∃ p, β x = some p := fun x hx => by
    obtain ⟨k, c, e⟩ := hbx.has x hx
    exact ⟨_, e⟩
  have i0 : Inv cx N M β (initR args bx) { tmps := vs.toArray ++ Array.replicate (fn.ntmps - vs.toArray.size) undef, defers := [] } w := by
    refine ⟨rfl, by simp; omega, Nat.le_refl _, fun t => ?_, hM, fun x p e => openB.has (hβ x p e), fun x b e => hbx.rep x b (openB.get e), fun x y b1 b2 b c c' h1 h2 e1 e2 => ?_, fun x b1 b c h1 e => ?_, fun x b1 b c h1 e => ?_, fun x hx => ⟨rfl, hex x hx⟩⟩
    · have := envOf.rep (k := 0) (t := t) (List.replicate (fn.ntmps - vs.length) undef) hr (Nat.zero_le _)
      simp only [Nat.sub_zero] at this
      simp only [initR]
      have e : (vs.toArray ++ Array.replicate (fn.ntmps - vs.toArray.size) undef).getD t undef = (vs ++ List.replicate (fn.ntmps - vs.length) undef).getD t undef := by
        simp [← List.toArray_replicate]
      rw [e]
      exact this
    · exact hbx.inj x y b c c' (mem_names (openB.get h1)) (mem_names (openB.get h2)) e1 e2
    · exact hbx.apart x b c (mem_names (openB.get h1)) e
    · exact .inr ⟨x, c, mem_names (openB.get h1), e⟩
  refine wp_mono (h cx rfl M β _ w i0) ?_
  rintro e a' w' ⟨σ', M', β', hk, i', hg, hkp⟩
  have fin : ∀ ts, resL T σ' rs = some ts → SubR (ofTs (convTs ⟨σ'.env, shutB σ'.box bx'⟩ ts)) r → holdB σ'.box bx' → a'.defers = [] ∧ ∃ v, (results fn a'.tmps).run P w' = .ok v w' ∧ ∃ v' M' β', Ending.returned v = .returned v' ∧ Nm.le β β' ∧ r.Rep M' β' v' ∧ Grow w.heap.size M M' ∧ MemOK M' w' ∧ BoxesOK M' β' w' bx' ∧
      (∀ x b c, x ∈ names bx' → β' x = some (b, c) → w.heap.size ≤ b ∨ ∃ y c', β y = some (b, c')) ∧
      w'.os = w.os ∧ w'.tape = w.tape ∧ w'.output = w.output ∧ w.heap.size ≤ w'.heap.size ∧ (∀ k, k < w.heap.size → (∀ y c, β y ≠ some (k, c)) → w'.heap[k]? = w.heap[k]?) ∧ w.drawn ≤ w'.drawn := by
    intro ts hts hsub hhold
    obtain ⟨vs', hrun, hrep⟩ := resL.rep hT i' hts
    let isB : Nat → Prop := fun b => ∃ x c, x ∈ names bx' ∧ β' x = some (b, c)
    let F : Mem := fun b o => if b < w.heap.size then M' b o else if isB b then none else w'.cell? ⟨b, o, none⟩
    have hlive : ∀ x, x ∈ names bx' → ∃ b, getB σ'.box x = some (some b) := fun x hx => by
      obtain ⟨b, hb⟩ := of_names hx
      exact ⟨b, holdB.get hhold hb⟩
    have hMF : Mem.le M' F := fun b o u e => by
      by_cases hbl : b < w.heap.size
      · simp [F, hbl, e]
      · have : ¬ isB b := by
          rintro ⟨x, c, hx, hx2⟩
          obtain ⟨bc, hbc⟩ := hlive x hx
          rw [i'.apart x bc b c hbc hx2 o] at e
          cases e
        simp only [F, if_neg hbl, if_neg this]
        exact i'.mem b o u e
    have hFc : ∀ x bc b c, getB (shutB σ'.box bx') x = some (some bc) → β' x = some (b, c) → ∀ o u, w'.cell? ⟨b, o, none⟩ = some u → F b o = some u := by
      intro x bc b c e e' o u hu
      obtain ⟨hnx, ex⟩ := shutB.get e
      have hnb : ¬ isB b := by
        rintro ⟨y, c', hy, hy2⟩
        obtain ⟨bc', hbc'⟩ := hlive y hy
        exact hnx (i'.inj y x bc' bc b c' c hbc' ex hy2 e' ▸ hy)
      rcases i'.low x bc b c ex e' with h | h
      · have : ¬ b < w.heap.size := by have : w.heap.size ≤ b := h; omega
        simp only [F, if_neg this, if_neg hnb]; exact hu
      · obtain ⟨y, c', hy, hy2⟩ := h
        have hy' : y ∈ names bx' := by
          rw [List.all_eq_true] at hkeep
          simpa using hkeep y hy
        have e1 : β' y = some (b, c') := by rw [(i'.ref y hy).1]; exact hy2
        exact (hnb ⟨y, c', hy', e1⟩).elim
    have hconv := convTs.rep (i'.shut bx') hMF hFc hrep
    refine ⟨i'.defers, (if h : vs'.toArray.size = 1 then vs'.toArray[0] else .tuple vs'.toArray), ?_, _, F, β', rfl, ?_, AV.Rep.of_T (hsub F _ ?_), ⟨fun b o u e => hMF b o u (hg.le b o u e), fun b o u e => ?_⟩, fun b o u e => ?_, ?_, ?_, hkp.os, hkp.tape, hkp.output, hkp.size, ?_, hkp.drawn⟩
    · have : (fn.results.mapM (resSem a'.tmps)).run P w' = .ok vs'.toArray w' := by
        rw [← Array.toArray_toList (xs := fn.results), List.mapM_toArray, hrs]
        simp only [Sem.run_map, hrun, Result.andThen]
      have e : results fn a'.tmps = (do let vs ← fn.results.mapM (resSem a'.tmps); pure (if h : vs.size = 1 then vs[0] else .tuple vs)) := by
        unfold results
        congr 1
      rw [e]
      simp only [Sem.run_bind, this, Result.andThen, Sem.run_pure]
    · intro x p e
      rw [(i'.ref x (hβ x p e)).1]
      exact e
    · cases hts' : convTs ⟨σ'.env, shutB σ'.box bx'⟩ ts with
      | nil =>
        rw [hts'] at hconv
        cases vs' with
        | nil => exact ⟨[], rfl, trivial⟩
        | cons _ _ => exact hconv.elim
      | cons t r' =>
        rw [hts'] at hconv
        cases vs' with
        | nil => exact hconv.elim
        | cons v vs'' =>
          cases r' with
          | nil =>
            cases vs'' with
            | cons _ _ => exact hconv.2.elim
            | nil =>
              have := hconv.1
              simp only [List.size_toArray, List.length_cons, List.length_nil, Nat.zero_add, dite_true, ofTs]
              cases t with
              | s x => exact this
              | g cs => exact this
          | cons t2 r2 =>
            cases vs'' with
            | nil => exact hconv.2.elim
            | cons v2 vs3 =>
              have hne : ¬ (v :: v2 :: vs3).toArray.size = 1 := by simp
              rw [dif_neg hne]
              exact ⟨_, rfl, hconv⟩
    · by_cases hbl : b < w.heap.size
      · simp only [F, if_pos hbl] at e
        exact hg.new b o u e
      · exact .inr (by omega)
    · by_cases hbl : b < w.heap.size
      · simp only [F, if_pos hbl] at e
        exact i'.mem b o u e
      · simp only [F, if_neg hbl] at e
        split at e
        · cases e
        · exact e
    · refine ⟨fun x hx => ?_, fun x b hb => ?_, fun x y b c c' hx hy e1 e2 => ?_, fun x b c hx e o => ?_⟩
      · obtain ⟨b, hb⟩ := of_names hx
        rw [List.all_eq_true] at hreal
        exact (i'.box x b (holdB.get hhold hb)).exb (hreal _ hb)
      · exact RepBox.mono hMF (Nm.le_refl β') rfl (fun _ _ _ => rfl) (i'.box x b (holdB.get hhold hb))
      · obtain ⟨bx1, h1⟩ := hlive x hx
        obtain ⟨bx2, h2⟩ := hlive y hy
        exact i'.inj x y bx1 bx2 b c c' h1 h2 e1 e2
      · obtain ⟨bx1, h1⟩ := hlive x hx
        have hB : isB b := ⟨x, c, hx, e⟩
        by_cases hbl : b < w.heap.size
        · simp only [F, if_pos hbl]
          exact i'.apart x bx1 b c h1 e o
        · simp only [F, if_neg hbl, if_pos hB]
    · intro x b c hx e
      obtain ⟨bx1, h1⟩ := hlive x hx
      rcases i'.low x bx1 b c h1 e with h | ⟨y, c', hy, hy2⟩
      · exact .inl h
      · exact .inr ⟨y, c', hy2⟩
    · intro k hk hnk
      exact hkp.block k hk (by rintro ⟨x, c, _, hx⟩; exact hnk x c hx)
  cases e with
  | ret =>
    simp only [retKR] at hk
    split at hk
    · rename_i ts hts; exact fin ts hts hk.1 hk.2
    · exact hk.elim
  | normal =>
    simp only [retKR] at hk
    split at hk
    · rename_i ts hts; exact fin ts hts hk.1 hk.2
    · exact hk.elim
  | _ => exact hk.elim
theorem callR_of_ex {rc : List Nat} {f N : Nat} {fn : Func} {c : Code} {args : List AV} {bx : BoxL} {r : AV} {bx' : BoxL} (hf : P.funcs[f]? = some fn) (hb : fn.body = some c) (hN : fn.ntmps = N) (hcall : ∀ vs w, (callFunc f vs).run P w = .ok (.enter f vs) w)
    (hT : TabOK P T) (hm : P.follows .mixedOrders = true) (hl : Nat.ble args.length N = true) (hkeep : ((names bx).all fun x => (names bx').contains x) = true) (hreal : (bx'.all fun p => p.2.real) = true) {rs : List ResultVar} (hrs : fn.results.toList = rs)
    (h : ∀ cx : Cx, cx.ref = names bx → ex P T N (names bx) rc cx c (initR args bx) (retKR T rs r bx')) : CallR P f args bx r bx' :=
  callR_of_aw hf hb hN hcall hT hl hkeep hreal hrs fun cx href => ex.sound hT hm href c (h cx href)

end
end Go.Ax

/- Loops, and conversions of contracts. -/
namespace Go.Ax
open Go.RowKit

theorem renC_nil : ∀ (cs : List CV), renCs [] cs = cs
  | [] => rfl
  | .d _ :: r => by simp [renCs, renC, renC_nil r]
  | .ptr _ _ :: r => by simp [renCs, renC, look, renC_nil r]
theorem renS_nil (x : SV) : renS [] x = x := by
  cases x with
  | clo f cs => simp [renS, renC_nil]
  | _ => rfl
theorem renSs_nil : ∀ (cs : List SV), renSs [] cs = cs
  | [] => rfl
  | x :: r => by simp [renSs, renS_nil, renSs_nil r]
theorem renTs_nil : ∀ (cs : List TV), renTs [] cs = cs
  | [] => rfl
  | .s x :: r => by simp [renTs, renT, renS_nil, renTs_nil r]
  | .g x :: r => by simp [renTs, renT, renSs_nil, renTs_nil r]
theorem renA_nil (x : AV) : renA [] x = x := by
  cases x with
  | s x => simp [renA, renS_nil]
  | g x => simp [renA, renSs_nil]
  | ib b x => simp [renA, renS_nil]
  | ig b x => simp [renA, renSs_nil]
  | t ts => simp [renA, renTs_nil]
theorem renB_nil (b : Box) : renB [] b = b := by
  cases b with
  | cells cs => simp [renB, renSs_nil]
  | row e n s f => rfl
  | mrow e n s f => rfl
  | map vk l => rfl
  | iter m n seen => rfl
theorem inA.mono {M : Mem} {β β' : Nm} {xs : List Nat} (h : ∀ x, x ∈ xs → ∀ p, β x = some p → β' x = some p) {x : AV} {v : Value} (hi : inA xs x = true) (r : x.Rep M β v) : x.Rep M β' v :=
  renA.rep (ren := []) h hi (by rw [renA_nil]; exact r)
theorem inB.mono {M : Mem} {β β' : Nm} {xs : List Nat} (h : ∀ x, x ∈ xs → ∀ p, β x = some p → β' x = some p) {w : World} {x : Nat} {b : Box} (hx : x ∈ xs) (hi : inB xs b = true) (r : RepBox M β w x b) : RepBox M β' w x b :=
  renB.rep (ren := []) h hx hi (by rw [renB_nil]; exact r)

def bkeys : Boxes → List Nat
  | [] => []
  | (x, _) :: r => x :: bkeys r
theorem bkeys.has {x : Nat} : ∀ {l : Boxes}, x ∈ bkeys l → ∃ y, getB l x = some y
  | [], h => by cases h
  | (z, v) :: r, h => by
    rw [getB_cons]
    by_cases e : z = x
    · rw [if_pos e]; exact ⟨_, rfl⟩
    · rw [if_neg e]
      simp only [bkeys, List.mem_cons] at h
      exact bkeys.has (h.resolve_left fun h => e h.symm)

def envLe (src : List (Nat × AV)) (ks : List Nat) : List (Nat × AV) → Prop
  | [] => True
  | (t, v) :: r => (inA ks v = true ∧ getE src t = v) ∧ envLe src ks r
def boxLe (src : Boxes) (ks : List Nat) : Boxes → Prop
  | [] => True
  | (x, some b) :: r => (inB ks b = true ∧ getB src x = some (some b)) ∧ boxLe src ks r
  | (_, none) :: r => boxLe src ks r

theorem envLe.get {src : List (Nat × AV)} {ks : List Nat} {M : Mem} {β β' : Nm} (h : ∀ x, x ∈ ks → ∀ p, β x = some p → β' x = some p) : ∀ {tgt : List (Nat × AV)}, envLe src ks tgt → ∀ t v, (getE src t).Rep M β v → (getE tgt t).Rep M β' v
  | [], _, _, _, _ => trivial
  | (k, a) :: r, ⟨⟨h1, h2⟩, hr⟩, t, v, hv => by
    rw [getE_cons]
    by_cases e : k = t
    · rw [if_pos e]; subst e; rw [h2] at hv; exact inA.mono h h1 hv
    · rw [if_neg e]; exact envLe.get h hr t v hv
theorem boxLe.get {src : Boxes} {ks : List Nat} : ∀ {tgt : Boxes}, (∀ x, x ∈ bkeys tgt → x ∈ ks) → boxLe src ks tgt → ∀ x b, getB tgt x = some (some b) → x ∈ ks ∧ inB ks b = true ∧ getB src x = some (some b)
  | [], _, _, _, _, h => by cases h
  | (k, some c) :: r, hk, ⟨⟨h1, h2⟩, hr⟩, x, b, h => by
    rw [getB_cons] at h
    by_cases e : k = x
    · rw [if_pos e] at h; cases h; subst e; exact ⟨hk k (by simp [bkeys]), h1, h2⟩
    · rw [if_neg e] at h; exact boxLe.get (fun y hy => hk y (by simp [bkeys, hy])) hr x b h
  | (k, none) :: r, hk, hr, x, b, h => by
    rw [getB_cons] at h
    by_cases e : k = x
    · rw [if_pos e] at h; cases h
    · rw [if_neg e] at h; exact boxLe.get (tgt := r) (fun y hy => hk y (List.mem_cons_of_mem _ hy)) hr x b h

theorem Sub.of {cx : Cx} {σ σ' : St} (hr : (cx.ref.all fun x => (bkeys σ'.box).contains x) = true) (hb : boxLe σ.box (bkeys σ'.box) σ'.box) (he : envLe σ.env (bkeys σ'.box) σ'.env) : Sub cx σ σ' := by
  refine ⟨fun M β β' h t v hv => envLe.get (fun x hx p e => h x p e (bkeys.has hx)) he t v hv, fun M β β' w h x b e => ?_, fun x hx => ?_⟩
  · obtain ⟨h0, h1, h2⟩ := boxLe.get (fun _ h => h) hb x b e
    exact ⟨b, h2, inB.mono (fun x hx p e => h x p e (bkeys.has hx)) h0 h1⟩
  · rw [List.all_eq_true] at hr
    exact bkeys.has (by simpa using hr x hx)
theorem Sub.of0 {cx : Cx} {σ σ' : St} (h : cx.ref = []) (hb : boxLe σ.box (bkeys σ'.box) σ'.box) (he : envLe σ.env (bkeys σ'.box) σ'.env) : Sub cx σ σ' := Sub.of (by rw [h]; rfl) hb he

/-- What d means, e means. -/
def LeD (d e : DV) : Prop := ∀ M u, d.Rep M u → e.Rep M u
theorem LeD.refl (d : DV) : LeD d d := fun _ _ h => h
theorem LeD.of_eq {d e : DV} (h : d = e) : LeD d e := h ▸ LeD.refl d
theorem LeD.trans {a b c : DV} (h : LeD a b) (k : LeD b c) : LeD a c := fun M u r => k M u (h M u r)
theorem LeD.slc {n s : Nat} {f g : Nat → Nat → DV} (h : ∀ i j, i < n → j < s → LeD (f i j) (g i j)) : LeD (.slc n s f) (.slc n s g) := by
  rintro M u ⟨a, cap, e, hn, hc⟩
  refine ⟨a, cap, e, hn, hc.imp id ?_⟩
  rintro ⟨b, o, ea, hc⟩
  exact ⟨b, o, ea, fun i j hi hj => let ⟨u, hu, hr⟩ := hc i j hi hj; ⟨u, hu, h i j hi hj M u hr⟩⟩
theorem LeD.nil {s' : Nat} {f : Nat → Nat → DV} : LeD (.val (.slice none 0 0)) (.slc 0 s' f) := by
  intro M u r
  cases r
  exact ⟨none, 0, rfl, Nat.le_refl _, .inl rfl⟩
theorem LeD.empty {s s' : Nat} {f g : Nat → Nat → DV} : LeD (.slc 0 s f) (.slc 0 s' g) := by
  rintro M u ⟨a, cap, e, hn, hc⟩
  exact ⟨a, cap, e, hn, .inl rfl⟩
theorem LeD.rp {m : Nat} {f g : Nat → DV} (h : ∀ j, j < m → LeD (f j) (g j)) : LeD (.rp m f) (.rp m g) := by
  rintro M u ⟨b, o, e, hc⟩
  exact ⟨b, o, e, fun j hj => let ⟨u, hu, hr⟩ := hc j hj; ⟨u, hu, h j hj M u hr⟩⟩
theorem LeD.clo {f k : Nat} {c d : Nat → DV} (h : ∀ j, j < k → LeD (c j) (d j)) : LeD (.clo f k c) (.clo f k d) := by
  rintro M u ⟨cs, e, hk, hc⟩
  refine ⟨cs, e, hk, fun i u hu => h i ?_ M u (hc i u hu)⟩
  rw [← hk]
  exact (List.getElem?_eq_some_iff.1 hu).1

def LeS : SV → SV → Prop
  | .d x, .d y => LeD x y
  | _, _ => False
def LeSs : List SV → List SV → Prop
  | [], [] => True
  | x :: r, y :: s => LeS x y ∧ LeSs r s
  | _, _ => False
def LeA : AV → AV → Prop
  | .s x, .s y => LeS x y
  | .g x, .g y => LeSs x y
  | _, _ => False
def LeAs : List AV → List AV → Prop
  | [], [] => True
  | x :: r, y :: s => LeA x y ∧ LeAs r s
  | _, _ => False
def LeTs : List TV → List TV → Prop
  | [], [] => True
  | .s x :: r, .s y :: s => LeS x y ∧ LeTs r s
  | .g x :: r, .g y :: s => LeSs x y ∧ LeTs r s
  | _, _ => False
theorem LeS.rep {M : Mem} {β : Nm} {x y : SV} {v : Value} (h : LeS x y) (r : x.Rep M β v) : y.Rep M β v := by
  cases x <;> cases y <;> first | exact h M v r | exact h.elim
theorem LeSs.rep {M : Mem} {β : Nm} : ∀ {l m : List SV} {vs : List Value}, LeSs l m → RepL M β l vs → RepL M β m vs
  | [], [], [], _, _ => trivial
  | _ :: _, _ :: _, _ :: _, ⟨h, k⟩, ⟨a, r⟩ => ⟨h.rep a, LeSs.rep k r⟩
  | [], _ :: _, _, h, _ => h.elim
  | _ :: _, [], _, h, _ => h.elim
  | [], [], _ :: _, _, h => h.elim
  | _ :: _, _ :: _, [], _, h => h.elim
theorem LeA.rep {M : Mem} {β : Nm} {x y : AV} {v : Value} (h : LeA x y) (r : x.Rep M β v) : y.Rep M β v := by
  cases x <;> cases y <;> first | exact h.elim | skip
  · exact LeS.rep h r
  · obtain ⟨vs, e, hr⟩ := r; exact ⟨vs, e, LeSs.rep h hr⟩
theorem LeAs.rep {M : Mem} {β : Nm} : ∀ {l m : List AV} {vs : List Value}, LeAs l m → RepAs M β l vs → RepAs M β m vs
  | [], [], [], _, _ => trivial
  | _ :: _, _ :: _, _ :: _, ⟨h, k⟩, ⟨a, r⟩ => ⟨h.rep a, LeAs.rep k r⟩
  | [], _ :: _, _, h, _ => h.elim
  | _ :: _, [], _, h, _ => h.elim
  | [], [], _ :: _, _, h => h.elim
  | _ :: _, _ :: _, [], _, h => h.elim
theorem LeTs.rep {M : Mem} {β : Nm} : ∀ {l m : List TV} {vs : List Value}, LeTs l m → RepT M β l vs → RepT M β m vs
  | [], [], [], _, _ => trivial
  | .s _ :: _, .s _ :: _, _ :: _, ⟨h, k⟩, ⟨a, r⟩ => ⟨LeS.rep h a, LeTs.rep k r⟩
  | .g _ :: _, .g _ :: _, _ :: _, ⟨h, k⟩, ⟨⟨vs, e, a⟩, r⟩ => ⟨⟨vs, e, LeSs.rep h a⟩, LeTs.rep k r⟩
  | [], _ :: _, _, h, _ => h.elim
  | .s _ :: _, [], _, h, _ => h.elim
  | .g _ :: _, [], _, h, _ => h.elim
  | .s _ :: _, .g _ :: _, _, h, _ => h.elim
  | .g _ :: _, .s _ :: _, _, h, _ => h.elim
  | [], [], _ :: _, _, h => h.elim
  | .s _ :: _, .s _ :: _, [], _, h => h.elim
  | .g _ :: _, .g _ :: _, [], _, h => h.elim
theorem SubR.le {x y : AV} (h : LeA x y) : SubR x y := fun _ _ r => h.rep r
theorem SubR.t {x y : List TV} (h : LeTs x y) : SubR (.t x) (.t y) := by
  rintro M u ⟨vs, e, r⟩
  exact ⟨vs, e, h.rep r⟩
theorem SubR.trans {a b c : AV} (h : SubR a b) (k : SubR b c) : SubR a c := fun M u r => k M u (h M u r)

theorem CallP.conv {P : Program} {f : FuncId} {args args' : List AV} {r : AV} (h : CallP P f args r) (k : LeAs args' args) : CallP P f args' r :=
  ⟨h.1, fun M w vs hr hM => h.2 M w vs (k.rep hr) hM⟩
theorem CallP.res {P : Program} {f : FuncId} {args : List AV} {r r' : AV} (h : CallP P f args r) (k : SubR r r') : CallP P f args r' :=
  ⟨h.1, fun M w vs hr hM => Calls.mono (h.2 M w vs hr hM) fun _ _ ⟨v, M', e, hv, q⟩ => ⟨v, M', e, k M' v hv, q⟩⟩

end Go.Ax

/- From one abstract state to another, with other names for the boxes; loops over that. -/
namespace Go.Ax
open Go.RowKit

def SubI (cx : Cx) (N : Nat) (σ σ' : St) : Prop := ∀ M β a w, Inv cx N M β σ a w → ∃ β', Inv cx N M β' σ' a w
theorem SubI.of_sub {cx : Cx} {N : Nat} {σ σ' : St} (h : Sub cx σ σ') : SubI cx N σ σ' := fun _ _ _ _ i => i.sub h
theorem SubI.trans {cx : Cx} {N : Nat} {a b c : St} (h : SubI cx N a b) (k : SubI cx N b c) : SubI cx N a c := fun M β x w i => let ⟨β', i'⟩ := h M β x w i; k M β' x w i'

theorem AW.loopI {P : Program} {cx : Cx} {N : Nat} {σ : St} {K : Exit → St → Prop} {S : Type} {c : Code} (St0 : S → St) (J : S → Prop) (μ : S → Nat) (s0 : S) (hJ : J s0) (hs : SubI cx N σ (St0 s0))
    (body : ∀ s, J s → AW P cx N c (St0 s) (thenK (fun σ' => ∃ s', J s' ∧ μ s' < μ s ∧ SubI cx N σ' (St0 s')) K)) : AW P cx N (.loop c) σ K := by
  intro M β a w i
  obtain ⟨β1, i1⟩ := hs M β a w i
  intro b k cs
  have key : ∀ n s, μ s = n → J s → ∀ M β a w, Inv cx N M β (St0 s) a w →
      ∃ e a' w', (∃ σ' M' β', K e σ' ∧ Inv cx N M' β' σ' a' w' ∧ Grow cx.B M M' ∧ Keep cx w w') ∧ Arrives P (lone (b.at a (.code c :: .inLoop c :: k)) cs w) b k cs e a' w' := by
    intro n
    induction n using Nat.strongRecOn with
    | _ n ih =>
      intro s hn hJ M β a w i
      obtain ⟨e, a₁, w₁, ⟨σ', M1, β1, hq, i1, hM, hk⟩, harr⟩ := body s hJ M β a w i b (.inLoop c :: k) cs
      cases e with
      | normal =>
        obtain ⟨s', hJ', hlt, hsub⟩ := hq
        obtain ⟨β2, i2⟩ := hsub M1 β1 a₁ w₁ i1
        obtain ⟨e₂, a₂, w₂, ⟨σ2, M2, β2, hq₂, i2, hM2, hk2⟩, harr₂⟩ := ih (μ s') (hn ▸ hlt) s' rfl hJ' M1 β2 a₁ w₁ i2
        exact ⟨e₂, a₂, w₂, ⟨σ2, M2, β2, hq₂, i2, hM.trans hM2, hk.trans hk2⟩, .of_steps (Steps.trans harr (.one step_inLoop)) harr₂⟩
      | exit id => exact ⟨_, a₁, w₁, ⟨σ', M1, β1, hq, i1, hM, hk⟩, .pass (x := .inLoop c) rfl (fun _ _ => .inl (by simp)) harr⟩
      | goto l => exact ⟨_, a₁, w₁, ⟨σ', M1, β1, hq, i1, hM, hk⟩, .pass (x := .inLoop c) rfl (fun _ _ => .inl (by simp)) harr⟩
      | ret => exact ⟨_, a₁, w₁, ⟨σ', M1, β1, hq, i1, hM, hk⟩, .pass (x := .inLoop c) rfl (fun _ _ => .inl (by simp)) harr⟩
      | panic ch => exact ⟨_, a₁, w₁, ⟨σ', M1, β1, hq, i1, hM, hk⟩, .pass (x := .inLoop c) rfl (fun _ _ => .inl (by simp)) harr⟩
      | outgrown => exact ⟨_, a₁, w₁, ⟨σ', M1, β1, hq, i1, hM, hk⟩, .pass (x := .inLoop c) rfl (fun _ _ => .inl (by simp)) harr⟩
  obtain ⟨e, a', w', hq, harr⟩ := key _ s0 rfl hJ M β1 a w i1
  exact ⟨e, a', w', hq, .of_steps (.one step_loop) harr⟩

/-- A condition, its ways by the judgement itself. -/
theorem AW.cond {P : Program} {cx : Cx} {N : Nat} {σ : St} {K : Exit → St → Prop} {c : Operand} {x y : Code} (h : exCond σ c (AW P cx N x σ K) (AW P cx N y σ K)) : AW P cx N (.cond c x y) σ K := by
  unfold exCond at h
  intro M β a w i
  split at h
  · rename_i b hv
    have hb : a.eval c = .bool b := by have := ev.rep i c; rw [hv] at this; exact this
    cases b with
    | true => exact wp_cond_true hb (h M β a w i)
    | false => exact wp_cond_false hb (h M β a w i)
  · rename_i b hv
    have hb : a.eval c = .bool b := by have := ev.rep i c; rw [hv] at this; exact this
    exact wp_cond_split hb (fun hb => h.1 hb M β a w i) (fun hb => h.2 hb M β a w i)
  · exact h.elim
def noGotoK (K : Exit → St → Prop) : Exit → St → Prop
  | .goto _, _ => False
  | e, s => K e s
/-- A scope whose labels nothing jumps to. -/
theorem AW.scope {P : Program} {cx : Cx} {N : Nat} {σ : St} {K : Exit → St → Prop} {c : Code} (h : AW P cx N c σ (noGotoK K)) : AW P cx N (.scope c) σ K := by
  intro M β a w i
  refine wp_scope_straight (wp_mono (h M β a w i) ?_)
  rintro e a' w' ⟨s, M', β', k, r⟩
  cases e with
  | goto l => exact k.elim
  | _ => exact ⟨s, M', β', k, r⟩
theorem AW.label {P : Program} {cx : Cx} {N : Nat} {σ : St} {K : Exit → St → Prop} {l : Nat} (h : K .normal σ) : AW P cx N (.label l) σ K := fun M β _ _ i => wp_label ⟨σ, M, β, h, i, Grow.refl _ _, Keep.refl _ _⟩
theorem AW.subI {P : Program} {cx : Cx} {N : Nat} {σ σ' : St} {K : Exit → St → Prop} {c : Code} (h : SubI cx N σ σ') (k : AW P cx N c σ' K) : AW P cx N c σ K := by
  intro M β a w i
  obtain ⟨β', i'⟩ := h M β a w i
  exact k M β' a w i'
/-- Cut a sequence: the first part ends normally in a state that implies another one. -/
theorem AW.cut {P : Program} {cx : Cx} {N : Nat} {σ σ' : St} {K : Exit → St → Prop} {x y : Code} (h : AW P cx N x σ fun e s => e = .normal ∧ SubI cx N s σ') (k : AW P cx N y σ' K) : AW P cx N (.seq x y) σ K := AW.seq (AW.mono h fun _ _ ⟨he, hs⟩ => by subst he; exact AW.subI hs k)

/-- What x means, y means. -/
def LeQ (x y : AV) : Prop := ∀ M β v, x.Rep M β v → y.Rep M β v
theorem LeQ.rfl {x : AV} : LeQ x x := fun _ _ _ h => h
theorem LeQ.of_eq {x y : AV} (h : x = y) : LeQ x y := h ▸ LeQ.rfl
theorem LeQ.le {x y : AV} (h : LeA x y) : LeQ x y := fun _ _ _ r => h.rep r
theorem LeQ.mo {x : Nat} {z : Bool} (h : z = false) : LeQ (.s (.own x)) (.s (.mo z x)) := by subst h; exact fun M β v r => ⟨fun h => (by cases h), fun _ => r⟩
theorem LeQ.nil {x : Nat} {z : Bool} (h : z = true) : LeQ (.s (.d (.val (.slice none 0 0)))) (.s (.mo z x)) := by subst h; exact fun M β v r => ⟨fun _ => r, fun h => (by cases h)⟩
theorem LeQ.mm {x : Nat} {z z' : Bool} (h : z = z') : LeQ (.s (.mo z x)) (.s (.mo z' x)) := h ▸ LeQ.rfl
theorem LeQ.d {x y : DV} (h : LeD x y) : LeQ (.s (.d x)) (.s (.d y)) := fun M _ v r => h M v r
def LeBx (b b' : Box) : Prop := ∀ M β w x, RepBox M β w x b → RepBox M β w x b'
theorem LeBx.rfl {b : Box} : LeBx b b := fun _ _ _ _ h => h
theorem LeBx.of_eq {x y : Box} (h : x = y) : LeBx x y := h ▸ LeBx.rfl
theorem LeBx.row {e n n' s : Nat} {f g : Nat → Nat → DV} (h : n = n') (hf : ∀ i j, i < n → j < s → LeD (f i j) (g i j)) : LeBx (.row e n s f) (.row e n' s g) := by
  subst h
  rintro M β w x ⟨b, c, cur, e1, h1, h2, h3, h4, h5, h6⟩
  exact ⟨b, c, cur, e1, h1, h2, h3, h4, h5, fun i j hi hj => let ⟨u, hu, hr⟩ := h6 i j hi hj; ⟨u, hu, hf i j hi hj M u hr⟩⟩
theorem LeBx.mrow {e n n' s : Nat} {f g : Nat → Nat → DV} (h : n = n') (hf : ∀ i j, i < n → j < s → LeD (f i j) (g i j)) : LeBx (.row e n s f) (.mrow e n' s g) := by
  subst h
  rintro M β w x ⟨b, c, cur, e1, h1, h2, h3, h4, h5, h6⟩ b' c' e2
  rw [e1] at e2; cases e2
  exact ⟨cur, h1, h2, h3, h4, h5, fun i j hi hj => let ⟨u, hu, hr⟩ := h6 i j hi hj; ⟨u, hu, hf i j hi hj M u hr⟩⟩
theorem LeBx.mrow' {e n n' s : Nat} {f g : Nat → Nat → DV} (h : n = n') (hf : ∀ i j, i < n → j < s → LeD (f i j) (g i j)) : LeBx (.mrow e n s f) (.mrow e n' s g) := by
  subst h
  intro M β w x hr b c e1
  obtain ⟨cur, h1, h2, h3, h4, h5, h6⟩ := hr b c e1
  exact ⟨cur, h1, h2, h3, h4, h5, fun i j hi hj => let ⟨u, hu, hr⟩ := h6 i j hi hj; ⟨u, hu, hf i j hi hj M u hr⟩⟩
def LeQs : List SV → List SV → Prop
  | [], [] => True
  | x :: r, y :: s => LeQ (.s x) (.s y) ∧ LeQs r s
  | _, _ => False
theorem LeQs.rep {M : Mem} {β : Nm} : ∀ {l m : List SV} {vs : List Value}, LeQs l m → RepL M β l vs → RepL M β m vs
  | [], [], [], _, _ => trivial
  | _ :: _, _ :: _, _ :: _, ⟨h, k⟩, ⟨a, r⟩ => ⟨h M β _ a, LeQs.rep k r⟩
  | [], _ :: _, _, h, _ => h.elim
  | _ :: _, [], _, h, _ => h.elim
  | [], [], _ :: _, _, h => h.elim
  | _ :: _, _ :: _, [], _, h => h.elim
theorem LeBx.cells {l m : List SV} (h : LeQs l m) : LeBx (.cells l) (.cells m) := by
  rintro M β w x ⟨b, c, vs, T, e1, h1, h2⟩
  exact ⟨b, c, vs, T, e1, h1, h.rep h2⟩

def inB1 (xs : List Nat) : Box → Bool
  | .cells cs => inSs xs cs
  | .iter m _ _ => xs.contains m
  | _ => true
def envQ (ren : List (Nat × Nat)) (src : List (Nat × AV)) (ks : List Nat) : List (Nat × AV) → Prop
  | [] => True
  | (t, v) :: r => (inA ks v = true ∧ LeQ (getE src t) (renA ren v)) ∧ envQ ren src ks r
def boxQ1 (ren : List (Nat × Nat)) (b : Box) : Option (Option Box) → Prop
  | some (some b0) => LeBx b0 (renB ren b)
  | some none => False
  | none => b.real = false
def boxQ (ren : List (Nat × Nat)) (src : Boxes) (ks : List Nat) : Boxes → Prop
  | [] => True
  | (x, some b) :: r => (inB1 ks b = true ∧ boxQ1 ren b (getB src (look ren x))) ∧ boxQ ren src ks r
  | (_, none) :: r => boxQ ren src ks r

theorem envQ.get {ren : List (Nat × Nat)} {src : List (Nat × AV)} {ks : List Nat} {M : Mem} {β β' : Nm} (h : ∀ x, x ∈ ks → ∀ p, β (look ren x) = some p → β' x = some p) : ∀ {tgt : List (Nat × AV)}, envQ ren src ks tgt → ∀ t v, (getE src t).Rep M β v → (getE tgt t).Rep M β' v
  | [], _, _, _, _ => trivial
  | (k, a) :: r, ⟨⟨h1, h2⟩, hr⟩, t, v, hv => by
    rw [getE_cons]
    by_cases e : k = t
    · rw [if_pos e]; subst e; exact renA.rep h h1 (h2 M β v hv)
    · rw [if_neg e]; exact envQ.get h hr t v hv
theorem boxQ.get {ren : List (Nat × Nat)} {src : Boxes} {ks : List Nat} : ∀ {tgt : Boxes}, (∀ x, x ∈ bkeys tgt → x ∈ ks) → boxQ ren src ks tgt → ∀ x b, getB tgt x = some (some b) → x ∈ ks ∧ inB1 ks b = true ∧ boxQ1 ren b (getB src (look ren x))
  | [], _, _, _, _, h => by cases h
  | (k, some c) :: r, hk, ⟨⟨h1, h2⟩, hr⟩, x, b, h => by
    rw [getB_cons] at h
    by_cases e : k = x
    · rw [if_pos e] at h; cases h; subst e; exact ⟨hk k (by simp [bkeys]), h1, h2⟩
    · rw [if_neg e] at h; exact boxQ.get (fun y hy => hk y (by simp [bkeys, hy])) hr x b h
  | (k, none) :: r, hk, hr, x, b, h => by
    rw [getB_cons] at h
    by_cases e : k = x
    · rw [if_pos e] at h; cases h
    · rw [if_neg e] at h; exact boxQ.get (tgt := r) (fun y hy => hk y (List.mem_cons_of_mem _ hy)) hr x b h

theorem SubI.of {cx : Cx} {N : Nat} {σ σ' : St} (ren : List (Nat × Nat)) (hr : (cx.ref.all fun x => (bkeys σ'.box).contains x && Nat.beq (look ren x) x) = true) (hi : injL ren (bkeys σ'.box) = true)
    (hb : boxQ ren σ.box (bkeys σ'.box) σ'.box) (he : envQ ren σ.env (bkeys σ'.box) σ'.env) : SubI cx N σ σ' := by
  classical
  intro M β a w i
  let ks := bkeys σ'.box
  let β' : Nm := fun x => if x ∈ ks then β (look ren x) else none
  have hin : ∀ x, x ∈ ks → β' x = β (look ren x) := fun x hx => by simp [β', hx]
  have hβ : ∀ x p, β' x = some p → x ∈ ks ∧ β (look ren x) = some p := fun x p h => by
    simp only [β'] at h
    split at h
    · exact ⟨by assumption, h⟩
    · cases h
  have hup : ∀ x, x ∈ ks → ∀ p, β (look ren x) = some p → β' x = some p := fun x hx p e => by rw [hin x hx]; exact e
  have hinj : ∀ x y, x ∈ ks → y ∈ ks → look ren x = look ren y → x = y := by
    intro x y hx hy e
    simp only [injL, List.all_eq_true] at hi
    have := hi x hx y hy
    simp only [Bool.or_eq_true] at this
    rcases this with h | h
    · exact Nat.eq_of_beq_eq_true h
    · rw [e] at h; simp at h
  have live : ∀ x b k c, getB σ'.box x = some (some b) → β' x = some (k, c) → x ∈ ks ∧ ∃ b0, getB σ.box (look ren x) = some (some b0) ∧ β (look ren x) = some (k, c) := by
    intro x b k c h e
    obtain ⟨h1, h2, h3⟩ := boxQ.get (fun _ h => h) hb x b h
    have e := (hβ x _ e).2
    obtain ⟨y, hy⟩ := i.keys _ _ e
    rw [hy] at h3
    cases y with
    | none => exact h3.elim
    | some b0 => exact ⟨h1, b0, hy, e⟩
  refine ⟨β', i.defers, i.tmps, i.heap, fun t => envQ.get hup he t _ (i.env t), i.mem, ?_, ?_, ?_, ?_, ?_, ?_⟩
  · intro x p e
    exact bkeys.has (hβ x p e).1
  · intro x b h
    obtain ⟨h1, h2, h3⟩ := boxQ.get (fun _ h => h) hb x b h
    cases hs : getB σ.box (look ren x) with
    | none =>
      rw [hs] at h3
      have hn : β' x = none := by
        rw [hin x h1]
        cases hb0 : β (look ren x) with
        | none => rfl
        | some p => obtain ⟨y, hy⟩ := i.keys _ _ hb0; rw [hs] at hy; cases hy
      cases b with
      | mrow e n s f => intro k c e; rw [hn] at e; cases e
      | _ => cases h3
    | some y =>
      cases y with
      | none => rw [hs] at h3; exact h3.elim
      | some b0 =>
        rw [hs] at h3
        have hrep := h3 M β w (look ren x) (i.box _ _ hs)
        cases b with
        | cells cs => exact renB.rep hup h1 h2 hrep
        | row e n s f => exact renB.rep hup h1 rfl hrep
        | mrow e n s f => intro k c e; rw [hin x h1] at e; exact hrep k c e
        | map vk l => exact renB.rep hup h1 rfl hrep
        | iter m n seen => exact renB.rep hup h1 h2 hrep
  · intro x y bx bby b c c' ex ey hx hy
    obtain ⟨kx, b0, g0, e0⟩ := live x bx b c ex hx
    obtain ⟨ky, b1, g1, e1⟩ := live y bby b c' ey hy
    exact hinj x y kx ky (i.inj _ _ b0 b1 b c c' g0 g1 e0 e1)
  · intro x bx b c ex hx
    obtain ⟨kx, b0, g0, e0⟩ := live x bx b c ex hx
    exact i.apart _ b0 b c g0 e0
  · intro x bx b c ex hx
    obtain ⟨kx, b0, g0, e0⟩ := live x bx b c ex hx
    exact i.low _ b0 b c g0 e0
  · intro x hx
    rw [List.all_eq_true] at hr
    have := hr x hx
    simp only [Bool.and_eq_true] at this
    have h1 : x ∈ ks := by simpa using this.1
    have h2 := Nat.eq_of_beq_eq_true this.2
    rw [hin x h1, h2]
    exact i.ref x hx
theorem SubI.of0 {cx : Cx} {N : Nat} {σ σ' : St} (h : cx.ref = []) (ren : List (Nat × Nat)) (hi : injL ren (bkeys σ'.box) = true) (hb : boxQ ren σ.box (bkeys σ'.box) σ'.box) (he : envQ ren σ.env (bkeys σ'.box) σ'.env) : SubI cx N σ σ' :=
  SubI.of ren (by rw [h]; rfl) hi hb he
/-- The same, with a state that depends on what the first part found. -/
theorem AW.cutE {P : Program} {cx : Cx} {N : Nat} {σ : St} {K : Exit → St → Prop} {x y : Code} {S : Type} (St0 : S → St) (J : S → Prop) (h : AW P cx N x σ fun e s => e = .normal ∧ ∃ q, J q ∧ SubI cx N s (St0 q)) (k : ∀ q, J q → AW P cx N y (St0 q) K) : AW P cx N (.seq x y) σ K :=
  AW.seq (AW.mono h fun _ _ ⟨he, q, hq, hs⟩ => by subst he; exact AW.subI hs (k q hq))
theorem LeQ.toNil {x : Nat} {z : Bool} (h : z = true) : LeQ (.s (.mo z x)) (.s (.d (.val (.slice none 0 0)))) := fun _ _ _ r => r.1 h
/-- A row of one's own is also a view of it. -/
theorem SubI.osl {cx : Cx} {N : Nat} {σ : St} {e n s : Nat} {f : Nat → Nat → DV} {z : Bool} (t x : Nat) (ht : getE σ.env t = .s (.mo z x)) (hz : z = false) (hb : getB σ.box x = some (some (.mrow e n s f))) :
    SubI cx N σ ⟨(t, .s (.osl x s 0 n)) :: σ.env, (x, some (.row e n s f)) :: σ.box⟩ := by
  intro M β a w i
  have r := i.env t
  rw [ht] at r
  obtain ⟨b, c, hx, hv, hc⟩ := r.2 hz
  obtain ⟨cur, h1, h2, h3, h4, h5, h6⟩ := i.box x _ hb b c hx
  have live : ∀ y bc, getB ((x, some (.row e n s f)) :: σ.box) y = some (some bc) → ∃ bc, getB σ.box y = some (some bc) := by
    intro y bc h
    rw [getB_cons] at h
    by_cases hy : x = y
    · subst hy; exact ⟨_, hb⟩
    · rw [if_neg hy] at h; exact ⟨_, h⟩
  refine ⟨β, i.defers, i.tmps, i.heap, ?_, i.mem, ?_, ?_, ?_, ?_, ?_, i.ref⟩
  · intro u
    show (getE ((t, _) :: σ.env) u).Rep M β _
    rw [getE_cons]
    by_cases hu : t = u
    · subst hu
      rw [if_pos rfl]
      exact ⟨b, c, 0, hx, by rw [hv, h2]; rfl, fun _ => (Nat.zero_mul s).symm, by omega, hc⟩
    · rw [if_neg hu]; exact i.env u
  · intro y p h
    obtain ⟨z, hz⟩ := i.keys y p h
    show ∃ y', getB ((x, _) :: σ.box) y = some y'
    rw [getB_cons]
    by_cases hy : x = y
    · rw [if_pos hy]; exact ⟨_, rfl⟩
    · rw [if_neg hy]; exact ⟨z, hz⟩
  · intro y bc h
    have h : getB ((x, some (.row e n s f)) :: σ.box) y = some (some bc) := h
    rw [getB_cons] at h
    by_cases hy : x = y
    · subst hy
      rw [if_pos rfl] at h
      cases h
      exact ⟨b, c, cur, hx, h1, h2, h3, h4, h5, h6⟩
    · rw [if_neg hy] at h; exact i.box y bc h
  · intro y y' bx bx' b1 c1 c2 e1 e2 g1 g2
    obtain ⟨_, e1⟩ := live _ _ e1
    obtain ⟨_, e2⟩ := live _ _ e2
    exact i.inj y y' _ _ b1 c1 c2 e1 e2 g1 g2
  · intro y bx b1 c1 e1 g1
    obtain ⟨_, e1⟩ := live _ _ e1
    exact i.apart y _ b1 c1 e1 g1
  · intro y bx b1 c1 e1 g1
    obtain ⟨_, e1⟩ := live _ _ e1
    exact i.low y _ b1 c1 e1 g1
theorem SubI.own {cx : Cx} {N : Nat} {σ : St} {e n s : Nat} {f : Nat → Nat → DV} {z : Bool} (t x : Nat) (ht : getE σ.env t = .s (.mo z x)) (hz : z = false) (hb : getB σ.box x = some (some (.mrow e n s f))) :
    SubI cx N σ ⟨(t, .s (.own x)) :: σ.env, (x, some (.row e n s f)) :: σ.box⟩ := by
  intro M β a w i
  have r := i.env t
  rw [ht] at r
  obtain ⟨b, c, hx, hv, hc⟩ := r.2 hz
  obtain ⟨cur, h1, h2, h3, h4, h5, h6⟩ := i.box x _ hb b c hx
  have live : ∀ y bc, getB ((x, some (.row e n s f)) :: σ.box) y = some (some bc) → ∃ bc, getB σ.box y = some (some bc) := by
    intro y bc h
    rw [getB_cons] at h
    by_cases hy : x = y
    · subst hy; exact ⟨_, hb⟩
    · rw [if_neg hy] at h; exact ⟨_, h⟩
  refine ⟨β, i.defers, i.tmps, i.heap, ?_, i.mem, ?_, ?_, ?_, ?_, ?_, i.ref⟩
  · intro u
    show (getE ((t, _) :: σ.env) u).Rep M β _
    rw [getE_cons]
    by_cases hu : t = u
    · subst hu
      rw [if_pos rfl]
      exact ⟨b, c, hx, hv, hc⟩
    · rw [if_neg hu]; exact i.env u
  · intro y p h
    obtain ⟨z, hz⟩ := i.keys y p h
    show ∃ y', getB ((x, _) :: σ.box) y = some y'
    rw [getB_cons]
    by_cases hy : x = y
    · rw [if_pos hy]; exact ⟨_, rfl⟩
    · rw [if_neg hy]; exact ⟨z, hz⟩
  · intro y bc h
    have h : getB ((x, some (.row e n s f)) :: σ.box) y = some (some bc) := h
    rw [getB_cons] at h
    by_cases hy : x = y
    · subst hy
      rw [if_pos rfl] at h
      cases h
      exact ⟨b, c, cur, hx, h1, h2, h3, h4, h5, h6⟩
    · rw [if_neg hy] at h; exact i.box y bc h
  · intro y y' bx bx' b1 c1 c2 e1 e2 g1 g2
    obtain ⟨_, e1⟩ := live _ _ e1
    obtain ⟨_, e2⟩ := live _ _ e2
    exact i.inj y y' _ _ b1 c1 c2 e1 e2 g1 g2
  · intro y bx b1 c1 e1 g1
    obtain ⟨_, e1⟩ := live _ _ e1
    exact i.apart y _ b1 c1 e1 g1
  · intro y bx b1 c1 e1 g1
    obtain ⟨_, e1⟩ := live _ _ e1
    exact i.low y _ b1 c1 e1 g1
end Go.Ax

/- From one abstract state to another: own rows that nobody writes any more become data. -/
namespace Go.Ax
open Go.RowKit

def SubM (cx : Cx) (N : Nat) (σ σ' : St) : Prop := ∀ M β a w, Inv cx N M β σ a w → ∃ M' β', Inv cx N M' β' σ' a w ∧ Grow cx.B M M'
theorem SubM.of_subI {cx : Cx} {N : Nat} {σ σ' : St} (h : SubI cx N σ σ') : SubM cx N σ σ' := fun M β a w i => let ⟨β', i'⟩ := h M β a w i; ⟨M, β', i', Grow.refl _ _⟩
theorem AW.subM {P : Program} {cx : Cx} {N : Nat} {σ σ' : St} {K : Exit → St → Prop} {c : Code} (h : SubM cx N σ σ') (k : AW P cx N c σ' K) : AW P cx N c σ K := by
  intro M β a w i
  obtain ⟨M', β', i', g⟩ := h M β a w i
  exact wp_mono (k M' β' a w i') fun _ _ _ ⟨s, M2, β2, hk, i2, g2, kp⟩ => ⟨s, M2, β2, hk, i2, g.trans g2, kp⟩
theorem AW.loopM {P : Program} {cx : Cx} {N : Nat} {σ : St} {K : Exit → St → Prop} {S : Type} {c : Code} (St0 : S → St) (J : S → Prop) (μ : S → Nat) (s0 : S) (hJ : J s0) (hs : SubM cx N σ (St0 s0))
    (body : ∀ s, J s → AW P cx N c (St0 s) (thenK (fun σ' => ∃ s', J s' ∧ μ s' < μ s ∧ SubM cx N σ' (St0 s')) K)) : AW P cx N (.loop c) σ K := by
  refine AW.subM hs ?_
  intro M β a w i b k cs
  have key : ∀ n s, μ s = n → J s → ∀ M β a w, Inv cx N M β (St0 s) a w →
      ∃ e a' w', (∃ σ' M' β', K e σ' ∧ Inv cx N M' β' σ' a' w' ∧ Grow cx.B M M' ∧ Keep cx w w') ∧ Arrives P (lone (b.at a (.code c :: .inLoop c :: k)) cs w) b k cs e a' w' := by
    intro n
    induction n using Nat.strongRecOn with
    | _ n ih =>
      intro s hn hJ M β a w i
      obtain ⟨e, a₁, w₁, ⟨σ', M1, β1, hq, i1, hM, hk⟩, harr⟩ := body s hJ M β a w i b (.inLoop c :: k) cs
      cases e with
      | normal =>
        obtain ⟨s', hJ', hlt, hsub⟩ := hq
        obtain ⟨M2, β2, i2, hg⟩ := hsub M1 β1 a₁ w₁ i1
        obtain ⟨e₂, a₂, w₂, ⟨σ2, M3, β3, hq₂, i3, hM2, hk2⟩, harr₂⟩ := ih (μ s') (hn ▸ hlt) s' rfl hJ' M2 β2 a₁ w₁ i2
        exact ⟨e₂, a₂, w₂, ⟨σ2, M3, β3, hq₂, i3, (hM.trans hg).trans hM2, hk.trans hk2⟩, .of_steps (Steps.trans harr (.one step_inLoop)) harr₂⟩
      | exit id => exact ⟨_, a₁, w₁, ⟨σ', M1, β1, hq, i1, hM, hk⟩, .pass (x := .inLoop c) rfl (fun _ _ => .inl (by simp)) harr⟩
      | goto l => exact ⟨_, a₁, w₁, ⟨σ', M1, β1, hq, i1, hM, hk⟩, .pass (x := .inLoop c) rfl (fun _ _ => .inl (by simp)) harr⟩
      | ret => exact ⟨_, a₁, w₁, ⟨σ', M1, β1, hq, i1, hM, hk⟩, .pass (x := .inLoop c) rfl (fun _ _ => .inl (by simp)) harr⟩
      | panic ch => exact ⟨_, a₁, w₁, ⟨σ', M1, β1, hq, i1, hM, hk⟩, .pass (x := .inLoop c) rfl (fun _ _ => .inl (by simp)) harr⟩
      | outgrown => exact ⟨_, a₁, w₁, ⟨σ', M1, β1, hq, i1, hM, hk⟩, .pass (x := .inLoop c) rfl (fun _ _ => .inl (by simp)) harr⟩
  obtain ⟨e, a', w', hq, harr⟩ := key _ s0 rfl hJ M β a w i
  exact ⟨e, a', w', hq, .of_steps (.one step_loop) harr⟩

/-- The rows fz are data. -/
def Fz (box : Boxes) (fz : List Nat) (M : Mem) (β : Nm) : Prop := ∀ x, x ∈ fz → ∀ e n s f, getB box x = some (some (.row e n s f)) → ∀ v, (SV.own x).Rep M β v → (DV.slc n s f).Rep M v
def LeQf (box : Boxes) (fz : List Nat) (x y : AV) : Prop := ∀ M β v, Fz box fz M β → x.Rep M β v → y.Rep M β v
theorem LeQf.of {box : Boxes} {fz : List Nat} {x y : AV} (h : LeQ x y) : LeQf box fz x y := fun M β v _ r => h M β v r
theorem LeQf.rfl {box : Boxes} {fz : List Nat} {x : AV} : LeQf box fz x x := fun _ _ _ _ r => r
theorem LeQf.then {box : Boxes} {fz : List Nat} {x y z : AV} (h : LeQf box fz x y) (k : LeQ y z) : LeQf box fz x z := fun M β v f r => k M β v (h M β v f r)
theorem LeQf.own {box : Boxes} {fz : List Nat} {x e n s : Nat} {f : Nat → Nat → DV} (hx : x ∈ fz) (hb : getB box x = some (some (.row e n s f))) : LeQf box fz (.s (.own x)) (.s (.d (.slc n s f))) :=
  fun _ _ v hf r => hf x hx e n s f hb v r
def LeQsf (box : Boxes) (fz : List Nat) : List SV → List SV → Prop
  | [], [] => True
  | x :: r, y :: s => LeQf box fz (.s x) (.s y) ∧ LeQsf box fz r s
  | _, _ => False
theorem LeQsf.rep {box : Boxes} {fz : List Nat} {M : Mem} {β : Nm} (hf : Fz box fz M β) : ∀ {l m : List SV} {vs : List Value}, LeQsf box fz l m → RepL M β l vs → RepL M β m vs
  | [], [], [], _, _ => trivial
  | _ :: _, _ :: _, _ :: _, ⟨h, k⟩, ⟨a, r⟩ => ⟨h M β _ hf a, LeQsf.rep hf k r⟩
  | [], _ :: _, _, h, _ => h.elim
  | _ :: _, [], _, h, _ => h.elim
  | [], [], _ :: _, _, h => h.elim
  | _ :: _, _ :: _, [], _, h => h.elim
theorem LeQf.g {box : Boxes} {fz : List Nat} {l m : List SV} (h : LeQsf box fz l m) : LeQf box fz (.g l) (.g m) := fun _ _ _ hf ⟨vs, e, r⟩ => ⟨vs, e, h.rep hf r⟩
def LeBxf (box : Boxes) (fz : List Nat) (b b' : Box) : Prop := ∀ M β w x, Fz box fz M β → RepBox M β w x b → RepBox M β w x b'
theorem LeBxf.rfl {box : Boxes} {fz : List Nat} {b : Box} : LeBxf box fz b b := fun _ _ _ _ _ h => h
theorem LeBxf.of {box : Boxes} {fz : List Nat} {b b' : Box} (h : LeBx b b') : LeBxf box fz b b' := fun M β w x _ r => h M β w x r
theorem LeBxf.cells {box : Boxes} {fz : List Nat} {l m : List SV} (h : LeQsf box fz l m) : LeBxf box fz (.cells l) (.cells m) := by
  rintro M β w x hf ⟨b, c, vs, T, e1, h1, h2⟩
  exact ⟨b, c, vs, T, e1, h1, h.rep hf h2⟩

def envQf (ren : List (Nat × Nat)) (fz : List Nat) (box : Boxes) (src : List (Nat × AV)) (ks : List Nat) : List (Nat × AV) → Prop
  | [] => True
  | (t, v) :: r => (inA ks v = true ∧ LeQf box fz (getE src t) (renA ren v)) ∧ envQf ren fz box src ks r
def boxQf1 (ren : List (Nat × Nat)) (fz : List Nat) (box : Boxes) (b : Box) : Option (Option Box) → Prop
  | some (some b0) => LeBxf box fz b0 (renB ren b)
  | some none => False
  | none => b.real = false
def boxQf (ren : List (Nat × Nat)) (fz : List Nat) (src : Boxes) (ks : List Nat) : Boxes → Prop
  | [] => True
  | (x, some b) :: r => (inB1 ks b = true ∧ boxQf1 ren fz src b (getB src (look ren x))) ∧ boxQf ren fz src ks r
  | (_, none) :: r => boxQf ren fz src ks r
theorem envQf.get {ren : List (Nat × Nat)} {fz : List Nat} {box : Boxes} {src : List (Nat × AV)} {ks : List Nat} {M : Mem} {β β' : Nm} (hf : Fz box fz M β) (h : ∀ x, x ∈ ks → ∀ p, β (look ren x) = some p → β' x = some p) : ∀ {tgt : List (Nat × AV)}, envQf ren fz box src ks tgt → ∀ t v, (getE src t).Rep M β v → (getE tgt t).Rep M β' v
  | [], _, _, _, _ => trivial
  | (k, a) :: r, ⟨⟨h1, h2⟩, hr⟩, t, v, hv => by
    rw [getE_cons]
    by_cases e : k = t
    · rw [if_pos e]; subst e; exact renA.rep h h1 (h2 M β v hf hv)
    · rw [if_neg e]; exact envQf.get hf h hr t v hv
theorem boxQf.get {ren : List (Nat × Nat)} {fz : List Nat} {src : Boxes} {ks : List Nat} : ∀ {tgt : Boxes}, (∀ x, x ∈ bkeys tgt → x ∈ ks) → boxQf ren fz src ks tgt → ∀ x b, getB tgt x = some (some b) → x ∈ ks ∧ inB1 ks b = true ∧ boxQf1 ren fz src b (getB src (look ren x))
  | [], _, _, _, _, h => by cases h
  | (k, some c) :: r, hk, ⟨⟨h1, h2⟩, hr⟩, x, b, h => by
    rw [getB_cons] at h
    by_cases e : k = x
    · rw [if_pos e] at h; cases h; subst e; exact ⟨hk k (by simp [bkeys]), h1, h2⟩
    · rw [if_neg e] at h; exact boxQf.get (fun y hy => hk y (by simp [bkeys, hy])) hr x b h
  | (k, none) :: r, hk, hr, x, b, h => by
    rw [getB_cons] at h
    by_cases e : k = x
    · rw [if_pos e] at h; cases h
    · rw [if_neg e] at h; exact boxQf.get (tgt := r) (fun y hy => hk y (List.mem_cons_of_mem _ hy)) hr x b h

def isRow : Option (Option Box) → Bool
  | some (some (.row _ _ _ _)) => true
  | _ => false
theorem SubM.of {cx : Cx} {N : Nat} {σ σ' : St} (href : cx.ref = []) (ren : List (Nat × Nat)) (fz : List Nat) (hi : injL ren (bkeys σ'.box) = true) (hz : (fz.all fun x => isRow (getB σ.box x)) = true) (hd : ((bkeys σ'.box).all fun x => !fz.contains (look ren x)) = true)
    (hb : boxQf ren fz σ.box (bkeys σ'.box) σ'.box) (he : envQf ren fz σ.box σ.env (bkeys σ'.box) σ'.env) : SubM cx N σ σ' := by
  classical
  intro M β a w i
  let ks := bkeys σ'.box
  let isZ : Nat → Prop := fun b => ∃ x c, x ∈ fz ∧ β x = some (b, c)
  let M' : Mem := fun b o => if isZ b then w.cell? ⟨b, o, none⟩ else M b o
  have hlive : ∀ x, x ∈ fz → ∃ e n s f, getB σ.box x = some (some (.row e n s f)) := by
    intro x hx
    rw [List.all_eq_true] at hz
    have := hz x hx
    unfold isRow at this
    split at this
    · rename_i e n s f h; exact ⟨e, n, s, f, h⟩
    · cases this
  have hMM : Mem.le M M' := by
    intro b o u h
    by_cases hb : isZ b
    · obtain ⟨x, c, hx, e⟩ := hb
      obtain ⟨e', n, s, f, hg⟩ := hlive x hx
      rw [i.apart x _ b c hg e o] at h; cases h
    · simp only [M', if_neg hb]; exact h
  have hF : Fz σ.box fz M' β := by
    intro x hx e n s f hg v ⟨b, c, e1, ev, hc⟩
    obtain ⟨b', c', cur, e2, hh, hl, hsz, hn, _, hcell⟩ := i.box x _ hg
    rw [e1] at e2; cases e2
    subst ev
    refine ⟨some ⟨b, 0, none⟩, c.1, by rw [hl], hn, .inr ⟨b, 0, rfl, fun k j hk hj => ?_⟩⟩
    obtain ⟨u, hu, hr⟩ := hcell k j hk hj
    have hZ : isZ b := ⟨x, c, hx, e1⟩
    exact ⟨u, by simp only [M', if_pos hZ]; simp [World.cell?, hh, hu], DV.Rep.mono hMM hr⟩
  let β' : Nm := fun x => if x ∈ ks then β (look ren x) else none
  have hin : ∀ x, x ∈ ks → β' x = β (look ren x) := fun x hx => by simp [β', hx]
  have hβ : ∀ x p, β' x = some p → x ∈ ks ∧ β (look ren x) = some p := fun x p h => by
    simp only [β'] at h
    split at h
    · exact ⟨by assumption, h⟩
    · cases h
  have hup : ∀ x, x ∈ ks → ∀ p, β (look ren x) = some p → β' x = some p := fun x hx p e => by rw [hin x hx]; exact e
  have hinj : ∀ x y, x ∈ ks → y ∈ ks → look ren x = look ren y → x = y := by
    intro x y hx hy e
    simp only [injL, List.all_eq_true] at hi
    have := hi x hx y hy
    simp only [Bool.or_eq_true] at this
    rcases this with h | h
    · exact Nat.eq_of_beq_eq_true h
    · rw [e] at h; simp at h
  have hnz : ∀ x, x ∈ ks → look ren x ∉ fz := by
    intro x hx
    rw [List.all_eq_true] at hd
    simpa using hd x hx
  have live : ∀ x b k c, getB σ'.box x = some (some b) → β' x = some (k, c) → x ∈ ks ∧ ∃ b0, getB σ.box (look ren x) = some (some b0) ∧ β (look ren x) = some (k, c) := by
    intro x b k c h e
    obtain ⟨h1, h2, h3⟩ := boxQf.get (fun _ h => h) hb x b h
    have e := (hβ x _ e).2
    obtain ⟨y, hy⟩ := i.keys _ _ e
    rw [hy] at h3
    cases y with
    | none => exact h3.elim
    | some b0 => exact ⟨h1, b0, hy, e⟩
  refine ⟨M', β', ⟨i.defers, i.tmps, i.heap, fun t => envQf.get hF hup he t _ (AV.Rep.mono hMM (Nm.le_refl β) (i.env t)), ?_, ?_, ?_, ?_, ?_, ?_, ?_⟩, hMM, ?_⟩
  · intro b o u h
    by_cases hb : isZ b
    · simp only [M', if_pos hb] at h; exact h
    · simp only [M', if_neg hb] at h; exact i.mem b o u h
  · intro x p e
    exact bkeys.has (hβ x p e).1
  · intro x b h
    obtain ⟨h1, h2, h3⟩ := boxQf.get (fun _ h => h) hb x b h
    cases hs : getB σ.box (look ren x) with
    | none =>
      rw [hs] at h3
      have hn : β' x = none := by
        rw [hin x h1]
        cases hb0 : β (look ren x) with
        | none => rfl
        | some p => obtain ⟨y, hy⟩ := i.keys _ _ hb0; rw [hs] at hy; cases hy
      cases b with
      | mrow e n s f => intro k c e; rw [hn] at e; cases e
      | _ => cases h3
    | some y =>
      cases y with
      | none => rw [hs] at h3; exact h3.elim
      | some b0 =>
        rw [hs] at h3
        have hrep := h3 M' β w (look ren x) hF (RepBox.mono hMM (Nm.le_refl β) rfl (fun _ _ _ => rfl) (i.box _ _ hs))
        cases b with
        | cells cs => exact renB.rep hup h1 h2 hrep
        | row e n s f => exact renB.rep hup h1 rfl hrep
        | mrow e n s f => intro k c e; rw [hin x h1] at e; exact hrep k c e
        | map vk l => exact renB.rep hup h1 rfl hrep
        | iter m n seen => exact renB.rep hup h1 h2 hrep
  · intro x y bx bby b c c' ex ey hx hy
    obtain ⟨kx, b0, g0, e0⟩ := live x bx b c ex hx
    obtain ⟨ky, b1, g1, e1⟩ := live y bby b c' ey hy
    exact hinj x y kx ky (i.inj _ _ b0 b1 b c c' g0 g1 e0 e1)
  · intro x bx b c ex hx o
    obtain ⟨kx, b0, g0, e0⟩ := live x bx b c ex hx
    have : ¬ isZ b := by
      rintro ⟨z, c', hz', e'⟩
      obtain ⟨e2, n, s, f, hg⟩ := hlive z hz'
      have := i.inj _ _ _ _ b c' c hg g0 e' e0
      subst this
      exact hnz x kx hz'
    simp only [M', if_neg this]
    exact i.apart _ b0 b c g0 e0 o
  · intro x bx b c ex hx
    obtain ⟨kx, b0, g0, e0⟩ := live x bx b c ex hx
    exact i.low _ b0 b c g0 e0
  · intro x hx
    rw [href] at hx; cases hx
  · intro b o u h
    by_cases hb : isZ b
    · obtain ⟨x, c, hx, e⟩ := hb
      obtain ⟨e', n, s, f, hg⟩ := hlive x hx
      rcases i.low x _ b c hg e with h | ⟨y, c', hy, _⟩
      · exact .inr h
      · rw [href] at hy; cases hy
    · simp only [M', if_neg hb] at h; exact .inl h
end Go.Ax

/- Contracts over boxes whose results are boxes of the call's own. -/
namespace Go.Ax
open Go.RowKit

def keepS (xs : List Nat) (σ : St) (x : SV) : SV := bif inS xs x then x else convS σ x
def keepSs (xs : List Nat) (σ : St) : List SV → List SV
  | [] => []
  | x :: r => keepS xs σ x :: keepSs xs σ r
def keepT (xs : List Nat) (σ : St) : TV → TV
  | .s x => .s (keepS xs σ x)
  | .g cs => .g (keepSs xs σ cs)
def keepTs (xs : List Nat) (σ : St) : List TV → List TV
  | [] => []
  | t :: r => keepT xs σ t :: keepTs xs σ r
section
variable {cx : Cx} {N : Nat} {M F : Mem} {β : Nm} {σ : St} {a : Act} {w : World}
theorem keepS.rep (xs : List Nat) (i : Inv cx N M β σ a w) (hM : Mem.le M F) (hF : ∀ x bc b c, getB σ.box x = some (some bc) → β x = some (b, c) → ∀ o u, w.cell? ⟨b, o, none⟩ = some u → F b o = some u) {x : SV} {v : Value} (r : x.Rep M β v) : (keepS xs σ x).Rep F β v := by
  unfold keepS
  cases inS xs x with
  | true => exact SV.Rep.mono hM (Nm.le_refl β) r
  | false => exact dS.rep i hM hF 3 _ _ r
theorem keepSs.rep (xs : List Nat) (i : Inv cx N M β σ a w) (hM : Mem.le M F) (hF : ∀ x bc b c, getB σ.box x = some (some bc) → β x = some (b, c) → ∀ o u, w.cell? ⟨b, o, none⟩ = some u → F b o = some u) : ∀ {cs : List SV} {vs : List Value}, RepL M β cs vs → RepL F β (keepSs xs σ cs) vs
  | [], [], _ => trivial
  | _ :: _, _ :: _, ⟨h, r⟩ => ⟨keepS.rep xs i hM hF h, keepSs.rep xs i hM hF r⟩
  | [], _ :: _, h => h.elim
  | _ :: _, [], h => h.elim
theorem keepTs.rep (xs : List Nat) (i : Inv cx N M β σ a w) (hM : Mem.le M F) (hF : ∀ x bc b c, getB σ.box x = some (some bc) → β x = some (b, c) → ∀ o u, w.cell? ⟨b, o, none⟩ = some u → F b o = some u) : ∀ {ts : List TV} {vs : List Value}, RepT M β ts vs → RepT F β (keepTs xs σ ts) vs
  | [], [], _ => trivial
  | .s _ :: _, _ :: _, ⟨h, r⟩ => ⟨keepS.rep xs i hM hF h, keepTs.rep xs i hM hF r⟩
  | .g _ :: _, _ :: _, ⟨⟨vs, e, h⟩, r⟩ => ⟨⟨vs, e, keepSs.rep xs i hM hF h⟩, keepTs.rep xs i hM hF r⟩
  | [], _ :: _, h => h.elim
  | _ :: _, [], h => h.elim
end
def retKR2 (T : List (Nat × TyI)) (rs : List ResultVar) (r : AV) (bx' : BoxL) : Exit → St → Prop
  | .ret, σ => match resL T σ rs with
    | some ts => LeQ (ofTs (keepTs (names bx') ⟨σ.env, shutB σ.box bx'⟩ ts)) r ∧ holdB σ.box bx'
    | none => False
  | .normal, σ => match resL T σ rs with
    | some ts => LeQ (ofTs (keepTs (names bx') ⟨σ.env, shutB σ.box bx'⟩ ts)) r ∧ holdB σ.box bx'
    | none => False
  | _, _ => False

section
variable {P : Program} {T : List (Nat × TyI)}
theorem callO_of_aw {f N : Nat} {fn : Func} {c : Code} {args : List AV} {bx : BoxL} {r : AV} {bx' : BoxL} (hf : P.funcs[f]? = some fn) (hb : fn.body = some c) (hN : fn.ntmps = N) (hcall : ∀ vs w, (callFunc f vs).run P w = .ok (.enter f vs) w)
    (hT : TabOK P T) (hl : Nat.ble args.length N = true) (hkeep : ((names bx).all fun x => (names bx').contains x) = true) (hreal : (bx'.all fun p => p.2.real) = true) {rs : List ResultVar} (hrs : fn.results.toList = rs)
    (h : ∀ cx : Cx, cx.ref = names bx → AW P cx N c (initR args bx) (retKR2 T rs r bx')) : CallR P f args bx r bx' := by
  classical
  refine ⟨hcall, fun M β w vs hr hM hbx hβ => ?_⟩
  refine calls_of_wp hf hb ?_
  let cx : Cx := ⟨w.heap.size, names bx, β⟩
  have hlen := hr.length
  have hl := Nat.le_of_ble_eq_true hl
  have hex : ∀ x, x ∈ names bx → ∃ p, β x = some p := fun x hx => by
    obtain ⟨k, c, e⟩ := hbx.has x hx
    exact ⟨_, e⟩
  have i0 : Inv cx N M β (initR args bx) { tmps := vs.toArray ++ Array.replicate (fn.ntmps - vs.toArray.size) undef, defers := [] } w := by
    refine ⟨rfl, by simp; omega, Nat.le_refl _, fun t => ?_, hM, fun x p e => openB.has (hβ x p e), fun x b e => hbx.rep x b (openB.get e), fun x y b1 b2 b c c' h1 h2 e1 e2 => ?_, fun x b1 b c h1 e => ?_, fun x b1 b c h1 e => ?_, fun x hx => ⟨rfl, hex x hx⟩⟩
    · have := envOf.rep (k := 0) (t := t) (List.replicate (fn.ntmps - vs.length) undef) hr (Nat.zero_le _)
      simp only [Nat.sub_zero] at this
      simp only [initR]
      have e : (vs.toArray ++ Array.replicate (fn.ntmps - vs.toArray.size) undef).getD t undef = (vs ++ List.replicate (fn.ntmps - vs.length) undef).getD t undef := by
        simp [← List.toArray_replicate]
      rw [e]
      exact this
    · exact hbx.inj x y b c c' (mem_names (openB.get h1)) (mem_names (openB.get h2)) e1 e2
    · exact hbx.apart x b c (mem_names (openB.get h1)) e
    · exact .inr ⟨x, c, mem_names (openB.get h1), e⟩
  refine wp_mono (h cx rfl M β _ w i0) ?_
  rintro e a' w' ⟨σ', M', β', hk, i', hg, hkp⟩
  have fin : ∀ ts, resL T σ' rs = some ts → LeQ (ofTs (keepTs (names bx') ⟨σ'.env, shutB σ'.box bx'⟩ ts)) r → holdB σ'.box bx' → a'.defers = [] ∧ ∃ v, (results fn a'.tmps).run P w' = .ok v w' ∧ ∃ v' M' β', Ending.returned v = .returned v' ∧ Nm.le β β' ∧ r.Rep M' β' v' ∧ Grow w.heap.size M M' ∧ MemOK M' w' ∧ BoxesOK M' β' w' bx' ∧
      (∀ x b c, x ∈ names bx' → β' x = some (b, c) → w.heap.size ≤ b ∨ ∃ y c', β y = some (b, c')) ∧
      w'.os = w.os ∧ w'.tape = w.tape ∧ w'.output = w.output ∧ w.heap.size ≤ w'.heap.size ∧ (∀ k, k < w.heap.size → (∀ y c, β y ≠ some (k, c)) → w'.heap[k]? = w.heap[k]?) ∧ w.drawn ≤ w'.drawn := by
    intro ts hts hsub hhold
    obtain ⟨vs', hrun, hrep⟩ := resL.rep hT i' hts
    let isB : Nat → Prop := fun b => ∃ x c, x ∈ names bx' ∧ β' x = some (b, c)
    let F : Mem := fun b o => if b < w.heap.size then M' b o else if isB b then none else w'.cell? ⟨b, o, none⟩
    have hlive : ∀ x, x ∈ names bx' → ∃ b, getB σ'.box x = some (some b) := fun x hx => by
      obtain ⟨b, hb⟩ := of_names hx
      exact ⟨b, holdB.get hhold hb⟩
    have hMF : Mem.le M' F := fun b o u e => by
      by_cases hbl : b < w.heap.size
      · simp [F, hbl, e]
      · have : ¬ isB b := by
          rintro ⟨x, c, hx, hx2⟩
          obtain ⟨bc, hbc⟩ := hlive x hx
          rw [i'.apart x bc b c hbc hx2 o] at e
          cases e
        simp only [F, if_neg hbl, if_neg this]
        exact i'.mem b o u e
    have hFc : ∀ x bc b c, getB (shutB σ'.box bx') x = some (some bc) → β' x = some (b, c) → ∀ o u, w'.cell? ⟨b, o, none⟩ = some u → F b o = some u := by
      intro x bc b c e e' o u hu
      obtain ⟨hnx, ex⟩ := shutB.get e
      have hnb : ¬ isB b := by
        rintro ⟨y, c', hy, hy2⟩
        obtain ⟨bc', hbc'⟩ := hlive y hy
        exact hnx (i'.inj y x bc' bc b c' c hbc' ex hy2 e' ▸ hy)
      rcases i'.low x bc b c ex e' with h | h
      · have : ¬ b < w.heap.size := by have : w.heap.size ≤ b := h; omega
        simp only [F, if_neg this, if_neg hnb]; exact hu
      · obtain ⟨y, c', hy, hy2⟩ := h
        have hy' : y ∈ names bx' := by
          rw [List.all_eq_true] at hkeep
          simpa using hkeep y hy
        have e1 : β' y = some (b, c') := by rw [(i'.ref y hy).1]; exact hy2
        exact (hnb ⟨y, c', hy', e1⟩).elim
    have hconv := keepTs.rep (names bx') (i'.shut bx') hMF hFc hrep
    refine ⟨i'.defers, (if h : vs'.toArray.size = 1 then vs'.toArray[0] else .tuple vs'.toArray), ?_, _, F, β', rfl, ?_, hsub F β' _ ?_, ⟨fun b o u e => hMF b o u (hg.le b o u e), fun b o u e => ?_⟩, fun b o u e => ?_, ?_, ?_, hkp.os, hkp.tape, hkp.output, hkp.size, ?_, hkp.drawn⟩
    · have : (fn.results.mapM (resSem a'.tmps)).run P w' = .ok vs'.toArray w' := by
        rw [← Array.toArray_toList (xs := fn.results), List.mapM_toArray, hrs]
        simp only [Sem.run_map, hrun, Result.andThen]
      have e : results fn a'.tmps = (do let vs ← fn.results.mapM (resSem a'.tmps); pure (if h : vs.size = 1 then vs[0] else .tuple vs)) := by
        unfold results
        congr 1
      rw [e]
      simp only [Sem.run_bind, this, Result.andThen, Sem.run_pure]
    · intro x p e
      rw [(i'.ref x (hβ x p e)).1]
      exact e
    · cases hts' : keepTs (names bx') ⟨σ'.env, shutB σ'.box bx'⟩ ts with
      | nil =>
        rw [hts'] at hconv
        cases vs' with
        | nil => exact ⟨[], rfl, trivial⟩
        | cons _ _ => exact hconv.elim
      | cons t r' =>
        rw [hts'] at hconv
        cases vs' with
        | nil => exact hconv.elim
        | cons v vs'' =>
          cases r' with
          | nil =>
            cases vs'' with
            | cons _ _ => exact hconv.2.elim
            | nil =>
              have := hconv.1
              simp only [List.size_toArray, List.length_cons, List.length_nil, Nat.zero_add, dite_true, ofTs]
              cases t with
              | s x => exact this
              | g cs => exact this
          | cons t2 r2 =>
            cases vs'' with
            | nil => exact hconv.2.elim
            | cons v2 vs3 =>
              have hne : ¬ (v :: v2 :: vs3).toArray.size = 1 := by simp
              rw [dif_neg hne]
              exact ⟨_, rfl, hconv⟩
    · by_cases hbl : b < w.heap.size
      · simp only [F, if_pos hbl] at e
        exact hg.new b o u e
      · exact .inr (by omega)
    · by_cases hbl : b < w.heap.size
      · simp only [F, if_pos hbl] at e
        exact i'.mem b o u e
      · simp only [F, if_neg hbl] at e
        split at e
        · cases e
        · exact e
    · refine ⟨fun x hx => ?_, fun x b hb => ?_, fun x y b c c' hx hy e1 e2 => ?_, fun x b c hx e o => ?_⟩
      · obtain ⟨b, hb⟩ := of_names hx
        rw [List.all_eq_true] at hreal
        exact (i'.box x b (holdB.get hhold hb)).exb (hreal _ hb)
      · exact RepBox.mono hMF (Nm.le_refl β') rfl (fun _ _ _ => rfl) (i'.box x b (holdB.get hhold hb))
      · obtain ⟨bx1, h1⟩ := hlive x hx
        obtain ⟨bx2, h2⟩ := hlive y hy
        exact i'.inj x y bx1 bx2 b c c' h1 h2 e1 e2
      · obtain ⟨bx1, h1⟩ := hlive x hx
        have hB : isB b := ⟨x, c, hx, e⟩
        by_cases hbl : b < w.heap.size
        · simp only [F, if_pos hbl]
          exact i'.apart x bx1 b c h1 e o
        · simp only [F, if_neg hbl, if_pos hB]
    · intro x b c hx e
      obtain ⟨bx1, h1⟩ := hlive x hx
      rcases i'.low x bx1 b c h1 e with h | ⟨y, c', hy, hy2⟩
      · exact .inl h
      · exact .inr ⟨y, c', hy2⟩
    · intro k hk hnk
      exact hkp.block k hk (by rintro ⟨x, c, _, hx⟩; exact hnk x c hx)
  cases e with
  | ret =>
    simp only [retKR2] at hk
    split at hk
    · rename_i ts hts; exact fin ts hts hk.1 hk.2
    · exact hk.elim
  | normal =>
    simp only [retKR2] at hk
    split at hk
    · rename_i ts hts; exact fin ts hts hk.1 hk.2
    · exact hk.elim
  | _ => exact hk.elim
theorem callO_of_ex {rc : List Nat} {f N : Nat} {fn : Func} {c : Code} {args : List AV} {bx : BoxL} {r : AV} {bx' : BoxL} (hf : P.funcs[f]? = some fn) (hb : fn.body = some c) (hN : fn.ntmps = N) (hcall : ∀ vs w, (callFunc f vs).run P w = .ok (.enter f vs) w)
    (hT : TabOK P T) (hm : P.follows .mixedOrders = true) (hl : Nat.ble args.length N = true) (hkeep : ((names bx).all fun x => (names bx').contains x) = true) (hreal : (bx'.all fun p => p.2.real) = true) {rs : List ResultVar} (hrs : fn.results.toList = rs)
    (h : ∀ cx : Cx, cx.ref = names bx → ex P T N (names bx) rc cx c (initR args bx) (retKR2 T rs r bx')) : CallR P f args bx r bx' :=
  callO_of_aw hf hb hN hcall hT hl hkeep hreal hrs fun cx href => ex.sound hT hm href c (h cx href)
end
end Go.Ax
