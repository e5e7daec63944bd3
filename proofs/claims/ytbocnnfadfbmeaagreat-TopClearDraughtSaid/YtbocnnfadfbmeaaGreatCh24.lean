/- Part Ch24: lemmas that the proofs of this seat share; by itself it claims nothing. -/
import Derived.Test.YtbocnnfadfbmeaaGreatCh23
namespace Go.Ch
open Go Go.Ax

/-- What can be reached over usable cells. -/
inductive Rch (ok : Int → Bool) (nr : Int → List Int) (fr : List Int) : Int → Prop
  | start {i : Int} : i ∈ fr → ok i = true → Rch ok nr fr i
  | step {k i : Int} : Rch ok nr fr k → i ∈ nr k → ok i = true → Rch ok nr fr i
def canGo (ok : Int → Bool) (nr : Int → List Int) (fr to : List Int) : Prop := ∃ t ∈ to, Rch ok nr fr t
theorem Rch.ok {ok : Int → Bool} {nr : Int → List Int} {fr : List Int} {i : Int} (h : Rch ok nr fr i) : ok i = true := by
  cases h with
  | start _ h => exact h
  | step _ _ h => exact h
theorem Rch.mono {ok ok' : Int → Bool} {nr : Int → List Int} {fr fr' : List Int} (h1 : ∀ i, ok i = true → ok' i = true) (h2 : ∀ i ∈ fr, i ∈ fr') {i : Int} (h : Rch ok nr fr i) : Rch ok' nr fr' i := by
  induction h with
  | start a b => exact .start (h2 _ a) (h1 _ b)
  | step _ a b ih => exact .step ih a (h1 _ b)
theorem Rch.trans {ok : Int → Bool} {nr : Int → List Int} {fr : List Int} {k i : Int} (h : Rch ok nr [k] i) (hk : Rch ok nr fr k) : Rch ok nr fr i := by
  induction h with
  | start a b => have := List.mem_singleton.1 a; subst this; exact hk
  | step _ a b ih => exact .step ih a b
theorem Rch.back {ok : Int → Bool} {nr : Int → List Int} {fr : List Int} (hs : ∀ i k, ok i = true → ok k = true → i ∈ nr k → k ∈ nr i) {i : Int} (h : Rch ok nr fr i) : ∃ a ∈ fr, Rch ok nr [i] a := by
  induction h with
  | start a b => exact ⟨_, a, .start (List.mem_singleton.2 rfl) b⟩
  | @step k i hk a b ih =>
    obtain ⟨x, hx, hr⟩ := ih
    exact ⟨x, hx, hr.trans (.step (.start (List.mem_singleton.2 rfl) b) (hs _ _ b hk.ok a) hk.ok)⟩
theorem canGo.symm {ok : Int → Bool} {nr : Int → List Int} {fr to : List Int} (hs : ∀ i k, ok i = true → ok k = true → i ∈ nr k → k ∈ nr i) (h : canGo ok nr fr to) : canGo ok nr to fr := by
  obtain ⟨t, ht, hr⟩ := h
  obtain ⟨a, ha, hb⟩ := hr.back hs
  exact ⟨a, ha, hb.mono (fun _ h => h) (fun i hi => by have := List.mem_singleton.1 hi; subst this; exact ht)⟩
theorem canGo.mono {ok ok' : Int → Bool} {nr : Int → List Int} {fr to : List Int} (h1 : ∀ i, ok i = true → ok' i = true) (h : canGo ok nr fr to) : canGo ok' nr fr to :=
  let ⟨t, ht, hr⟩ := h; ⟨t, ht, hr.mono h1 fun _ h => h⟩
/-- A list of cells that is a way. -/
theorem path_go {ok : Int → Bool} {nr : Int → List Int} {fr to p : List Int} (h0 : p ≠ []) (hf : p.getD 0 0 ∈ fr) (ht : p.getD (p.length - 1) 0 ∈ to) (ha : ∀ k, k < p.length → ok (p.getD k 0) = true) (hl : linkL nr p) : canGo ok nr fr to := by
  have hp : 0 < p.length := by
    cases p with
    | nil => exact absurd rfl h0
    | cons => simp
  have all : ∀ k, k < p.length → Rch ok nr fr (p.getD k 0) := by
    intro k
    induction k with
    | zero => intro h; exact .start hf (ha 0 h)
    | succ k ih => intro h; exact .step (ih (by omega)) (hl k h) (ha _ h)
  exact ⟨_, ht, all _ (by omega)⟩
theorem wayL_go {n : Nat} {ok : Int → Bool} {nr : Int → List Int} {fr to : List Int} (hok : ∀ i, ok i = true → 0 ≤ i ∧ i < n) (hnr : ∀ i, i ∉ nr i) : wayL n ok nr fr to ≠ [] ↔ canGo ok nr fr to := by
  constructor
  · intro h
    obtain ⟨h1, h2, ⟨a, ha, ha'⟩, z, hz, hz'⟩ := wayL_some hok hnr h
    generalize wayL n ok nr fr to = p at *
    refine path_go h ?_ ?_ (fun k hk => ?_) h1
    · rw [List.head?_eq_getElem?] at ha
      rw [List.getD_eq_getElem?_getD, ha]; exact ha'
    · rw [List.getLast?_eq_getElem?] at hz
      rw [List.getD_eq_getElem?_getD, hz]; exact hz'
    · refine h2 _ ?_
      rw [List.getD_eq_getElem?_getD, List.getElem?_eq_getElem hk]
      exact List.getElem_mem hk
  · rintro ⟨t, ht, hr⟩ h
    obtain ⟨S, s1, s2⟩ := wayL_none hok h
    have : S t = true := by
      clear ht
      induction hr with
      | start a b => exact s1 _ a b
      | step _ a b ih => exact (s2 _ ih).2.2 _ a b
    exact (s2 t this).2.1 ht

/-! What Clear returns. -/
theorem clearL_spec (g : Grid) (fr to : List Int) : ∀ ls : List Int, (∃ pre m suf, ls = pre ++ m :: suf ∧ (∀ x ∈ pre, wayM g x fr to = []) ∧ wayM g m fr to ≠ [] ∧ clearL g fr to ls = (m, wayM g m fr to, barL g m g.levels.length, 0)) ∨
    ((∀ x ∈ ls, wayM g x fr to = []) ∧ clearL g fr to ls = (0, [], [], 11))
  | [] => .inr ⟨fun x hx => (by cases hx), rfl⟩
  | m :: r => by
    cases hm : (wayM g m fr to).isEmpty with
    | true =>
      have h0 : wayM g m fr to = [] := List.isEmpty_iff.1 hm
      have e : clearL g fr to (m :: r) = clearL g fr to r := by rw [clearL, hm, cond_true]
      rcases clearL_spec g fr to r with ⟨pre, m', suf, h1, h2, h3, h4⟩ | ⟨h1, h2⟩
      · refine .inl ⟨m :: pre, m', suf, by rw [h1]; rfl, fun x hx => ?_, h3, by rw [e, h4]⟩
        rcases List.mem_cons.1 hx with rfl | hx
        · exact h0
        · exact h2 x hx
      · refine .inr ⟨fun x hx => ?_, by rw [e, h2]⟩
        rcases List.mem_cons.1 hx with rfl | hx
        · exact h0
        · exact h1 x hx
    | false =>
      refine .inl ⟨[], m, r, rfl, fun x hx => (by cases hx), fun h => ?_, by rw [clearL, hm, cond_false]⟩
      rw [h] at hm; cases hm
end Go.Ch

namespace Go.Ch
open Go Go.Ax Go.Proofs Go.Proofs.Tryz
set_option maxRecDepth 100000
set_option pp.maxSteps 400
set_option maxHeartbeats 1000000

structure LineV where
  fr : Pt
  to : Pt
  n : Int
abbrev lineA (x : LineV) : AV := .g [.d (dI x.fr.x), .d (dI x.fr.y), .d (dI x.to.x), .d (dI x.to.y), .d (dI x.n)]
abbrev lineB (x : LineV) : Box := .cells [.d (dI x.fr.x), .d (dI x.fr.y), .d (dI x.to.x), .d (dI x.to.y), .d (dI x.n)]
theorem cellI_known {g : Grid} (hg : GVal g) {p : Pt} (h : decide (cellI g p < 0) = false) : 0 ≤ cellI g p ∧ cellI g p < g.levels.length := by
  cases ho : outG g p with
  | false => have := cellI_in hg ho; exact ⟨this.1, this.2.1⟩
  | true =>
    have : cellI g p = -1 := by unfold cellI; rw [ho]; rfl
    rw [this] at h; cases h
def badLine (a b : Pt) (n : Int) : Bool := (!(good a && good b)) || !within n 1 200
def profE (g : Grid) (a b : Pt) (n : Int) : List Int × Int := bif errG g != 0 then ([], errG g) else bif badLine a b n then ([], 2) else (profL g a b n (n.toNat + 1), 0)
end Go.Ch

namespace Go.Ch
end Go.Ch

namespace Go.Ch
open Go Go.Ax Go.Proofs Go.Proofs.Tryz
set_option maxRecDepth 100000
set_option pp.maxSteps 400
set_option maxHeartbeats 1000000

theorem rHas (l : List Int) (x : Int) (hl : l.length ≤ 1000000) : CallP Tryz.prog 42 [vInts l, vI x] (vB (l.contains x)) := by
  refine callP_of_ex (rc := []) (N := 18) Tryz.func42 rfl rfl Tryz.call42 tab_ok mix rfl rfl (fun cx href => ?_)
  refine AW.loopI (fun i : Nat => ⟨[(0, vInts l), (1, vI x), (5, vI i)], []⟩) (fun i => i ≤ l.length ∧ l.contains x = (l.drop i).contains x) (fun i => l.length - i) 0 ⟨Nat.zero_le _, rfl⟩ ?_ ?_
  · exact SubI.of0 href [] rfl trivial ⟨⟨rfl, LeQ.rfl⟩, ⟨rfl, LeQ.rfl⟩, ⟨rfl, LeQ.rfl⟩, trivial⟩
  · rintro i ⟨hi, hj⟩
    refine ex.sound (rc := []) tab_ok mix href _ ?_
    refine And.intro (fun h => ?_) (fun h => ?_)
    · have h : (i : Int) < l.length := decT h
      have hi' : i < l.length := by omega
      have hx : l[i] = l.getD i 0 := by simp [hi']
      rw [List.drop_eq_getElem_cons hi', List.contains_cons, hx] at hj
      refine oi ⟨by omega, by omega⟩ ?_
      refine And.intro (fun h2 => ?_) (fun h2 => ?_)
      · have h2 : (l.getD i 0 == x) = true := h2
        have h3 : (x == l.getD i 0) = true := by rw [beq_iff_eq] at h2 ⊢; exact h2.symm
        rw [hj, h3, Bool.true_or]
        exact SubR.lit rfl
      · have h2 : (l.getD i 0 == x) = false := h2
        have h3 : (x == l.getD i 0) = false := by rw [beq_eq_false_iff_ne] at h2 ⊢; exact fun e => h2 e.symm
        rw [h3, Bool.false_or] at hj
        refine ⟨i + 1, ⟨by omega, hj⟩, by omega, ?_⟩
        exact SubI.of0 href [] rfl trivial ⟨⟨rfl, LeQ.rfl⟩, ⟨rfl, LeQ.rfl⟩, ⟨rfl, LeQ.int (w64_of (by omega) (by omega))⟩, trivial⟩
    · have h : ¬ (i : Int) < l.length := decF h
      obtain rfl : i = l.length := by omega
      rw [hj, List.drop_length]
      exact SubR.lit rfl
theorem there_eq (g : Grid) (i : Int) : (decide (i ≥ 0) && decide (i < g.levels.length)) = there g i := by
  rw [Bool.eq_iff_iff, there_iff]; simp
theorem knownF_eq (g : Grid) (i : Int) : knownF g i = knownG g i := by
  unfold knownF knownG
  rw [there_eq]; rfl
def endsR (g : Grid) (fr to : List Int) : Int := bif fr.isEmpty || to.isEmpty then 10 else endsErr g (fr ++ to)
/-! The reference's search. -/
def uOk (g : Grid) (most : Int) (wo : List Int) (i : Int) : Bool := (knownG g i && decide (levelAt g i ≤ most)) && !wo.contains i
open Classical in
noncomputable def goB (ok : Int → Bool) (nr : Int → List Int) (fr to : List Int) : Bool := decide (canGo ok nr fr to)
theorem uOk_there {g : Grid} {most : Int} {wo : List Int} {i : Int} (h : uOk g most wo i = true) : there g i = true := by
  unfold uOk knownG at h
  simp only [Bool.and_eq_true] at h
  exact h.1.1.1
theorem absI_sub {a b : Int} : absI (a - b) = absI (b - a) := by unfold absI; split <;> split <;> omega
theorem neigh_symm (g : Grid) (i k : Int) : neigh g i k = neigh g k i := by
  unfold neigh
  rw [absI_sub (a := i % g.cols), absI_sub (a := i / g.cols)]
theorem near_mem {g : Grid} (hg : GVal g) {i k : Int} (hk : there g k = true) : i ∈ nearL g k ↔ there g i = true ∧ neigh g i k = true := by
  have hk := there_iff.1 hk
  rw [← near_eq hg hk.1 hk.2, rnL_mem, there_iff, neigh_symm g i k]
  exact ⟨fun h => ⟨⟨h.1, h.2.1⟩, h.2.2⟩, fun h => ⟨h.1.1, h.1.2, h.2⟩⟩
def stB (g : Grid) (fr : List Int) (h : Nat → Bool) (i : Nat) (k : Nat) : Bool := fr.contains (i : Int) || (List.range k).any fun k => h k && neigh g i k
theorem stB_succ (g : Grid) (fr : List Int) (h : Nat → Bool) (i k : Nat) : stB g fr h i (k + 1) = (stB g fr h i k || (h k && neigh g i k)) := by
  unfold stB
  rw [List.range_succ, List.any_append]
  simp [Bool.or_assoc]
def cntF (n : Nat) (h : Nat → Bool) : Nat := (List.range n).countP fun i => !h i
def putF (h : Nat → Bool) (i : Nat) : Nat → Bool := fun j => if j = i then true else h j
theorem cntF_put {n i : Nat} {h : Nat → Bool} (hi : i < n) (h0 : h i = false) : cntF n (putF h i) + 1 ≤ cntF n h := by
  refine countP_drop (fun x _ hx => ?_) ⟨i, List.mem_range.2 hi, by rw [h0]; rfl, by simp [putF]⟩
  unfold putF at hx
  by_cases e : x = i
  · rw [if_pos e] at hx; cases hx
  · rw [if_neg e] at hx; exact hx
abbrev boolF (h : Nat → Bool) : Nat → Nat → DV := fun i _ => .val (.bool (h i))
/-- All that was taken can be reached. -/
def Snd (g : Grid) (most : Int) (wo fr : List Int) (h : Nat → Bool) : Prop := ∀ i, i < g.levels.length → h i = true → Rch (uOk g most wo) (nearL g) fr (i : Int)
def Cls (g : Grid) (most : Int) (wo fr : List Int) (h : Nat → Bool) (m : Nat) : Prop := ∀ i, i < m → uOk g most wo (i : Int) = true → h i = false → stB g fr h i g.levels.length = false
theorem Snd.put {g : Grid} (hg : GVal g) {most : Int} {wo fr : List Int} {h : Nat → Bool} (hs : Snd g most wo fr h) {i : Nat} (hi : i < g.levels.length) (hu : uOk g most wo (i : Int) = true) (ht : stB g fr h i g.levels.length = true) : Snd g most wo fr (putF h i) := by
  intro j hj hp
  unfold putF at hp
  by_cases e : j = i
  · subst e
    unfold stB at ht
    rw [Bool.or_eq_true] at ht
    rcases ht with ht | ht
    · exact .start (by simpa using ht) hu
    · rw [List.any_eq_true] at ht
      obtain ⟨k, hk, hkk⟩ := ht
      rw [Bool.and_eq_true] at hkk
      have hk := List.mem_range.1 hk
      refine .step (hs k hk hkk.1) ?_ hu
      exact (near_mem hg (there_iff.2 ⟨by omega, by omega⟩)).2 ⟨there_iff.2 ⟨by omega, by omega⟩, hkk.2⟩
  · rw [if_neg e] at hp; exact hs j hj hp
theorem Cls.full {g : Grid} (hg : GVal g) {most : Int} {wo fr : List Int} {h : Nat → Bool} (hc : Cls g most wo fr h g.levels.length) {i : Int} (hr : Rch (uOk g most wo) (nearL g) fr i) : h i.toNat = true := by
  have key : ∀ i : Int, uOk g most wo i = true → stB g fr h i.toNat g.levels.length = true → h i.toNat = true := by
    intro i hu hs
    have ht := there_iff.1 (uOk_there hu)
    cases hh : h i.toNat with
    | true => rfl
    | false =>
      have := hc i.toNat (by omega) (by rw [show ((i.toNat : Nat) : Int) = i by omega]; exact hu) hh
      rw [this] at hs; cases hs
  induction hr with
  | @start i a b =>
    refine key _ b ?_
    have ht := there_iff.1 (uOk_there b)
    unfold stB
    rw [show ((i.toNat : Nat) : Int) = i by omega, List.contains_iff_mem.2 a]; rfl
  | @step k i hk a b ih =>
    refine key _ b ?_
    have ht := there_iff.1 (uOk_there b)
    have hkt := uOk_there hk.ok
    have hkt' := there_iff.1 hkt
    unfold stB
    rw [Bool.or_eq_true]
    right
    rw [List.any_eq_true]
    refine ⟨k.toNat, List.mem_range.2 (by omega), ?_⟩
    rw [ih, Bool.true_and, show ((i.toNat : Nat) : Int) = i by omega, show ((k.toNat : Nat) : Int) = k by omega]
    exact ((near_mem hg hkt).1 a).2
end Go.Ch

namespace Go.Ch
open Go Go.Ax Go.Proofs Go.Proofs.Tryz
set_option maxRecDepth 100000
set_option pp.maxSteps 400
set_option maxHeartbeats 1000000

abbrev reS (g : Grid) (q : WayV) (most : Int) (wo : List Int) (h : Nat → Bool) (ag : Bool) : St := ⟨[(2, vI most), (3, vInts wo), (4, .s (.ptr 4 0)), (5, .s (.ptr 5 0)), (9, .s (.own 18)), (10, vB ag)], [(4, some (gridB g)), (5, some (wayB q)), (18, some (.row 4 g.levels.length 1 (boolF h)))]⟩
abbrev reS2 (g : Grid) (q : WayV) (most : Int) (wo : List Int) (h : Nat → Bool) (ag : Bool) (i : Nat) : St := ⟨[(2, vI most), (3, vInts wo), (4, .s (.ptr 4 0)), (5, .s (.ptr 5 0)), (9, .s (.own 18)), (10, vB ag), (11, vI i)], [(4, some (gridB g)), (5, some (wayB q)), (18, some (.row 4 g.levels.length 1 (boolF h)))]⟩
abbrev reS3 (g : Grid) (q : WayV) (most : Int) (wo : List Int) (h : Nat → Bool) (ag : Bool) (i : Nat) (s : Bool) (k : Nat) : St := ⟨[(2, vI most), (3, vInts wo), (4, .s (.ptr 4 0)), (5, .s (.ptr 5 0)), (9, .s (.own 18)), (10, vB ag), (11, vI i), (12, vB s), (13, vI k)], [(4, some (gridB g)), (5, some (wayB q)), (18, some (.row 4 g.levels.length 1 (boolF h)))]⟩
theorem goB_iff {ok : Int → Bool} {nr : Int → List Int} {fr to : List Int} : goB ok nr fr to = true ↔ canGo ok nr fr to := by
  unfold goB
  exact @decide_eq_true_iff _ (Classical.propDecidable _)
theorem LeQ.litB {b : Bool} : LeQ (.s (.d (.lit b))) (vB b) := fun _ _ _ r => r
theorem rReaches (g : Grid) (q : WayV) (most : Int) (wo : List Int) (hg : GVal g) (hq : q.sm) (ht : ∀ t ∈ q.to, there g t = true) (hwo : wo.length ≤ 1000000) :
    CallP Tryz.prog 41 [grid g, wayA q, vI most, vInts wo] (vB (goB (uOk g most wo) (nearL g) q.fr q.to)) := by
  have hn := hg.n
  have hpos := hg.pos
  have hfr := hq.fr
  have hto := hq.to
  refine callP_of_ex (rc := []) (N := 94) Tryz.func41 rfl rfl Tryz.call41 tab_ok mix rfl rfl (fun cx href => ?_)
  refine ob (by omega) ?_
  refine ob (by omega) ?_
  refine ob (by show (1 : Int) * (g.levels.length : Int) ≤ 281474976710656; omega) ?_
  refine AW.loopI (fun s : (Nat → Bool) × Bool => reS g q most wo s.1 s.2)
    (fun s => Snd g most wo q.fr s.1 ∧ (s.2 = false → Cls g most wo q.fr s.1 g.levels.length)) (fun s => 2 * cntF g.levels.length s.1 + (bif s.2 then 1 else 0)) (fun _ => false, true) ⟨fun i _ h => (by cases h), fun h => (by cases h)⟩ ?_ ?_
  · refine SubI.of0 href [] rfl ⟨⟨rfl, LeBx.rfl⟩, ⟨rfl, LeBx.rfl⟩, ⟨rfl, LeBx.row rfl fun i j _ hj => ?_⟩, trivial⟩ ⟨⟨rfl, LeQ.rfl⟩, ⟨rfl, LeQ.rfl⟩, ⟨rfl, LeQ.rfl⟩, ⟨rfl, LeQ.rfl⟩, ⟨rfl, LeQ.rfl⟩, ⟨rfl, LeQ.litB⟩, trivial⟩
    have hj : j < 1 := hj
    obtain rfl : j = 0 := by omega
    exact LeDlit
  · rintro ⟨h, ag⟩ ⟨hs, hc⟩
    simp only at hs hc ⊢
    refine ex.sound (rc := []) tab_ok mix href _ ?_
    refine And.intro (fun h1 => ?_) (fun h1 => ?_)
    · have h1 : ag = true := h1
      subst h1
      refine AW.loopI (fun s : (Nat → Bool) × Bool × Nat => reS2 g q most wo s.1 s.2.1 s.2.2)
        (fun s => s.2.2 ≤ g.levels.length ∧ Snd g most wo q.fr s.1 ∧ (s.2.1 = true → cntF g.levels.length s.1 < cntF g.levels.length h) ∧ (s.2.1 = false → s.1 = h ∧ Cls g most wo q.fr h s.2.2)) (fun s => g.levels.length - s.2.2) (h, false, 0) ⟨Nat.zero_le _, hs, fun e => (by cases e), fun _ => ⟨rfl, fun i hi => absurd hi (Nat.not_lt_zero i)⟩⟩ ?_ ?_
      · exact SubI.of0 href [] rfl ⟨⟨rfl, LeBx.rfl⟩, ⟨rfl, LeBx.rfl⟩, ⟨rfl, LeBx.rfl⟩, trivial⟩ ⟨⟨rfl, LeQ.rfl⟩, ⟨rfl, LeQ.rfl⟩, ⟨rfl, LeQ.rfl⟩, ⟨rfl, LeQ.rfl⟩, ⟨rfl, LeQ.rfl⟩, ⟨rfl, LeQ.litB⟩, ⟨rfl, LeQ.rfl⟩, trivial⟩
      · rintro ⟨h', ag, i⟩ ⟨hi, hs', ht1, ht2⟩
        simp only at hi hs' ht1 ht2 ⊢
        refine ex.sound (rc := []) tab_ok mix href _ ?_
        refine And.intro (fun h2 => ?_) (fun h2 => ?_)
        · have h2 : (i : Int) < g.levels.length := decT h2
          have hi' : i < g.levels.length := by omega
          refine oi ⟨by omega, by omega⟩ ?_
          refine oi hi' ?_
          repeat first | refine sk ?_ | refine st ?_ | refine sg ?_ | refine sh ?_ | refine su ?_ | refine sn1 ?_ | refine sn0 ?_
          refine callG (rKnown g i) ?_
          rw [knownF_eq]
          repeat first | refine sk ?_ | refine st ?_ | refine sg ?_ | refine sh ?_ | refine su ?_ | refine sn1 ?_ | refine sn0 ?_
          refine og (fun _ => ⟨by omega, by omega⟩) ?_
          repeat first | refine sk ?_ | refine st ?_ | refine sg ?_ | refine sh ?_ | refine su ?_ | refine sn1 ?_ | refine sn0 ?_
          refine callG (rHas wo i hwo) ?_
          repeat first | refine sk ?_ | refine st ?_ | refine sg ?_ | refine sh ?_ | refine su ?_ | refine sn1 ?_ | refine sn0 ?_
          refine And.intro (fun h3 => ?_) (fun h3 => ?_)
          · have h3 : (((h' i || !knownG g i) || decide (levelAt g i > most)) || wo.contains (i : Int)) = true := h3
            refine ⟨(h', ag, i + 1), ⟨by simp only; omega, hs', ht1, fun e => ⟨(ht2 e).1, fun j hj hu hh => ?_⟩⟩, by simp only; omega, ?_⟩
            · by_cases e2 : j = i
              · subst e2
                exfalso
                rw [(ht2 e).1, hh] at h3
                unfold uOk at hu
                simp only [Bool.and_eq_true, decide_eq_true_eq, Bool.not_eq_true'] at hu
                rw [hu.1.1, hu.2, decide_eq_false (by omega)] at h3
                cases h3
              · exact (ht2 e).2 j (by simp only at hj; omega) hu hh
            · exact SubI.of0 href [] rfl ⟨⟨rfl, LeBx.rfl⟩, ⟨rfl, LeBx.rfl⟩, ⟨rfl, LeBx.rfl⟩, trivial⟩ ⟨⟨rfl, LeQ.rfl⟩, ⟨rfl, LeQ.rfl⟩, ⟨rfl, LeQ.rfl⟩, ⟨rfl, LeQ.rfl⟩, ⟨rfl, LeQ.rfl⟩, ⟨rfl, LeQ.rfl⟩, ⟨rfl, LeQ.int (w64_of (by omega) (by omega))⟩, trivial⟩
          · have h3 : (((h' i || !knownG g i) || decide (levelAt g i > most)) || wo.contains (i : Int)) = false := h3
            simp only [Bool.or_eq_false_iff, Bool.not_eq_false', decide_eq_false_iff_not] at h3
            have hu : uOk g most wo (i : Int) = true := by
              unfold uOk
              rw [h3.1.1.2, h3.2, decide_eq_true (by omega)]; rfl
            refine callN (rHas q.fr i (by omega)) ?_
            refine AW.loopI (fun s : Nat => reS3 g q most wo h' ag i (stB g q.fr h' i s) s) (fun s => s ≤ g.levels.length) (fun s => g.levels.length - s) 0 (Nat.zero_le _) ?_ ?_
            · refine SubI.of0 href [] rfl ⟨⟨rfl, LeBx.rfl⟩, ⟨rfl, LeBx.rfl⟩, ⟨rfl, LeBx.rfl⟩, trivial⟩ ⟨⟨rfl, LeQ.rfl⟩, ⟨rfl, LeQ.rfl⟩, ⟨rfl, LeQ.rfl⟩, ⟨rfl, LeQ.rfl⟩, ⟨rfl, LeQ.rfl⟩, ⟨rfl, LeQ.rfl⟩, ⟨rfl, LeQ.rfl⟩, ⟨rfl, LeQ.bool ?_⟩, ⟨rfl, LeQ.rfl⟩, trivial⟩
              unfold stB
              simp
            · intro k hk
              have hss := stB_succ g q.fr h' i k
              refine ex.sound (rc := []) tab_ok mix href _ ?_
              refine And.intro (fun h4 => ?_) (fun h4 => ?_)
              · have h4 : (k : Int) < g.levels.length := decT h4
                repeat first | refine sk ?_ | refine st ?_ | refine sg ?_ | refine sh ?_ | refine su ?_ | refine sn1 ?_ | refine sn0 ?_
                refine og (fun _ => ⟨by omega, by omega⟩) ?_
                repeat first | refine sk ?_ | refine st ?_ | refine sg ?_ | refine sh ?_ | refine su ?_ | refine sn1 ?_ | refine sn0 ?_
                refine og (fun _ => by show k < g.levels.length; omega) ?_
                repeat first | refine sk ?_ | refine st ?_ | refine sg ?_ | refine sh ?_ | refine su ?_ | refine sn1 ?_ | refine sn0 ?_
                refine callG (Neighbours g i k hg ⟨by omega, by omega⟩ ⟨by omega, by omega⟩) ?_
                repeat first | refine sk ?_ | refine st ?_ | refine sg ?_ | refine sh ?_ | refine su ?_ | refine sn1 ?_ | refine sn0 ?_
                refine ⟨k + 1, by omega, by omega, ?_⟩
                exact SubI.of0 href [] rfl ⟨⟨rfl, LeBx.rfl⟩, ⟨rfl, LeBx.rfl⟩, ⟨rfl, LeBx.rfl⟩, trivial⟩ ⟨⟨rfl, LeQ.rfl⟩, ⟨rfl, LeQ.rfl⟩, ⟨rfl, LeQ.rfl⟩, ⟨rfl, LeQ.rfl⟩, ⟨rfl, LeQ.rfl⟩, ⟨rfl, LeQ.rfl⟩, ⟨rfl, LeQ.rfl⟩, ⟨rfl, LeQ.bool hss.symm⟩, ⟨rfl, LeQ.int (w64_of (by omega) (by omega))⟩, trivial⟩
              · have h4 : ¬ (k : Int) < g.levels.length := decF h4
                obtain rfl : k = g.levels.length := by omega
                refine And.intro (fun h5 => ?_) (fun h5 => ?_)
                · have h5 : stB g q.fr h' i g.levels.length = true := h5
                  refine oi ⟨by omega, by omega⟩ ?_
                  refine ob hi' ?_
                  have hcp := cntF_put hi' h3.1.1.1
                  have hle : cntF g.levels.length h' ≤ cntF g.levels.length h := by
                    cases ag with
                    | true => exact Nat.le_of_lt (ht1 rfl)
                    | false => rw [(ht2 rfl).1]; exact Nat.le_refl _
                  refine ⟨(putF h' i, true, i + 1), ⟨by simp only; omega, hs'.put hg hi' hu h5, fun _ => (by simp only; omega), fun e => (by cases e)⟩, by simp only; omega, ?_⟩
                  refine SubI.of0 href [] rfl ⟨⟨rfl, LeBx.rfl⟩, ⟨rfl, LeBx.rfl⟩, ⟨rfl, LeBx.row rfl fun k j hk hj => ?_⟩, trivial⟩ ⟨⟨rfl, LeQ.rfl⟩, ⟨rfl, LeQ.rfl⟩, ⟨rfl, LeQ.rfl⟩, ⟨rfl, LeQ.rfl⟩, ⟨rfl, LeQ.rfl⟩, ⟨rfl, LeQ.litB⟩, ⟨rfl, LeQ.int (w64_of (by omega) (by omega))⟩, trivial⟩
                  obtain rfl : j = 0 := by omega
                  by_cases hki : k = i
                  · subst hki
                    have e1 : rowSet (boolF h') k 0 [.d (.lit true)] k 0 = .lit true := by unfold rowSet; rw [if_pos rfl]; rfl
                    have e2 : boolF (putF h' k) k 0 = .val (.bool true) := by
                      show DV.val (.bool (putF h' k k)) = _
                      unfold putF; rw [if_pos rfl]
                    show LeD (rowSet (boolF h') k 0 [.d (.lit true)] k 0) (boolF (putF h' k) k 0)
                    rw [e1, e2]; exact LeDlit
                  · show LeD (rowSet (boolF h') i 0 [.d (.lit true)] k 0) (boolF (putF h' i) k 0)
                    have e2 : boolF (putF h' i) k 0 = boolF h' k 0 := by
                      show DV.val (.bool (putF h' i k)) = _
                      unfold putF; rw [if_neg hki]
                    rw [rowSet_ne hki, e2]; exact LeD.refl _
                · have h5 : stB g q.fr h' i g.levels.length = false := h5
                  refine ⟨(h', ag, i + 1), ⟨by simp only; omega, hs', ht1, fun e => ⟨(ht2 e).1, fun j hj hu' hh => ?_⟩⟩, by simp only; omega, ?_⟩
                  · by_cases e2 : j = i
                    · subst e2; rw [← (ht2 e).1]; exact h5
                    · exact (ht2 e).2 j (by simp only at hj; omega) hu' hh
                  · exact SubI.of0 href [] rfl ⟨⟨rfl, LeBx.rfl⟩, ⟨rfl, LeBx.rfl⟩, ⟨rfl, LeBx.rfl⟩, trivial⟩ ⟨⟨rfl, LeQ.rfl⟩, ⟨rfl, LeQ.rfl⟩, ⟨rfl, LeQ.rfl⟩, ⟨rfl, LeQ.rfl⟩, ⟨rfl, LeQ.rfl⟩, ⟨rfl, LeQ.rfl⟩, ⟨rfl, LeQ.int (w64_of (by omega) (by omega))⟩, trivial⟩
        · have h2 : ¬ (i : Int) < g.levels.length := decF h2
          obtain rfl : i = g.levels.length := by omega
          refine ⟨(h', ag), ⟨hs', fun e => by rw [(ht2 e).1]; exact (ht2 e).2⟩, ?_, ?_⟩
          · simp only
            cases ag with
            | true => have := ht1 rfl; simp only [cond_true]; omega
            | false => rw [(ht2 rfl).1]; simp only [cond_true, cond_false]; omega
          · exact SubI.of0 href [] rfl ⟨⟨rfl, LeBx.rfl⟩, ⟨rfl, LeBx.rfl⟩, ⟨rfl, LeBx.rfl⟩, trivial⟩ ⟨⟨rfl, LeQ.rfl⟩, ⟨rfl, LeQ.rfl⟩, ⟨rfl, LeQ.rfl⟩, ⟨rfl, LeQ.rfl⟩, ⟨rfl, LeQ.rfl⟩, ⟨rfl, LeQ.rfl⟩, trivial⟩
    · have h1 : ag = false := h1
      have hcl := hc h1
      have hres : goB (uOk g most wo) (nearL g) q.fr q.to = q.to.any fun t => h t.toNat := by
        rw [Bool.eq_iff_iff, goB_iff, List.any_eq_true]
        constructor
        · rintro ⟨t, h1, h2⟩; exact ⟨t, h1, hcl.full hg h2⟩
        · rintro ⟨t, h1, h2⟩
          have htt := there_iff.1 (ht t h1)
          refine ⟨t, h1, ?_⟩
          have := hs t.toNat (by omega) h2
          rw [show ((t.toNat : Nat) : Int) = t by omega] at this
          exact this
      rw [hres]
      refine AW.loopI (fun j : Nat => ⟨[(5, .s (.ptr 5 0)), (9, .s (.own 18)), (14, vI j)], [(5, some (wayB q)), (18, some (.row 4 g.levels.length 1 (boolF h)))]⟩) (fun j => j ≤ q.to.length ∧ (q.to.any fun t => h t.toNat) = ((q.to.drop j).any fun t => h t.toNat)) (fun j => q.to.length - j) 0 ⟨Nat.zero_le _, rfl⟩ ?_ ?_
      · exact SubI.of0 href [] rfl ⟨⟨rfl, LeBx.rfl⟩, ⟨rfl, LeBx.rfl⟩, trivial⟩ ⟨⟨rfl, LeQ.rfl⟩, ⟨rfl, LeQ.rfl⟩, ⟨rfl, LeQ.rfl⟩, trivial⟩
      · rintro j ⟨hj, he⟩
        refine ex.sound (rc := []) tab_ok mix href _ ?_
        refine And.intro (fun h2 => ?_) (fun h2 => ?_)
        · have h2 : (j : Int) < q.to.length := decT h2
          have hj' : j < q.to.length := by omega
          have hx : q.to[j] = q.to.getD j 0 := by simp [hj']
          have htt := there_iff.1 (ht q.to[j] (List.getElem_mem hj'))
          rw [List.drop_eq_getElem_cons hj', List.any_cons, hx] at he
          rw [hx] at htt
          refine oi ⟨by omega, by omega⟩ ?_
          refine oi ⟨htt.1, htt.2⟩ ?_
          refine oi (by show (q.to.getD j 0).toNat < g.levels.length; omega) ?_
          refine And.intro (fun h3 => ?_) (fun h3 => ?_)
          · have h3 : h (q.to.getD j 0).toNat = true := h3
            rw [he, h3, Bool.true_or]
            exact SubR.lit rfl
          · have h3 : h (q.to.getD j 0).toNat = false := h3
            rw [h3, Bool.false_or] at he
            refine ⟨j + 1, ⟨by omega, he⟩, by omega, ?_⟩
            exact SubI.of0 href [] rfl ⟨⟨rfl, LeBx.rfl⟩, ⟨rfl, LeBx.rfl⟩, trivial⟩ ⟨⟨rfl, LeQ.rfl⟩, ⟨rfl, LeQ.rfl⟩, ⟨rfl, LeQ.int (w64_of (by omega) (by omega))⟩, trivial⟩
        · have h2 : ¬ (j : Int) < q.to.length := decF h2
          obtain rfl : j = q.to.length := by omega
          rw [he, List.drop_length]
          exact SubR.lit rfl
end Go.Ch

namespace Go.Ch
open Go Go.Ax Go.Proofs Go.Proofs.Tryz
set_option maxRecDepth 100000
set_option pp.maxSteps 400
set_option maxHeartbeats 1000000

theorem uOk_most (g : Grid) (m : Int) : uOk g m [] = okMost g m := by
  funext i
  unfold uOk okMost
  simp
theorem uOk_free {g : Grid} (hg : GVal g) (bar : List Int) : uOk g 20000 bar = okFree g bar := by
  funext i
  unfold uOk okFree
  cases hk : knownG g i with
  | false => rfl
  | true =>
    have hk' := hk
    unfold knownG at hk
    rw [Bool.and_eq_true] at hk
    have ht := there_iff.1 hk.1
    have hm : levelAt g i ∈ g.levels := by
      unfold levelAt
      rw [List.getD_eq_getElem?_getD, List.getElem?_eq_getElem (show i.toNat < g.levels.length by omega)]
      exact List.getElem_mem _
    have := hg.lev _ hm
    have h3 : levelAt g i ≠ 30000 := by simpa using hk.2
    rw [decide_eq_true (by omega)]; rfl
theorem near_not (g : Grid) (hg : GVal g) (i : Int) : i ∉ nearL g i := by
  have hc := hg.cols
  rw [nearL_mem]
  omega
theorem near_symm {g : Grid} (hg : GVal g) {ok : Int → Bool} (hok : ∀ i, ok i = true → there g i = true) : ∀ i k, ok i = true → ok k = true → i ∈ nearL g k → k ∈ nearL g i := by
  intro i k hi hk h
  have := (near_mem hg (hok k hk)).1 h
  refine (near_mem hg (hok i hi)).2 ⟨hok k hk, ?_⟩
  rw [neigh_symm]; exact this.2
theorem wayM_go {g : Grid} (hg : GVal g) (m : Int) (fr to : List Int) : wayM g m fr to ≠ [] ↔ canGo (okMost g m) (nearL g) fr to :=
  wayL_go (fun _ h => there_iff.1 (okMost_known h)) (near_not g hg)
theorem okMost_mono {g : Grid} {m m' : Int} (h : m ≤ m') : ∀ i, okMost g m i = true → okMost g m' i = true := by
  intro i hi
  unfold okMost at hi ⊢
  simp only [Bool.and_eq_true, decide_eq_true_eq] at hi ⊢
  exact ⟨hi.1, by omega⟩
theorem levelsL_pw (lv : List Int) : (levelsL lv).Pairwise (fun a b => a ≤ b) := sortI_pw _
theorem level_in {g : Grid} {i : Int} (h : knownG g i = true) : levelAt g i ∈ levelsL g.levels := by
  unfold knownG at h
  rw [Bool.and_eq_true] at h
  have ht := there_iff.1 h.1
  refine levelsL_mem.2 ⟨by simpa using h.2, ?_⟩
  unfold levelAt
  rw [List.getD_eq_getElem?_getD, List.getElem?_eq_getElem (show i.toNat < g.levels.length by omega)]
  exact List.getElem_mem _
/-- The first level that has a way. -/
theorem first_level {g : Grid} (hg : GVal g) {fr to pre suf : List Int} {m : Int} (hl : levelsL g.levels = pre ++ m :: suf) (hp : ∀ x ∈ pre, wayM g x fr to = []) {x : Int} (hx : x ∈ levelsL g.levels) (hgo : canGo (okMost g x) (nearL g) fr to) : m ≤ x := by
  have hpw := levelsL_pw g.levels
  rw [hl] at hpw hx
  rcases List.mem_append.1 hx with h | h
  · exact absurd (hp x h) ((wayM_go hg x fr to).2 hgo)
  · rcases List.mem_cons.1 h with rfl | h
    · exact Int.le_refl _
    · rw [List.pairwise_append] at hpw
      exact (List.pairwise_cons.1 hpw.2.1).1 x h
/-- Where a way over lower cells exists, one exists over the cells up to a level that is lower. -/
theorem lower_way {g : Grid} {fr to : List Int} {m : Int} {ok : Int → Bool} (hok : ∀ i, ok i = true → knownG g i = true ∧ levelAt g i < m) {nr : Int → List Int} (h : canGo ok nr fr to) : ∃ x ∈ levelsL g.levels, x < m ∧ canGo (okMost g x) nr fr to := by
  obtain ⟨t, ht, hr⟩ := h
  have key : ∀ i, Rch ok nr fr i → ∃ x ∈ levelsL g.levels, x < m ∧ Rch (okMost g x) nr fr i := by
    intro i hr
    induction hr with
    | @start i a b =>
      obtain ⟨h1, h2⟩ := hok i b
      refine ⟨levelAt g i, level_in h1, h2, .start a ?_⟩
      unfold okMost; rw [h1, decide_eq_true (Int.le_refl _)]; rfl
    | @step k i hk a b ih =>
      obtain ⟨x, hx, hxm, hxr⟩ := ih
      obtain ⟨h1, h2⟩ := hok i b
      by_cases hle : levelAt g i ≤ x
      · refine ⟨x, hx, hxm, .step hxr a ?_⟩
        unfold okMost; rw [h1, decide_eq_true hle]; rfl
      · refine ⟨levelAt g i, level_in h1, h2, .step (hxr.mono (okMost_mono (by omega)) fun _ h => h) a ?_⟩
        unfold okMost; rw [h1, decide_eq_true (Int.le_refl _)]; rfl
  obtain ⟨x, hx, hxm, hxr⟩ := key t hr
  exact ⟨x, hx, hxm, t, ht, hxr⟩

/-! The highest level of a path. -/
theorem wayRest_spec (g : Grid) (l : List Int) : ∀ (n k : Nat) (h : Int), n + k = l.length → 
    ((∃ j, k ≤ j ∧ j < l.length ∧ wayBad g l j = true) ∧ wayRest g l n k h = (0, false)) ∨
    ((∀ j, k ≤ j → j < l.length → wayBad g l j = false) ∧ (wayRest g l n k h).2 = true ∧ h ≤ (wayRest g l n k h).1 ∧ (∀ j, k ≤ j → j < l.length → levelAt g (l.getD j 0) ≤ (wayRest g l n k h).1) ∧
      ((wayRest g l n k h).1 = h ∨ ∃ j, k ≤ j ∧ j < l.length ∧ levelAt g (l.getD j 0) = (wayRest g l n k h).1))
  | 0, k, h, hk => .inr ⟨fun j h1 h2 => by omega, rfl, Int.le_refl _, fun j h1 h2 => by omega, .inl rfl⟩
  | n + 1, k, h, hk => by
    rw [wayRest]
    cases hb : wayBad g l k with
    | true => exact .inl ⟨⟨k, Nat.le_refl _, by omega, hb⟩, rfl⟩
    | false =>
      rw [cond_false]
      have hm : h ≤ mm true h (levelAt g (l.getD k 0)) ∧ levelAt g (l.getD k 0) ≤ mm true h (levelAt g (l.getD k 0)) ∧ (mm true h (levelAt g (l.getD k 0)) = h ∨ mm true h (levelAt g (l.getD k 0)) = levelAt g (l.getD k 0)) := by
        unfold mm
        simp only
        split
        · exact ⟨by omega, by omega, .inr rfl⟩
        · exact ⟨by omega, by omega, .inl rfl⟩
      rcases wayRest_spec g l n (k + 1) (mm true h (levelAt g (l.getD k 0))) (by omega) with ⟨⟨j, h1, h2, h3⟩, h4⟩ | ⟨h1, h2, h3, h4, h5⟩
      · exact .inl ⟨⟨j, by omega, h2, h3⟩, h4⟩
      · refine .inr ⟨fun j j1 j2 => ?_, h2, by omega, fun j j1 j2 => ?_, ?_⟩
        · by_cases e : j = k
          · rw [e]; exact hb
          · exact h1 j (by omega) j2
        · by_cases e : j = k
          · rw [e]; omega
          · exact h4 j (by omega) j2
        · rcases h5 with h5 | ⟨j, j1, j2, j3⟩
          · rcases hm.2.2 with e | e
            · exact .inl (h5.trans e)
            · exact .inr ⟨k, Nat.le_refl _, by omega, (h5.trans e).symm⟩
          · exact .inr ⟨j, by omega, j2, j3⟩
/-- What Highest finds among known cells. -/
theorem hiF_spec {g : Grid} {l : List Int} (hk : ∀ j, j < l.length → knownG g (l.getD j 0) = true) : ∀ i, i ≤ l.length → (i = 0 ∧ hiF g (l.take i) = -1) ∨
    (0 ≤ hiF g (l.take i) ∧ (∃ j, j < i ∧ hiF g (l.take i) = l.getD j 0) ∧ ∀ j, j < i → levelAt g (l.getD j 0) ≤ levelAt g (hiF g (l.take i)))
  | 0, _ => .inl ⟨rfl, rfl⟩
  | i + 1, h => by
    right
    rw [hiF_take (by omega)]
    have ki := hk i (by omega)
    have ti : 0 ≤ l.getD i 0 := by
      unfold knownG at ki
      rw [Bool.and_eq_true] at ki
      exact (there_iff.1 ki.1).1
    unfold hiStep
    rw [knownF_eq, ki, Bool.true_and]
    rcases hiF_spec hk i (by omega) with ⟨e0, e1⟩ | ⟨h0, ⟨j, hj, hje⟩, hmax⟩
    · rw [e1]
      refine ⟨ti, ⟨i, by omega, rfl⟩, fun j hj => ?_⟩
      obtain rfl : j = i := by omega
      exact Int.le_refl _
    · generalize hiF g (l.take i) = b at *
      have hl : ∀ x, lv g x = levelAt g x := fun _ => rfl
      rw [hl, hl, decide_eq_false (show ¬ b < 0 by omega), Bool.false_or]
      cases hc : decide (levelAt g (l.getD i 0) > levelAt g b) || (levelAt g (l.getD i 0) == levelAt g b && decide (l.getD i 0 < b)) with
      | true =>
        rw [cond_true]
        have hge : levelAt g b ≤ levelAt g (l.getD i 0) := by
          simp only [Bool.or_eq_true, Bool.and_eq_true, decide_eq_true_eq, beq_iff_eq] at hc
          omega
        refine ⟨ti, ⟨i, by omega, rfl⟩, fun j hj => ?_⟩
        by_cases e : j = i
        · rw [e]; exact Int.le_refl _
        · exact Int.le_trans (hmax j (by omega)) hge
      | false =>
        rw [cond_false]
        have hle : levelAt g (l.getD i 0) ≤ levelAt g b := by
          simp only [Bool.or_eq_false_iff, decide_eq_false_iff_not] at hc
          omega
        refine ⟨h0, ⟨j, by omega, hje⟩, fun j hj => ?_⟩
        by_cases e : j = i
        · rw [e]; exact hle
        · exact hmax j (by omega)
end Go.Ch

namespace Go.Ch
open Go Go.Ax Go.Proofs Go.Proofs.Tryz
set_option maxRecDepth 100000
set_option pp.maxSteps 400
set_option maxHeartbeats 1000000

noncomputable def lsReach (g : Grid) (q : WayV) (i : Nat) : Bool := goB (uOk g (levelAt g i) []) (nearL g) q.fr q.to
noncomputable def lsGood (g : Grid) (q : WayV) (i : Nat) : Bool := knownG g i && lsReach g q i
noncomputable def lsS (g : Grid) (q : WayV) (s : Int × Bool) (i : Nat) : Int × Bool := bif (knownG g i && (!s.2 || decide (levelAt g i < s.1))) && lsReach g q i then (levelAt g i, true) else s
noncomputable def lsF (g : Grid) (q : WayV) : Nat → Int × Bool
  | 0 => (0, false)
  | i + 1 => lsS g q (lsF g q i) i
theorem lsF_spec (g : Grid) (q : WayV) : ∀ i, ((lsF g q i).2 = false ∧ ∀ j, j < i → lsGood g q j = false) ∨ ((lsF g q i).2 = true ∧ (∃ j, j < i ∧ lsGood g q j = true ∧ levelAt g j = (lsF g q i).1) ∧ ∀ j, j < i → lsGood g q j = true → (lsF g q i).1 ≤ levelAt g j)
  | 0 => .inl ⟨rfl, fun j h => absurd h (Nat.not_lt_zero j)⟩
  | i + 1 => by
    have ih := lsF_spec g q i
    rw [lsF, lsS]
    generalize lsF g q i = s at ih ⊢
    obtain ⟨b, f⟩ := s
    simp only at ih ⊢
    cases hc : (knownG g i && (!f || decide (levelAt g i < b))) && lsReach g q i with
    | true =>
      rw [cond_true]
      simp only [Bool.and_eq_true] at hc
      have hgd : lsGood g q i = true := by unfold lsGood; rw [hc.1.1, hc.2]; rfl
      refine .inr ⟨rfl, ⟨i, by omega, hgd, rfl⟩, fun j hj hjg => ?_⟩
      by_cases e : j = i
      · rw [e]; exact Int.le_refl _
      · rcases ih with ⟨_, h⟩ | ⟨hf, _, h⟩
        · rw [h j (by omega)] at hjg; cases hjg
        · have := h j (by omega) hjg
          have h2 := hc.1.2
          rw [hf] at h2
          simp only [Bool.not_true, Bool.false_or, decide_eq_true_eq] at h2
          simp only; omega
    | false =>
      rw [cond_false]
      rcases ih with ⟨hf, h⟩ | ⟨hf, ⟨j0, h1, h2, h3⟩, h⟩
      · refine .inl ⟨hf, fun j hj => ?_⟩
        by_cases e : j = i
        · subst e
          rw [hf] at hc
          simpa [lsGood] using hc
        · exact h j (by omega)
      · refine .inr ⟨hf, ⟨j0, by omega, h2, h3⟩, fun j hj hjg => ?_⟩
        by_cases e : j = i
        · subst e
          rw [hf] at hc
          unfold lsGood at hjg
          simp only [Bool.and_eq_true] at hjg
          rw [hjg.1, hjg.2] at hc
          simp only [Bool.not_true, Bool.false_or, Bool.true_and, Bool.and_true, decide_eq_false_iff_not] at hc
          simp only; omega
        · exact h j (by omega) hjg
theorem rLeast (g : Grid) (q : WayV) (hg : GVal g) (hq : q.sm) (ht : ∀ t ∈ q.to, there g t = true) : CallP Tryz.prog 13 [grid g, wayA q] (.t [.s (.d (dI (lsF g q g.levels.length).1)), .s (.d (.val (.bool (lsF g q g.levels.length).2)))]) := by
  have hn := hg.n
  refine callP_of_ex (rc := []) (N := 49) Tryz.func13 rfl rfl Tryz.call13 tab_ok mix rfl rfl (fun cx href => ?_)
  refine AW.loopI (fun i : Nat => ⟨[(2, .s (.ptr 2 0)), (3, .s (.ptr 3 0)), (6, vI (lsF g q i).1), (7, vB (lsF g q i).2), (8, vI i)], [(2, some (gridB g)), (3, some (wayB q))]⟩) (fun i => i ≤ g.levels.length) (fun i => g.levels.length - i) 0 (Nat.zero_le _) ?_ ?_
  · exact SubI.of0 href [] rfl ⟨⟨rfl, LeBx.rfl⟩, ⟨rfl, LeBx.rfl⟩, trivial⟩ ⟨⟨rfl, LeQ.rfl⟩, ⟨rfl, LeQ.rfl⟩, ⟨rfl, LeQ.rfl⟩, ⟨rfl, LeQ.litB⟩, ⟨rfl, LeQ.rfl⟩, trivial⟩
  · intro i hi
    refine ex.sound (rc := []) tab_ok mix href _ ?_
    refine And.intro (fun h => ?_) (fun h => ?_)
    · have h : (i : Int) < g.levels.length := decT h
      refine callN (rKnown g i) ?_
      rw [knownF_eq]
      repeat first | refine sk ?_ | refine st ?_ | refine sg ?_ | refine sh ?_ | refine su ?_ | refine sn1 ?_ | refine sn0 ?_
      refine og (fun _ => ⟨by omega, by omega⟩) ?_
      repeat first | refine sk ?_ | refine st ?_ | refine sg ?_ | refine sh ?_ | refine su ?_ | refine sn1 ?_ | refine sn0 ?_
      refine og (fun _ => ⟨by omega, by omega⟩) ?_
      repeat first | refine sk ?_ | refine st ?_ | refine sg ?_ | refine sh ?_ | refine su ?_ | refine sn1 ?_ | refine sn0 ?_
      refine callG (CallP.conv (rReaches g q (levelAt g i) [] hg hq ht (by simp)) ?_) ?_
      · exact ⟨⟨LeD.refl _, LeD.refl _, LeD.refl _, LeD.refl _, LeD.refl _, LeD.refl _, trivial⟩, ⟨LeD.refl _, LeD.refl _, LeD.refl _, LeD.refl _, LeD.refl _, trivial⟩, LeD.refl _, LeD.nil, trivial⟩
      repeat first | refine sk ?_ | refine st ?_ | refine sg ?_ | refine sh ?_ | refine su ?_ | refine sn1 ?_ | refine sn0 ?_
      refine And.intro (by kernel_rfl) ?_
      refine And.intro (fun h2 => ?_) (fun h2 => ?_)
      · have h2 : ((knownG g i && (!(lsF g q i).2 || decide (levelAt g i < (lsF g q i).1))) && lsReach g q i) = true := h2
        have e : lsF g q (i + 1) = (levelAt g i, true) := by rw [lsF, lsS, h2]; rfl
        refine oi ⟨by omega, by omega⟩ ?_
        refine ⟨i + 1, by omega, by omega, ?_⟩
        rw [e]
        exact SubI.of0 href [] rfl ⟨⟨rfl, LeBx.rfl⟩, ⟨rfl, LeBx.rfl⟩, trivial⟩ ⟨⟨rfl, LeQ.rfl⟩, ⟨rfl, LeQ.rfl⟩, ⟨rfl, LeQ.rfl⟩, ⟨rfl, LeQ.litB⟩, ⟨rfl, LeQ.int (w64_of (by omega) (by omega))⟩, trivial⟩
      · have h2 : ((knownG g i && (!(lsF g q i).2 || decide (levelAt g i < (lsF g q i).1))) && lsReach g q i) = false := h2
        have e : lsF g q (i + 1) = lsF g q i := by rw [lsF, lsS, h2]; rfl
        refine ⟨i + 1, by omega, by omega, ?_⟩
        rw [e]
        exact SubI.of0 href [] rfl ⟨⟨rfl, LeBx.rfl⟩, ⟨rfl, LeBx.rfl⟩, trivial⟩ ⟨⟨rfl, LeQ.rfl⟩, ⟨rfl, LeQ.rfl⟩, ⟨rfl, LeQ.rfl⟩, ⟨rfl, LeQ.rfl⟩, ⟨rfl, LeQ.int (w64_of (by omega) (by omega))⟩, trivial⟩
    · have h : ¬ (i : Int) < g.levels.length := decF h
      obtain rfl : i = g.levels.length := by omega
      exact SubR.refl _
def prEnds (q : WayV) : Bool := (q.path.isEmpty || !q.fr.contains (q.path.getD 0 0)) || !q.to.contains (q.path.getD (q.path.length - 1) 0)
def prBad (g : Grid) (q : WayV) (k : Nat) : Bool := (!knownG g (q.path.getD k 0) || decide (levelAt g (q.path.getD k 0) > q.level)) || (decide ((k : Int) > 0) && !neigh g (q.path.getD (k - 1) 0) (q.path.getD k 0))
def prAny (g : Grid) (q : WayV) (k n : Nat) : Bool := (List.range' k n).any (prBad g q)
theorem prAny_succ (g : Grid) (q : WayV) (k n : Nat) : prAny g q k (n + 1) = (prBad g q k || prAny g q (k + 1) n) := by
  unfold prAny
  rw [List.range'_succ, List.any_cons]
noncomputable def provedB (g : Grid) (q : WayV) : Bool :=
  bif prEnds q then false else bif prAny g q 0 q.path.length then false else bif levelAt g (hiF g q.path) != q.level then false else bif q.bar.any (barBad g q.level) then false else !goB (uOk g 20000 q.bar) (nearL g) q.fr q.to
theorem known_there {g : Grid} {i : Int} (h : knownG g i = true) : 0 ≤ i ∧ i < g.levels.length := by
  unfold knownG at h
  rw [Bool.and_eq_true] at h
  exact there_iff.1 h.1
theorem rProved (g : Grid) (q : WayV) (hg : GVal g) (hq : q.sm) (ht : ∀ t ∈ q.to, there g t = true) : CallP Tryz.prog 14 [grid g, wayA q] (vB (provedB g q)) := by
  have hn := hg.n
  have hp := hq.path
  have hfr := hq.fr
  have hto := hq.to
  have hbr := hq.bar
  refine callP_of_ex (rc := []) (N := 127) Tryz.func14 rfl rfl Tryz.call14 tab_ok mix rfl rfl (fun cx href => ?_)
  repeat first | refine sk ?_ | refine st ?_ | refine sg ?_ | refine sh ?_ | refine su ?_ | refine sn1 ?_ | refine sn0 ?_
  refine og (fun h => ⟨Int.le_refl _, ?_⟩) ?_
  · have h : (!((q.path.length : Int) == 0)) = true := h
    rw [Bool.not_eq_true', beq_eq_false_iff_ne] at h
    show (0 : Int) < (q.path.length : Int)
    omega
  repeat first | refine sk ?_ | refine st ?_ | refine sg ?_ | refine sh ?_ | refine su ?_ | refine sn1 ?_ | refine sn0 ?_
  refine callG (rHas q.fr (q.path.getD 0 0) (by omega)) ?_
  repeat first | refine sk ?_ | refine st ?_ | refine sg ?_ | refine sh ?_ | refine su ?_ | refine sn1 ?_ | refine sn0 ?_
  refine og (fun h => ?_) ?_
  · have h : (!(((q.path.length : Int) == 0) || !q.fr.contains (q.path.getD 0 0))) = true := h
    rw [Bool.not_eq_true', Bool.or_eq_false_iff, beq_eq_false_iff_ne] at h
    have e : w64 ((q.path.length : Int) - 1) = (q.path.length : Int) - 1 := w64_of (by omega) (by omega)
    show 0 ≤ w64 ((q.path.length : Int) - 1) ∧ w64 ((q.path.length : Int) - 1) < (q.path.length : Int)
    omega
  repeat first | refine sk ?_ | refine st ?_ | refine sg ?_ | refine sh ?_ | refine su ?_ | refine sn1 ?_ | refine sn0 ?_
  refine callG (rHas q.to (q.path.getD (w64 ((q.path.length : Int) - 1)).toNat 0) (by omega)) ?_
  repeat first | refine sk ?_ | refine st ?_ | refine sg ?_ | refine sh ?_ | refine su ?_ | refine sn1 ?_ | refine sn0 ?_
  refine And.intro (by kernel_rfl) ?_
  have ei : (w64 ((q.path.length : Int) - 1)).toNat = q.path.length - 1 := by rw [w64_of (by omega) (by omega)]; omega
  unfold provedB
  refine And.intro (fun h => ?_) (fun h => ?_)
  · have h : ((((q.path.length : Int) == 0) || !q.fr.contains (q.path.getD 0 0)) || !q.to.contains (q.path.getD (w64 ((q.path.length : Int) - 1)).toNat 0)) = true := h
    rw [ei, len0] at h
    have h : prEnds q = true := h
    rw [h, cond_true]
    exact SubR.lit rfl
  have h : ((((q.path.length : Int) == 0) || !q.fr.contains (q.path.getD 0 0)) || !q.to.contains (q.path.getD (w64 ((q.path.length : Int) - 1)).toNat 0)) = false := h
  rw [ei, len0] at h
  have hE : prEnds q = false := h
  rw [hE, cond_false]
  have hpp : 0 < q.path.length := by
    simp only [Bool.or_eq_false_iff] at h
    cases hx : q.path with
    | nil => rw [hx] at h; cases h.1.1
    | cons => simp
  refine AW.loopI (fun k : Nat => ⟨[(2, .s (.ptr 2 0)), (3, .s (.ptr 3 0)), (5, vInts q.path), (6, vI k)], [(2, some (gridB g)), (3, some (wayB q))]⟩)
    (fun k => k ≤ q.path.length ∧ prAny g q 0 q.path.length = prAny g q k (q.path.length - k) ∧ ∀ j, j < k → knownG g (q.path.getD j 0) = true) (fun k => q.path.length - k) 0 ⟨Nat.zero_le _, rfl, fun j hj => absurd hj (Nat.not_lt_zero j)⟩ ?_ ?_
  · exact SubI.of0 href [] rfl ⟨⟨rfl, LeBx.rfl⟩, ⟨rfl, LeBx.rfl⟩, trivial⟩ ⟨⟨rfl, LeQ.rfl⟩, ⟨rfl, LeQ.rfl⟩, ⟨rfl, LeQ.rfl⟩, ⟨rfl, LeQ.rfl⟩, trivial⟩
  · rintro k ⟨hk, he, hkn⟩
    refine ex.sound (rc := []) tab_ok mix href _ ?_
    refine And.intro (fun h1 => ?_) (fun h1 => ?_)
    · have h1 : (k : Int) < q.path.length := decT h1
      rw [show q.path.length - k = (q.path.length - (k + 1)) + 1 by omega, prAny_succ] at he
      refine oi ⟨by omega, by omega⟩ ?_
      refine callN (rKnown g (q.path.getD k 0)) ?_
      rw [knownF_eq]
      have kn1 : ∀ {b : Bool}, b = (!(!knownG g (q.path.getD k 0))) → b = true → 0 ≤ q.path.getD k 0 ∧ q.path.getD k 0 < g.levels.length := by
        intro b e hb
        rw [e, Bool.not_not] at hb
        exact known_there hb
      repeat first | refine sk ?_ | refine st ?_ | refine sg ?_ | refine sh ?_ | refine su ?_ | refine sn1 ?_ | refine sn0 ?_
      refine og (fun _ => ⟨by omega, by omega⟩) ?_
      repeat first | refine sk ?_ | refine st ?_ | refine sg ?_ | refine sh ?_ | refine su ?_ | refine sn1 ?_ | refine sn0 ?_
      refine og (fun h => kn1 rfl h) ?_
      repeat first | refine sk ?_ | refine st ?_ | refine sg ?_ | refine sh ?_ | refine su ?_ | refine sn1 ?_ | refine sn0 ?_
      have ek : 0 < k → (w64 ((k : Int) - 1)).toNat = k - 1 := fun h => by rw [w64_of (by omega) (by omega)]; omega
      have hpos : ∀ {b : Bool}, (gpol false b && gpol true (decide ((k : Int) > 0))) = true → 0 < k ∧ b = false := fun {b} h => by
        rw [Bool.and_eq_true] at h
        have h1 : decide ((k : Int) > 0) = true := h.2
        have h1 := of_decide_eq_true h1
        have h2 : (!b) = true := h.1
        exact ⟨by omega, by simpa using h2⟩
      refine og (fun h => ?_) ?_
      · have := (hpos h).1
        show 0 ≤ w64 ((k : Int) - 1) ∧ w64 ((k : Int) - 1) < (q.path.length : Int)
        rw [w64_of (by omega) (by omega)]; omega
      repeat first | refine sk ?_ | refine st ?_ | refine sg ?_ | refine sh ?_ | refine su ?_ | refine sn1 ?_ | refine sn0 ?_
      refine og (fun h => ⟨by omega, by omega⟩) ?_
      repeat first | refine sk ?_ | refine st ?_ | refine sg ?_ | refine sh ?_ | refine su ?_ | refine sn1 ?_ | refine sn0 ?_
      refine callGo (r := vB (neigh g (q.path.getD (w64 ((k : Int) - 1)).toNat 0) (q.path.getD k 0))) (fun h => ?_) ?_
      · obtain ⟨k0, hb⟩ := hpos h
        rw [Bool.or_eq_false_iff] at hb
        have hkk : knownG g (q.path.getD k 0) = true := by simpa using hb.1
        rw [ek k0]
        exact Neighbours g _ _ hg (known_there (hkn (k - 1) (by omega))) (known_there hkk)
      repeat first | refine sk ?_ | refine st ?_ | refine sg ?_ | refine sh ?_ | refine su ?_ | refine sn1 ?_ | refine sn0 ?_
      refine And.intro (by kernel_rfl) ?_
      have hbad : prBad g q k = ((!knownG g (q.path.getD k 0) || decide (levelAt g (q.path.getD k 0) > q.level)) || (decide ((k : Int) > 0) && !neigh g (q.path.getD (w64 ((k : Int) - 1)).toNat 0) (q.path.getD k 0))) := by
        unfold prBad
        by_cases hk0 : 0 < k
        · rw [ek hk0]
        · rw [decide_eq_false (show ¬ (k : Int) > 0 by omega)]; simp
      refine And.intro (fun h2 => ?_) (fun h2 => ?_)
      · have h2 : prBad g q k = true := hbad.trans h2
        rw [he, h2, Bool.true_or, cond_true]
        exact SubR.lit rfl
      · have h2 : prBad g q k = false := hbad.trans h2
        rw [h2, Bool.false_or] at he
        have hkk : knownG g (q.path.getD k 0) = true := by
          unfold prBad at h2
          simp only [Bool.or_eq_false_iff] at h2
          simpa using h2.1.1
        refine ⟨k + 1, ⟨by omega, he, fun j hj => ?_⟩, by omega, ?_⟩
        · by_cases e : j = k
          · rw [e]; exact hkk
          · exact hkn j (by omega)
        · exact SubI.of0 href [] rfl ⟨⟨rfl, LeBx.rfl⟩, ⟨rfl, LeBx.rfl⟩, trivial⟩ ⟨⟨rfl, LeQ.rfl⟩, ⟨rfl, LeQ.rfl⟩, ⟨rfl, LeQ.rfl⟩, ⟨rfl, LeQ.int (w64_of (by omega) (by omega))⟩, trivial⟩
    · have h1 : ¬ (k : Int) < q.path.length := decF h1
      obtain rfl : k = q.path.length := by omega
      rw [Nat.sub_self] at he
      have he : prAny g q 0 q.path.length = false := he
      rw [he, cond_false]
      have hh := hiF_spec hkn q.path.length (Nat.le_refl _)
      rw [List.take_length] at hh
      rcases hh with ⟨e0, _⟩ | ⟨h0, ⟨j, hj, hje⟩, hmax⟩
      · omega
      have hkh := known_there (hkn j hj)
      rw [← hje] at hkh
      refine callN (rHighest g q.path (by omega) (fun i hi => known_there (hkn i hi))) ?_
      refine oi hkh ?_
      refine And.intro (by kernel_rfl) ?_
      refine And.intro (fun h2 => ?_) (fun h2 => ?_)
      · have h2 : (levelAt g (hiF g q.path) != q.level) = true := h2
        rw [h2, cond_true]
        exact SubR.lit rfl
      have h2 : (levelAt g (hiF g q.path) != q.level) = false := h2
      rw [h2, cond_false]
      refine AW.loopI (fun i : Nat => ⟨[(2, .s (.ptr 2 0)), (3, .s (.ptr 3 0)), (7, vInts q.bar), (8, vI i)], [(2, some (gridB g)), (3, some (wayB q))]⟩)
        (fun i => i ≤ q.bar.length ∧ q.bar.any (barBad g q.level) = (q.bar.drop i).any (barBad g q.level)) (fun i => q.bar.length - i) 0 ⟨Nat.zero_le _, rfl⟩ ?_ ?_
      · exact SubI.of0 href [] rfl ⟨⟨rfl, LeBx.rfl⟩, ⟨rfl, LeBx.rfl⟩, trivial⟩ ⟨⟨rfl, LeQ.rfl⟩, ⟨rfl, LeQ.rfl⟩, ⟨rfl, LeQ.rfl⟩, ⟨rfl, LeQ.rfl⟩, trivial⟩
      · rintro i ⟨hi, hj⟩
        refine ex.sound (rc := []) tab_ok mix href _ ?_
        refine And.intro (fun h2 => ?_) (fun h2 => ?_)
        · have h2 : (i : Int) < q.bar.length := decT h2
          have hi' : i < q.bar.length := by omega
          have hx : q.bar[i] = q.bar.getD i 0 := by simp [hi']
          rw [List.drop_eq_getElem_cons hi', List.any_cons, hx] at hj
          refine oi ⟨by omega, by omega⟩ ?_
          refine callN (rKnown g (q.bar.getD i 0)) ?_
          rw [knownF_eq]
          repeat first | refine sk ?_ | refine st ?_ | refine sg ?_ | refine sh ?_ | refine su ?_ | refine sn1 ?_ | refine sn0 ?_
          refine og (fun _ => ⟨by omega, by omega⟩) ?_
          repeat first | refine sk ?_ | refine st ?_ | refine sg ?_ | refine sh ?_ | refine su ?_ | refine sn1 ?_ | refine sn0 ?_
          refine og (fun h => ?_) ?_
          · have h : (!(!knownG g (q.bar.getD i 0))) = true := h
            rw [Bool.not_not] at h
            exact known_there h
          repeat first | refine sk ?_ | refine st ?_ | refine sg ?_ | refine sh ?_ | refine su ?_ | refine sn1 ?_ | refine sn0 ?_
          refine And.intro (by kernel_rfl) ?_
          refine And.intro (fun h3 => ?_) (fun h3 => ?_)
          · have h3 : barBad g q.level (q.bar.getD i 0) = true := h3
            rw [hj, h3, Bool.true_or, cond_true]
            exact SubR.lit rfl
          · have h3 : barBad g q.level (q.bar.getD i 0) = false := h3
            rw [h3, Bool.false_or] at hj
            refine ⟨i + 1, ⟨by omega, hj⟩, by omega, ?_⟩
            exact SubI.of0 href [] rfl ⟨⟨rfl, LeBx.rfl⟩, ⟨rfl, LeBx.rfl⟩, trivial⟩ ⟨⟨rfl, LeQ.rfl⟩, ⟨rfl, LeQ.rfl⟩, ⟨rfl, LeQ.rfl⟩, ⟨rfl, LeQ.int (w64_of (by omega) (by omega))⟩, trivial⟩
        · have h2 : ¬ (i : Int) < q.bar.length := decF h2
          obtain rfl : i = q.bar.length := by omega
          rw [hj, List.drop_length, List.any_nil, cond_false]
          refine callN (rReaches g q 20000 q.bar hg hq ht hbr) ?_
          exact SubR.refl _
end Go.Ch

namespace Go.Ch
open Go Go.Ax Go.Proofs Go.Proofs.Tryz
set_option maxRecDepth 100000
set_option pp.maxSteps 400
set_option maxHeartbeats 1000000

theorem backL_len (b : List (Int × Int)) : ∀ (m : Nat) (i : Int) (out : List Int), (backL b m i out).length ≤ out.length + m
  | 0, _, _ => Nat.le_refl _
  | m + 1, i, out => by
    rw [backL]
    cases getM b i == i with
    | true => rw [cond_true]; omega
    | false =>
      rw [cond_false]
      have := backL_len b m (getM b i) (out ++ [getM b i])
      rw [List.length_append, List.length_singleton] at this
      omega
theorem wayM_len {g : Grid} (m : Int) (fr to : List Int) : (wayM g m fr to).length ≤ g.levels.length + 1 := by
  have h := (wayS_spec (n := g.levels.length) (ok := okMost g m) (nr := nearL g) (fr := fr) (to := to) (fun i h => there_iff.1 (okMost_known h))).1.cnt
  unfold wayM wayL
  split
  · simp
  · rw [List.length_reverse]
    have := backL_len (wayS g.levels.length (okMost g m) (nearL g) fr to).1 (wayS g.levels.length (okMost g m) (nearL g) fr to).1.length ‹_› [‹_›]
    simp only [List.length_singleton] at this
    omega
theorem barL_mem {g : Grid} {m : Int} {i : Int} {n : Nat} (hn : n ≤ g.levels.length) : i ∈ barL g m n ↔ 0 ≤ i ∧ i < n ∧ knownG g i = true ∧ levelAt g i ≥ m := by
  unfold barL
  simp only [List.mem_filterMap, List.mem_range]
  constructor
  · rintro ⟨j, hj, h⟩
    cases hb : barC g m j with
    | false => rw [hb] at h; cases h
    | true =>
      rw [hb] at h; cases h
      unfold barC at hb
      rw [Bool.and_eq_true, decide_eq_true_eq] at hb
      refine ⟨by omega, by omega, ?_, hb.2⟩
      unfold knownG
      rw [there_iff.2 ⟨by omega, by omega⟩, Bool.true_and]
      exact hb.1
  · rintro ⟨h0, h1, h2, h3⟩
    refine ⟨i.toNat, by omega, ?_⟩
    have hb : barC g m i.toNat = true := by
      unfold barC
      unfold knownG at h2
      rw [Bool.and_eq_true] at h2
      rw [Bool.and_eq_true, decide_eq_true_eq]
      exact ⟨h2.2, h3⟩
    rw [hb, show ((i.toNat : Nat) : Int) = i by omega]; rfl
theorem prAny_iff {g : Grid} {q : WayV} : prAny g q 0 q.path.length = false ↔ ∀ j, j < q.path.length → prBad g q j = false := by
  unfold prAny
  rw [List.any_eq_false]
  constructor
  · intro h j hj
    have := h j (by rw [List.mem_range']; exact ⟨j, hj, by omega⟩)
    simpa using this
  · intro h j hj
    rw [List.mem_range'] at hj
    obtain ⟨k, hk, e⟩ := hj
    rw [h j (by omega)]; simp
theorem levelAt_ge {g : Grid} (hg : GVal g) {i : Int} (hk : knownG g i = true) : -20000 ≤ levelAt g i := by
  have ht := known_there hk
  have hm : levelAt g i ∈ g.levels := by
    unfold levelAt
    rw [List.getD_eq_getElem?_getD, List.getElem?_eq_getElem (show i.toNat < g.levels.length by omega)]
    exact List.getElem_mem _
  have := hg.lev _ hm
  omega
/-- What it means that a route is proved. -/
structure Pr (g : Grid) (q : WayV) : Prop where
  ends : prEnds q = false
  cells : ∀ j, j < q.path.length → knownG g (q.path.getD j 0) = true ∧ levelAt g (q.path.getD j 0) ≤ q.level ∧ (0 < j → neigh g (q.path.getD (j - 1) 0) (q.path.getD j 0) = true)
  top : ∃ j, j < q.path.length ∧ levelAt g (q.path.getD j 0) = q.level
  bar : ∀ i ∈ q.bar, knownG g i = true ∧ q.level ≤ levelAt g i
  shut : ¬ canGo (okFree g q.bar) (nearL g) q.fr q.to
theorem prEnds_iff {q : WayV} : prEnds q = false ↔ 0 < q.path.length ∧ q.path.getD 0 0 ∈ q.fr ∧ q.path.getD (q.path.length - 1) 0 ∈ q.to := by
  unfold prEnds
  simp only [Bool.or_eq_false_iff, Bool.not_eq_false', List.contains_iff_mem, and_assoc]
  refine and_congr ?_ Iff.rfl
  cases q.path with
  | nil => simp
  | cons => simp
theorem bar_iff {g : Grid} {h : Int} {l : List Int} : l.any (barBad g h) = false ↔ ∀ i ∈ l, knownG g i = true ∧ h ≤ levelAt g i := by
  rw [List.any_eq_false]
  refine forall_congr' fun i => forall_congr' fun _ => ?_
  unfold barBad
  simp
theorem prBad_iff {g : Grid} {q : WayV} {j : Nat} : prBad g q j = false ↔ knownG g (q.path.getD j 0) = true ∧ levelAt g (q.path.getD j 0) ≤ q.level ∧ (0 < j → neigh g (q.path.getD (j - 1) 0) (q.path.getD j 0) = true) := by
  unfold prBad
  simp only [Bool.or_eq_false_iff, Bool.not_eq_false', decide_eq_false_iff_not, Bool.and_eq_false_iff, and_assoc]
  refine and_congr Iff.rfl (and_congr (by omega) ?_)
  constructor
  · rintro (h | h) hj
    · omega
    · exact h
  · intro h
    by_cases hj : 0 < j
    · exact .inr (h hj)
    · exact .inl (by omega)
theorem provedB_iff {g : Grid} (hg : GVal g) {q : WayV} : provedB g q = true ↔ Pr g q := by
  unfold provedB
  constructor
  · intro h
    cases h1 : prEnds q with
    | true => rw [h1] at h; cases h
    | false =>
      rw [h1, cond_false] at h
      cases h2 : prAny g q 0 q.path.length with
      | true => rw [h2] at h; cases h
      | false =>
        rw [h2, cond_false] at h
        cases h3 : levelAt g (hiF g q.path) != q.level with
        | true => rw [h3] at h; cases h
        | false =>
          rw [h3, cond_false] at h
          cases h4 : q.bar.any (barBad g q.level) with
          | true => rw [h4] at h; cases h
          | false =>
            rw [h4, cond_false, uOk_free hg] at h
            have hc := fun j hj => prBad_iff.1 (prAny_iff.1 h2 j hj)
            have hp := prEnds_iff.1 h1
            have hh := hiF_spec (g := g) (l := q.path) (fun j hj => (hc j hj).1) q.path.length (Nat.le_refl _)
            rw [List.take_length] at hh
            rcases hh with ⟨e, _⟩ | ⟨_, ⟨j, hj, hje⟩, _⟩
            · omega
            · have h3 : levelAt g (hiF g q.path) = q.level := by simpa using h3
              refine ⟨h1, hc, ⟨j, hj, by rw [← hje]; exact h3⟩, bar_iff.1 h4, fun hgo => ?_⟩
              rw [goB_iff.2 hgo] at h; cases h
  · rintro ⟨h1, hc, ⟨j0, hj0, hj0e⟩, hb, hs⟩
    have h2 : prAny g q 0 q.path.length = false := prAny_iff.2 fun j hj => prBad_iff.2 (hc j hj)
    have hh := hiF_spec (g := g) (l := q.path) (fun j hj => (hc j hj).1) q.path.length (Nat.le_refl _)
    rw [List.take_length] at hh
    have h3 : levelAt g (hiF g q.path) = q.level := by
      rcases hh with ⟨e, _⟩ | ⟨_, ⟨j, hj, hje⟩, hm⟩
      · omega
      · have h1 := hm j0 hj0
        have h2 := (hc j hj).2.1
        rw [← hje] at h2
        omega
    have h4 : goB (uOk g 20000 q.bar) (nearL g) q.fr q.to = false := by
      rw [uOk_free hg]
      cases hx : goB (okFree g q.bar) (nearL g) q.fr q.to with
      | false => rfl
      | true => exact absurd (goB_iff.1 hx) hs
    rw [h1, h2, h3, bar_iff.2 hb, h4]
    simp
theorem nearc {g : Grid} (hg : GVal g) {a b : Int} (ha : knownG g a = true) (hb : knownG g b = true) : (nearL g a).contains b = neigh g a b := by
  have h1 := there_iff.2 (known_there ha)
  have h2 := there_iff.2 (known_there hb)
  rw [Bool.eq_iff_iff, List.contains_iff_mem, near_mem hg h1, neigh_symm]
  exact ⟨fun h => h.2, fun h => ⟨h2, h⟩⟩
theorem wayBad_iff {g : Grid} (hg : GVal g) {l : List Int} : (∀ j, j < l.length → wayBad g l j = false) ↔ ∀ j, j < l.length → knownG g (l.getD j 0) = true ∧ (0 < j → neigh g (l.getD (j - 1) 0) (l.getD j 0) = true) := by
  unfold wayBad
  simp only [Bool.or_eq_false_iff, Bool.not_eq_false', Bool.and_eq_false_iff, decide_eq_false_iff_not]
  constructor
  · intro h j hj
    refine ⟨(h j hj).1, fun h0 => ?_⟩
    rw [← nearc hg (h (j - 1) (by omega)).1 (h j hj).1]
    rcases (h j hj).2 with h2 | h2
    · omega
    · exact h2
  · intro h j hj
    refine ⟨(h j hj).1, ?_⟩
    by_cases h0 : 0 < j
    · right
      rw [nearc hg (h (j - 1) (by omega)).1 (h j hj).1]
      exact (h j hj).2 h0
    · left; omega
/-- CheckClear accepts just what is proved. -/
theorem check_iff {g : Grid} (hg : GVal g) {q : WayV} (h0 : endsG g q.fr q.to = 0) : (checkG g q = 0 ∧ Pr g q) ∨ (checkG g q = 21 ∧ ¬ Pr g q) := by
  have hwf : wayF g q = [] ↔ ¬ canGo (okFree g q.bar) (nearL g) q.fr q.to := by
    have := wayL_go (n := g.levels.length) (ok := okFree g q.bar) (nr := nearL g) (fr := q.fr) (to := q.to) (fun i h => there_iff.1 (okFree_known h)) (near_not g hg)
    unfold wayF
    rw [← this]
    simp
  unfold checkG isWayG
  rw [h0]
  have e0 : ((0 : Int) != 0) = false := rfl
  rw [e0, cond_false]
  have hE : (bif (q.path.isEmpty || !q.fr.contains (q.path.getD 0 0)) || !q.to.contains (q.path.getD (q.path.length - 1) 0) then ((0 : Int), false) else wayRest g q.path q.path.length 0 (-20000)) = bif prEnds q then (0, false) else wayRest g q.path q.path.length 0 (-20000) := rfl
  rw [hE]
  cases h1 : prEnds q with
  | true =>
    right
    refine ⟨rfl, fun h => ?_⟩
    rw [h.ends] at h1; cases h1
  | false =>
    rw [cond_false]
    have hp := prEnds_iff.1 h1
    rcases wayRest_spec g q.path q.path.length 0 (-20000) (by omega) with ⟨⟨j, _, hj, hb⟩, e⟩ | ⟨hb, h2, h3, h4, h5⟩
    · right
      rw [e]
      refine ⟨rfl, fun h => ?_⟩
      have := (wayBad_iff hg).2 (fun j hj => ⟨(h.cells j hj).1, (h.cells j hj).2.2⟩) j hj
      rw [this] at hb; cases hb
    · have hc := (wayBad_iff hg).1 (fun j hj => hb j (Nat.zero_le _) hj)
      generalize wayRest g q.path q.path.length 0 (-20000) = r at *
      obtain ⟨hi, f⟩ := r
      simp only at h2 h3 h4 h5 ⊢
      subst h2
      have hatt : ∃ j, j < q.path.length ∧ levelAt g (q.path.getD j 0) = hi := by
        rcases h5 with h5 | ⟨j, _, hj, e⟩
        · refine ⟨0, hp.1, ?_⟩
          have h6 := h4 0 (Nat.le_refl _) hp.1
          have h7 := levelAt_ge hg (hc 0 hp.1).1
          omega
        · exact ⟨j, hj, e⟩
      cases h6 : hi != q.level with
      | true =>
        right
        refine ⟨rfl, fun h => ?_⟩
        have h6 : hi ≠ q.level := by simpa using h6
        obtain ⟨j, hj, e⟩ := hatt
        obtain ⟨k, hk, e2⟩ := h.top
        have a1 := (h.cells j hj).2.1
        have a2 := h4 k (Nat.zero_le _) hk
        omega
      | false =>
        have h6 : hi = q.level := by simpa using h6
        subst h6
        rw [show (!true || false) = false from rfl, cond_false]
        cases h7 : q.bar.any (barBad g q.level) with
        | true =>
          right
          refine ⟨rfl, fun h => ?_⟩
          rw [bar_iff.2 h.bar] at h7; cases h7
        | false =>
          rw [cond_false]
          have hbb := bar_iff.1 h7
          cases h8 : (wayF g q).isEmpty with
          | false =>
            right
            refine ⟨rfl, fun h => ?_⟩
            rw [hwf.2 h.shut] at h8; cases h8
          | true =>
            left
            exact ⟨rfl, h1, fun j hj => ⟨(hc j hj).1, h4 j (Nat.zero_le _) hj, (hc j hj).2⟩, hatt, hbb, hwf.1 (List.isEmpty_iff.1 h8)⟩
/-- What is proved has the level of Clear. -/
theorem Pr.level {g : Grid} (hg : GVal g) {q : WayV} (h : Pr g q) (h0 : endsG g q.fr q.to = 0) : (clearG g q.fr q.to).1 = q.level ∧ (clearG g q.fr q.to).2.2.2 = 0 := by
  obtain ⟨h1, hc, ⟨j0, hj0, hj0e⟩, hb, hs⟩ := h
  have hp := prEnds_iff.1 h1
  have hgo : canGo (okMost g q.level) (nearL g) q.fr q.to := by
    refine path_go (p := q.path) (fun e => by rw [e] at hp; simp at hp) hp.2.1 hp.2.2 (fun k hk => ?_) (fun k hk => ?_)
    · unfold okMost
      rw [(hc k hk).1, decide_eq_true (hc k hk).2.1]; rfl
    · have h1 := hc k (by omega)
      have h2 := hc (k + 1) hk
      rw [near_mem hg (there_iff.2 (known_there h1.1))]
      refine ⟨there_iff.2 (known_there h2.1), ?_⟩
      rw [neigh_symm]
      exact h2.2.2 (by omega)
  have hin : q.level ∈ levelsL g.levels := by rw [← hj0e]; exact level_in (hc j0 hj0).1
  unfold clearG
  rw [h0]
  have e0 : ((0 : Int) != 0) = false := rfl
  rw [e0, cond_false]
  rcases clearL_spec g q.fr q.to (levelsL g.levels) with ⟨pre, m, suf, e1, e2, e3, e4⟩ | ⟨e1, _⟩
  · rw [e4]
    refine ⟨?_, rfl⟩
    show m = q.level
    have hle := first_level hg e1 e2 hin hgo
    rcases Int.lt_or_eq_of_le hle with hlt | e
    · exfalso
      refine hs (((wayM_go hg m _ _).1 e3).mono fun i hi => ?_)
      unfold okMost at hi
      simp only [Bool.and_eq_true, decide_eq_true_eq] at hi
      unfold okFree
      rw [hi.1, Bool.true_and, Bool.not_eq_true']
      rw [← Bool.not_eq_true, List.contains_iff_mem]
      intro hmem
      have := (hb i hmem).2
      omega
    · exact e
  · exact absurd (e1 _ hin) ((wayM_go hg _ _ _).2 hgo)
end Go.Ch
