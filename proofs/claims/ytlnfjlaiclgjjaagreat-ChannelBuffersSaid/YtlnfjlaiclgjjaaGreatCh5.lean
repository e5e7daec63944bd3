/- Part Ch5: lemmas that the proofs of this seat share; by itself it claims nothing. -/
import Derived.Test.YtlnfjlaiclgjjaaGreatCh4
namespace Go.Ch
open Go Go.Ax Go.Proofs Go.Proofs.Tryz
set_option maxRecDepth 100000
set_option pp.maxSteps 400
set_option maxHeartbeats 1000000

theorem regErrF_zero {l : List Reg} : ∀ {n i : Nat}, regErrF l n i = 0 → ∀ k, i ≤ k → k < i + n → regErr (l.getD k default) (l.take k) = 0
  | 0, i, _, k, h1, h2 => by omega
  | n + 1, i, h, k, h1, h2 => by
    rw [regErrF] at h
    cases hx : regErr (l.getD i default) (l.take i) != 0 with
    | true => rw [hx] at h; simp at hx; exact absurd h hx
    | false =>
      rw [hx] at h
      by_cases hk : k = i
      · rw [hk]; simpa using hx
      · exact regErrF_zero (n := n) (i := i + 1) h k (by omega) (by omega)
theorem bif_zero {b : Bool} {x y : Int} (hx : x ≠ 0) (h : (bif b then x else y) = 0) : b = false ∧ y = 0 := by
  cases b with
  | true => exact absurd h hx
  | false => exact ⟨rfl, h⟩
theorem regErr_zero {r : Reg} {b : List Reg} (h : regErr r b = 0) : within r.kind 0 3 = true ∧ errPoly r.corners = 0 := by
  unfold regErr at h
  have h1 := (bif_zero (by decide) h).2
  have h2 := (bif_zero (by decide) h1).2
  have h3 := bif_zero (by decide) h2
  exact ⟨by simpa using h3.1, h3.2⟩
structure Regs (c : Chan) : Prop where
  n : c.regions.length ≤ 20
  poly : ∀ i, i < c.regions.length → errPoly (c.regions.getD i default).corners = 0
theorem Regs.of {c : Chan} (h : errC c = 0) : Regs c := by
  unfold errC at h
  have h1 := (bif_zero (by decide) h).2
  have h2 := (bif_zero (by decide) h1).2
  have h3 : decide ((c.regions.length : Int) > 20) = false ∧ regErrF c.regions c.regions.length 0 = 0 := by
    cases hx : axErr c != 0 with
    | true => rw [hx] at h2; simp at hx; exact absurd h2 hx
    | false => rw [hx] at h2; exact bif_zero (by decide) h2
  have := decF h3.1
  exact ⟨by omega, fun i hi => (regErr_zero (regErrF_zero h3.2 i (Nat.zero_le _) (by omega))).2⟩

structure Qty where
  region : ByteArray
  cells : Int
  design : Int
  tol : Int
  unk : Int
  deriving Inhabited
def qD (q : Qty) : Nat → DV
  | 0 => dS q.region
  | 1 => dI q.cells
  | 2 => dI q.design
  | 3 => dI q.tol
  | 4 => dI q.unk
  | _ => .junk
def qEl (l : List Qty) : Nat → Nat → DV := fun i => qD (l.getD i default)
def dQs (l : List Qty) : DV := .slc l.length 5 (qEl l)
abbrev qB (q : Qty) : Box := .cells [.d (dS q.region), .d (dI q.cells), .d (dI q.design), .d (dI q.tol), .d (dI q.unk)]
abbrev regB (r : Reg) : Box := .cells [.d (dS r.name), .d (dI r.kind), .d (dPts r.corners)]
/-- What a cell adds to a section. -/
def qStep (c : Chan) (g : Grid) (r : Reg) (area : Int) (q : Qty) (i : Nat) (level : Int) : Qty :=
  bif decide (insV r.corners (centreG g i) < 0) then q
  else bif g.levels.getD i 0 == 30000 then { q with unk := w64 (q.unk + 1) }
  else { q with cells := w64 (q.cells + 1), design := w64 (q.design + w64 (area * mm true 0 (w64 (g.levels.getD i 0 - level)))), tol := w64 (q.tol + w64 (area * mm true 0 (w64 (w64 (g.levels.getD i 0 - level) + c.over)))) }
abbrev quB (c : Chan) (g : Grid) (r : Reg) (area : Int) (q : Qty) : BoxL := [(1001, regB r), (1002, gridB g), (1003, qB q), (1004, .cells [.d (dI area)]), (1005, chanB c)]
attribute [local irreducible] insV in
theorem quant1 (c : Chan) (g : Grid) (r : Reg) (area : Int) (q : Qty) (i : Nat) (level : Int) (eg : errG g = 0) (hi : i < g.levels.length) (ep : errPoly r.corners = 0) :
    CallR Tryz.prog 85 [vI i, vI level, .s (.ptr 1001 0), .s (.ptr 1002 0), .s (.ptr 1003 0), .s (.ptr 1004 0), .s (.ptr 1005 0)] (quB c g r area q) (.t []) (quB c g r area (qStep c g r area q i level)) := by
  have gv := GVal.of eg
  have hn := gv.n
  refine callR_of_ex (rc := []) (N := 67) Tryz.func85 rfl rfl Tryz.call85 tab_ok mix rfl rfl rfl rfl (fun cx href => ?_)
  refine callN (ccentre g i eg (by omega) (by omega) (by omega)) ?_
  refine callN (gInside r.corners (centreG g i) ep (centre_good gv hi).1) ?_
  refine And.intro (by kernel_rfl) ?_
  refine And.intro (fun h1 => ?_) (fun h1 => ?_)
  · have h1 : decide (insV r.corners (centreG g i) < 0) = true := h1
    have e : qStep c g r area q i level = q := by unfold qStep; rw [h1]; rfl
    rw [e]
    exact ⟨SubR.refl _, rfl, rfl, rfl, rfl, rfl, trivial⟩
  have h1 : decide (insV r.corners (centreG g i) < 0) = false := h1
  refine oi ⟨by omega, by omega⟩ ?_
  refine And.intro (fun h2 => ?_) (fun h2 => ?_)
  · have h2 : (g.levels.getD i 0 == 30000) = true := h2
    have e : qStep c g r area q i level = { q with unk := w64 (q.unk + 1) } := by unfold qStep; rw [h1, h2]; rfl
    rw [e]
    exact ⟨SubR.refl _, rfl, rfl, rfl, rfl, rfl, trivial⟩
  have h2 : (g.levels.getD i 0 == 30000) = false := h2
  have e : qStep c g r area q i level = { q with cells := w64 (q.cells + 1), design := w64 (q.design + w64 (area * mm true 0 (w64 (g.levels.getD i 0 - level)))), tol := w64 (q.tol + w64 (area * mm true 0 (w64 (w64 (g.levels.getD i 0 - level) + c.over)))) } := by unfold qStep; rw [h1, h2]; rfl
  rw [e]
  refine oi ⟨by omega, by omega⟩ ?_
  refine And.intro (by kernel_rfl) ?_
  refine oi ⟨by omega, by omega⟩ ?_
  refine And.intro (by kernel_rfl) ?_
  exact ⟨SubR.refl _, rfl, rfl, rfl, rfl, rfl, trivial⟩
def qtyL (c : Chan) (g : Grid) (r : Reg) (area : Int) (q : Qty) : Nat → Qty
  | 0 => q
  | i + 1 => bif (desF c (centreG g i)).2 then qStep c g r area (qtyL c g r area q i) i (desF c (centreG g i)).1 else qtyL c g r area q i
abbrev cloQ : SV := .clo 85 [.ptr 1001 0, .ptr 1002 0, .ptr 1003 0, .ptr 1004 0, .ptr 1005 0]
theorem designedQty (c : Chan) (g : Grid) (r : Reg) (area : Int) (q : Qty) (hv : Val c) (eg : errG g = 0) (ep : errPoly r.corners = 0) :
    CallR Tryz.prog 58 [chan c, grid g, .s cloQ] (quB c g r area q) (.t []) (quB c g r area (qtyL c g r area q g.levels.length)) := by
  have gv := GVal.of eg
  have hn := gv.n
  refine callR_of_ex (rc := [85]) (N := 29) Tryz.func58 rfl rfl Tryz.call58 tab_ok mix rfl rfl rfl rfl (fun cx href => ?_)
  refine AW.loopI (fun i : Nat => ⟨[(2, .s cloQ), (3, .s (.ptr 3 0)), (4, .s (.ptr 4 0)), (11, vI g.levels.length), (12, vI i)],
      [(3, some (chanB c)), (4, some (gridB g)), (1001, some (regB r)), (1002, some (gridB g)), (1003, some (qB (qtyL c g r area q i))), (1004, some (.cells [.d (dI area)])), (1005, some (chanB c))]⟩)
    (fun i => i ≤ g.levels.length) (fun i => g.levels.length - i) 0 (Nat.zero_le _) ?_ ?_
  · exact SubI.of [] (by rw [href]; rfl) rfl ⟨⟨rfl, LeBx.rfl⟩, ⟨rfl, LeBx.rfl⟩, ⟨rfl, LeBx.rfl⟩, ⟨rfl, LeBx.rfl⟩, ⟨rfl, LeBx.rfl⟩, ⟨rfl, LeBx.rfl⟩, ⟨rfl, LeBx.rfl⟩, trivial⟩ ⟨⟨rfl, LeQ.rfl⟩, ⟨rfl, LeQ.rfl⟩, ⟨rfl, LeQ.rfl⟩, ⟨rfl, LeQ.rfl⟩, ⟨rfl, LeQ.rfl⟩, trivial⟩
  · intro i hi
    refine ex.sound (rc := [85]) tab_ok mix href _ ?_
    refine And.intro (fun h1 => ?_) (fun h1 => ?_)
    · have h1 : (i : Int) < g.levels.length := decT h1
      have hi' : i < g.levels.length := by omega
      have hg := (centre_good gv hi').1
      refine callN (ccentre g i eg (by omega) (by omega) (by omega)) ?_
      refine callN (design c (centreG g i) hv hg) ?_
      refine And.intro (by kernel_rfl) ?_
      refine And.intro (fun h2 => ?_) (fun h2 => ?_)
      · have h2 : (desF c (centreG g i)).2 = true := h2
        have e : qtyL c g r area q (i + 1) = qStep c g r area (qtyL c g r area q i) i (desF c (centreG g i)).1 := by rw [qtyL, h2]; rfl
        refine ⟨[], _, _, _, _, quant1 c g r area (qtyL c g r area q i) i (desF c (centreG g i)).1 eg hi' ep, rfl, ⟨rfl, rfl, rfl, rfl, rfl, trivial⟩, rfl, ?_⟩
        refine ⟨i + 1, by omega, by omega, ?_⟩
        exact SubI.of [] (by rw [href]; rfl) rfl ⟨⟨rfl, LeBx.rfl⟩, ⟨rfl, LeBx.rfl⟩, ⟨rfl, LeBx.rfl⟩, ⟨rfl, LeBx.rfl⟩, ⟨rfl, LeBx.of_eq (by rw [e])⟩, ⟨rfl, LeBx.rfl⟩, ⟨rfl, LeBx.rfl⟩, trivial⟩ ⟨⟨rfl, LeQ.rfl⟩, ⟨rfl, LeQ.rfl⟩, ⟨rfl, LeQ.rfl⟩, ⟨rfl, LeQ.rfl⟩, ⟨rfl, LeQ.int (w64_of (by omega) (by omega))⟩, trivial⟩
      · have h2 : (desF c (centreG g i)).2 = false := h2
        have e : qtyL c g r area q (i + 1) = qtyL c g r area q i := by rw [qtyL, h2]; rfl
        refine ⟨i + 1, by omega, by omega, ?_⟩
        exact SubI.of [] (by rw [href]; rfl) rfl ⟨⟨rfl, LeBx.rfl⟩, ⟨rfl, LeBx.rfl⟩, ⟨rfl, LeBx.rfl⟩, ⟨rfl, LeBx.rfl⟩, ⟨rfl, LeBx.of_eq (by rw [e]; rfl)⟩, ⟨rfl, LeBx.rfl⟩, ⟨rfl, LeBx.rfl⟩, trivial⟩ ⟨⟨rfl, LeQ.rfl⟩, ⟨rfl, LeQ.rfl⟩, ⟨rfl, LeQ.rfl⟩, ⟨rfl, LeQ.rfl⟩, ⟨rfl, LeQ.int (w64_of (by omega) (by omega))⟩, trivial⟩
    · have h1 : ¬ (i : Int) < g.levels.length := decF h1
      obtain rfl : i = g.levels.length := by omega
      exact ⟨SubR.refl _, rfl, rfl, rfl, rfl, rfl, trivial⟩
end Go.Ch
