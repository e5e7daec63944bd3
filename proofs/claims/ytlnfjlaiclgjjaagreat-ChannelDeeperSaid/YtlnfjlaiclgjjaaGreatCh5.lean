/- Part Ch5: lemmas that the proofs of this seat share; by itself it claims nothing. -/
import Derived.Test.YtlnfjlaiclgjjaaGreatCh4
namespace Go.Ch
open Go Go.Ax Go.Proofs Go.Proofs.Tryz
set_option maxRecDepth 100000
set_option pp.maxSteps 400
set_option maxHeartbeats 1000000

theorem regErrF_zero {l : List Reg} : ∀ {n i : Nat}, regErrF l n i = 0 → ∀ k, i ≤ k → k < i + n → regErr (l.getD k default) (l.take k) = 0
  | 0, i, _, k, h1, h2 => by omega
  | n + 1, i, h, k, h1, h2 => by
    rw [regErrF] at h
    cases hx : regErr (l.getD i default) (l.take i) != 0 with
    | true => rw [hx] at h; simp at hx; exact absurd h hx
    | false =>
      rw [hx] at h
      by_cases hk : k = i
      · rw [hk]; simpa using hx
      · exact regErrF_zero (n := n) (i := i + 1) h k (by omega) (by omega)
theorem bif_zero {b : Bool} {x y : Int} (hx : x ≠ 0) (h : (bif b then x else y) = 0) : b = false ∧ y = 0 := by
  cases b with
  | true => exact absurd h hx
  | false => exact ⟨rfl, h⟩
theorem regErr_zero {r : Reg} {b : List Reg} (h : regErr r b = 0) : within r.kind 0 3 = true ∧ errPoly r.corners = 0 := by
  unfold regErr at h
  have h1 := (bif_zero (by decide) h).2
  have h2 := (bif_zero (by decide) h1).2
  have h3 := bif_zero (by decide) h2
  exact ⟨by simpa using h3.1, h3.2⟩
structure Regs (c : Chan) : Prop where
  n : c.regions.length ≤ 20
  poly : ∀ i, i < c.regions.length → errPoly (c.regions.getD i default).corners = 0
theorem Regs.of {c : Chan} (h : errC c = 0) : Regs c := by
  unfold errC at h
  have h1 := (bif_zero (by decide) h).2
  have h2 := (bif_zero (by decide) h1).2
  have h3 : decide ((c.regions.length : Int) > 20) = false ∧ regErrF c.regions c.regions.length 0 = 0 := by
    cases hx : axErr c != 0 with
    | true => rw [hx] at h2; simp at hx; exact absurd h2 hx
    | false => rw [hx] at h2; exact bif_zero (by decide) h2
  have := decF h3.1
  exact ⟨by omega, fun i hi => (regErr_zero (regErrF_zero h3.2 i (Nat.zero_le _) (by omega))).2⟩

structure Qty where
  region : ByteArray
  cells : Int
  design : Int
  tol : Int
  unk : Int
  deriving Inhabited
def qD (q : Qty) : Nat → DV
  | 0 => dS q.region
  | 1 => dI q.cells
  | 2 => dI q.design
  | 3 => dI q.tol
  | 4 => dI q.unk
  | _ => .junk
def qEl (l : List Qty) : Nat → Nat → DV := fun i => qD (l.getD i default)
def dQs (l : List Qty) : DV := .slc l.length 5 (qEl l)
abbrev qB (q : Qty) : Box := .cells [.d (dS q.region), .d (dI q.cells), .d (dI q.design), .d (dI q.tol), .d (dI q.unk)]
abbrev regB (r : Reg) : Box := .cells [.d (dS r.name), .d (dI r.kind), .d (dPts r.corners)]
/-- What a cell adds to a section. -/
def qStep (c : Chan) (g : Grid) (r : Reg) (area : Int) (q : Qty) (i : Nat) (level : Int) : Qty :=
  bif decide (insV r.corners (centreG g i) < 0) then q
  else bif g.levels.getD i 0 == 30000 then { q with unk := w64 (q.unk + 1) }
  else { q with cells := w64 (q.cells + 1), design := w64 (q.design + w64 (area * mm true 0 (w64 (g.levels.getD i 0 - level)))), tol := w64 (q.tol + w64 (area * mm true 0 (w64 (w64 (g.levels.getD i 0 - level) + c.over)))) }
abbrev quB (c : Chan) (g : Grid) (r : Reg) (area : Int) (q : Qty) : BoxL := [(1001, regB r), (1002, gridB g), (1003, qB q), (1004, .cells [.d (dI area)]), (1005, chanB c)]
attribute [local irreducible] insV in
theorem quant1 (c : Chan) (g : Grid) (r : Reg) (area : Int) (q : Qty) (i : Nat) (level : Int) (eg : errG g = 0) (hi : i < g.levels.length) (ep : errPoly r.corners = 0) :
    CallR Tryz.prog 85 [vI i, vI level, .s (.ptr 1001 0), .s (.ptr 1002 0), .s (.ptr 1003 0), .s (.ptr 1004 0), .s (.ptr 1005 0)] (quB c g r area q) (.t []) (quB c g r area (qStep c g r area q i level)) := by
  have gv := GVal.of eg
  have hn := gv.n
  refine callR_of_ex (rc := []) (N := 67) Tryz.func85 rfl rfl Tryz.call85 tab_ok mix rfl rfl rfl rfl (fun cx href => ?_)
  refine callN (ccentre g i eg (by omega) (by omega) (by omega)) ?_
  refine callN (gInside r.corners (centreG g i) ep (centre_good gv hi).1) ?_
  refine And.intro (by kernel_rfl) ?_
  refine And.intro (fun h1 => ?_) (fun h1 => ?_)
  · have h1 : decide (insV r.corners (centreG g i) < 0) = true := h1
    have e : qStep c g r area q i level = q := by unfold qStep; rw [h1]; rfl
    rw [e]
    exact ⟨SubR.refl _, rfl, rfl, rfl, rfl, rfl, trivial⟩
  have h1 : decide (insV r.corners (centreG g i) < 0) = false := h1
  refine oi ⟨by omega, by omega⟩ ?_
  refine And.intro (fun h2 => ?_) (fun h2 => ?_)
  · have h2 : (g.levels.getD i 0 == 30000) = true := h2
    have e : qStep c g r area q i level = { q with unk := w64 (q.unk + 1) } := by unfold qStep; rw [h1, h2]; rfl
    rw [e]
    exact ⟨SubR.refl _, rfl, rfl, rfl, rfl, rfl, trivial⟩
  have h2 : (g.levels.getD i 0 == 30000) = false := h2
  have e : qStep c g r area q i level = { q with cells := w64 (q.cells + 1), design := w64 (q.design + w64 (area * mm true 0 (w64 (g.levels.getD i 0 - level)))), tol := w64 (q.tol + w64 (area * mm true 0 (w64 (w64 (g.levels.getD i 0 - level) + c.over)))) } := by unfold qStep; rw [h1, h2]; rfl
  rw [e]
  refine oi ⟨by omega, by omega⟩ ?_
  refine And.intro (by kernel_rfl) ?_
  refine oi ⟨by omega, by omega⟩ ?_
  refine And.intro (by kernel_rfl) ?_
  exact ⟨SubR.refl _, rfl, rfl, rfl, rfl, rfl, trivial⟩
def qtyL (c : Chan) (g : Grid) (r : Reg) (area : Int) (q : Qty) : Nat → Qty
  | 0 => q
  | i + 1 => bif (desF c (centreG g i)).2 then qStep c g r area (qtyL c g r area q i) i (desF c (centreG g i)).1 else qtyL c g r area q i
abbrev cloQ : SV := .clo 85 [.ptr 1001 0, .ptr 1002 0, .ptr 1003 0, .ptr 1004 0, .ptr 1005 0]
theorem designedQty (c : Chan) (g : Grid) (r : Reg) (area : Int) (q : Qty) (hv : Val c) (eg : errG g = 0) (ep : errPoly r.corners = 0) :
    CallR Tryz.prog 58 [chan c, grid g, .s cloQ] (quB c g r area q) (.t []) (quB c g r area (qtyL c g r area q g.levels.length)) := by
  have gv := GVal.of eg
  have hn := gv.n
  refine callR_of_ex (rc := [85]) (N := 29) Tryz.func58 rfl rfl Tryz.call58 tab_ok mix rfl rfl rfl rfl (fun cx href => ?_)
  refine AW.loopI (fun i : Nat => ⟨[(2, .s cloQ), (3, .s (.ptr 3 0)), (4, .s (.ptr 4 0)), (11, vI g.levels.length), (12, vI i)],
      [(3, some (chanB c)), (4, some (gridB g)), (1001, some (regB r)), (1002, some (gridB g)), (1003, some (qB (qtyL c g r area q i))), (1004, some (.cells [.d (dI area)])), (1005, some (chanB c))]⟩)
    (fun i => i ≤ g.levels.length) (fun i => g.levels.length - i) 0 (Nat.zero_le _) ?_ ?_
  · exact SubI.of [] (by rw [href]; rfl) rfl ⟨⟨rfl, LeBx.rfl⟩, ⟨rfl, LeBx.rfl⟩, ⟨rfl, LeBx.rfl⟩, ⟨rfl, LeBx.rfl⟩, ⟨rfl, LeBx.rfl⟩, ⟨rfl, LeBx.rfl⟩, ⟨rfl, LeBx.rfl⟩, trivial⟩ ⟨⟨rfl, LeQ.rfl⟩, ⟨rfl, LeQ.rfl⟩, ⟨rfl, LeQ.rfl⟩, ⟨rfl, LeQ.rfl⟩, ⟨rfl, LeQ.rfl⟩, trivial⟩
  · intro i hi
    refine ex.sound (rc := [85]) tab_ok mix href _ ?_
    refine And.intro (fun h1 => ?_) (fun h1 => ?_)
    · have h1 : (i : Int) < g.levels.length := decT h1
      have hi' : i < g.levels.length := by omega
      have hg := (centre_good gv hi').1
      refine callN (ccentre g i eg (by omega) (by omega) (by omega)) ?_
      refine callN (design c (centreG g i) hv hg) ?_
      refine And.intro (by kernel_rfl) ?_
      refine And.intro (fun h2 => ?_) (fun h2 => ?_)
      · have h2 : (desF c (centreG g i)).2 = true := h2
        have e : qtyL c g r area q (i + 1) = qStep c g r area (qtyL c g r area q i) i (desF c (centreG g i)).1 := by rw [qtyL, h2]; rfl
        refine ⟨[], _, _, _, _, quant1 c g r area (qtyL c g r area q i) i (desF c (centreG g i)).1 eg hi' ep, rfl, ⟨rfl, rfl, rfl, rfl, rfl, trivial⟩, rfl, ?_⟩
        refine ⟨i + 1, by omega, by omega, ?_⟩
        exact SubI.of [] (by rw [href]; rfl) rfl ⟨⟨rfl, LeBx.rfl⟩, ⟨rfl, LeBx.rfl⟩, ⟨rfl, LeBx.rfl⟩, ⟨rfl, LeBx.rfl⟩, ⟨rfl, LeBx.of_eq (by rw [e])⟩, ⟨rfl, LeBx.rfl⟩, ⟨rfl, LeBx.rfl⟩, trivial⟩ ⟨⟨rfl, LeQ.rfl⟩, ⟨rfl, LeQ.rfl⟩, ⟨rfl, LeQ.rfl⟩, ⟨rfl, LeQ.rfl⟩, ⟨rfl, LeQ.int (w64_of (by omega) (by omega))⟩, trivial⟩
      · have h2 : (desF c (centreG g i)).2 = false := h2
        have e : qtyL c g r area q (i + 1) = qtyL c g r area q i := by rw [qtyL, h2]; rfl
        refine ⟨i + 1, by omega, by omega, ?_⟩
        exact SubI.of [] (by rw [href]; rfl) rfl ⟨⟨rfl, LeBx.rfl⟩, ⟨rfl, LeBx.rfl⟩, ⟨rfl, LeBx.rfl⟩, ⟨rfl, LeBx.rfl⟩, ⟨rfl, LeBx.of_eq (by rw [e]; rfl)⟩, ⟨rfl, LeBx.rfl⟩, ⟨rfl, LeBx.rfl⟩, trivial⟩ ⟨⟨rfl, LeQ.rfl⟩, ⟨rfl, LeQ.rfl⟩, ⟨rfl, LeQ.rfl⟩, ⟨rfl, LeQ.rfl⟩, ⟨rfl, LeQ.int (w64_of (by omega) (by omega))⟩, trivial⟩
    · have h1 : ¬ (i : Int) < g.levels.length := decF h1
      obtain rfl : i = g.levels.length := by omega
      exact ⟨SubR.refl _, rfl, rfl, rfl, rfl, rfl, trivial⟩
end Go.Ch

namespace Go.Ch
open Go Go.Ax Go.Proofs Go.Proofs.Tryz
set_option maxRecDepth 100000
set_option pp.maxSteps 400
set_option maxHeartbeats 1000000

def q0 (r : Reg) : Qty := ⟨r.name, 0, 0, 0, 0⟩
def qOf (c : Chan) (g : Grid) (r : Reg) : Qty := qtyL c g r (w64 (g.side * g.side)) (q0 r) g.levels.length
def qtysL (c : Chan) (g : Grid) (k : Nat) : List Qty := (c.regions.take k).filterMap fun r => bif r.kind != 0 then none else some (qOf c g r)
theorem qtysL_succ (c : Chan) (g : Grid) {k : Nat} (hk : k < c.regions.length) : qtysL c g (k + 1) = bif (c.regions.getD k default).kind != 0 then qtysL c g k else qtysL c g k ++ [qOf c g (c.regions.getD k default)] := by
  unfold qtysL
  rw [List.take_succ_eq_append_getElem hk, List.filterMap_append, getD_of hk]
  cases h : c.regions[k].kind != 0 <;> simp [h]
theorem qtysL_len (c : Chan) (g : Grid) (k : Nat) : (qtysL c g k).length ≤ k := by
  unfold qtysL
  exact Nat.le_trans (List.length_filterMap_le _ _) (by simp; omega)
def qtysR (c : Chan) (g : Grid) : List Qty × Int := bif withErr c [g] != 0 then ([], withErr c [g]) else (qtysL c g c.regions.length, 0)
abbrev rQE (l : List Qty) (e : Int) : AV := .t [.s (.d (dQs l)), .s (.d (dI e))]
attribute [local irreducible] withErr in
theorem gQuantities (c : Chan) (g : Grid) (hc : c.ok) (hg : g.ok) : CallP Tryz.prog 34 [chan c, grid g] (rQE (qtysR c g).1 (qtysR c g).2) := by
  refine callP_of_ex (rc := [58]) (N := 46) Tryz.func34 rfl rfl Tryz.call34 tab_ok mix rfl rfl (fun cx href => ?_)
  refine callN (cboth c g hc hg) ?_
  refine And.intro (fun h1 => ?_) (fun h1 => ?_)
  · have h1 : (withErr c [g] != 0) = true := h1
    rw [show qtysR c g = ([], withErr c [g]) by unfold qtysR; rw [h1]; rfl]
    exact SubR.t ⟨LeD.nil, LeD.refl _, trivial⟩
  have h1 : (withErr c [g] != 0) = false := h1
  rw [show qtysR c g = (qtysL c g c.regions.length, 0) by unfold qtysR; rw [h1]; rfl]
  have h0 : withErr c [g] = 0 := by simpa using h1
  obtain ⟨e1, e2⟩ := withErr1_zero h0
  have hv := val_of c e1
  have gv := GVal.of e2
  have hR := Regs.of e1
  have hRn := hR.n
  refine AW.loopI (fun k : Nat => ⟨[(2, .s (.ptr 2 0)), (3, .s (.ptr 3 0)), (7, .s (.mo (qtysL c g k).isEmpty 100)), (8, .s (.ptr 8 0)), (24, vRegs c.regions), (25, vI c.regions.length), (26, vI k)],
      [(2, some (chanB c)), (3, some (gridB g)), (8, some (.cells [.d (dI (w64 (g.side * g.side)))])), (100, some (.mrow 66 (qtysL c g k).length 5 (qEl (qtysL c g k))))]⟩)
    (fun k => k ≤ c.regions.length) (fun k => c.regions.length - k) 0 (Nat.zero_le _) ?_ ?_
  · exact SubI.of0 href [(100, 1000)] rfl ⟨⟨rfl, LeBx.rfl⟩, ⟨rfl, LeBx.rfl⟩, ⟨rfl, LeBx.rfl⟩, ⟨rfl, rfl⟩, trivial⟩ ⟨⟨rfl, LeQ.rfl⟩, ⟨rfl, LeQ.rfl⟩, ⟨rfl, LeQ.nil rfl⟩, ⟨rfl, LeQ.rfl⟩, ⟨rfl, LeQ.rfl⟩, ⟨rfl, LeQ.rfl⟩, ⟨rfl, LeQ.rfl⟩, trivial⟩
  · intro k hk
    have hlen := qtysL_len c g k
    refine ex.sound (rc := [58]) tab_ok mix href _ ?_
    refine And.intro (fun h2 => ?_) (fun h2 => ?_)
    · have h2 : (k : Int) < c.regions.length := decT h2
      have hk' : k < c.regions.length := by omega
      refine oi ⟨by omega, by omega⟩ ?_
      refine And.intro (fun h3 => ?_) (fun h3 => ?_)
      · have h3 : ((c.regions.getD k default).kind != 0) = true := h3
        have e : qtysL c g (k + 1) = qtysL c g k := by rw [qtysL_succ c g hk', h3]; rfl
        refine ⟨k + 1, by omega, by omega, ?_⟩
        exact SubI.of0 href [] rfl ⟨⟨rfl, LeBx.rfl⟩, ⟨rfl, LeBx.rfl⟩, ⟨rfl, LeBx.rfl⟩, ⟨rfl, LeBx.of_eq (by rw [e]; rfl)⟩, trivial⟩ ⟨⟨rfl, LeQ.rfl⟩, ⟨rfl, LeQ.rfl⟩, ⟨rfl, LeQ.of_eq (by rw [e]; rfl)⟩, ⟨rfl, LeQ.rfl⟩, ⟨rfl, LeQ.rfl⟩, ⟨rfl, LeQ.rfl⟩, ⟨rfl, LeQ.int (w64_of (by omega) (by omega))⟩, trivial⟩
      · have h3 : ((c.regions.getD k default).kind != 0) = false := h3
        have e : qtysL c g (k + 1) = qtysL c g k ++ [qOf c g (c.regions.getD k default)] := by rw [qtysL_succ c g hk', h3]; rfl
        refine ⟨[(1001, 10), (1002, 3), (1003, 11), (1004, 8), (1005, 2)], _, _, _, _, designedQty c g (c.regions.getD k default) (w64 (g.side * g.side)) (q0 (c.regions.getD k default)) hv e2 (hR.poly k hk'), rfl, ⟨rfl, rfl, rfl, rfl, rfl, trivial⟩, rfl, ?_⟩
        refine ob (by decide) ?_
        refine ob (by rw [bif_len]; show _ * 48 ≤ _; omega) ?_
        refine ob (fit1 (lt5 rfl rfl rfl rfl rfl)) ?_
        refine ⟨k + 1, by omega, by omega, ?_⟩
        refine SubI.of0 href [(100, 43)] rfl ⟨⟨rfl, LeBx.rfl⟩, ⟨rfl, LeBx.rfl⟩, ⟨rfl, LeBx.rfl⟩, ⟨rfl, ?_⟩, trivial⟩ ⟨⟨rfl, LeQ.rfl⟩, ⟨rfl, LeQ.rfl⟩, ⟨rfl, LeQ.mo ?_⟩, ⟨rfl, LeQ.rfl⟩, ⟨rfl, LeQ.rfl⟩, ⟨rfl, LeQ.rfl⟩, ⟨rfl, LeQ.int (w64_of (by omega) (by omega))⟩, trivial⟩
        · show LeBx _ (.mrow 66 (qtysL c g (k + 1)).length 5 (qEl (qtysL c g (k + 1))))
          rw [e]
          exact RowIs.mrow (el := qD) (RowIs.snoc RowIs.bif (lt5 rfl rfl rfl rfl rfl))
        · rw [e]; exact isEmpty_snoc _ _
    · have h2 : ¬ (k : Int) < c.regions.length := decF h2
      obtain rfl : k = c.regions.length := by omega
      exact SubR.t ⟨LeD.slc' (bif_len _) fun _ _ _ _ => LeD.refl _, LeD.refl _, trivial⟩
end Go.Ch

namespace Go.Ch
open Go Go.Ax Go.Proofs Go.Proofs.Tryz
set_option maxRecDepth 100000
set_option pp.maxSteps 400
set_option maxHeartbeats 1000000

def hasL (l : List Int) (x : Int) : Bool := l.any fun y => y == x
theorem rHas (l : List Int) (x : Int) (hl : l.length ≤ 1000000) : CallP Tryz.prog 61 [vInts l, vI x] (vB (hasL l x)) := by
  refine callP_of_ex (rc := []) (N := 18) Tryz.func61 rfl rfl Tryz.call61 tab_ok mix rfl rfl (fun cx href => ?_)
  refine AW.loopI (fun i : Nat => ⟨[(0, vInts l), (1, vI x), (5, vI i)], []⟩) (fun i => i ≤ l.length ∧ ∀ j, j < i → (l.getD j default == x) = false) (fun i => l.length - i) 0 ⟨Nat.zero_le _, fun j hj => absurd hj (Nat.not_lt_zero j)⟩ ?_ ?_
  · exact SubI.of0 href [] rfl trivial ⟨⟨rfl, LeQ.rfl⟩, ⟨rfl, LeQ.rfl⟩, ⟨rfl, LeQ.rfl⟩, trivial⟩
  · rintro i ⟨hi, hj⟩
    refine ex.sound (rc := []) tab_ok mix href _ ?_
    refine And.intro (fun h => ?_) (fun h => ?_)
    · have h : (i : Int) < l.length := decT h
      refine oi ⟨by omega, by omega⟩ ?_
      refine And.intro (fun h2 => ?_) (fun h2 => ?_)
      · have h2 : (l.getD i default == x) = true := h2
        exact SubR.lit (by unfold hasL; rw [any_getD (fun y => y == x) l i (by omega) h2])
      · have h2 : (l.getD i default == x) = false := h2
        refine ⟨i + 1, ⟨by omega, fun j hj' => ?_⟩, by omega, ?_⟩
        · by_cases hji : j = i
          · rw [hji]; exact h2
          · exact hj j (by omega)
        · exact SubI.of0 href [] rfl trivial ⟨⟨rfl, LeQ.rfl⟩, ⟨rfl, LeQ.rfl⟩, ⟨rfl, LeQ.int (w64_of (by omega) (by omega))⟩, trivial⟩
    · have h : ¬ (i : Int) < l.length := decF h
      exact SubR.lit (by unfold hasL; rw [any_drop (fun y => y == x) l fun j hj' => hj j (by omega)])
def exlS (g d : Grid) (l : List Int) (sum : Int) (i : Nat) : Int :=
  bif (d.levels.getD i 0 != 30000 && g.levels.getD i 0 != 30000) && hasL l i then w64 (sum + w64 (w64 (g.side * g.side) * mm true 0 (w64 (g.levels.getD i 0 - d.levels.getD i 0)))) else sum
def exlF (g d : Grid) (l : List Int) : Nat → Int
  | 0 => 0
  | i + 1 => exlS g d l (exlF g d l i) i
attribute [local irreducible] hasL in
theorem rExcessO (g d : Grid) (l : List Int) (hn : g.levels.length ≤ 1000000) (hd : d.levels.length = g.levels.length) (hl : l.length ≤ 1000000) :
    CallR Tryz.prog 22 [grid g, grid d, .s (.own 1001)] [(1001, .row 3 l.length 1 (intEl l))] (vI (exlF g d l g.levels.length)) [(1001, .row 3 l.length 1 (intEl l))] := by
  refine callR_of_ex (rc := []) (N := 60) Tryz.func22 rfl rfl Tryz.call22 tab_ok mix rfl rfl rfl rfl (fun cx href => ?_)
  refine AW.loopI (fun i : Nat => ⟨[(2, .s (.own 1001)), (3, .s (.ptr 3 0)), (4, .s (.ptr 4 0)), (7, vI (exlF g d l i)), (8, vI i)], [(3, some (gridB g)), (4, some (gridB d)), (1001, some (.row 3 l.length 1 (intEl l)))]⟩)
    (fun i => i ≤ g.levels.length) (fun i => g.levels.length - i) 0 (Nat.zero_le _) ?_ ?_
  · exact SubI.of [] (by rw [href]; rfl) rfl ⟨⟨rfl, LeBx.rfl⟩, ⟨rfl, LeBx.rfl⟩, ⟨rfl, LeBx.rfl⟩, trivial⟩ ⟨⟨rfl, LeQ.rfl⟩, ⟨rfl, LeQ.rfl⟩, ⟨rfl, LeQ.rfl⟩, ⟨rfl, LeQ.rfl⟩, ⟨rfl, LeQ.rfl⟩, trivial⟩
  · intro i hi
    refine ex.sound (rc := []) tab_ok mix href _ ?_
    refine And.intro (fun h => ?_) (fun h => ?_)
    · have h : (i : Int) < g.levels.length := decT h
      refine oi ⟨by omega, by omega⟩ ?_
      repeat first | refine sk ?_ | refine st ?_ | refine sg ?_ | refine sh ?_ | refine su ?_ | refine sn1 ?_ | refine sn0 ?_
      refine og (fun _ => ⟨by omega, by omega⟩) ?_
      repeat first | refine sk ?_ | refine st ?_ | refine sg ?_ | refine sh ?_ | refine su ?_ | refine sn1 ?_ | refine sn0 ?_
      refine callG (rHas l i hl) ?_
      repeat first | refine sk ?_ | refine st ?_ | refine sg ?_ | refine sh ?_ | refine su ?_ | refine sn1 ?_ | refine sn0 ?_
      refine And.intro (fun h2 => ?_) (fun h2 => ?_)
      · have h2 : ((d.levels.getD i 0 != 30000 && g.levels.getD i 0 != 30000) && (false || hasL l i)) = true := h2
        rw [Bool.false_or] at h2
        have e : exlF g d l (i + 1) = w64 (exlF g d l i + w64 (w64 (g.side * g.side) * mm true 0 (w64 (g.levels.getD i 0 - d.levels.getD i 0)))) := by rw [exlF, exlS, h2]; rfl
        refine oi ⟨by omega, by omega⟩ ?_
        refine oi ⟨by omega, by omega⟩ ?_
        refine And.intro (by kernel_rfl) ?_
        refine ⟨i + 1, by omega, by omega, ?_⟩
        exact SubI.of [] (by rw [href]; rfl) rfl ⟨⟨rfl, LeBx.rfl⟩, ⟨rfl, LeBx.rfl⟩, ⟨rfl, LeBx.rfl⟩, trivial⟩ ⟨⟨rfl, LeQ.rfl⟩, ⟨rfl, LeQ.rfl⟩, ⟨rfl, LeQ.rfl⟩, ⟨rfl, LeQ.int (by rw [e]; rfl)⟩, ⟨rfl, LeQ.int (w64_of (by omega) (by omega))⟩, trivial⟩
      · have h2 : ((d.levels.getD i 0 != 30000 && g.levels.getD i 0 != 30000) && (false || hasL l i)) = false := h2
        rw [Bool.false_or] at h2
        have e : exlF g d l (i + 1) = exlF g d l i := by rw [exlF, exlS, h2]; rfl
        refine ⟨i + 1, by omega, by omega, ?_⟩
        exact SubI.of [] (by rw [href]; rfl) rfl ⟨⟨rfl, LeBx.rfl⟩, ⟨rfl, LeBx.rfl⟩, ⟨rfl, LeBx.rfl⟩, trivial⟩ ⟨⟨rfl, LeQ.rfl⟩, ⟨rfl, LeQ.rfl⟩, ⟨rfl, LeQ.rfl⟩, ⟨rfl, LeQ.int (by rw [e])⟩, ⟨rfl, LeQ.int (w64_of (by omega) (by omega))⟩, trivial⟩
    · have h : ¬ (i : Int) < g.levels.length := decF h
      obtain rfl : i = g.levels.length := by omega
      exact ⟨SubR.refl _, rfl, trivial⟩

/-- What the reference does with a cell inside of a section. -/
def rqStep (c : Chan) (g : Grid) (s : Qty × List Int) (j : Int) : Qty × List Int :=
  bif cellT c g 0 j.toNat == 30000 then s else bif g.levels.getD j.toNat 0 == 30000 then ({ s.1 with unk := w64 (s.1.unk + 1) }, s.2) else ({ s.1 with cells := w64 (s.1.cells + 1) }, s.2 ++ [j])
def rqL (c : Chan) (g : Grid) (r : Reg) (W : List Int) : Qty × List Int := W.foldl (rqStep c g) (q0 r, [])
def rqty (c : Chan) (g : Grid) (r : Reg) : Qty :=
  let s := rqL c g r (witL g r.corners g.levels.length)
  { s.1 with design := exlF g (designG c g 0) s.2 g.levels.length, tol := exlF g (designG c g c.over) s.2 g.levels.length }
end Go.Ch

namespace Go.Ch
open Go Go.Ax Go.Proofs Go.Proofs.Tryz
set_option maxRecDepth 100000
set_option pp.maxSteps 400
set_option maxHeartbeats 1000000

theorem witL_get {g : Grid} {l : List Pt} {n j : Nat} (hj : j < (witL g l n).length) : ∃ i, i < n ∧ (witL g l n).getD j default = (i : Int) := by
  have hm : (witL g l n).getD j default ∈ witL g l n := by rw [getD_of hj]; exact List.getElem_mem hj
  unfold witL at hm
  rw [List.mem_filterMap] at hm
  obtain ⟨i, hi, e⟩ := hm
  refine ⟨i, List.mem_range.1 hi, ?_⟩
  cases h : witC g l i with
  | false => rw [h] at e; cases e
  | true => rw [h] at e; unfold witL; simp only [cond_true, Option.some.injEq] at e; exact e.symm
theorem rqL_take (c : Chan) (g : Grid) (r : Reg) {W : List Int} {j : Nat} (hj : j < W.length) : rqL c g r (W.take (j + 1)) = rqStep c g (rqL c g r (W.take j)) (W.getD j default) := by
  unfold rqL
  rw [List.take_succ_eq_append_getElem hj, List.foldl_append, getD_of hj]; rfl
theorem rqStep_len (c : Chan) (g : Grid) (s : Qty × List Int) (j : Int) : (rqStep c g s j).2.length ≤ s.2.length + 1 := by
  unfold rqStep
  cases cellT c g 0 j.toNat == 30000 with
  | true => simp only [cond_true]; omega
  | false => cases g.levels.getD j.toNat 0 == 30000 <;> simp
theorem rqL_len (c : Chan) (g : Grid) (r : Reg) (W : List Int) : (rqL c g r W).2.length ≤ W.length := by
  have key : ∀ (W : List Int) (s : Qty × List Int), (W.foldl (rqStep c g) s).2.length ≤ s.2.length + W.length := by
    intro W
    induction W with
    | nil => intro s; simp
    | cons x W ih =>
      intro s
      have h1 := ih (rqStep c g s x)
      have h2 := rqStep_len c g s x
      simp only [List.foldl_cons, List.length_cons]; omega
  have := key W (q0 r, [])
  simpa [rqL] using this
def rqsL (c : Chan) (g : Grid) (k : Nat) : List Qty := (c.regions.take k).filterMap fun r => bif r.kind != 0 then none else some (rqty c g r)
theorem rqsL_succ (c : Chan) (g : Grid) {k : Nat} (hk : k < c.regions.length) : rqsL c g (k + 1) = bif (c.regions.getD k default).kind != 0 then rqsL c g k else rqsL c g k ++ [rqty c g (c.regions.getD k default)] := by
  unfold rqsL
  rw [List.take_succ_eq_append_getElem hk, List.filterMap_append, getD_of hk]
  cases h : c.regions[k].kind != 0 <;> simp [h]
theorem rqsL_len (c : Chan) (g : Grid) (k : Nat) : (rqsL c g k).length ≤ k := by
  unfold rqsL
  exact Nat.le_trans (List.length_filterMap_le _ _) (by simp; omega)
attribute [local irreducible] cellT exlF in
theorem rQuantities (c : Chan) (g : Grid) (hv : Val c) (gv : GVal g) (hR : Regs c) : CallP Tryz.prog 35 [chan c, grid g] (.s (.d (dQs (rqsL c g c.regions.length)))) := by
  have hn := gv.n
  have hRn := hR.n
  have hd0 := designG_len c g 0
  have hd1 := designG_len c g c.over
  refine callP_of_ex (rc := []) (N := 101) Tryz.func35 rfl rfl Tryz.call35 tab_ok mix rfl rfl (fun cx href => ?_)
  refine callN (rDesignGrid c g 0 hv gv) ?_
  refine callN (rDesignGrid c g c.over hv gv) ?_
  refine And.intro (by kernel_rfl) ?_
  refine AW.loopI (fun k : Nat => ⟨[(2, .s (.ptr 2 0)), (3, .s (.ptr 3 0)), (5, .s (.ptr 5 0)), (6, .s (.ptr 6 0)), (7, .s (.mo (rqsL c g k).isEmpty 100)), (8, vI k)],
      [(2, some (chanB c)), (3, some (gridB g)), (5, some (gridB (designG c g 0))), (6, some (gridB (designG c g c.over))), (100, some (.mrow 66 (rqsL c g k).length 5 (qEl (rqsL c g k))))]⟩)
    (fun k => k ≤ c.regions.length) (fun k => c.regions.length - k) 0 (Nat.zero_le _) ?_ ?_
  · exact SubI.of0 href [(100, 1000)] rfl ⟨⟨rfl, LeBx.rfl⟩, ⟨rfl, LeBx.rfl⟩, ⟨rfl, LeBx.rfl⟩, ⟨rfl, LeBx.rfl⟩, ⟨rfl, rfl⟩, trivial⟩ ⟨⟨rfl, LeQ.rfl⟩, ⟨rfl, LeQ.rfl⟩, ⟨rfl, LeQ.rfl⟩, ⟨rfl, LeQ.rfl⟩, ⟨rfl, LeQ.nil rfl⟩, ⟨rfl, LeQ.rfl⟩, trivial⟩
  · intro k hk
    have hlen := rqsL_len c g k
    refine ex.sound (rc := []) tab_ok mix href _ ?_
    refine And.intro (fun h2 => ?_) (fun h2 => ?_)
    · have h2 : (k : Int) < c.regions.length := decT h2
      have hk' : k < c.regions.length := by omega
      refine oi ⟨by omega, by omega⟩ ?_
      refine And.intro (fun h3 => ?_) (fun h3 => ?_)
      · have h3 : ((c.regions.getD k default).kind != 0) = true := h3
        have e : rqsL c g (k + 1) = rqsL c g k := by rw [rqsL_succ c g hk', h3]; rfl
        refine ⟨k + 1, by omega, by omega, ?_⟩
        exact SubI.of0 href [] rfl ⟨⟨rfl, LeBx.rfl⟩, ⟨rfl, LeBx.rfl⟩, ⟨rfl, LeBx.rfl⟩, ⟨rfl, LeBx.rfl⟩, ⟨rfl, LeBx.of_eq (by rw [e]; rfl)⟩, trivial⟩ ⟨⟨rfl, LeQ.rfl⟩, ⟨rfl, LeQ.rfl⟩, ⟨rfl, LeQ.rfl⟩, ⟨rfl, LeQ.rfl⟩, ⟨rfl, LeQ.of_eq (by rw [e]; rfl)⟩, ⟨rfl, LeQ.int (w64_of (by omega) (by omega))⟩, trivial⟩
      · have h3 : ((c.regions.getD k default).kind != 0) = false := h3
        have e : rqsL c g (k + 1) = rqsL c g k ++ [rqty c g (c.regions.getD k default)] := by rw [rqsL_succ c g hk', h3]; rfl
        have ep := errPoly_zero (hR.poly k hk')
        let r := c.regions.getD k default
        refine callN (rWithin g r.corners gv ep.1 ep.2.1) ?_
        have hW : ∀ j, j < (witL g r.corners g.levels.length).length → ∃ i, i < g.levels.length ∧ (witL g r.corners g.levels.length).getD j default = (i : Int) := fun j hj => witL_get hj
        have hWl := witL_len g r.corners g.levels.length
        have hrq : rqty c g r = { (rqL c g r (witL g r.corners g.levels.length)).1 with design := exlF g (designG c g 0) (rqL c g r (witL g r.corners g.levels.length)).2 g.levels.length, tol := exlF g (designG c g c.over) (rqL c g r (witL g r.corners g.levels.length)).2 g.levels.length } := rfl
        generalize hWe : witL g r.corners g.levels.length = W at *
        refine AW.loopI (fun j : Nat => ⟨[(2, .s (.ptr 2 0)), (3, .s (.ptr 3 0)), (5, .s (.ptr 5 0)), (6, .s (.ptr 6 0)), (7, .s (.mo (rqsL c g k).isEmpty 100)), (8, vI k), (10, .s (.ptr 10 0)), (11, .s (.own 200)), (12, vInts W), (13, vI j)],
            [(2, some (chanB c)), (3, some (gridB g)), (5, some (gridB (designG c g 0))), (6, some (gridB (designG c g c.over))), (10, some (qB (rqL c g r (W.take j)).1)), (100, some (.mrow 66 (rqsL c g k).length 5 (qEl (rqsL c g k)))), (200, some (.row 3 (rqL c g r (W.take j)).2.length 1 (intEl (rqL c g r (W.take j)).2)))]⟩)
          (fun j => j ≤ W.length) (fun j => W.length - j) 0 (Nat.zero_le _) ?_ ?_
        · exact SubI.of0 href [(200, 40)] rfl ⟨⟨rfl, LeBx.rfl⟩, ⟨rfl, LeBx.rfl⟩, ⟨rfl, LeBx.rfl⟩, ⟨rfl, LeBx.rfl⟩, ⟨rfl, LeBx.rfl⟩, ⟨rfl, LeBx.rfl⟩, ⟨rfl, LeBx.row rfl fun i j hi _ => absurd hi (Nat.not_lt_zero i)⟩, trivial⟩ ⟨⟨rfl, LeQ.rfl⟩, ⟨rfl, LeQ.rfl⟩, ⟨rfl, LeQ.rfl⟩, ⟨rfl, LeQ.rfl⟩, ⟨rfl, LeQ.rfl⟩, ⟨rfl, LeQ.rfl⟩, ⟨rfl, LeQ.rfl⟩, ⟨rfl, LeQ.rfl⟩, ⟨rfl, LeQ.rfl⟩, ⟨rfl, LeQ.rfl⟩, trivial⟩
        · intro j hj
          refine ex.sound (rc := []) tab_ok mix href _ ?_
          refine And.intro (fun h4 => ?_) (fun h4 => ?_)
          · have h4 : (j : Int) < W.length := decT h4
            have hj' : j < W.length := by omega
            obtain ⟨i, hi, ei⟩ := hW j hj'
            have hst := rqL_take c g r hj'
            have hl := rqL_len c g r (W.take j)
            have hl2 : (W.take j).length ≤ j := by simp; omega
            rw [ei] at hst
            refine oi ⟨by omega, by omega⟩ ?_
            refine oi (by show 0 ≤ W.getD j default ∧ W.getD j default < _; rw [ei]; exact ⟨by omega, by omega⟩) ?_
            refine And.intro (by kernel_rfl) ?_
            have ec : (designG c g 0).levels.getD (W.getD j default).toNat 0 = cellT c g 0 i := by rw [ei]; exact designG_at c g 0 hi
            refine And.intro (fun h5 => ?_) (fun h5 => ?_)
            · have h5 : ((designG c g 0).levels.getD (W.getD j default).toNat 0 == 30000) = true := h5
              rw [ec] at h5
              have e2 : rqL c g r (W.take (j + 1)) = rqL c g r (W.take j) := by rw [hst]; unfold rqStep; rw [natOf, h5]; rfl
              refine ⟨j + 1, by omega, by omega, ?_⟩
              exact SubI.of0 href [] rfl ⟨⟨rfl, LeBx.rfl⟩, ⟨rfl, LeBx.rfl⟩, ⟨rfl, LeBx.rfl⟩, ⟨rfl, LeBx.rfl⟩, ⟨rfl, LeBx.of_eq (by rw [e2]; rfl)⟩, ⟨rfl, LeBx.rfl⟩, ⟨rfl, LeBx.of_eq (by rw [e2]; rfl)⟩, trivial⟩ ⟨⟨rfl, LeQ.rfl⟩, ⟨rfl, LeQ.rfl⟩, ⟨rfl, LeQ.rfl⟩, ⟨rfl, LeQ.rfl⟩, ⟨rfl, LeQ.rfl⟩, ⟨rfl, LeQ.rfl⟩, ⟨rfl, LeQ.rfl⟩, ⟨rfl, LeQ.rfl⟩, ⟨rfl, LeQ.rfl⟩, ⟨rfl, LeQ.int (w64_of (by omega) (by omega))⟩, trivial⟩
            · have h5 : ((designG c g 0).levels.getD (W.getD j default).toNat 0 == 30000) = false := h5
              rw [ec] at h5
              refine oi ⟨by omega, by omega⟩ ?_
              refine oi (by show 0 ≤ W.getD j default ∧ W.getD j default < _; rw [ei]; exact ⟨by omega, by omega⟩) ?_
              refine And.intro (by kernel_rfl) ?_
              refine And.intro (fun h6 => ?_) (fun h6 => ?_)
              · have h6 : (g.levels.getD (W.getD j default).toNat 0 == 30000) = true := h6
                rw [ei, natOf] at h6
                have e2 : rqL c g r (W.take (j + 1)) = ({ (rqL c g r (W.take j)).1 with unk := w64 ((rqL c g r (W.take j)).1.unk + 1) }, (rqL c g r (W.take j)).2) := by rw [hst]; unfold rqStep; rw [natOf, h5, h6]; rfl
                refine ⟨j + 1, by omega, by omega, ?_⟩
                exact SubI.of0 href [] rfl ⟨⟨rfl, LeBx.rfl⟩, ⟨rfl, LeBx.rfl⟩, ⟨rfl, LeBx.rfl⟩, ⟨rfl, LeBx.rfl⟩, ⟨rfl, LeBx.of_eq (by rw [e2]; rfl)⟩, ⟨rfl, LeBx.rfl⟩, ⟨rfl, LeBx.of_eq (by rw [e2]; rfl)⟩, trivial⟩ ⟨⟨rfl, LeQ.rfl⟩, ⟨rfl, LeQ.rfl⟩, ⟨rfl, LeQ.rfl⟩, ⟨rfl, LeQ.rfl⟩, ⟨rfl, LeQ.rfl⟩, ⟨rfl, LeQ.rfl⟩, ⟨rfl, LeQ.rfl⟩, ⟨rfl, LeQ.rfl⟩, ⟨rfl, LeQ.rfl⟩, ⟨rfl, LeQ.int (w64_of (by omega) (by omega))⟩, trivial⟩
              · have h6 : (g.levels.getD (W.getD j default).toNat 0 == 30000) = false := h6
                rw [ei, natOf] at h6
                have e2 : rqL c g r (W.take (j + 1)) = ({ (rqL c g r (W.take j)).1 with cells := w64 ((rqL c g r (W.take j)).1.cells + 1) }, (rqL c g r (W.take j)).2 ++ [W.getD j default]) := by rw [hst, ei]; unfold rqStep; rw [natOf, h5, h6]; rfl
                refine oi ⟨by omega, by omega⟩ ?_
                refine ob (by show _ * 8 ≤ _; omega) ?_
                refine ob (fit1 (lt1 rfl)) ?_
                refine ⟨j + 1, by omega, by omega, ?_⟩
                refine SubI.of0 href [(200, 61)] rfl ⟨⟨rfl, LeBx.rfl⟩, ⟨rfl, LeBx.rfl⟩, ⟨rfl, LeBx.rfl⟩, ⟨rfl, LeBx.rfl⟩, ⟨rfl, LeBx.of_eq (by rw [e2]; rfl)⟩, ⟨rfl, LeBx.rfl⟩, ⟨rfl, ?_⟩, trivial⟩ ⟨⟨rfl, LeQ.rfl⟩, ⟨rfl, LeQ.rfl⟩, ⟨rfl, LeQ.rfl⟩, ⟨rfl, LeQ.rfl⟩, ⟨rfl, LeQ.rfl⟩, ⟨rfl, LeQ.rfl⟩, ⟨rfl, LeQ.rfl⟩, ⟨rfl, LeQ.rfl⟩, ⟨rfl, LeQ.rfl⟩, ⟨rfl, LeQ.int (w64_of (by omega) (by omega))⟩, trivial⟩
                show LeBx _ (.row 3 (rqL c g r (W.take (j + 1))).2.length 1 (intEl (rqL c g r (W.take (j + 1))).2))
                rw [e2]
                exact RowIs.row (el := fun x _ => dI x) (RowIs.snoc ⟨rfl, fun _ _ _ _ => rfl⟩ (lt1 rfl))
          · have h4 : ¬ (j : Int) < W.length := decF h4
            obtain rfl : j = W.length := by omega
            rw [List.take_length]
            have hl := rqL_len c g r W
            refine callKN (CallK.of [(1001, 200)] (rExcessO g (designG c g 0) (rqL c g r W).2 (by omega) hd0 (by omega)) rfl ⟨rfl, trivial⟩ rfl rfl rfl) ?_
            refine callKN (CallK.of [(1001, 200)] (rExcessO g (designG c g c.over) (rqL c g r W).2 (by omega) hd1 (by omega)) rfl ⟨rfl, trivial⟩ rfl rfl rfl) ?_
            refine And.intro (by kernel_rfl) ?_
            refine ob (by decide) ?_
            refine ob (by rw [bif_len]; show _ * 48 ≤ _; omega) ?_
            refine ob (fit1 (lt5 rfl rfl rfl rfl rfl)) ?_
            refine ⟨k + 1, by omega, by omega, ?_⟩
            refine SubI.of0 href [(100, 99)] rfl ⟨⟨rfl, LeBx.rfl⟩, ⟨rfl, LeBx.rfl⟩, ⟨rfl, LeBx.rfl⟩, ⟨rfl, LeBx.rfl⟩, ⟨rfl, ?_⟩, trivial⟩ ⟨⟨rfl, LeQ.rfl⟩, ⟨rfl, LeQ.rfl⟩, ⟨rfl, LeQ.rfl⟩, ⟨rfl, LeQ.rfl⟩, ⟨rfl, LeQ.mo ?_⟩, ⟨rfl, LeQ.int (w64_of (by omega) (by omega))⟩, trivial⟩
            · show LeBx _ (.mrow 66 (rqsL c g (k + 1)).length 5 (qEl (rqsL c g (k + 1))))
              rw [e]
              refine RowIs.mrow (el := qD) (RowIs.snoc RowIs.bif ?_)
              rw [show rqty c g (c.regions.getD k default) = _ from hrq]
              exact lt5 rfl rfl rfl rfl rfl
            · rw [e]; exact isEmpty_snoc _ _
    · have h2 : ¬ (k : Int) < c.regions.length := decF h2
      obtain rfl : k = c.regions.length := by omega
      exact SubR.le (LeD.slc' (bif_len _) fun _ _ _ _ => LeD.refl _)
end Go.Ch

namespace Go.Ch
open Go Go.Ax Go.Proofs Go.Proofs.Tryz
set_option maxRecDepth 100000
set_option pp.maxSteps 400
set_option maxHeartbeats 1000000

def inC (c : Chan) (g : Grid) (r : Reg) (k : Nat) : Bool := (desF c (centreG g k)).2 && (!decide (insV r.corners (centreG g k) < 0) && !(g.levels.getD k 0 == 30000))
def inL (c : Chan) (g : Grid) (r : Reg) (i : Nat) : List Int := (List.range i).filterMap fun k => bif inC c g r k then some (k : Int) else none
theorem inL_succ (c : Chan) (g : Grid) (r : Reg) (i : Nat) : inL c g r (i + 1) = bif inC c g r i then inL c g r i ++ [(i : Int)] else inL c g r i := by
  unfold inL
  rw [filterMap_range_succ]
  cases inC c g r i <;> simp
theorem has_inL {c : Chan} {g : Grid} {r : Reg} {n i : Nat} (hi : i < n) : hasL (inL c g r n) i = inC c g r i := by
  rw [Bool.eq_iff_iff]
  unfold hasL inL
  rw [List.any_eq_true]
  constructor
  · rintro ⟨x, hx, e⟩
    rw [List.mem_filterMap] at hx
    obtain ⟨k, hk, ek⟩ := hx
    cases h : inC c g r k with
    | false => rw [h] at ek; cases ek
    | true =>
      rw [h] at ek
      simp only [cond_true, Option.some.injEq] at ek
      simp only [beq_iff_eq] at e
      have : k = i := by omega
      rw [← this]; exact h
  · intro h
    refine ⟨(i : Int), ?_, by simp⟩
    rw [List.mem_filterMap]
    exact ⟨i, List.mem_range.2 hi, by rw [h]; rfl⟩
theorem witC_eq (g : Grid) (l : List Pt) (i : Nat) : witC g l i = !decide (insV l (centreG g i) < 0) := by
  unfold witC
  rw [Bool.eq_iff_iff]
  simp
abbrev areaG (g : Grid) : Int := w64 (g.side * g.side)
theorem qtyL_region (c : Chan) (g : Grid) (r : Reg) (area : Int) (q : Qty) : ∀ i, (qtyL c g r area q i).region = q.region
  | 0 => rfl
  | i + 1 => by
    rw [qtyL]
    have ih := qtyL_region c g r area q i
    cases (desF c (centreG g i)).2 with
    | false => exact ih
    | true =>
      show (qStep _ _ _ _ _ _ _).region = _
      unfold qStep
      cases decide (insV r.corners (centreG g i) < 0) with
      | true => exact ih
      | false => cases g.levels.getD i 0 == 30000 <;> exact ih
attribute [local irreducible] insV in
theorem rq_law (c : Chan) (g : Grid) (r : Reg) (hv : Val c) (gv : GVal g) : ∀ i, i ≤ g.levels.length → rqL c g r (witL g r.corners i) = (⟨r.name, (qtyL c g r (areaG g) (q0 r) i).cells, 0, 0, (qtyL c g r (areaG g) (q0 r) i).unk⟩, inL c g r i)
  | 0, _ => rfl
  | i + 1, hi => by
    have hi' : i < g.levels.length := by omega
    have ih := rq_law c g r hv gv i (by omega)
    rw [witL_succ, witC_eq, inL_succ, qtyL]
    unfold inC qStep
    cases hI : decide (insV r.corners (centreG g i) < 0) with
    | true =>
      simp only [Bool.not_true, Bool.false_and, Bool.and_false, cond_false, cond_true]
      rw [ih]
      cases (desF c (centreG g i)).2 <;> rfl
    | false =>
      simp only [Bool.not_false, Bool.true_and, cond_true, cond_false]
      have hs : rqL c g r (witL g r.corners i ++ [(i : Int)]) = rqStep c g (rqL c g r (witL g r.corners i)) i := by unfold rqL; rw [List.foldl_append]; rfl
      rw [hs, ih]
      unfold rqStep
      have hne := cellT0_ne hv gv hi'
      rw [natOf]
      cases hD : (desF c (centreG g i)).2 with
      | false =>
        rw [hD] at hne
        have : (cellT c g 0 i == 30000) = true := by simpa using hne
        rw [this]; rfl
      | true =>
        rw [hD] at hne
        have : (cellT c g 0 i == 30000) = false := by simpa using hne
        rw [this]
        cases hL : g.levels.getD i 0 == 30000 <;> rfl
theorem ex_design (c : Chan) (g : Grid) (r : Reg) (hv : Val c) (gv : GVal g) : ∀ i, i ≤ g.levels.length → exlF g (designG c g 0) (inL c g r g.levels.length) i = (qtyL c g r (areaG g) (q0 r) i).design
  | 0, _ => rfl
  | i + 1, hi => by
    have hi' : i < g.levels.length := by omega
    have ih := ex_design c g r hv gv i (by omega)
    rw [exlF, ih, exlS, designG_at c g 0 hi', cellT0_ne hv gv hi', cellT0 hv gv hi', has_inL hi', qtyL]
    unfold inC qStep
    cases hD : (desF c (centreG g i)).2 with
    | false => rfl
    | true =>
      cases hI : decide (insV r.corners (centreG g i) < 0) with
      | true => simp
      | false =>
        cases hL : g.levels.getD i 0 == 30000 with
        | true => simp
        | false =>
          have hL' : (g.levels.getD i 0 != 30000) = true := by simpa using hL
          rw [hL']; rfl
theorem cellTo {c : Chan} {g : Grid} (hv : Val c) (gv : GVal g) {i : Nat} (hi : i < g.levels.length) : cellT c g c.over i = (bif (desF c (centreG g i)).2 then (desF c (centreG g i)).1 - c.over else 30000) ∧ (cellT c g c.over i != 30000) = (desF c (centreG g i)).2 := by
  unfold cellT
  cases h : (desF c (centreG g i)).2 with
  | false => exact ⟨rfl, rfl⟩
  | true =>
    have hd := desF_ok hv (centre_good gv hi).1 h
    have ho := hv.over
    refine ⟨?_, ?_⟩
    · show w64 _ = _
      exact w64_of (by omega) (by omega)
    · show (w64 ((desF c (centreG g i)).1 - c.over) != 30000) = true
      rw [w64_of (by omega) (by omega)]
      simp only [bne_iff_ne, ne_eq]; omega
end Go.Ch

namespace Go.Ch
open Go Go.Ax Go.Proofs Go.Proofs.Tryz
set_option maxRecDepth 100000
set_option pp.maxSteps 400
set_option maxHeartbeats 1000000

theorem area_in {g : Grid} (gv : GVal g) : areaG g = g.side * g.side ∧ 0 ≤ areaG g ∧ areaG g ≤ 100000000 := by
  have hs := gv.side
  have m := mul_le_of (a := g.side) (b := g.side) (A := 10000) (B := 10000) (by omega) (by omega) (by omega) (by omega)
  have e : areaG g = g.side * g.side := w64_of (by omega) (by omega)
  have p := Int.mul_nonneg (a := g.side) (b := g.side) (by omega) (by omega)
  exact ⟨e, by rw [e]; omega, by rw [e]; omega⟩
theorem lev_in {g : Grid} (gv : GVal g) {i : Nat} (hi : i < g.levels.length) (h : (g.levels.getD i 0 == 30000) = false) : -20000 ≤ g.levels.getD i 0 ∧ g.levels.getD i 0 ≤ 20000 := by
  have hm : g.levels.getD i 0 ∈ g.levels := by rw [getD_of hi]; exact List.getElem_mem hi
  rcases gv.lev _ hm with h1 | h1
  · rw [h1] at h; cases h
  · exact h1
theorem mm_max (x : Int) : mm true 0 x = max 0 x := by
  unfold mm
  simp only
  split <;> omega
/-- Volume of a cell above a level: no overflow, and how large it can be. -/
theorem vol_in {a x : Int} (ha : 0 ≤ a ∧ a ≤ 100000000) (hx : x ≤ 100000) : w64 (a * mm true 0 x) = a * max 0 x ∧ 0 ≤ a * max 0 x ∧ a * max 0 x ≤ 10000000000000 := by
  rw [mm_max]
  have m := mul_le_of (a := a) (b := max 0 x) (A := 100000000) (B := 100000) (by omega) (by omega) (by omega) (by omega)
  have p := Int.mul_nonneg (a := a) (b := max 0 x) (by omega) (by omega)
  exact ⟨w64_of (by omega) (by omega), by omega, by omega⟩
attribute [local irreducible] insV in
theorem qty_step {c : Chan} {g : Grid} {r : Reg} (hv : Val c) (gv : GVal g) {i : Nat} (hi : i < g.levels.length) (hD : (desF c (centreG g i)).2 = true) (q : Qty)
    (hq : 0 ≤ q.design ∧ q.design ≤ q.tol ∧ q.tol ≤ i * 10000000000000) (hi2 : i ≤ 1024) :
    0 ≤ (qStep c g r (areaG g) q i (desF c (centreG g i)).1).design ∧ (qStep c g r (areaG g) q i (desF c (centreG g i)).1).design ≤ (qStep c g r (areaG g) q i (desF c (centreG g i)).1).tol ∧ (qStep c g r (areaG g) q i (desF c (centreG g i)).1).tol ≤ (i + 1 : Nat) * 10000000000000 := by
  unfold qStep
  cases hI : decide (insV r.corners (centreG g i) < 0) with
  | true => simp only [cond_true]; omega
  | false =>
    cases hL : g.levels.getD i 0 == 30000 with
    | true => simp only [cond_true, cond_false]; omega
    | false =>
      simp only [cond_false]
      have hl := lev_in gv hi hL
      have hd := desF_ok hv (centre_good gv hi).1 hD
      have ho := hv.over
      obtain ⟨_, ha⟩ := area_in gv
      generalize g.levels.getD i 0 = L at *
      generalize (desF c (centreG g i)).1 = D at *
      generalize areaG g = A at *
      rw [w64_of (n := L - D) (by omega) (by omega), w64_of (n := L - D + c.over) (by omega) (by omega)]
      obtain ⟨v1, v2, v3⟩ := vol_in (x := L - D) ha (by omega)
      obtain ⟨u1, u2, u3⟩ := vol_in (x := L - D + c.over) ha (by omega)
      have hm : A * max 0 (L - D) ≤ A * max 0 (L - D + c.over) := Int.mul_le_mul_of_nonneg_left (by omega) ha.1
      rw [v1, u1]
      generalize A * max 0 (L - D) = V at *
      generalize A * max 0 (L - D + c.over) = U at *
      rw [w64_of (n := q.design + V) (by omega) (by omega), w64_of (n := q.tol + U) (by omega) (by omega)]
      omega
theorem qty_in (c : Chan) (g : Grid) (r : Reg) (hv : Val c) (gv : GVal g) : ∀ i, i ≤ g.levels.length →
    0 ≤ (qtyL c g r (areaG g) (q0 r) i).design ∧ (qtyL c g r (areaG g) (q0 r) i).design ≤ (qtyL c g r (areaG g) (q0 r) i).tol ∧ (qtyL c g r (areaG g) (q0 r) i).tol ≤ i * 10000000000000
  | 0, _ => ⟨Int.le_refl _, Int.le_refl _, Int.le_refl _⟩
  | i + 1, hi => by
    have hn := gv.n
    have ih := qty_in c g r hv gv i (by omega)
    rw [qtyL]
    cases hD : (desF c (centreG g i)).2 with
    | false => simp only [cond_false]; omega
    | true => exact qty_step hv gv (by omega) hD _ ih (by omega)
attribute [local irreducible] insV in
theorem ex_tol (c : Chan) (g : Grid) (r : Reg) (hv : Val c) (gv : GVal g) : ∀ i, i ≤ g.levels.length → exlF g (designG c g c.over) (inL c g r g.levels.length) i = (qtyL c g r (areaG g) (q0 r) i).tol
  | 0, _ => rfl
  | i + 1, hi => by
    have hi' : i < g.levels.length := by omega
    have ih := ex_tol c g r hv gv i (by omega)
    obtain ⟨t1, t2⟩ := cellTo hv gv hi'
    rw [exlF, ih, exlS, designG_at c g c.over hi', t2, t1, has_inL hi', qtyL]
    unfold inC qStep
    cases hD : (desF c (centreG g i)).2 with
    | false => rfl
    | true =>
      cases hI : decide (insV r.corners (centreG g i) < 0) with
      | true => simp
      | false =>
        cases hL : g.levels.getD i 0 == 30000 with
        | true => simp
        | false =>
          have hL' : (g.levels.getD i 0 != 30000) = true := by simpa using hL
          have hl := lev_in gv hi' hL
          have hd := desF_ok hv (centre_good gv hi').1 hD
          have ho := hv.over
          rw [hL']
          simp only [Bool.true_and, Bool.not_false, cond_true, cond_false]
          rw [w64_of (n := g.levels.getD i 0 - ((desF c (centreG g i)).1 - c.over)) (by omega) (by omega), w64_of (n := g.levels.getD i 0 - (desF c (centreG g i)).1) (by omega) (by omega), w64_of (n := g.levels.getD i 0 - (desF c (centreG g i)).1 + c.over) (by omega) (by omega),
            show g.levels.getD i 0 - ((desF c (centreG g i)).1 - c.over) = g.levels.getD i 0 - (desF c (centreG g i)).1 + c.over by omega]
theorem rqty_eq (c : Chan) (g : Grid) (r : Reg) (hv : Val c) (gv : GVal g) : rqty c g r = qOf c g r := by
  have h1 := rq_law c g r hv gv _ (Nat.le_refl _)
  have h2 := ex_design c g r hv gv _ (Nat.le_refl _)
  have h3 := ex_tol c g r hv gv _ (Nat.le_refl _)
  have h4 := qtyL_region c g r (areaG g) (q0 r) g.levels.length
  unfold rqty
  simp only [h1, h2, h3]
  show (⟨_, _, _, _, _⟩ : Qty) = qtyL c g r (areaG g) (q0 r) g.levels.length
  generalize qtyL c g r (areaG g) (q0 r) g.levels.length = Q at *
  obtain ⟨a, b, d, e, f⟩ := Q
  simp only at h4 ⊢
  rw [h4]; rfl
theorem rqsL_eq (c : Chan) (g : Grid) (hv : Val c) (gv : GVal g) (k : Nat) : rqsL c g k = qtysL c g k := by
  unfold rqsL qtysL
  congr 1
  funext r
  rw [rqty_eq c g r hv gv]
theorem qtysL_in (c : Chan) (g : Grid) (hv : Val c) (gv : GVal g) {n k : Nat} (hk : k < (qtysL c g n).length) : ((qtysL c g n).getD k default).design ≤ ((qtysL c g n).getD k default).tol := by
  have hm : (qtysL c g n).getD k default ∈ qtysL c g n := by rw [getD_of hk]; exact List.getElem_mem hk
  generalize (qtysL c g n).getD k default = q at *
  unfold qtysL at hm
  rw [List.mem_filterMap] at hm
  obtain ⟨r, _, e⟩ := hm
  cases h : r.kind != 0 with
  | true => rw [h] at e; cases e
  | false =>
    rw [h] at e
    simp only [cond_false, Option.some.injEq] at e
    rw [← e]
    exact (qty_in c g r hv gv _ (Nat.le_refl _)).2.1
theorem sameQ (q : Qty) : (q.region.toList == q.region.toList && (q.cells == q.cells && (q.design == q.design && (q.tol == q.tol && (q.unk == q.unk && true))))) = true := by simp
attribute [local irreducible] withErr few small qtysL in
theorem Quantities (c : Chan) (g : Grid) (hc : c.ok) (hg : g.ok) : CallP Tryz.prog 7 [chan c, grid g] (vB true) := by
  refine callP_of_ex (rc := []) (N := 81) Tryz.func7 rfl rfl Tryz.call7 tab_ok mix rfl rfl (fun cx href => ?_)
  refine callN awake ?_
  refine And.intro (fun h => by cases h) (fun _ => ?_)
  refine callN (Small c hc) ?_
  repeat first | refine sk ?_ | refine st ?_ | refine sg ?_ | refine sh ?_ | refine su ?_ | refine sn1 ?_ | refine sn0 ?_
  refine callG (Few g hg.levels) ?_
  repeat first | refine sk ?_ | refine st ?_ | refine sg ?_ | refine sh ?_ | refine su ?_ | refine sn1 ?_ | refine sn0 ?_
  refine And.intro (fun _ => SubR.lit rfl) (fun h1 => ?_)
  have h1 : (!small c || !few g) = false := h1
  have hs : small c = true := by
    cases h : small c
    · rw [h] at h1; cases h1
    · rfl
  refine callN (Copied c (Sm.of hs)) ?_
  refine callN (gQuantities c g hc hg) ?_
  refine And.intro (by kernel_rfl) ?_
  refine callN ((rWith c [g] hc (by intro x hx; simp at hx; subst hx; exact hg) (by simp)).conv (args' := _) ⟨⟨LeD.refl _, LeD.refl _, LeD.refl _, LeD.refl _, LeD.refl _, trivial⟩, LeD.slc' rfl fun i j hi hj => LeD.of_eq ?_, trivial⟩) ?_
  · match i, j, hi, hj with
    | 0, 0, _, _ => rfl
    | 0, 1, _, _ => rfl
    | 0, 2, _, _ => rfl
    | 0, 3, _, _ => rfl
    | 0, 4, _, _ => rfl
    | 0, 5, _, _ => rfl
  refine And.intro (fun h2 => ?_) (fun h2 => ?_)
  · have h2 : (withErr c [g] != 0) = true := h2
    rw [show qtysR c g = ([], withErr c [g]) by unfold qtysR; rw [h2]; rfl]
    repeat first | refine sk ?_ | refine st ?_ | refine sg ?_ | refine sh ?_ | refine su ?_ | refine sn1 ?_ | refine sn0 ?_
    refine SubR.of_eq ?_
    show vB (withErr c [g] == withErr c [g] && (0 : Int) == 0) = vB true
    simp
  · have h2 : (withErr c [g] != 0) = false := h2
    have h0 : withErr c [g] = 0 := by simpa using h2
    obtain ⟨g1, g2⟩ := withErr1_zero h0
    have hv := val_of c g1
    have gv := GVal.of g2
    have hR := Regs.of g1
    have hRn := hR.n
    have hol := qtysL_len c g c.regions.length
    rw [show qtysR c g = (qtysL c g c.regions.length, 0) by unfold qtysR; rw [h2]; rfl]
    refine callN (rQuantities c g hv gv hR) ?_
    rw [rqsL_eq c g hv gv]
    repeat first | refine sk ?_ | refine st ?_ | refine sg ?_ | refine sh ?_ | refine su ?_ | refine sn1 ?_ | refine sn0 ?_
    refine And.intro (fun h3 => ?_) (fun _ => ?_)
    · exfalso
      have h3 : ((0 : Int) != 0 || ((qtysL c g c.regions.length).length : Int) != ((qtysL c g c.regions.length).length : Int)) = true := h3
      simp at h3
    have hin := fun k => qtysL_in c g hv gv (n := c.regions.length) (k := k)
    generalize qtysL c g c.regions.length = l at *
    refine AW.loopI (fun i : Nat => ⟨[(5, .s (.d (dQs l))), (8, .s (.d (dQs l))), (9, vI i)], []⟩) (fun i => i ≤ l.length) (fun i => l.length - i) 0 (Nat.zero_le _) ?_ ?_
    · exact SubI.of0 href [] rfl trivial ⟨⟨rfl, LeQ.rfl⟩, ⟨rfl, LeQ.rfl⟩, ⟨rfl, LeQ.rfl⟩, trivial⟩
    · intro i hi
      refine ex.sound (rc := []) tab_ok mix href _ ?_
      refine And.intro (fun h => ?_) (fun h => ?_)
      · have h : (i : Int) < l.length := decT h
        refine oi ⟨by omega, by omega⟩ ?_
        refine oi ⟨by omega, by omega⟩ ?_
        repeat first | refine sk ?_ | refine st ?_ | refine sg ?_ | refine sh ?_ | refine su ?_ | refine sn1 ?_ | refine sn0 ?_
        refine og (fun _ => ⟨by omega, by omega⟩) ?_
        repeat first | refine sk ?_ | refine st ?_ | refine sg ?_ | refine sh ?_ | refine su ?_ | refine sn1 ?_ | refine sn0 ?_
        refine og (fun _ => by omega) ?_
        repeat first | refine sk ?_ | refine st ?_ | refine sg ?_ | refine sh ?_ | refine su ?_ | refine sn1 ?_ | refine sn0 ?_
        refine And.intro (by kernel_rfl) ?_
        refine And.intro (fun h5 => ?_) (fun _ => ?_)
        · exfalso
          have hi' := hin i (by omega)
          have h5 : ((!((l.getD i default).region.toList == (l.getD i default).region.toList && ((l.getD i default).cells == (l.getD i default).cells && ((l.getD i default).design == (l.getD i default).design && ((l.getD i default).tol == (l.getD i default).tol && ((l.getD i default).unk == (l.getD i default).unk && true)))))) || decide ((l.getD i default).design > (l.getD i default).tol)) = true := h5
          rw [sameQ] at h5
          rw [Bool.not_true, Bool.false_or] at h5
          have h5 := decT h5
          omega
        · refine ⟨i + 1, by omega, by omega, ?_⟩
          exact SubI.of0 href [] rfl trivial ⟨⟨rfl, LeQ.rfl⟩, ⟨rfl, LeQ.rfl⟩, ⟨rfl, LeQ.int (w64_of (by omega) (by omega))⟩, trivial⟩
      · exact SubR.lit rfl
end Go.Ch
