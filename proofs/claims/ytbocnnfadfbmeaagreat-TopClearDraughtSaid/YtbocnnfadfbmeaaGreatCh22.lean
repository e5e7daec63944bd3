/- Part Ch22: lemmas that the proofs of this seat share; by itself it claims nothing. -/
import Derived.Test.YtbocnnfadfbmeaaGreatCh21
namespace Go.Ch
open Go Go.Ax Go.Proofs Go.Proofs.Tryz
set_option maxRecDepth 100000
set_option pp.maxSteps 400
set_option maxHeartbeats 1000000

/-- The cells of a barrier among the first i ones. -/
def barC (g : Grid) (m : Int) (k : Nat) : Bool := g.levels.getD k 0 != 30000 && decide (g.levels.getD k 0 ≥ m)
def barL (g : Grid) (m : Int) (i : Nat) : List Int := (List.range i).filterMap fun k => bif barC g m k then some (k : Int) else none
theorem barL_succ (g : Grid) (m : Int) (i : Nat) : barL g m (i + 1) = barL g m i ++ (bif barC g m i then [(i : Int)] else []) := by
  unfold barL
  rw [filterMap_range_succ]
  cases barC g m i <;> rfl
theorem barL_len (g : Grid) (m : Int) : ∀ i, (barL g m i).length ≤ i
  | 0 => Nat.le_refl _
  | i + 1 => by
    rw [barL_succ, List.length_append]
    have := barL_len g m i
    have := len1 (b := barC g m i) (x := (i : Int))
    omega
abbrev RouteR := Int × List Int × List Int × Int
def wayM (g : Grid) (m : Int) (fr to : List Int) : List Int := wayL g.levels.length (okMost g m) (nearL g) fr to
def clearL (g : Grid) (fr to : List Int) : List Int → RouteR
  | [] => (0, [], [], 11)
  | m :: r => bif (wayM g m fr to).isEmpty then clearL g fr to r else (m, wayM g m fr to, barL g m g.levels.length, 0)
def clearG (g : Grid) (fr to : List Int) : RouteR := bif endsG g fr to != 0 then (0, [], [], endsG g fr to) else clearL g fr to (levelsL g.levels)
abbrev rRoute (r : RouteR) : AV := .t [.g [.d (dI r.1), .d (dInts r.2.1), .d (dInts r.2.2.1)], .s (.d (dI r.2.2.2))]
abbrev nilS : SV := .d (.val (.slice none 0 0))
theorem rRoute_nil {e e' : Int} (h : e = e') : SubR (.t [.g [.d (dI 0), nilS, nilS], .s (.d (dI e))]) (rRoute (0, [], [], e')) := by
  subst h
  exact SubR.t ⟨⟨LeD.refl _, LeD.nil, LeD.nil, trivial⟩, LeD.refl _, trivial⟩
theorem endsG_zero {g : Grid} {fr to : List Int} (h : endsG g fr to = 0) : errG g = 0 ∧ fr.isEmpty = false ∧ to.isEmpty = false ∧ ∀ i ∈ fr ++ to, there g i = true := by
  unfold endsG at h
  cases h1 : errG g != 0 with
  | true => rw [h1, cond_true] at h; simp [h] at h1
  | false =>
    rw [h1, cond_false] at h
    refine ⟨by simpa using h1, ?_⟩
    cases h2 : fr.isEmpty || to.isEmpty with
    | true => rw [h2, cond_true] at h; cases h
    | false =>
      rw [h2, cond_false] at h
      rw [Bool.or_eq_false_iff] at h2
      refine ⟨h2.1, h2.2, ?_⟩
      unfold endsErr at h
      cases h3 : (fr ++ to).all (there g) with
      | false => rw [h3] at h; cases h
      | true => rw [List.all_eq_true] at h3; exact h3
abbrev clS (g : Grid) (fr to ls : List Int) (i : Nat) : St := ⟨[(3, .s (.ptr 3 0)), (1, vInts fr), (2, vInts to), (6, .s (.ptr 6 0)), (24, vInts ls), (25, vI ls.length), (26, vI i)], [(3, some (gridB g)), (6, some (.cells [.d (dI 0), nilS, nilS]))]⟩
abbrev clS2 (g : Grid) (m : Int) (p : List Int) (i : Nat) : St := ⟨[(3, .s (.ptr 3 0)), (10, .s (.ptr 10 0)), (6, .s (.ptr 6 0)), (12, .s (.ptr 12 0)), (42, vInts g.levels), (43, vI g.levels.length), (44, vI i)],
  [(3, some (gridB g)), (10, some (.cells [.d (dI m)])), (6, some (.cells [.d (dI 0), nilS, nilS])), (12, some (.cells [.d (dI m), .d (dInts p), .mo (barL g m i).isEmpty 100])), (100, some (.mrow 3 (barL g m i).length 1 (intEl (barL g m i))))]⟩
theorem gClear (g : Grid) (fr to : List Int) (hg : g.ok) (hf : fr.length ≤ 1000) (ht : to.length ≤ 1000) : CallP Tryz.prog 31 [grid g, vInts fr, vInts to] (rRoute (clearG g fr to)) := by
  refine callP_of_ex (rc := [64]) (N := 67) Tryz.func31 rfl rfl Tryz.call31 tab_ok mix rfl rfl (fun cx href => ?_)
  refine callN (ends g fr to hg hf ht) ?_
  unfold clearG
  refine And.intro (fun h => ?_) (fun h => ?_)
  · have h : (endsG g fr to != 0) = true := h
    rw [h, cond_true]
    exact rRoute_nil rfl
  have h : (endsG g fr to != 0) = false := h
  rw [h, cond_false]
  have hv : GVal g := GVal.of (endsG_zero (by simpa using h)).1
  have hn := hv.n
  refine callN (levels g hn) ?_
  have hll := levelsL_len (lv := g.levels)
  generalize levelsL g.levels = ls at hll ⊢
  refine AW.loopI (clS g fr to ls) (fun i => i ≤ ls.length ∧ clearL g fr to ls = clearL g fr to (ls.drop i)) (fun i => ls.length - i) 0 ⟨Nat.zero_le _, rfl⟩ ?_ ?_
  · exact SubI.of0 href [] rfl ⟨⟨rfl, LeBx.rfl⟩, ⟨rfl, LeBx.rfl⟩, trivial⟩ ⟨⟨rfl, LeQ.rfl⟩, ⟨rfl, LeQ.rfl⟩, ⟨rfl, LeQ.rfl⟩, ⟨rfl, LeQ.rfl⟩, ⟨rfl, LeQ.rfl⟩, ⟨rfl, LeQ.rfl⟩, ⟨rfl, LeQ.rfl⟩, trivial⟩
  · rintro i ⟨hi, hj⟩
    refine ex.sound (rc := [64]) tab_ok mix href _ ?_
    refine And.intro (fun h1 => ?_) (fun h1 => ?_)
    · have h1 : (i : Int) < ls.length := decT h1
      have hi' : i < ls.length := by omega
      rw [List.drop_eq_getElem_cons hi', clearL] at hj
      have hx : ls[i] = ls.getD i 0 := by simp [hi']
      rw [hx] at hj
      generalize hm : ls.getD i 0 = m at hj
      refine oi ⟨by omega, by omega⟩ ?_
      refine ⟨[(1001, 3), (1002, 10)], _, _, _, _, wayClear g (ls.getD i 0) fr to hv hf ht, rfl, ⟨rfl, rfl, trivial⟩, rfl, ?_⟩
      refine And.intro (fun h2 => ?_) (fun h2 => ?_)
      · have h2 : (((wayM g (ls.getD i 0) fr to).length : Int) == 0) = true := h2
        rw [len0, hm] at h2
        rw [h2, cond_true] at hj
        refine ⟨i + 1, ⟨by omega, hj⟩, by omega, ?_⟩
        exact SubI.of0 href [] rfl ⟨⟨rfl, LeBx.rfl⟩, ⟨rfl, LeBx.rfl⟩, trivial⟩ ⟨⟨rfl, LeQ.rfl⟩, ⟨rfl, LeQ.rfl⟩, ⟨rfl, LeQ.rfl⟩, ⟨rfl, LeQ.rfl⟩, ⟨rfl, LeQ.rfl⟩, ⟨rfl, LeQ.rfl⟩, ⟨rfl, LeQ.int (w64_of (by omega) (by omega))⟩, trivial⟩
      · have h2 : (((wayM g (ls.getD i 0) fr to).length : Int) == 0) = false := h2
        rw [len0, hm] at h2
        rw [h2, cond_false] at hj
        rw [hj]
        refine AW.loopI (clS2 g m (wayM g m fr to)) (fun k => k ≤ g.levels.length) (fun k => g.levels.length - k) 0 (Nat.zero_le _) ?_ ?_
        · subst hm
          exact SubI.of0 href [(100, 1000)] rfl ⟨⟨rfl, LeBx.rfl⟩, ⟨rfl, LeBx.rfl⟩, ⟨rfl, LeBx.rfl⟩, ⟨rfl, LeBx.cells ⟨LeQ.rfl, LeQ.rfl, LeQ.nil rfl, trivial⟩⟩, ⟨rfl, rfl⟩, trivial⟩ ⟨⟨rfl, LeQ.rfl⟩, ⟨rfl, LeQ.rfl⟩, ⟨rfl, LeQ.rfl⟩, ⟨rfl, LeQ.rfl⟩, ⟨rfl, LeQ.rfl⟩, ⟨rfl, LeQ.rfl⟩, ⟨rfl, LeQ.rfl⟩, trivial⟩
        · intro k hk
          have hbl := barL_len g m k
          have hbs := barL_succ g m k
          refine ex.sound (rc := [64]) tab_ok mix href _ ?_
          refine And.intro (fun h3 => ?_) (fun h3 => ?_)
          · have h3 : (k : Int) < g.levels.length := decT h3
            refine oi ⟨by omega, by omega⟩ ?_
            refine callN (bknown g k (by omega) (by omega)) ?_
            repeat first | refine sk ?_ | refine st ?_ | refine sg ?_ | refine sh ?_ | refine su ?_ | refine sn1 ?_ | refine sn0 ?_
            refine And.intro (fun h4 => ?_) (fun h4 => ?_)
            · have h4 : barC g m k = true := h4
              rw [h4, cond_true] at hbs
              refine ob (by decide) ?_
              refine ob (by rw [bif_len]; show _ * 8 ≤ _; omega) ?_
              refine ob (fit1 (lt1 rfl)) ?_
              refine ⟨k + 1, by omega, by omega, ?_⟩
              show SubI cx _ _ (clS2 g m (wayM g m fr to) (k + 1))
              unfold clS2
              rw [hbs]
              exact SubI.of0 href [(100, 61)] rfl ⟨⟨rfl, LeBx.rfl⟩, ⟨rfl, LeBx.rfl⟩, ⟨rfl, LeBx.rfl⟩, ⟨rfl, LeBx.cells ⟨LeQ.rfl, LeQ.rfl, LeQ.mo (isEmpty_snoc _ _), trivial⟩⟩, ⟨rfl, nearRow intRow rfl⟩, trivial⟩ ⟨⟨rfl, LeQ.rfl⟩, ⟨rfl, LeQ.rfl⟩, ⟨rfl, LeQ.rfl⟩, ⟨rfl, LeQ.rfl⟩, ⟨rfl, LeQ.rfl⟩, ⟨rfl, LeQ.rfl⟩, ⟨rfl, LeQ.int (w64_of (by omega) (by omega))⟩, trivial⟩
            · have h4 : barC g m k = false := h4
              rw [h4, cond_false, List.append_nil] at hbs
              refine ⟨k + 1, by omega, by omega, ?_⟩
              show SubI cx _ _ (clS2 g m (wayM g m fr to) (k + 1))
              unfold clS2
              rw [hbs]
              exact SubI.of0 href [] rfl ⟨⟨rfl, LeBx.rfl⟩, ⟨rfl, LeBx.rfl⟩, ⟨rfl, LeBx.rfl⟩, ⟨rfl, LeBx.rfl⟩, ⟨rfl, LeBx.rfl⟩, trivial⟩ ⟨⟨rfl, LeQ.rfl⟩, ⟨rfl, LeQ.rfl⟩, ⟨rfl, LeQ.rfl⟩, ⟨rfl, LeQ.rfl⟩, ⟨rfl, LeQ.rfl⟩, ⟨rfl, LeQ.rfl⟩, ⟨rfl, LeQ.int (w64_of (by omega) (by omega))⟩, trivial⟩
          · have h3 : ¬ (k : Int) < g.levels.length := decF h3
            obtain rfl : k = g.levels.length := by omega
            exact SubR.t ⟨⟨LeD.refl _, LeD.refl _, LeD.slc' (bif_len _) fun _ _ _ _ => LeD.refl _, trivial⟩, LeD.refl _, trivial⟩
    · have h1 : ¬ (i : Int) < ls.length := decF h1
      obtain rfl : i = ls.length := by omega
      rw [hj, List.drop_length]
      exact rRoute_nil rfl
end Go.Ch

namespace Go.Ch
open Go Go.Ax Go.Proofs Go.Proofs.Tryz
set_option maxRecDepth 100000
set_option pp.maxSteps 400
set_option maxHeartbeats 1000000

def wayBad (g : Grid) (l : List Int) (k : Nat) : Bool := !knownG g (l.getD k 0) || (decide ((k : Int) > 0) && !(nearL g (l.getD (k - 1) 0)).contains (l.getD k 0))
def wayRest (g : Grid) (l : List Int) : Nat → Nat → Int → Int × Bool
  | 0, _, h => (h, true)
  | n + 1, k, h => bif wayBad g l k then (0, false) else wayRest g l n (k + 1) (mm true h (levelAt g (l.getD k 0)))
def isWayG (g : Grid) (q : WayV) : Int × Bool :=
  bif (q.path.isEmpty || !q.fr.contains (q.path.getD 0 0)) || !q.to.contains (q.path.getD (q.path.length - 1) 0) then (0, false) else wayRest g q.path q.path.length 0 (-20000)
abbrev rIW (r : Int × Bool) : AV := .t [.s (.d (dI r.1)), .s (.d (.val (.bool r.2)))]
structure WayV.sm (q : WayV) : Prop where
  fr : q.fr.length ≤ 1000
  to : q.to.length ≤ 1000
  path : q.path.length ≤ 1000000
  bar : q.bar.length ≤ 1000000
theorem LeDlit {b : Bool} : LeD (.lit b) (.val (.bool b)) := fun _ _ r => r
end Go.Ch

namespace Go.Ch
open Go Go.Ax Go.Proofs Go.Proofs.Tryz
set_option maxRecDepth 100000
set_option pp.maxSteps 400
set_option maxHeartbeats 1000000

def barBad (g : Grid) (h : Int) (i : Int) : Bool := !knownG g i || decide (levelAt g i < h)
def wayF (g : Grid) (q : WayV) : List Int := wayL g.levels.length (okFree g q.bar) (nearL g) q.fr q.to
def checkG (g : Grid) (q : WayV) : Int :=
  bif endsG g q.fr q.to != 0 then endsG g q.fr q.to else
  bif !(isWayG g q).2 || ((isWayG g q).1 != q.level) then 21 else
  bif q.bar.any (barBad g (isWayG g q).1) then 21 else
  bif !(wayF g q).isEmpty then 21 else 0
end Go.Ch

namespace Go.Ch
open Go Go.Ax Go.Proofs Go.Proofs.Tryz
set_option maxRecDepth 100000
set_option pp.maxSteps 400
set_option maxHeartbeats 1000000

def smallG : Grid := ⟨0, 0, 100, 3, 2, [-500, -300, -400, -600, 30000, -450]⟩
def afterG : Grid := ⟨0, 0, 100, 3, 2, [-500, -500, -350, -600, -700, -450]⟩
def smallW : WayV := ⟨[3], [5], -300, [3, 0, 1, 2, 5], [1]⟩
theorem smallG_ok : smallG.ok := by
  refine ⟨by decide, by decide, by decide, by decide, by decide, by decide, ?_⟩
  intro a ha
  simp only [smallG, List.mem_cons, List.not_mem_nil, or_false] at ha
  rcases ha with rfl | rfl | rfl | rfl | rfl | rfl <;> decide
theorem afterG_ok : afterG.ok := by
  refine ⟨by decide, by decide, by decide, by decide, by decide, by decide, ?_⟩
  intro a ha
  simp only [afterG, List.mem_cons, List.not_mem_nil, or_false] at ha
  rcases ha with rfl | rfl | rfl | rfl | rfl | rfl <;> decide
theorem sortI_eq {l m : List Int} (h : l.Perm m) (hm : m.Pairwise (fun a b => a ≤ b)) : sortI l = m :=
  List.Perm.eq_of_pairwise (le := fun a b => a ≤ b) (fun a b _ _ h1 h2 => by omega) (sortI_pw l) hm ((List.mergeSort_perm l _).trans h)
theorem levels_small : levelsL smallG.levels = [-600, -500, -450, -400, -300] := sortI_eq (by decide) (by decide)
theorem clear_small : clearG smallG [3] [5] = (-300, [3, 0, 1, 2, 5], [1], 0) := by
  unfold clearG
  rw [levels_small]
  decide +kernel
theorem check_small : checkG smallG smallW = 0 := by decide +kernel
theorem cmp_small : cmpR smallG afterG = (⟨2000000, 500000, 1⟩, 0) := by kernel_rfl
theorem one1 {x : Int} {f : Nat → Nat → DV} (h : f 0 0 = dI x := by rfl) : LeD (.slc 1 1 f) (dInts [x]) := LeD.slc fun i j hi hj => by
  obtain rfl : i = 0 := by omega
  obtain rfl : j = 0 := by omega
  exact LeD.of_eq h
end Go.Ch

namespace Go.Ch
open Go Go.Ax Go.Proofs Go.Proofs.Tryz
set_option maxRecDepth 100000
set_option pp.maxSteps 400
set_option maxHeartbeats 1000000

def withG (g : Grid) (lv : Nat → Int) : Grid := ⟨g.x, g.y, g.side, g.cols, g.rows, (List.range g.levels.length).map lv⟩
def wF (lv : Nat → Int) (i : Nat) : Nat → Nat → DV := fun k _ => if k < i then dI (lv k) else dI 0
def blankG (g : Grid) : Grid × Int := bif errG g != 0 then (zeroG, errG g) else (withG g fun _ => 30000, 0)
theorem GVal.pos {g : Grid} (h : GVal g) : 0 < g.levels.length := by
  have h1 := h.len
  have h2 := h.cols
  have h3 := h.rows
  have : 0 < g.cols * g.rows := Int.mul_pos (by omega) (by omega)
  omega
end Go.Ch

namespace Go.Ch
open Go Go.Ax Go.Proofs Go.Proofs.Tryz
set_option maxRecDepth 100000
set_option pp.maxSteps 400
set_option maxHeartbeats 1000000

theorem alike_with (g : Grid) (lv : Nat → Int) : alike (withG g lv) g = true := by
  unfold alike withG
  simp
end Go.Ch

namespace Go.Ch
open Go Go.Ax Go.Proofs Go.Proofs.Tryz
set_option maxRecDepth 100000
set_option pp.maxSteps 400
set_option maxHeartbeats 1000000

def abS (g : Grid) (lv : Int) (s : Int × Int) (i : Nat) : Int × Int :=
  bif g.levels.getD i 0 != 30000 && decide (g.levels.getD i 0 > lv) then (w64 (s.1 + w64 (w64 (g.side * g.side) * w64 (g.levels.getD i 0 - lv))), w64 (s.2 + 1)) else s
def abF (g : Grid) (lv : Int) : Nat → Int × Int
  | 0 => (0, 0)
  | i + 1 => abS g lv (abF g lv i) i
def aboveG (g : Grid) (lv : Int) : Int × Int × Int :=
  bif errG g != 0 then (0, 0, errG g) else bif !within lv (-20000) 20000 then (0, 0, 2) else ((abF g lv g.levels.length).1, (abF g lv g.levels.length).2, 0)
theorem knownF_in {g : Grid} {i : Nat} (hi : i < g.levels.length) : knownF g i = (g.levels.getD i 0 != 30000) := by
  unfold knownF
  rw [decide_eq_true (show (i : Int) ≥ 0 by omega), decide_eq_true (show (i : Int) < g.levels.length by omega)]
  rfl
end Go.Ch

namespace Go.Ch
open Go Go.Ax Go.Proofs Go.Proofs.Tryz
set_option maxRecDepth 100000
set_option pp.maxSteps 400
set_option maxHeartbeats 1000000

def gD6 (g : Grid) : Nat → DV
  | 0 => dI g.x
  | 1 => dI g.y
  | 2 => dI g.side
  | 3 => dI g.cols
  | 4 => dI g.rows
  | 5 => dInts g.levels
  | _ => .junk
theorem six {p : Nat → Prop} (h0 : p 0) (h1 : p 1) (h2 : p 2) (h3 : p 3) (h4 : p 4) (h5 : p 5) : ∀ j, j < 6 → p j := fun j hj => by
  match j, hj with
  | 0, _ => exact h0
  | 1, _ => exact h1
  | 2, _ => exact h2
  | 3, _ => exact h3
  | 4, _ => exact h4
  | 5, _ => exact h5
def latP (a b : Grid) (i : Nat) : Int := bif b.levels.getD i 0 != 30000 then b.levels.getD i 0 else a.levels.getD i 0
def shoP (a b : Grid) (i : Nat) : Int := bif !(b.levels.getD i 0 != 30000) then a.levels.getD i 0 else bif !(a.levels.getD i 0 != 30000) then b.levels.getD i 0 else mm true (a.levels.getD i 0) (b.levels.getD i 0)
theorem two_le {a b : Grid} {i : Nat} {f h : Nat → DV} (hf : ∀ j, j < 6 → f j = gD6 b j) (hh : ∀ j, j < 6 → h j = gD6 a j) :
    LeAs [vI i, .s (.d (.rp 6 f)), .s (.d (.rp 6 h))] [vI i, .s (.d (.rp 6 (gD6 b))), .s (.d (.rp 6 (gD6 a)))] :=
  ⟨LeD.refl _, LeD.rp fun j hj => LeD.of_eq (hf j hj), LeD.rp fun j hj => LeD.of_eq (hh j hj), trivial⟩
def latestG (a b : Grid) : Grid × Int := bif err2 a b != 0 then (zeroG, err2 a b) else (withG a (latP a b), 0)
def shoalG (a b : Grid) : Grid × Int := bif err2 a b != 0 then (zeroG, err2 a b) else (withG a (shoP a b), 0)
end Go.Ch
