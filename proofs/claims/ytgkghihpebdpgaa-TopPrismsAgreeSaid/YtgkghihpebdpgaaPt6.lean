/- Part 6: lemmas that the proofs of this seat share; by itself it claims nothing. -/
import Derived.Shelf.Slices.In.SortNone
import Derived.Shelf.SlSortCmp.NoneTotal
import Derived.Shelf.SlicesG.Cmp
import Derived.Test.YtgkghihpebdpgaaChecked
import Derived.Test.YtgkghihpebdpgaaPt5
namespace Go.Ch
open Go Go.Ax Go.Sort Go.Proofs Go.Proofs.Try

theorem heap_sorted {w : World} {g n : Nat} {os : Array Obj} {cur : Array Value} {e : TypeId} {fr : Nat × Nat} (d : Array Int) (hb : w.heap[g]? = some (.cells cur e fr)) :
    (grow (putRow (Value.int .i64) (Sort.ahead w n) g 0 d) os).heap[g]? = some (.cells (putCells (Value.int .i64) 0 d cur) e fr) := by
  have hg : g < w.heap.size := (Array.getElem?_eq_some_iff.1 hb).1
  rw [heap_grow_old _ _ (by simpa using hg)]
  simp [putRow, mapBlock, Sort.ahead, Array.getElem?_modify, hb, onCells]
theorem heap_sorted_other {w : World} {g n k : Nat} {os : Array Obj} (d : Array Int) (hk : k < w.heap.size) (h : k ≠ g) :
    (grow (putRow (Value.int .i64) (Sort.ahead w n) g 0 d) os).heap[k]? = w.heap[k]? := by
  rw [heap_grow_old _ _ (by simpa using hk)]
  simp [putRow, mapBlock, Sort.ahead, Array.getElem?_modify, Ne.symm h]
theorem putCells_get {cur : Array Value} {m : List Int} {i : Nat} (hi : i < m.length) (hc : i < cur.size) : (putCells (Value.int .i64) 0 m.toArray cur)[i]? = some (.int .i64 (m.getD i 0)) := by
  unfold putCells
  rw [Array.getElem?_mapIdx]
  simp [hc, hi]
end Go.Ch

namespace Go.Ch
open Go Go.Ax Go.Proofs Go.Proofs.Try
set_option maxRecDepth 100000
set_option pp.maxSteps 400
set_option maxHeartbeats 1000000

theorem countP_notin {n i : Nat} {sn : List Nat} (hi : i < n) (h : i ∉ sn) : ((List.range n).countP fun k => !(i :: sn).contains k) + 1 ≤ (List.range n).countP fun k => !sn.contains k := by
  refine countP_drop (fun k _ hk => ?_) ⟨i, List.mem_range.2 hi, by simpa using h, by simp⟩
  simp at hk ⊢
  exact hk.2
theorem nodup_len {n : Nat} {sn : List Nat} (h : sn.Nodup) (hlt : ∀ i ∈ sn, i < n) : sn.length ≤ n := by
  have hp : sn.Perm ((List.range n).filter fun i => sn.contains i) := (List.perm_ext_iff_of_nodup h (List.Pairwise.filter _ List.nodup_range)).2 fun i => by
    simp only [List.mem_filter, List.mem_range, List.contains_iff_mem]
    exact ⟨fun hi => ⟨hlt i hi, hi⟩, fun hi => hi.2⟩
  have := hp.length_eq
  have h2 := List.length_filter_le (fun i => sn.contains i) (List.range n)
  rw [List.length_range] at h2
  omega
def outK (b : List (Int × Int)) (sn : List Nat) : List Int := sn.reverse.map (keyAt b)
theorem outK_cons {b : List (Int × Int)} {i : Nat} {sn : List Nat} : outK b (i :: sn) = outK b sn ++ [keyAt b i] := by simp [outK]
abbrev lvS1 (g : Grid) (i : Nat) : St := ⟨[(1, .s (.ptr 1 0)), (3, .s (.mp 8)), (10, vInts g.levels), (11, vI g.levels.length), (12, vI i)], [(1, some (gridB g)), (8, some (.map .bool (lvF g.levels i)))]⟩
abbrev lvS2 (b : List (Int × Int)) (sn : List Nat) : St := ⟨[(24, .s (.ptr 24 0)), (6, .s (.mo (outK b sn).isEmpty 100))], [(8, some (.map .bool b)), (24, some (.iter 8 b.length sn)), (100, some (.mrow 3 (outK b sn).length 1 (intEl (outK b sn))))]⟩
end Go.Ch

namespace Go.Ch
open Go Go.Ax Go.Proofs Go.Proofs.Try
set_option maxRecDepth 100000
set_option pp.maxSteps 400
set_option maxHeartbeats 1000000

abbrev intF (h : Nat → Int) : Nat → Nat → DV := fun i _ => dI (h i)
def snocF (h : Nat → Int) (n : Nat) (x : Int) : Nat → Int := fun i => if i < n then h i else x
theorem LeBx.snocI {n m : Nat} {h : Nat → Int} {g : Nat → Nat → DV} {x : Int} (hg : g 0 0 = dI x) (hm : n + 1 = m) : LeBx (.row 3 (n + 1) 1 (catF n (intF h) g)) (.row 3 m 1 (intF (snocF h n x))) := by
  refine LeBx.row hm fun i j hi hj => LeD.of_eq ?_
  obtain rfl : j = 0 := by omega
  unfold catF
  show _ = dI (if i < n then h i else x)
  by_cases e : i < n
  · rw [if_pos e, if_pos e]
  · rw [if_neg e, if_neg e, show i - n = 0 by omega]; exact hg
theorem and_right {a b : Bool} (h : gpol true (a && b) = true) : b = true := by
  have h : (a && b) = true := h
  simp only [Bool.and_eq_true] at h
  exact h.2
theorem or_right {a b : Bool} (h : gpol false (a || !b) = true) : b = true := by
  have h : (!(a || !b)) = true := h
  cases b with
  | true => rfl
  | false => simp at h
theorem wayL_eq {n : Nat} {ok : Int → Bool} {nr : Int → List Int} {fr to : List Int} {s : BS} (h : searchL ok nr to n (fr.foldl (seedS ok) ([], [])) = s) : wayL n ok nr fr to = match s.2 with | [] => [] | i :: _ => (backL s.1 s.1.length i [i]).reverse := by
  subst h; rfl
theorem searchL_nil {ok : Int → Bool} {nr : Int → List Int} {to : List Int} {b : List (Int × Int)} : ∀ {m : Nat}, searchL ok nr to m (b, []) = (b, [])
  | 0 => rfl
  | _ + 1 => rfl
theorem nearL_len {g : Grid} {i : Int} : (nearL g i).length ≤ 4 := by
  have l1 := len1 (b := decide (i ≥ g.cols)) (x := i - g.cols)
  have l2 := len1 (b := decide (i % g.cols > 0)) (x := i - 1)
  have l3 := len1 (b := decide (i % g.cols < g.cols - 1)) (x := i + 1)
  have l4 := len1 (b := decide (i + g.cols < g.levels.length)) (x := i + g.cols)
  unfold nearL
  simp only [List.length_append]
  omega
theorem intRow1 {l : List Int} : RowIs 1 l.length (intEl l) (fun x _ => dI x) l := ⟨rfl, fun _ _ _ _ => rfl⟩
def okMost (g : Grid) (most : Int) (i : Int) : Bool := knownG g i && decide (levelAt g i ≤ most)
theorem okMost_known {g : Grid} {most i : Int} (h : okMost g most i = true) : there g i = true := by
  unfold okMost knownG at h
  simp only [Bool.and_eq_true] at h
  exact h.1.1
end Go.Ch

namespace Go.Ch
open Go Go.Ax Go.Proofs Go.Proofs.Try
set_option maxRecDepth 100000
set_option pp.maxSteps 400
set_option maxHeartbeats 1000000
set_option linter.unusedVariables false

abbrev wayClear0 (g : Grid) (most : Int) : St := ⟨[(10, .s (.d (.val (.slice none 0 0))))], [(1001, some (gridB g)), (1002, some (.cells [.d (dI most)]))]⟩
abbrev wayClear5 (g : Grid) (most : Int) (b : List (Int × Int)) (i : Int) (out : List Int) : St := ⟨[(9, .s (.mp 22)), (20, .s (.own 200)), (21, vI i)], [(1001, some (gridB g)), (1002, some (.cells [.d (dI most)])), (22, some (.map .int b)), (200, some (.row 3 out.length 1 (intEl out)))]⟩
end Go.Ch

namespace Go.Ch
open Go Go.Ax Go.Proofs Go.Proofs.Try
set_option maxRecDepth 100000
set_option pp.maxSteps 400
set_option maxHeartbeats 1000000

structure WayV where
  fr : List Int
  to : List Int
  level : Int
  path : List Int
  bar : List Int
  deriving Inhabited
abbrev wayB (q : WayV) : Box := .cells [.d (dInts q.fr), .d (dInts q.to), .d (dI q.level), .d (dInts q.path), .d (dInts q.bar)]
abbrev wayA (q : WayV) : AV := .g [.d (dInts q.fr), .d (dInts q.to), .d (dI q.level), .d (dInts q.path), .d (dInts q.bar)]
def okFree (g : Grid) (bar : List Int) (i : Int) : Bool := knownG g i && !bar.contains i
theorem okFree_known {g : Grid} {bar : List Int} {i : Int} (h : okFree g bar i = true) : there g i = true := by
  unfold okFree knownG at h
  simp only [Bool.and_eq_true] at h
  exact h.1.1
end Go.Ch

namespace Go.Ch
open Go Go.Ax Go.Proofs Go.Proofs.Try
set_option maxRecDepth 100000
set_option pp.maxSteps 400
set_option maxHeartbeats 1000000
set_option linter.unusedVariables false

abbrev wayCheck0 (g : Grid) (v : WayV) : St := ⟨[(10, .s (.d (.val (.slice none 0 0))))], [(1001, some (wayB v))]⟩
abbrev wayCheck5 (g : Grid) (v : WayV) (b : List (Int × Int)) (i : Int) (out : List Int) : St := ⟨[(9, .s (.mp 22)), (20, .s (.own 200)), (21, vI i)], [(1001, some (wayB v)), (22, some (.map .int b)), (200, some (.row 3 out.length 1 (intEl out)))]⟩
end Go.Ch

namespace Go.Ch
open Go Go.Ax Go.Proofs Go.Proofs.Try
set_option maxRecDepth 100000
set_option pp.maxSteps 400
set_option maxHeartbeats 1000000

/-- The cells of a barrier among the first i ones. -/
def barC (g : Grid) (m : Int) (k : Nat) : Bool := g.levels.getD k 0 != 30000 && decide (g.levels.getD k 0 ≥ m)
def barL (g : Grid) (m : Int) (i : Nat) : List Int := (List.range i).filterMap fun k => bif barC g m k then some (k : Int) else none
theorem barL_succ (g : Grid) (m : Int) (i : Nat) : barL g m (i + 1) = barL g m i ++ (bif barC g m i then [(i : Int)] else []) := by
  unfold barL
  rw [filterMap_range_succ]
  cases barC g m i <;> rfl
theorem barL_len (g : Grid) (m : Int) : ∀ i, (barL g m i).length ≤ i
  | 0 => Nat.le_refl _
  | i + 1 => by
    rw [barL_succ, List.length_append]
    have := barL_len g m i
    have := len1 (b := barC g m i) (x := (i : Int))
    omega
abbrev RouteR := Int × List Int × List Int × Int
def wayM (g : Grid) (m : Int) (fr to : List Int) : List Int := wayL g.levels.length (okMost g m) (nearL g) fr to
def clearL (g : Grid) (fr to : List Int) : List Int → RouteR
  | [] => (0, [], [], 11)
  | m :: r => bif (wayM g m fr to).isEmpty then clearL g fr to r else (m, wayM g m fr to, barL g m g.levels.length, 0)
def clearG (g : Grid) (fr to : List Int) : RouteR := bif endsG g fr to != 0 then (0, [], [], endsG g fr to) else clearL g fr to (levelsL g.levels)
abbrev rRoute (r : RouteR) : AV := .t [.g [.d (dI r.1), .d (dInts r.2.1), .d (dInts r.2.2.1)], .s (.d (dI r.2.2.2))]
abbrev nilS : SV := .d (.val (.slice none 0 0))
theorem rRoute_nil {e e' : Int} (h : e = e') : SubR (.t [.g [.d (dI 0), nilS, nilS], .s (.d (dI e))]) (rRoute (0, [], [], e')) := by
  subst h
  exact SubR.t ⟨⟨LeD.refl _, LeD.nil, LeD.nil, trivial⟩, LeD.refl _, trivial⟩
theorem endsG_zero {g : Grid} {fr to : List Int} (h : endsG g fr to = 0) : errG g = 0 ∧ fr.isEmpty = false ∧ to.isEmpty = false ∧ ∀ i ∈ fr ++ to, there g i = true := by
  unfold endsG at h
  cases h1 : errG g != 0 with
  | true => rw [h1, cond_true] at h; simp [h] at h1
  | false =>
    rw [h1, cond_false] at h
    refine ⟨by simpa using h1, ?_⟩
    cases h2 : fr.isEmpty || to.isEmpty with
    | true => rw [h2, cond_true] at h; cases h
    | false =>
      rw [h2, cond_false] at h
      rw [Bool.or_eq_false_iff] at h2
      refine ⟨h2.1, h2.2, ?_⟩
      unfold endsErr at h
      cases h3 : (fr ++ to).all (there g) with
      | false => rw [h3] at h; cases h
      | true => rw [List.all_eq_true] at h3; exact h3
abbrev clS (g : Grid) (fr to ls : List Int) (i : Nat) : St := ⟨[(3, .s (.ptr 3 0)), (1, vInts fr), (2, vInts to), (6, .s (.ptr 6 0)), (24, vInts ls), (25, vI ls.length), (26, vI i)], [(3, some (gridB g)), (6, some (.cells [.d (dI 0), nilS, nilS]))]⟩
abbrev clS2 (g : Grid) (m : Int) (p : List Int) (i : Nat) : St := ⟨[(3, .s (.ptr 3 0)), (10, .s (.ptr 10 0)), (6, .s (.ptr 6 0)), (12, .s (.ptr 12 0)), (42, vInts g.levels), (43, vI g.levels.length), (44, vI i)],
  [(3, some (gridB g)), (10, some (.cells [.d (dI m)])), (6, some (.cells [.d (dI 0), nilS, nilS])), (12, some (.cells [.d (dI m), .d (dInts p), .mo (barL g m i).isEmpty 100])), (100, some (.mrow 3 (barL g m i).length 1 (intEl (barL g m i))))]⟩
end Go.Ch

namespace Go.Ch
open Go Go.Ax Go.Proofs Go.Proofs.Try
set_option maxRecDepth 100000
set_option pp.maxSteps 400
set_option maxHeartbeats 1000000

def wayBad (g : Grid) (l : List Int) (k : Nat) : Bool := !knownG g (l.getD k 0) || (decide ((k : Int) > 0) && !(nearL g (l.getD (k - 1) 0)).contains (l.getD k 0))
def wayRest (g : Grid) (l : List Int) : Nat → Nat → Int → Int × Bool
  | 0, _, h => (h, true)
  | n + 1, k, h => bif wayBad g l k then (0, false) else wayRest g l n (k + 1) (mm true h (levelAt g (l.getD k 0)))
def isWayG (g : Grid) (q : WayV) : Int × Bool :=
  bif (q.path.isEmpty || !q.fr.contains (q.path.getD 0 0)) || !q.to.contains (q.path.getD (q.path.length - 1) 0) then (0, false) else wayRest g q.path q.path.length 0 (-20000)
abbrev rIW (r : Int × Bool) : AV := .t [.s (.d (dI r.1)), .s (.d (.val (.bool r.2)))]
structure WayV.sm (q : WayV) : Prop where
  fr : q.fr.length ≤ 1000
  to : q.to.length ≤ 1000
  path : q.path.length ≤ 1000000
  bar : q.bar.length ≤ 1000000
theorem LeDlit {b : Bool} : LeD (.lit b) (.val (.bool b)) := fun _ _ r => r
end Go.Ch

namespace Go.Ch
open Go Go.Ax Go.Proofs Go.Proofs.Try
set_option maxRecDepth 100000
set_option pp.maxSteps 400
set_option maxHeartbeats 1000000

def barBad (g : Grid) (h : Int) (i : Int) : Bool := !knownG g i || decide (levelAt g i < h)
def wayF (g : Grid) (q : WayV) : List Int := wayL g.levels.length (okFree g q.bar) (nearL g) q.fr q.to
def checkG (g : Grid) (q : WayV) : Int :=
  bif endsG g q.fr q.to != 0 then endsG g q.fr q.to else
  bif !(isWayG g q).2 || ((isWayG g q).1 != q.level) then 21 else
  bif q.bar.any (barBad g (isWayG g q).1) then 21 else
  bif !(wayF g q).isEmpty then 21 else 0
end Go.Ch

namespace Go.Ch
open Go Go.Ax Go.Proofs Go.Proofs.Try
set_option maxRecDepth 100000
set_option pp.maxSteps 400
set_option maxHeartbeats 1000000

def smallG : Grid := ⟨0, 0, 100, 3, 2, [-500, -300, -400, -600, 30000, -450]⟩
def afterG : Grid := ⟨0, 0, 100, 3, 2, [-500, -500, -350, -600, -700, -450]⟩
def smallW : WayV := ⟨[3], [5], -300, [3, 0, 1, 2, 5], [1]⟩
theorem smallG_ok : smallG.ok := by
  refine ⟨by decide, by decide, by decide, by decide, by decide, by decide, ?_⟩
  intro a ha
  simp only [smallG, List.mem_cons, List.not_mem_nil, or_false] at ha
  rcases ha with rfl | rfl | rfl | rfl | rfl | rfl <;> decide
theorem afterG_ok : afterG.ok := by
  refine ⟨by decide, by decide, by decide, by decide, by decide, by decide, ?_⟩
  intro a ha
  simp only [afterG, List.mem_cons, List.not_mem_nil, or_false] at ha
  rcases ha with rfl | rfl | rfl | rfl | rfl | rfl <;> decide
theorem sortI_eq {l m : List Int} (h : l.Perm m) (hm : m.Pairwise (fun a b => a ≤ b)) : sortI l = m :=
  List.Perm.eq_of_pairwise (le := fun a b => a ≤ b) (fun a b _ _ h1 h2 => by omega) (sortI_pw l) hm ((List.mergeSort_perm l _).trans h)
theorem levels_small : levelsL smallG.levels = [-600, -500, -450, -400, -300] := sortI_eq (by decide) (by decide)
theorem clear_small : clearG smallG [3] [5] = (-300, [3, 0, 1, 2, 5], [1], 0) := by
  unfold clearG
  rw [levels_small]
  decide +kernel
theorem check_small : checkG smallG smallW = 0 := by decide +kernel
theorem cmp_small : cmpR smallG afterG = (⟨2000000, 500000, 1⟩, 0) := by kernel_rfl
theorem one1 {x : Int} {f : Nat → Nat → DV} (h : f 0 0 = dI x := by rfl) : LeD (.slc 1 1 f) (dInts [x]) := LeD.slc fun i j hi hj => by
  obtain rfl : i = 0 := by omega
  obtain rfl : j = 0 := by omega
  exact LeD.of_eq h
end Go.Ch

namespace Go.Ch
open Go Go.Ax Go.Proofs Go.Proofs.Try
set_option maxRecDepth 100000
set_option pp.maxSteps 400
set_option maxHeartbeats 1000000

def withG (g : Grid) (lv : Nat → Int) : Grid := ⟨g.x, g.y, g.side, g.cols, g.rows, (List.range g.levels.length).map lv⟩
def wF (lv : Nat → Int) (i : Nat) : Nat → Nat → DV := fun k _ => if k < i then dI (lv k) else dI 0
def blankG (g : Grid) : Grid × Int := bif errG g != 0 then (zeroG, errG g) else (withG g fun _ => 30000, 0)
theorem GVal.pos {g : Grid} (h : GVal g) : 0 < g.levels.length := by
  have h1 := h.len
  have h2 := h.cols
  have h3 := h.rows
  have : 0 < g.cols * g.rows := Int.mul_pos (by omega) (by omega)
  omega
end Go.Ch

namespace Go.Ch
open Go Go.Ax Go.Proofs Go.Proofs.Try
set_option maxRecDepth 100000
set_option pp.maxSteps 400
set_option maxHeartbeats 1000000

theorem alike_with (g : Grid) (lv : Nat → Int) : alike (withG g lv) g = true := by
  unfold alike withG
  simp
end Go.Ch

namespace Go.Ch
open Go Go.Ax Go.Proofs Go.Proofs.Try
set_option maxRecDepth 100000
set_option pp.maxSteps 400
set_option maxHeartbeats 1000000

def abS (g : Grid) (lv : Int) (s : Int × Int) (i : Nat) : Int × Int :=
  bif g.levels.getD i 0 != 30000 && decide (g.levels.getD i 0 > lv) then (w64 (s.1 + w64 (w64 (g.side * g.side) * w64 (g.levels.getD i 0 - lv))), w64 (s.2 + 1)) else s
def abF (g : Grid) (lv : Int) : Nat → Int × Int
  | 0 => (0, 0)
  | i + 1 => abS g lv (abF g lv i) i
def aboveG (g : Grid) (lv : Int) : Int × Int × Int :=
  bif errG g != 0 then (0, 0, errG g) else bif !within lv (-20000) 20000 then (0, 0, 2) else ((abF g lv g.levels.length).1, (abF g lv g.levels.length).2, 0)
theorem knownF_in {g : Grid} {i : Nat} (hi : i < g.levels.length) : knownF g i = (g.levels.getD i 0 != 30000) := by
  unfold knownF
  rw [decide_eq_true (show (i : Int) ≥ 0 by omega), decide_eq_true (show (i : Int) < g.levels.length by omega)]
  rfl
end Go.Ch

namespace Go.Ch
open Go Go.Ax Go.Proofs Go.Proofs.Try
set_option maxRecDepth 100000
set_option pp.maxSteps 400
set_option maxHeartbeats 1000000

def gD6 (g : Grid) : Nat → DV
  | 0 => dI g.x
  | 1 => dI g.y
  | 2 => dI g.side
  | 3 => dI g.cols
  | 4 => dI g.rows
  | 5 => dInts g.levels
  | _ => .junk
theorem six {p : Nat → Prop} (h0 : p 0) (h1 : p 1) (h2 : p 2) (h3 : p 3) (h4 : p 4) (h5 : p 5) : ∀ j, j < 6 → p j := fun j hj => by
  match j, hj with
  | 0, _ => exact h0
  | 1, _ => exact h1
  | 2, _ => exact h2
  | 3, _ => exact h3
  | 4, _ => exact h4
  | 5, _ => exact h5
def latP (a b : Grid) (i : Nat) : Int := bif b.levels.getD i 0 != 30000 then b.levels.getD i 0 else a.levels.getD i 0
def shoP (a b : Grid) (i : Nat) : Int := bif !(b.levels.getD i 0 != 30000) then a.levels.getD i 0 else bif !(a.levels.getD i 0 != 30000) then b.levels.getD i 0 else mm true (a.levels.getD i 0) (b.levels.getD i 0)
theorem two_le {a b : Grid} {i : Nat} {f h : Nat → DV} (hf : ∀ j, j < 6 → f j = gD6 b j) (hh : ∀ j, j < 6 → h j = gD6 a j) :
    LeAs [vI i, .s (.d (.rp 6 f)), .s (.d (.rp 6 h))] [vI i, .s (.d (.rp 6 (gD6 b))), .s (.d (.rp 6 (gD6 a)))] :=
  ⟨LeD.refl _, LeD.rp fun j hj => LeD.of_eq (hf j hj), LeD.rp fun j hj => LeD.of_eq (hh j hj), trivial⟩
def latestG (a b : Grid) : Grid × Int := bif err2 a b != 0 then (zeroG, err2 a b) else (withG a (latP a b), 0)
def shoalG (a b : Grid) : Grid × Int := bif err2 a b != 0 then (zeroG, err2 a b) else (withG a (shoP a b), 0)
end Go.Ch

namespace Go.Ch
open Go Go.Ax Go.Proofs Go.Proofs.Try
set_option maxRecDepth 100000
set_option pp.maxSteps 400
set_option maxHeartbeats 1000000

def laQ (a b : Grid) (i : Nat) : Int := bif b.levels.getD i 0 == 30000 then a.levels.getD i 0 else b.levels.getD i 0
def laH (a b : Grid) (k : Nat) : Nat → Int := fun j => if j < k then laQ a b j else b.levels.getD j 0
theorem laH_zero {a b : Grid} {j : Nat} : laH a b 0 j = b.levels.getD j 0 := if_neg (Nat.not_lt_zero j)
theorem laH_done {a b : Grid} {k j : Nat} (h : j < k) : laH a b k j = laQ a b j := if_pos h
theorem laH_new {a b : Grid} {k : Nat} (h : b.levels.getD k 0 = 30000) : laH a b (k + 1) k = a.levels.getD k 0 := by
  rw [laH_done (Nat.lt_succ_self k)]; unfold laQ; rw [h]; rfl
theorem laH_keep {a b : Grid} {k : Nat} (h : b.levels.getD k 0 ≠ 30000) : laH a b (k + 1) k = laH a b k k := by
  rw [laH_done (Nat.lt_succ_self k)]; unfold laQ laH
  rw [if_neg (Nat.lt_irrefl k), beq_eq_false_iff_ne.2 h]; rfl
theorem laH_old {a b : Grid} {k j : Nat} (h : j ≠ k) : laH a b (k + 1) j = laH a b k j := by
  unfold laH
  by_cases e : j < k
  · rw [if_pos e, if_pos (by omega)]
  · rw [if_neg e, if_neg (by omega)]
def shQ (a b : Grid) (i : Nat) : Int := bif a.levels.getD i 0 != 30000 && decide (a.levels.getD i 0 > laQ a b i) then a.levels.getD i 0 else laQ a b i
def shH (a b : Grid) (k : Nat) : Nat → Int := fun j => if j < k then shQ a b j else laH a b b.levels.length j
theorem shH_old {a b : Grid} {k j : Nat} (h : j ≠ k) : shH a b (k + 1) j = shH a b k j := by
  unfold shH
  by_cases e : j < k
  · rw [if_pos e, if_pos (by omega)]
  · rw [if_neg e, if_neg (by omega)]
end Go.Ch

namespace Go.Ch
open Go Go.Ax Go.Proofs Go.Proofs.Try
set_option maxRecDepth 100000
set_option pp.maxSteps 400
set_option maxHeartbeats 1000000

theorem sameC_eq {a b : Grid} (h : sameC a b = true) : a.x = b.x ∧ a.y = b.y ∧ a.side = b.side ∧ a.cols = b.cols ∧ a.rows = b.rows := by
  unfold sameC at h
  simpa using h
theorem withG_eq {a b : Grid} {f h : Nat → Int} (hs : sameC a b = true) (hl : b.levels.length = a.levels.length) (hf : ∀ i, i < a.levels.length → f i = h i) : withG a f = withG b h := by
  obtain ⟨h1, h2, h3, h4, h5⟩ := sameC_eq hs
  unfold withG
  rw [h1, h2, h3, h4, h5, hl]
  congr 1
  exact List.map_congr_left fun i hi => hf i (List.mem_range.1 hi)
set_option linter.unusedSimpArgs false
theorem lat_eq {a b : Grid} (i : Nat) : latP a b i = laQ a b i := by
  unfold latP laQ
  generalize a.levels.getD i 0 = x
  generalize b.levels.getD i 0 = y
  by_cases hb : y = 30000
  · have hb1 : (y == 30000) = true := beq_iff_eq.2 hb
    have hb2 : (y != 30000) = false := by rw [bne, hb1]; rfl
    by_cases ha : x = 30000
    · have ha1 : (x == 30000) = true := beq_iff_eq.2 ha
      have ha2 : (x != 30000) = false := by rw [bne, ha1]; rfl
      simp only [ha1, ha2, hb1, hb2, cond_true, cond_false, Bool.not_true, Bool.not_false, Bool.true_and, Bool.false_and, Bool.false_or, Bool.or_false]
      try (first | rfl | omega | (simp; done) | (simp; omega))
    · have ha1 : (x == 30000) = false := beq_eq_false_iff_ne.2 ha
      have ha2 : (x != 30000) = true := by rw [bne, ha1]; rfl
      simp only [ha1, ha2, hb1, hb2, cond_true, cond_false, Bool.not_true, Bool.not_false, Bool.true_and, Bool.false_and, Bool.false_or, Bool.or_false]
      try (first | rfl | omega | (simp; done) | (simp; omega))
  · have hb1 : (y == 30000) = false := beq_eq_false_iff_ne.2 hb
    have hb2 : (y != 30000) = true := by rw [bne, hb1]; rfl
    by_cases ha : x = 30000
    · have ha1 : (x == 30000) = true := beq_iff_eq.2 ha
      have ha2 : (x != 30000) = false := by rw [bne, ha1]; rfl
      simp only [ha1, ha2, hb1, hb2, cond_true, cond_false, Bool.not_true, Bool.not_false, Bool.true_and, Bool.false_and, Bool.false_or, Bool.or_false]
      try (first | rfl | omega | (simp; done) | (simp; omega))
    · have ha1 : (x == 30000) = false := beq_eq_false_iff_ne.2 ha
      have ha2 : (x != 30000) = true := by rw [bne, ha1]; rfl
      simp only [ha1, ha2, hb1, hb2, cond_true, cond_false, Bool.not_true, Bool.not_false, Bool.true_and, Bool.false_and, Bool.false_or, Bool.or_false]
      try (first | rfl | omega | (simp; done) | (simp; omega))
theorem sho_eq {a b : Grid} (i : Nat) : shoP a b i = shQ a b i := by
  unfold shoP shQ laQ mm
  generalize a.levels.getD i 0 = x
  generalize b.levels.getD i 0 = y
  by_cases hb : y = 30000
  · have hb1 : (y == 30000) = true := beq_iff_eq.2 hb
    have hb2 : (y != 30000) = false := by rw [bne, hb1]; rfl
    by_cases ha : x = 30000
    · have ha1 : (x == 30000) = true := beq_iff_eq.2 ha
      have ha2 : (x != 30000) = false := by rw [bne, ha1]; rfl
      simp only [ha1, ha2, hb1, hb2, cond_true, cond_false, Bool.not_true, Bool.not_false, Bool.true_and, Bool.false_and, Bool.false_or, Bool.or_false]
      try (first | rfl | omega | (simp; done) | (simp; omega))
    · have ha1 : (x == 30000) = false := beq_eq_false_iff_ne.2 ha
      have ha2 : (x != 30000) = true := by rw [bne, ha1]; rfl
      simp only [ha1, ha2, hb1, hb2, cond_true, cond_false, Bool.not_true, Bool.not_false, Bool.true_and, Bool.false_and, Bool.false_or, Bool.or_false]
      try (first | rfl | omega | (simp; done) | (simp; omega))
  · have hb1 : (y == 30000) = false := beq_eq_false_iff_ne.2 hb
    have hb2 : (y != 30000) = true := by rw [bne, hb1]; rfl
    by_cases ha : x = 30000
    · have ha1 : (x == 30000) = true := beq_iff_eq.2 ha
      have ha2 : (x != 30000) = false := by rw [bne, ha1]; rfl
      simp only [ha1, ha2, hb1, hb2, cond_true, cond_false, Bool.not_true, Bool.not_false, Bool.true_and, Bool.false_and, Bool.false_or, Bool.or_false]
      try (first | rfl | omega | (simp; done) | (simp; omega))
    · have ha1 : (x == 30000) = false := beq_eq_false_iff_ne.2 ha
      have ha2 : (x != 30000) = true := by rw [bne, ha1]; rfl
      simp only [ha1, ha2, hb1, hb2, cond_true, cond_false, Bool.not_true, Bool.not_false, Bool.true_and, Bool.false_and, Bool.false_or, Bool.or_false]
      by_cases h : x > y
      · rw [decide_eq_true h, cond_true, if_neg (by omega)]
      · rw [decide_eq_false h, cond_false]
        split <;> omega
theorem sho_comm {a b : Grid} (i : Nat) : shoP a b i = shoP b a i := by
  unfold shoP mm
  generalize a.levels.getD i 0 = x
  generalize b.levels.getD i 0 = y
  by_cases hb : y = 30000
  · have hb1 : (y == 30000) = true := beq_iff_eq.2 hb
    have hb2 : (y != 30000) = false := by rw [bne, hb1]; rfl
    by_cases ha : x = 30000
    · have ha1 : (x == 30000) = true := beq_iff_eq.2 ha
      have ha2 : (x != 30000) = false := by rw [bne, ha1]; rfl
      simp only [ha1, ha2, hb1, hb2, cond_true, cond_false, Bool.not_true, Bool.not_false, Bool.true_and, Bool.false_and, Bool.false_or, Bool.or_false]
      try (first | rfl | omega | (simp; done) | (simp; omega))
    · have ha1 : (x == 30000) = false := beq_eq_false_iff_ne.2 ha
      have ha2 : (x != 30000) = true := by rw [bne, ha1]; rfl
      simp only [ha1, ha2, hb1, hb2, cond_true, cond_false, Bool.not_true, Bool.not_false, Bool.true_and, Bool.false_and, Bool.false_or, Bool.or_false]
      try (first | rfl | omega | (simp; done) | (simp; omega))
  · have hb1 : (y == 30000) = false := beq_eq_false_iff_ne.2 hb
    have hb2 : (y != 30000) = true := by rw [bne, hb1]; rfl
    by_cases ha : x = 30000
    · have ha1 : (x == 30000) = true := beq_iff_eq.2 ha
      have ha2 : (x != 30000) = false := by rw [bne, ha1]; rfl
      simp only [ha1, ha2, hb1, hb2, cond_true, cond_false, Bool.not_true, Bool.not_false, Bool.true_and, Bool.false_and, Bool.false_or, Bool.or_false]
      try (first | rfl | omega | (simp; done) | (simp; omega))
    · have ha1 : (x == 30000) = false := beq_eq_false_iff_ne.2 ha
      have ha2 : (x != 30000) = true := by rw [bne, ha1]; rfl
      simp only [ha1, ha2, hb1, hb2, cond_true, cond_false, Bool.not_true, Bool.not_false, Bool.true_and, Bool.false_and, Bool.false_or, Bool.or_false]
      split <;> split <;> omega
theorem sho_ge {a b : Grid} (i : Nat) : ((a.levels.getD i 0 != 30000 && decide (shoP a b i < a.levels.getD i 0)) || (b.levels.getD i 0 != 30000 && decide (shoP a b i < b.levels.getD i 0))) = false := by
  unfold shoP mm
  generalize a.levels.getD i 0 = x
  generalize b.levels.getD i 0 = y
  by_cases hb : y = 30000
  · have hb1 : (y == 30000) = true := beq_iff_eq.2 hb
    have hb2 : (y != 30000) = false := by rw [bne, hb1]; rfl
    by_cases ha : x = 30000
    · have ha1 : (x == 30000) = true := beq_iff_eq.2 ha
      have ha2 : (x != 30000) = false := by rw [bne, ha1]; rfl
      simp only [ha1, ha2, hb1, hb2, cond_true, cond_false, Bool.not_true, Bool.not_false, Bool.true_and, Bool.false_and, Bool.false_or, Bool.or_false]
      try (first | rfl | omega | (simp; done) | (simp; omega))
    · have ha1 : (x == 30000) = false := beq_eq_false_iff_ne.2 ha
      have ha2 : (x != 30000) = true := by rw [bne, ha1]; rfl
      simp only [ha1, ha2, hb1, hb2, cond_true, cond_false, Bool.not_true, Bool.not_false, Bool.true_and, Bool.false_and, Bool.false_or, Bool.or_false]
      try (first | rfl | omega | (simp; done) | (simp; omega))
  · have hb1 : (y == 30000) = false := beq_eq_false_iff_ne.2 hb
    have hb2 : (y != 30000) = true := by rw [bne, hb1]; rfl
    by_cases ha : x = 30000
    · have ha1 : (x == 30000) = true := beq_iff_eq.2 ha
      have ha2 : (x != 30000) = false := by rw [bne, ha1]; rfl
      simp only [ha1, ha2, hb1, hb2, cond_true, cond_false, Bool.not_true, Bool.not_false, Bool.true_and, Bool.false_and, Bool.false_or, Bool.or_false]
      try (first | rfl | omega | (simp; done) | (simp; omega))
    · have ha1 : (x == 30000) = false := beq_eq_false_iff_ne.2 ha
      have ha2 : (x != 30000) = true := by rw [bne, ha1]; rfl
      simp only [ha1, ha2, hb1, hb2, cond_true, cond_false, Bool.not_true, Bool.not_false, Bool.true_and, Bool.false_and, Bool.false_or, Bool.or_false]
      rw [Bool.or_eq_false_iff, decide_eq_false_iff_not, decide_eq_false_iff_not]
      split <;> omega
theorem sameC_symm {a b : Grid} (h : sameC a b = true) : sameC b a = true := by
  obtain ⟨h1, h2, h3, h4, h5⟩ := sameC_eq h
  unfold sameC
  simp [h1, h2, h3, h4, h5]
theorem withG_len {g : Grid} {f : Nat → Int} : (withG g f).levels.length = g.levels.length := by simp [withG]
end Go.Ch

namespace Go.Ch
open Go Go.Ax Go.Proofs Go.Proofs.Try
set_option maxRecDepth 100000
set_option pp.maxSteps 400
set_option maxHeartbeats 1000000

/-- The cell of a place. -/
def outG (g : Grid) (p : Pt) : Bool := ((decide (p.x < g.x) || decide (p.y < g.y)) || decide (p.x ≥ g.x + g.cols * g.side)) || decide (p.y ≥ g.y + g.rows * g.side)
def cellI (g : Grid) (p : Pt) : Int := bif outG g p then -1 else (p.y - g.y) / g.side * g.cols + (p.x - g.x) / g.side
/-- A cell contains a place. -/
def mtC (g : Grid) (p : Pt) (i : Nat) : Bool :=
  ((decide (p.x ≥ g.x + (i : Int) % g.cols * g.side) && decide (p.x < g.x + (i : Int) % g.cols * g.side + g.side)) && decide (p.y ≥ g.y + (i : Int) / g.cols * g.side)) && decide (p.y < g.y + (i : Int) / g.cols * g.side + g.side)
theorem div_range {a s q : Int} (hs : 0 < s) : (q * s ≤ a ∧ a < q * s + s) ↔ a / s = q := by
  constructor
  · rintro ⟨h1, h2⟩
    have e1 : q ≤ a / s := (Int.le_ediv_iff_mul_le hs).2 h1
    have e2 : a / s < q + 1 := (Int.ediv_lt_iff_lt_mul hs).2 (by rw [Int.add_mul, Int.one_mul]; exact h2)
    omega
  · rintro rfl
    have h1 := Int.ediv_mul_le a (show s ≠ 0 by omega)
    have h2 := Int.lt_ediv_add_one_mul_self a hs
    rw [Int.add_mul, Int.one_mul] at h2
    exact ⟨h1, h2⟩
theorem mtC_iff {g : Grid} (hg : GVal g) {p : Pt} {i : Nat} : mtC g p i = true ↔ (p.x - g.x) / g.side = (i : Int) % g.cols ∧ (p.y - g.y) / g.side = (i : Int) / g.cols := by
  have hs := hg.side
  unfold mtC
  simp only [Bool.and_eq_true, decide_eq_true_eq]
  rw [← div_range (a := p.x - g.x) (q := (i : Int) % g.cols) (show 0 < g.side by omega), ← div_range (a := p.y - g.y) (q := (i : Int) / g.cols) (show 0 < g.side by omega)]
  constructor
  · rintro ⟨⟨⟨h1, h2⟩, h3⟩, h4⟩
    exact ⟨⟨by omega, by omega⟩, by omega, by omega⟩
  · rintro ⟨⟨h1, h2⟩, h3, h4⟩
    exact ⟨⟨⟨by omega, by omega⟩, by omega⟩, by omega⟩
theorem ij_range {g : Grid} (hg : GVal g) {i : Nat} (hi : i < g.levels.length) : 0 ≤ (i : Int) % g.cols ∧ (i : Int) % g.cols < g.cols ∧ 0 ≤ (i : Int) / g.cols ∧ (i : Int) / g.cols < g.rows := by
  have hc := hg.cols
  refine ⟨Int.emod_nonneg _ (by omega), Int.emod_lt_of_pos _ (by omega), Int.ediv_nonneg (by omega) (by omega), ?_⟩
  refine (Int.ediv_lt_iff_lt_mul (by omega)).2 ?_
  have := hg.len
  rw [Int.mul_comm]; omega
/-- Where the place is in. -/
theorem cellI_in {g : Grid} (hg : GVal g) {p : Pt} (h : outG g p = false) : 0 ≤ cellI g p ∧ cellI g p < g.levels.length ∧ cellI g p % g.cols = (p.x - g.x) / g.side ∧ cellI g p / g.cols = (p.y - g.y) / g.side ∧
    0 ≤ (p.x - g.x) / g.side ∧ (p.x - g.x) / g.side < g.cols ∧ 0 ≤ (p.y - g.y) / g.side ∧ (p.y - g.y) / g.side < g.rows := by
  have hs := hg.side
  have hc := hg.cols
  have hl := hg.len
  have ho := h
  unfold outG at h
  simp only [Bool.or_eq_false_iff, decide_eq_false_iff_not] at h
  obtain ⟨⟨⟨h1, h2⟩, h3⟩, h4⟩ := h
  have q1 : 0 ≤ (p.x - g.x) / g.side := Int.ediv_nonneg (by omega) (by omega)
  have q2 : (p.x - g.x) / g.side < g.cols := (Int.ediv_lt_iff_lt_mul (by omega)).2 (by omega)
  have q3 : 0 ≤ (p.y - g.y) / g.side := Int.ediv_nonneg (by omega) (by omega)
  have q4 : (p.y - g.y) / g.side < g.rows := (Int.ediv_lt_iff_lt_mul (by omega)).2 (by omega)
  have e : cellI g p = (p.y - g.y) / g.side * g.cols + (p.x - g.x) / g.side := by unfold cellI; rw [ho]; rfl
  rw [e]
  generalize (p.x - g.x) / g.side = u at q1 q2 ⊢
  generalize (p.y - g.y) / g.side = v at q3 q4 ⊢
  have m1 : 0 ≤ v * g.cols := Int.mul_nonneg q3 (by omega)
  have m2 : (v + 1) * g.cols ≤ g.rows * g.cols := Int.mul_le_mul_of_nonneg_right (by omega) (by omega)
  rw [Int.add_mul, Int.one_mul, Int.mul_comm g.rows] at m2
  refine ⟨by omega, by omega, ?_, ?_, q1, q2, q3, q4⟩
  · rw [Int.add_comm, Int.add_mul_emod_self_right]
    exact Int.emod_eq_of_lt q1 q2
  · rw [Int.add_comm, Int.add_mul_ediv_right _ _ (by omega), Int.ediv_eq_zero_of_lt q1 q2]; omega
theorem mtC_cell {g : Grid} (hg : GVal g) {p : Pt} {i : Nat} (hi : i < g.levels.length) : mtC g p i = (!outG g p && ((i : Int) == cellI g p)) := by
  have hs := hg.side
  have hr := ij_range hg hi
  rw [Bool.eq_iff_iff, mtC_iff hg]
  cases ho : outG g p with
  | true =>
    simp only [Bool.not_true, Bool.false_and, Bool.false_eq_true, iff_false]
    rintro ⟨e1, e2⟩
    have r1 := (div_range (a := p.x - g.x) (q := (i : Int) % g.cols) (show 0 < g.side by omega)).2 e1
    have r2 := (div_range (a := p.y - g.y) (q := (i : Int) / g.cols) (show 0 < g.side by omega)).2 e2
    have m1 : 0 ≤ (i : Int) % g.cols * g.side := Int.mul_nonneg hr.1 (by omega)
    have m2 : 0 ≤ (i : Int) / g.cols * g.side := Int.mul_nonneg hr.2.2.1 (by omega)
    have m3 : ((i : Int) % g.cols + 1) * g.side ≤ g.cols * g.side := Int.mul_le_mul_of_nonneg_right (by omega) (by omega)
    have m4 : ((i : Int) / g.cols + 1) * g.side ≤ g.rows * g.side := Int.mul_le_mul_of_nonneg_right (by omega) (by omega)
    rw [Int.add_mul, Int.one_mul] at m3 m4
    have : outG g p = false := by
      unfold outG
      simp only [Bool.or_eq_false_iff, decide_eq_false_iff_not]
      exact ⟨⟨⟨by omega, by omega⟩, by omega⟩, by omega⟩
    rw [this] at ho; cases ho
  | false =>
    obtain ⟨c1, c2, c3, c4, _⟩ := cellI_in hg ho
    simp only [Bool.not_false, Bool.true_and, beq_iff_eq]
    rw [← c3, ← c4]
    constructor
    · rintro ⟨e1, e2⟩
      have d1 := Int.emod_add_mul_ediv (i : Int) g.cols
      have d2 := Int.emod_add_mul_ediv (cellI g p) g.cols
      rw [e1, e2] at d2
      omega
    · intro e
      rw [e]; exact ⟨rfl, rfl⟩
end Go.Ch

namespace Go.Ch
open Go Go.Ax Go.Proofs Go.Proofs.Try
set_option maxRecDepth 100000
set_option pp.maxSteps 400
set_option maxHeartbeats 1000000

theorem gw {g : Grid} (hg : GVal g) : w64 (g.cols * g.side) = g.cols * g.side ∧ w64 (g.rows * g.side) = g.rows * g.side ∧ w64 (g.x + g.cols * g.side) = g.x + g.cols * g.side ∧ w64 (g.y + g.rows * g.side) = g.y + g.rows * g.side := by
  have hx := hg.x
  have hy := hg.y
  have hs := hg.side
  have hc := hg.cols
  have hr := hg.rows
  have h1 := hg.right
  have h2 := hg.top
  have m1 : 0 ≤ g.cols * g.side := Int.mul_nonneg (by omega) (by omega)
  have m2 : 0 ≤ g.rows * g.side := Int.mul_nonneg (by omega) (by omega)
  exact ⟨w64_of (by omega) (by omega), w64_of (by omega) (by omega), w64_of (by omega) (by omega), w64_of (by omega) (by omega)⟩
def rcF (g : Grid) (p : Pt) : Nat → Nat → Int
  | 0, _ => -1
  | n + 1, i => bif mtC g p i then (i : Int) else rcF g p n (i + 1)
theorem rcF_eq {g : Grid} (hg : GVal g) {p : Pt} : ∀ n i, i + n = g.levels.length → (outG g p = true ∨ (i : Int) ≤ cellI g p) → rcF g p n i = cellI g p
  | 0, i, h, ho => by
    rw [rcF]
    cases hb : outG g p with
    | true => unfold cellI; rw [hb]; rfl
    | false =>
      have := (cellI_in hg hb).2.1
      rw [hb] at ho
      rcases ho with ho | ho
      · cases ho
      · omega
  | n + 1, i, h, ho => by
    rw [rcF, mtC_cell hg (by omega)]
    cases hb : outG g p with
    | true =>
      rw [Bool.not_true, Bool.false_and, cond_false]
      exact rcF_eq hg n (i + 1) (by omega) (.inl hb)
    | false =>
      rw [hb] at ho
      have ho := ho.resolve_left (fun h => by cases h)
      rw [Bool.not_false, Bool.true_and]
      cases he : (i : Int) == cellI g p with
      | true => rw [cond_true]; exact beq_iff_eq.1 he
      | false =>
        have he := beq_eq_false_iff_ne.1 he
        rw [cond_false]
        exact rcF_eq hg n (i + 1) (by omega) (.inr (by omega))
theorem mw {g : Grid} (hg : GVal g) {i : Nat} (hi : i < g.levels.length) : w64 (g.x + w64 ((i : Int).tmod g.cols * g.side)) = g.x + (i : Int) % g.cols * g.side ∧ w64 (g.y + w64 (w64 ((i : Int).tdiv g.cols) * g.side)) = g.y + (i : Int) / g.cols * g.side ∧
    w64 (g.x + (i : Int) % g.cols * g.side + g.side) = g.x + (i : Int) % g.cols * g.side + g.side ∧ w64 (g.y + (i : Int) / g.cols * g.side + g.side) = g.y + (i : Int) / g.cols * g.side + g.side := by
  have hr := ij_range hg hi
  have hs := hg.side
  have hx := hg.x
  have hy := hg.y
  have h1 := hg.right
  have h2 := hg.top
  have hrr := hg.rows
  have m1 : 0 ≤ (i : Int) % g.cols * g.side := Int.mul_nonneg hr.1 (by omega)
  have m2 : 0 ≤ (i : Int) / g.cols * g.side := Int.mul_nonneg hr.2.2.1 (by omega)
  have m3 : ((i : Int) % g.cols + 1) * g.side ≤ g.cols * g.side := Int.mul_le_mul_of_nonneg_right (by omega) (by omega)
  have m4 : ((i : Int) / g.cols + 1) * g.side ≤ g.rows * g.side := Int.mul_le_mul_of_nonneg_right (by omega) (by omega)
  rw [Int.add_mul, Int.one_mul] at m3 m4
  rw [Int.tmod_eq_emod_of_nonneg (by omega), Int.tdiv_eq_ediv_of_nonneg (by omega)]
  have a1 : w64 ((i : Int) / g.cols) = (i : Int) / g.cols := w64_of (by omega) (by omega)
  have a2 : w64 ((i : Int) % g.cols * g.side) = (i : Int) % g.cols * g.side := w64_of (by omega) (by omega)
  have a3 : w64 ((i : Int) / g.cols * g.side) = (i : Int) / g.cols * g.side := w64_of (by omega) (by omega)
  rw [a1, a2, a3]
  exact ⟨w64_of (by omega) (by omega), w64_of (by omega) (by omega), w64_of (by omega) (by omega), w64_of (by omega) (by omega)⟩
end Go.Ch

namespace Go.Ch
open Go Go.Ax Go.Proofs Go.Proofs.Try
set_option maxRecDepth 100000
set_option pp.maxSteps 400
set_option maxHeartbeats 1000000

def absI (n : Int) : Int := if n < 0 then -n else n
def neigh (g : Grid) (i k : Int) : Bool := absI (i % g.cols - k % g.cols) + absI (i / g.cols - k / g.cols) == 1
theorem divmod {c q r k : Int} (hk : k = c * q + r) (h0 : 0 ≤ r) (h1 : r < c) : k % c = r ∧ k / c = q := by
  subst hk
  have hc : c ≠ 0 := by omega
  constructor
  · rw [Int.add_comm, Int.add_mul_emod_self_left]
    exact Int.emod_eq_of_lt h0 h1
  · rw [Int.add_comm, Int.add_mul_ediv_left _ _ hc, Int.ediv_eq_zero_of_lt h0 h1]; omega
theorem neigh_iff {g : Grid} (hc : 1 ≤ g.cols) {i k : Int} : neigh g i k = true ↔ (k = i - g.cols ∨ k = i + g.cols ∨ (k = i - 1 ∧ i % g.cols > 0) ∨ (k = i + 1 ∧ i % g.cols < g.cols - 1)) := by
  unfold neigh
  rw [beq_iff_eq]
  have di := Int.emod_add_mul_ediv i g.cols
  have dk := Int.emod_add_mul_ediv k g.cols
  have ri := Int.emod_nonneg i (show g.cols ≠ 0 by omega)
  have ri' := Int.emod_lt_of_pos i (show 0 < g.cols by omega)
  have rk := Int.emod_nonneg k (show g.cols ≠ 0 by omega)
  have rk' := Int.emod_lt_of_pos k (show 0 < g.cols by omega)
  constructor
  · intro h
    generalize i % g.cols = a at *
    generalize k % g.cols = b at *
    generalize i / g.cols = p at *
    generalize k / g.cols = q at *
    unfold absI at h
    have hq : q = p ∨ q = p + 1 ∨ q = p - 1 := by split at h <;> split at h <;> omega
    rcases hq with rfl | rfl | rfl
    · have : b = a + 1 ∨ b = a - 1 := by split at h <;> split at h <;> omega
      rcases this with e | e
      · exact .inr (.inr (.inr ⟨by omega, by omega⟩))
      · exact .inr (.inr (.inl ⟨by omega, by omega⟩))
    · have : b = a := by split at h <;> split at h <;> omega
      rw [Int.mul_add, Int.mul_one] at dk
      exact .inr (.inl (by omega))
    · have : b = a := by split at h <;> split at h <;> omega
      rw [Int.mul_sub, Int.mul_one] at dk
      exact .inl (by omega)
  · have fin : ∀ r q, k = g.cols * q + r → 0 ≤ r → r < g.cols → absI (i % g.cols - r) + absI (i / g.cols - q) = 1 → absI (i % g.cols - k % g.cols) + absI (i / g.cols - k / g.cols) = 1 := by
      intro r q hk h0 h1 h
      obtain ⟨e1, e2⟩ := divmod hk h0 h1
      rw [e1, e2]; exact h
    rintro (h | h | ⟨h, h'⟩ | ⟨h, h'⟩)
    · refine fin (i % g.cols) (i / g.cols - 1) (by rw [Int.mul_sub, Int.mul_one]; omega) ri ri' ?_
      rw [Int.sub_self, show i / g.cols - (i / g.cols - 1) = 1 by omega]; rfl
    · refine fin (i % g.cols) (i / g.cols + 1) (by rw [Int.mul_add, Int.mul_one]; omega) ri ri' ?_
      rw [Int.sub_self, show i / g.cols - (i / g.cols + 1) = -1 by omega]; rfl
    · refine fin (i % g.cols - 1) (i / g.cols) (by omega) (by omega) (by omega) ?_
      rw [Int.sub_self, show i % g.cols - (i % g.cols - 1) = 1 by omega]; rfl
    · refine fin (i % g.cols + 1) (i / g.cols) (by omega) (by omega) (by omega) ?_
      rw [Int.sub_self, show i % g.cols - (i % g.cols + 1) = -1 by omega]; rfl
def rnL (g : Grid) (i : Int) (m : Nat) : List Int := (List.range m).filterMap fun k : Nat => bif neigh g i (k : Int) then some (k : Int) else none
theorem rnL_succ (g : Grid) (i : Int) (m : Nat) : rnL g i (m + 1) = rnL g i m ++ (bif neigh g i m then [(m : Int)] else []) := by
  unfold rnL
  rw [filterMap_range_succ]
  cases neigh g i m <;> rfl
theorem rnL_mem {g : Grid} {i k : Int} {m : Nat} : k ∈ rnL g i m ↔ 0 ≤ k ∧ k < m ∧ neigh g i k = true := by
  unfold rnL
  simp only [List.mem_filterMap, List.mem_range]
  constructor
  · rintro ⟨j, hj, h⟩
    cases hn : neigh g i j with
    | false => rw [hn] at h; cases h
    | true => rw [hn] at h; cases h; exact ⟨by omega, by omega, hn⟩
  · rintro ⟨h0, h1, h2⟩
    refine ⟨k.toNat, by omega, ?_⟩
    rw [show ((k.toNat : Nat) : Int) = k by omega, h2]; rfl
theorem rnL_pw (g : Grid) (i : Int) : ∀ m, (rnL g i m).Pairwise (fun a b => a < b)
  | 0 => List.Pairwise.nil
  | m + 1 => by
    rw [rnL_succ]
    cases neigh g i m with
    | false => rw [cond_false, List.append_nil]; exact rnL_pw g i m
    | true =>
      rw [cond_true, List.pairwise_append]
      refine ⟨rnL_pw g i m, List.pairwise_singleton _ _, fun a ha b hb => ?_⟩
      have := (rnL_mem.1 ha).2.1
      have hb : b = m := by simpa using hb
      omega
theorem mem_bif {b : Bool} {x k : Int} : k ∈ (bif b then [x] else []) ↔ b = true ∧ k = x := by cases b <;> simp
theorem nearL_mem {g : Grid} {i k : Int} : k ∈ nearL g i ↔ (i ≥ g.cols ∧ k = i - g.cols) ∨ (i % g.cols > 0 ∧ k = i - 1) ∨ (i % g.cols < g.cols - 1 ∧ k = i + 1) ∨ (i + g.cols < g.levels.length ∧ k = i + g.cols) := by
  unfold nearL
  simp only [List.mem_append, mem_bif, decide_eq_true_eq, or_assoc]
theorem nearL_pw {g : Grid} (hc : 1 ≤ g.cols) (i : Int) : (nearL g i).Pairwise (fun a b => a < b) := by
  have ri := Int.emod_nonneg i (show g.cols ≠ 0 by omega)
  have ri' := Int.emod_lt_of_pos i (show 0 < g.cols by omega)
  have one : ∀ (b : Bool) (x : Int), (bif b then [x] else []).Pairwise (fun a b : Int => a < b) := fun b x => by cases b <;> simp
  unfold nearL
  simp only [List.pairwise_append, List.mem_append, mem_bif, decide_eq_true_eq]
  refine ⟨⟨⟨one _ _, one _ _, ?_⟩, one _ _, ?_⟩, one _ _, ?_⟩
  · rintro a ⟨h1, rfl⟩ b ⟨h2, rfl⟩; omega
  · rintro a (⟨h1, rfl⟩ | ⟨h1, rfl⟩) b ⟨h2, rfl⟩ <;> omega
  · rintro a ((⟨h1, rfl⟩ | ⟨h1, rfl⟩) | ⟨h1, rfl⟩) b ⟨h2, rfl⟩ <;> omega
theorem ascend_eq {l m : List Int} (hl : l.Pairwise (fun a b => a < b)) (hm : m.Pairwise (fun a b => a < b)) (h : ∀ x, x ∈ l ↔ x ∈ m) : l = m := by
  have nd : ∀ {l : List Int}, l.Pairwise (fun a b => a < b) → l.Nodup := fun hl => hl.imp fun h => by omega
  refine List.Perm.eq_of_pairwise (le := fun a b => a < b) (fun a b _ _ h1 h2 => by omega) hl hm ((List.perm_ext_iff_of_nodup (nd hl) (nd hm)).2 h)
theorem near_eq {g : Grid} (hg : GVal g) {i : Int} (h0 : 0 ≤ i) (hi : i < g.levels.length) : rnL g i g.levels.length = nearL g i := by
  have hc := hg.cols
  have ri := Int.emod_nonneg i (show g.cols ≠ 0 by omega)
  have ri' := Int.emod_lt_of_pos i (show 0 < g.cols by omega)
  have di := Int.emod_add_mul_ediv i g.cols
  have hq : i / g.cols < g.rows := (Int.ediv_lt_iff_lt_mul (by omega)).2 (by have := hg.len; rw [Int.mul_comm]; omega)
  have hq0 : 0 ≤ i / g.cols := Int.ediv_nonneg h0 (by omega)
  refine ascend_eq (rnL_pw g i _) (nearL_pw (by omega) i) fun k => ?_
  rw [rnL_mem, nearL_mem, neigh_iff (by omega)]
  have hlen := hg.len
  have m2 : g.cols * (i / g.cols + 1) ≤ g.cols * g.rows := Int.mul_le_mul_of_nonneg_left (by omega) (by omega)
  rw [Int.mul_add, Int.mul_one] at m2
  have m3 : 0 ≤ g.cols * (i / g.cols) := Int.mul_nonneg (by omega) hq0
  constructor
  · rintro ⟨h1, h2, h | h | ⟨h, h'⟩ | ⟨h, h'⟩⟩
    · exact .inl ⟨by omega, h⟩
    · exact .inr (.inr (.inr ⟨by omega, h⟩))
    · exact .inr (.inl ⟨h', h⟩)
    · exact .inr (.inr (.inl ⟨h', h⟩))
  · rintro (⟨h', h⟩ | ⟨h', h⟩ | ⟨h', h⟩ | ⟨h', h⟩)
    · exact ⟨by omega, by omega, .inl h⟩
    · exact ⟨by omega, by omega, .inr (.inr (.inl ⟨h, h'⟩))⟩
    · exact ⟨by omega, by omega, .inr (.inr (.inr ⟨h, h'⟩))⟩
    · exact ⟨by omega, by omega, .inr (.inl h)⟩
end Go.Ch

namespace Go.Ch
open Go Go.Ax Go.Proofs Go.Proofs.Try
set_option maxRecDepth 100000
set_option pp.maxSteps 400
set_option maxHeartbeats 1000000

def hasE (g : Grid) (i : Int) : Int := bif errG g != 0 then errG g else bif there g i then 0 else 6
def cellE (g : Grid) (p : Pt) : Int × Int := bif errG g != 0 then (0, errG g) else bif decide (cellI g p < 0) then (0, 11) else (cellI g p, 0)
def centreE (g : Grid) (i : Int) : Pt × Int := bif hasE g i != 0 then (⟨0, 0⟩, hasE g i) else (centreG g i, 0)
def nearE (g : Grid) (i : Int) : List Int × Int := bif hasE g i != 0 then ([], hasE g i) else (nearL g i, 0)
def levelE (g : Grid) (p : Pt) : Int × Int := bif (cellE g p).2 != 0 then (0, (cellE g p).2) else bif !knownG g (cellE g p).1 then (0, 12) else (levelAt g (cellE g p).1, 0)
abbrev rII (r : Int × Int) : AV := .t [.s (.d (dI r.1)), .s (.d (dI r.2))]
theorem has_eq (g : Grid) (i : Int) : (bif errG g != 0 then errG g else bif within i 0 ((g.levels.length : Int) - 1) then 0 else 6) = hasE g i := rfl
theorem hasE_zero {g : Grid} {i : Int} (h : hasE g i = 0) : errG g = 0 ∧ there g i = true := by
  unfold hasE at h
  cases he : errG g != 0 with
  | true =>
    rw [he, cond_true] at h
    rw [h] at he; cases he
  | false =>
    rw [he, cond_false] at h
    refine ⟨by simpa using he, ?_⟩
    cases ht : there g i with
    | true => rfl
    | false => rw [ht] at h; cases h
end Go.Ch

namespace Go.Ch
open Go Go.Ax Go.Proofs Go.Proofs.Try
set_option maxRecDepth 100000
set_option pp.maxSteps 400
set_option maxHeartbeats 1000000

theorem tdmf {a b : Int} (hb : 0 < b) : a.tmod b + b * a.tdiv b = a ∧ -b < a.tmod b ∧ a.tmod b < b ∧ (0 ≤ a → 0 ≤ a.tmod b) ∧ (a ≤ 0 → a.tmod b ≤ 0) := by
  refine ⟨Int.tmod_add_mul_tdiv a b, ?_, Int.tmod_lt_of_pos a hb, fun h => Int.tmod_nonneg b h, fun h => ?_⟩
  · rcases Int.le_total 0 a with h | h
    · have := Int.tmod_nonneg b h; omega
    · have h1 : (-a).tmod b < b := Int.tmod_lt_of_pos _ hb
      rw [Int.neg_tmod] at h1; omega
  · have h1 : 0 ≤ (-a).tmod b := Int.tmod_nonneg b (by omega)
    rw [Int.neg_tmod] at h1; omega
theorem fl_prog {a b : Int} (hb : 0 < b) : (if a.tmod b < 0 then a.tdiv b - 1 else a.tdiv b) = a / b := by
  obtain ⟨h1, h2, h3, h4, h5⟩ := tdmf (a := a) hb
  symm
  rw [← div_range hb]
  have e : a.tdiv b * b = b * a.tdiv b := Int.mul_comm _ _
  split
  · rw [Int.sub_mul, Int.one_mul]; omega
  · omega
theorem fl_ref {a b : Int} (hb : 0 < b) : Int.tdiv (a - (if a.tmod b < 0 then a.tmod b + b else a.tmod b)) b = a / b := by
  have h0 := fl_prog (a := a) hb
  obtain ⟨h1, h2, h3, h4, h5⟩ := tdmf (a := a) hb
  have key : a - (if a.tmod b < 0 then a.tmod b + b else a.tmod b) = (a / b) * b := by
    rw [← h0]
    have e : a.tdiv b * b = b * a.tdiv b := Int.mul_comm _ _
    split
    · rw [Int.sub_mul, Int.one_mul]; omega
    · omega
  rw [key]
  exact Int.mul_tdiv_cancel _ (by omega)
def plK (a b : Pt) (n : Int) (k : Nat) : Pt := ⟨a.x + (b.x - a.x) * k / n, a.y + (b.y - a.y) * k / n⟩
def pvK (g : Grid) (a b : Pt) (n : Int) (k : Nat) : Int := bif decide (cellI g (plK a b n k) < 0) then 30000 else levelAt g (cellI g (plK a b n k))
def profL (g : Grid) (a b : Pt) (n : Int) (m : Nat) : List Int := (List.range m).map (pvK g a b n)
theorem profL_succ (g : Grid) (a b : Pt) (n : Int) (m : Nat) : profL g a b n (m + 1) = profL g a b n m ++ [pvK g a b n m] := by
  unfold profL; rw [List.range_succ, List.map_append]; rfl
theorem profL_len {g : Grid} {a b : Pt} {n : Int} {m : Nat} : (profL g a b n m).length = m := by simp [profL]
theorem plK_w {a b : Pt} {n : Int} {k : Nat} (ha : good a = true) (hb : good b = true) (hn : 1 ≤ n ∧ n ≤ 200) (hk : (k : Int) ≤ n) :
    w64 (b.x - a.x) = b.x - a.x ∧ w64 (b.y - a.y) = b.y - a.y ∧ w64 ((b.x - a.x) * k) = (b.x - a.x) * k ∧ w64 ((b.y - a.y) * k) = (b.y - a.y) * k ∧
    (-1000000000 ≤ (b.x - a.x) * k ∧ (b.x - a.x) * k ≤ 1000000000) ∧ (-1000000000 ≤ (b.y - a.y) * k ∧ (b.y - a.y) * k ≤ 1000000000) ∧
    w64 (a.x + (b.x - a.x) * k / n) = a.x + (b.x - a.x) * k / n ∧ w64 (a.y + (b.y - a.y) * k / n) = a.y + (b.y - a.y) * k / n := by
  rw [good_iff] at ha hb
  have mul : ∀ d : Int, -2000000 ≤ d → d ≤ 2000000 → -1000000000 ≤ d * k ∧ d * k ≤ 1000000000 := by
    intro d h1 h2
    have := mul_le_of (a := d) (b := (k : Int)) (A := 2000000) (B := 200) (by omega) (by omega) (by omega) (by omega)
    omega
  have dv : ∀ d : Int, -1000000000 ≤ d → d ≤ 1000000000 → -2000000000 ≤ d / n ∧ d / n ≤ 2000000000 := by
    intro d h1 h2
    have e1 : -1000000000 ≤ d / n := (Int.le_ediv_iff_mul_le (by omega)).2 (by
      have : (-1000000000 : Int) * n ≤ -1000000000 := by omega
      omega)
    have e2 : d / n ≤ 1000000000 := by
      refine Int.ediv_le_of_le_mul (by omega) ?_
      have : (1000000000 : Int) ≤ 1000000000 * n := by omega
      omega
    exact ⟨by omega, by omega⟩
  have m1 := mul (b.x - a.x) (by omega) (by omega)
  have m2 := mul (b.y - a.y) (by omega) (by omega)
  have d1 := dv _ m1.1 m1.2
  have d2 := dv _ m2.1 m2.2
  exact ⟨w64_of (by omega) (by omega), w64_of (by omega) (by omega), w64_of (by omega) (by omega), w64_of (by omega) (by omega), m1, m2, w64_of (by omega) (by omega), w64_of (by omega) (by omega)⟩
end Go.Ch

/- Meshes: places, areas, Check. -/
namespace Go.Ch
open Go Go.Ax Go.Proofs Go.Proofs.Try
set_option maxRecDepth 100000
set_option pp.maxSteps 400
set_option maxHeartbeats 1000000

structure Nd where
  x : Int
  y : Int
  lv : Int
deriving DecidableEq
instance : Inhabited Nd := ⟨⟨0, 0, 0⟩⟩
structure Tr where
  a : Int
  b : Int
  c : Int
deriving DecidableEq
instance : Inhabited Tr := ⟨⟨0, 0, 0⟩⟩
structure Mesh where
  nodes : List Nd
  tris : List Tr
def ndD (n : Nd) : Nat → DV
  | 0 => dI n.x
  | 1 => dI n.y
  | 2 => dI n.lv
  | _ => .junk
def trD (n : Tr) : Nat → DV
  | 0 => dI n.a
  | 1 => dI n.b
  | 2 => dI n.c
  | _ => .junk
def ndEl (l : List Nd) : Nat → Nat → DV := fun i => ndD (l.getD i default)
def trEl (l : List Tr) : Nat → Nat → DV := fun i => trD (l.getD i default)
def dNds (l : List Nd) : DV := .slc l.length 3 (ndEl l)
def dTrs (l : List Tr) : DV := .slc l.length 3 (trEl l)
abbrev nd (n : Nd) : AV := .g [.d (dI n.x), .d (dI n.y), .d (dI n.lv)]
abbrev trV (n : Tr) : AV := .g [.d (dI n.a), .d (dI n.b), .d (dI n.c)]
abbrev vNds (l : List Nd) : AV := .s (.d (dNds l))
abbrev mesh (m : Mesh) : AV := .g [.d (dNds m.nodes), .d (dTrs m.tris)]
abbrev meshB (m : Mesh) : Box := .cells [.d (dNds m.nodes), .d (dTrs m.tris)]
def Nd.pt (n : Nd) : Pt := ⟨n.x, n.y⟩
structure Mesh.ok (m : Mesh) : Prop where
  nodes : m.nodes.length ≤ 9223372036854775807
  tris : m.tris.length ≤ 9223372036854775807

theorem bplace (n : Nd) : CallP Try.prog 25 [nd n] (pt n.pt) := by
  refine callP_of_ex (rc := []) (N := 8) Try.func25 rfl rfl Try.call25 tab_ok mix rfl rfl (fun cx _ => ?_)
  exact SubR.refl _
theorem three_le (a b c : Pt) (f : Nat → Nat → DV) (h : ∀ j, j < 6 → f (j / 2) (j % 2) = ptD ([a, b, c].getD (j / 2) default) (j % 2)) : LeD (.slc 3 2 f) (dPts [a, b, c]) := by
  refine LeD.slc fun i j hi hj => LeD.of_eq ?_
  have := h (i * 2 + j) (by omega)
  rw [show (i * 2 + j) / 2 = i by omega, show (i * 2 + j) % 2 = j by omega] at this
  exact this
theorem bCross (a b c : Pt) (ha : good a = true) (hb : good b = true) (hc : good c = true) : CallP Try.prog 30 [pt a, pt b, pt c] (vI (cross a b c)) := by
  refine callP_of_ex (rc := []) (N := 16) Try.func30 rfl rfl Try.call30 tab_ok mix rfl rfl (fun cx _ => ?_)
  refine callN ((goutside [a, b, c] (by simp)).conv (args' := _) ⟨three_le a b c _ (fun j hj => ?_), trivial⟩) ?_
  · match j, hj with
    | 0, _ => rfl
    | 1, _ => rfl
    | 2, _ => rfl
    | 3, _ => rfl
    | 4, _ => rfl
    | 5, _ => rfl
  rw [show ([a, b, c].any fun p => !good p) = false by simp [ha, hb, hc]]
  refine And.intro (fun h => by cases h) (fun _ => ?_)
  refine callN (gcross a b c) ?_
  exact SubR.refl _
theorem inRange (p : Pt) : CallP Try.prog 29 [pt p] (vB (good p)) := by
  refine callP_of_ex (rc := []) (N := 9) Try.func29 rfl rfl Try.call29 tab_ok mix rfl rfl (fun cx _ => ?_)
  refine callN ((bbetween (-1000000) 1000000 [p.x, p.y] (by simp)).conv (args' := _) ⟨LeD.refl _, LeD.refl _, LeD.slc fun i j hi hj => ?_, trivial⟩) ?_
  · have hj : j < 1 := hj
    obtain rfl : j = 0 := by omega
    match i, (show i < 2 from hi) with
    | 0, _ => exact LeD.refl _
    | 1, _ => exact LeD.refl _
  exact SubR.of_eq (congrArg vB (by simp [outL, good]))
def badN (n : Nd) : Bool := !good n.pt || !within n.lv (-20000) 20000
theorem badN1 (n : Nd) : CallP Try.prog 42 [nd n] (vB (badN n)) := by
  refine callP_of_ex (rc := []) (N := 13) Try.func42 rfl rfl Try.call42 tab_ok mix rfl rfl (fun cx _ => ?_)
  refine callN (bplace n) ?_
  refine callN (inRange n.pt) ?_
  repeat first | refine sk ?_ | refine st ?_ | refine sg ?_ | refine sh ?_ | refine su ?_ | refine sn1 ?_ | refine sn0 ?_
  refine callG (isLevel n.lv) ?_
  repeat first | refine sk ?_ | refine st ?_ | refine sg ?_ | refine sh ?_ | refine su ?_ | refine sn1 ?_ | refine sn0 ?_
  exact SubR.refl _
theorem indexFuncN (l : List Nd) (hl : l.length ≤ 9223372036854775807) (f k : Nat) (c : Nat → DV) (p : Nd → Bool) (hp : ∀ x ∈ l, CallP Try.prog f (nd x :: capD c k 0) (vB (p x))) :
    CallP Try.prog 39 [vNds l, .s (.d (.clo f k c))] (vI (idxF p l 0)) := by
  refine callP_of_ex (rc := []) (N := 19) Try.func39 rfl rfl Try.call39 tab_ok mix rfl rfl (fun cx href => ?_)
  refine AW.loop (fun i : Nat => ⟨[(0, vNds l), (1, .s (.d (.clo f k c))), (7, vI l.length), (8, vI i), (4, vI 0)], []⟩) (fun i => i ≤ l.length ∧ idxF p l 0 = idxF p (l.drop i) i) (fun i => l.length - i) 0 ⟨Nat.zero_le _, rfl⟩ ?_ ?_
  · refine Sub.of0 href trivial ⟨⟨rfl, rfl⟩, ⟨rfl, rfl⟩, ⟨rfl, rfl⟩, ⟨rfl, rfl⟩, ⟨rfl, rfl⟩, trivial⟩
  · rintro i ⟨hi, he⟩
    refine ex.sound (rc := []) tab_ok mix href _ ?_
    refine And.intro (fun h => ?_) (fun h => ?_)
    · have h : (i : Int) < l.length := decT h
      have hi' : i < l.length := by omega
      have hd : l.drop i = l[i] :: l.drop (i + 1) := List.drop_eq_getElem_cons hi'
      have hg : l.getD i default = l[i] := getD_of hi'
      refine oi ⟨by omega, by omega⟩ ?_
      refine callN ((hp (l.getD i default) (by rw [hg]; simp)).conv (args' := _) ⟨⟨LeD.refl _, LeD.refl _, LeD.refl _, trivial⟩, LeAs.capD⟩) ?_
      rw [hd, idxF] at he
      rw [hg]
      refine And.intro (fun h => ?_) (fun h => ?_)
      · refine SubR.of_eq ?_
        rw [he, h]; rfl
      · refine ⟨i + 1, ⟨by omega, ?_⟩, by omega, ?_⟩
        · rw [he, h]; rfl
        · refine Sub.of0 href trivial ⟨⟨rfl, rfl⟩, ⟨rfl, rfl⟩, ⟨rfl, rfl⟩, ⟨rfl, ?_⟩, ⟨rfl, rfl⟩, trivial⟩
          exact congrArg vI (w64_of (by omega) (by omega))
    · have h : ¬ (i : Int) < l.length := decF h
      have hi' : i = l.length := by omega
      subst hi'
      refine SubR.of_eq ?_
      rw [he, List.drop_length]; rfl
theorem containsN (l : List Nd) (hl : l.length ≤ 9223372036854775807) (f k : Nat) (c : Nat → DV) (p : Nd → Bool) (hp : ∀ x ∈ l, CallP Try.prog f (nd x :: capD c k 0) (vB (p x))) :
    CallP Try.prog 22 [vNds l, .s (.d (.clo f k c))] (vB (l.any p)) := by
  refine callP_of_ex (rc := []) (N := 9) Try.func22 rfl rfl Try.call22 tab_ok mix rfl rfl (fun cx href => ?_)
  refine callN (indexFuncN l hl f k c p hp) ?_
  exact SubR.of_eq (congrArg vB (idxF_any p l 0))

abbrev ndA (m : Mesh) (i : Int) : Nd := m.nodes.getD i.toNat default
def dbl (m : Mesh) (t : Tr) : Int := cross (ndA m t.a).pt (ndA m t.b).pt (ndA m t.c).pt
def inM (m : Mesh) (t : Tr) : Prop := (0 ≤ t.a ∧ t.a < m.nodes.length) ∧ (0 ≤ t.b ∧ t.b < m.nodes.length) ∧ (0 ≤ t.c ∧ t.c < m.nodes.length)
theorem bdouble (m : Mesh) (t : Tr) (ht : inM m t) (hg : ∀ i, good (ndA m i).pt = true) : CallP Try.prog 32 [mesh m, trV t] (vI (dbl m t)) := by
  obtain ⟨ha, hb, hc⟩ := ht
  refine callP_of_ex (rc := []) (N := 27) Try.func32 rfl rfl Try.call32 tab_ok mix rfl rfl (fun cx _ => ?_)
  refine oi ha ?_
  refine callN (bplace (ndA m t.a)) ?_
  refine oi hb ?_
  refine callN (bplace (ndA m t.b)) ?_
  refine oi hc ?_
  refine callN (bplace (ndA m t.c)) ?_
  refine callN (bCross _ _ _ (hg _) (hg _) (hg _)) ?_
  refine And.intro (by kernel_rfl) ?_
  exact SubR.refl _
def inMB (n : Int) (t : Tr) : Bool := (within t.a 0 n && within t.b 0 n) && within t.c 0 n
def errT (m : Mesh) : List Tr → Int
  | [] => 0
  | t :: r => bif !inMB (w64 (m.nodes.length - 1)) t then 6 else bif decide (dbl m t ≤ 0) then 10 else bif decide (dbl m t > 800000000) then 8 else errT m r
def errM (m : Mesh) : Int := bif decide ((m.nodes.length : Int) > 1024) || decide ((m.tris.length : Int) > 2048) then 8 else bif m.nodes.any badN then 2 else errT m m.tris
theorem good_nodes {m : Mesh} (h : m.nodes.any badN = false) (i : Int) : good (ndA m i).pt = true ∧ within (ndA m i).lv (-20000) 20000 = true := by
  unfold ndA
  by_cases hi : i.toNat < m.nodes.length
  · have h2 : badN (m.nodes.getD i.toNat default) = false := by
      rw [List.any_eq_false] at h
      rw [getD_of hi]
      simpa using h _ (List.getElem_mem hi)
    unfold badN at h2
    simpa using h2
  · rw [List.getD_eq_getElem?_getD, List.getElem?_eq_none (by omega)]
    exact ⟨by decide, by decide⟩
theorem inMB_iff {m : Mesh} {t : Tr} (hn : m.nodes.length ≤ 1024) : inMB (w64 (m.nodes.length - 1)) t = true ↔ inM m t := by
  rw [w64_of (by omega) (by omega)]
  unfold inMB inM within
  simp
  omega
theorem bCheckMesh (m : Mesh) (hm : m.ok) : CallP Try.prog 28 [mesh m] (vI (errM m)) := by
  have h1 := hm.nodes
  have h2 := hm.tris
  refine callP_of_ex (rc := []) (N := 49) Try.func28 rfl rfl Try.call28 tab_ok mix rfl rfl (fun cx href => ?_)
  unfold errM
  repeat first | refine sk ?_ | refine st ?_ | refine sg ?_ | refine sh ?_ | refine su ?_ | refine sn1 ?_ | refine sn0 ?_
  refine And.intro (fun h => ?_) (fun h => ?_)
  · have h : (decide ((m.nodes.length : Int) > 1024) || decide ((m.tris.length : Int) > 2048)) = true := h
    rw [h]; exact SubR.refl _
  have h : (decide ((m.nodes.length : Int) > 1024) || decide ((m.tris.length : Int) > 2048)) = false := h
  rw [h, cond_false]
  rw [Bool.or_eq_false_iff, decide_eq_false_iff_not, decide_eq_false_iff_not] at h
  refine callN (containsN m.nodes h1 42 0 (fun _ => .junk) badN (fun x _ => badN1 x)) ?_
  refine And.intro (fun h3 => ?_) (fun h3 => ?_)
  · have h3 : m.nodes.any badN = true := h3
    rw [h3]; exact SubR.refl _
  have h3 : m.nodes.any badN = false := h3
  rw [h3, cond_false]
  have hg := good_nodes h3
  refine AW.loopI (fun i : Nat => ⟨[(1, .s (.ptr 1 0)), (20, .s (.d (dTrs m.tris))), (21, vI m.tris.length), (22, vI i)], [(1, some (meshB m))]⟩) (fun i => i ≤ m.tris.length ∧ errT m m.tris = errT m (m.tris.drop i)) (fun i => m.tris.length - i) 0 ⟨Nat.zero_le _, rfl⟩ ?_ ?_
  · exact SubI.of0 href [] rfl ⟨⟨rfl, LeBx.rfl⟩, trivial⟩ ⟨⟨rfl, LeQ.rfl⟩, ⟨rfl, LeQ.rfl⟩, ⟨rfl, LeQ.rfl⟩, ⟨rfl, LeQ.rfl⟩, trivial⟩
  · rintro i ⟨hi, he⟩
    refine ex.sound (rc := []) tab_ok mix href _ ?_
    refine And.intro (fun h4 => ?_) (fun h4 => ?_)
    · have h4 : (i : Int) < m.tris.length := decT h4
      have hi' : i < m.tris.length := by omega
      have hg0 : m.tris.getD i default = m.tris[i] := getD_of hi'
      rw [List.drop_eq_getElem_cons hi', errT, ← hg0] at he
      refine oi ⟨by omega, by omega⟩ ?_
      refine callN ((bbetween 0 (w64 (m.nodes.length - 1)) [(m.tris.getD i default).a, (m.tris.getD i default).b, (m.tris.getD i default).c] (by simp)).conv (args' := _) ⟨LeD.refl _, LeD.refl _, LeD.slc fun i j hi hj => ?_, trivial⟩) ?_
      · have hj : j < 1 := hj
        obtain rfl : j = 0 := by omega
        match i, (show i < 3 from hi) with
        | 0, _ => exact LeD.refl _
        | 1, _ => exact LeD.refl _
        | 2, _ => exact LeD.refl _
      rw [show outL 0 (w64 (m.nodes.length - 1)) [(m.tris.getD i default).a, (m.tris.getD i default).b, (m.tris.getD i default).c] = !inMB (w64 (m.nodes.length - 1)) (m.tris.getD i default) by simp [outL, inMB, Bool.or_assoc], Bool.not_not]
      refine And.intro (fun h5 => ?_) (fun h5 => ?_)
      · have h5 : (!inMB (w64 (m.nodes.length - 1)) (m.tris.getD i default)) = true := h5
        rw [he, h5]; exact SubR.refl _
      have h5 : (!inMB (w64 (m.nodes.length - 1)) (m.tris.getD i default)) = false := h5
      rw [h5, cond_false] at he
      have ht : inM m (m.tris.getD i default) := (inMB_iff (by omega)).1 (by simpa using h5)
      refine callN (bdouble m (m.tris.getD i default) ht (fun i => (hg i).1)) ?_
      refine And.intro (fun h6 => ?_) (fun h6 => ?_)
      · have h6 : decide (dbl m (m.tris.getD i default) ≤ 0) = true := h6
        rw [he, h6]; exact SubR.refl _
      have h6 : decide (dbl m (m.tris.getD i default) ≤ 0) = false := h6
      rw [h6, cond_false] at he
      refine And.intro (fun h7 => ?_) (fun h7 => ?_)
      · have h7 : decide (dbl m (m.tris.getD i default) > 800000000) = true := h7
        rw [he, h7]; exact SubR.refl _
      have h7 : decide (dbl m (m.tris.getD i default) > 800000000) = false := h7
      rw [h7, cond_false] at he
      refine ⟨i + 1, ⟨by omega, he⟩, by omega, ?_⟩
      exact SubI.of0 href [] rfl ⟨⟨rfl, LeBx.rfl⟩, trivial⟩ ⟨⟨rfl, LeQ.rfl⟩, ⟨rfl, LeQ.rfl⟩, ⟨rfl, LeQ.rfl⟩, ⟨rfl, LeQ.int (w64_of (by omega) (by omega))⟩, trivial⟩
    · have h4 : ¬ (i : Int) < m.tris.length := decF h4
      obtain rfl : i = m.tris.length := by omega
      rw [he, List.drop_length]
      exact SubR.refl _
end Go.Ch

/- Meshes: levels and volumes. -/
namespace Go.Ch
open Go Go.Ax Go.Proofs Go.Proofs.Try
set_option maxRecDepth 100000
set_option pp.maxSteps 400
set_option maxHeartbeats 2000000

def gcdI (a b : Int) : Int := (Nat.gcd a.toNat b.toNat : Int)
theorem gcdI_zero (a : Int) (h : 0 ≤ a) : gcdI a 0 = a := by unfold gcdI; simp; omega
theorem gcdI_step {a b : Int} (ha : 0 ≤ a) (hb : 0 < b) : gcdI a b = gcdI b (a.tmod b) := by
  unfold gcdI
  rw [Int.tmod_eq_emod_of_nonneg ha, Nat.gcd_comm, Nat.gcd_rec]
  rw [Int.toNat_emod ha (by omega), Nat.gcd_comm]
theorem gcdI_pos {a b : Int} (hb : 0 < b) : 0 < gcdI a b := by
  unfold gcdI
  have : 0 < Nat.gcd a.toNat b.toNat := Nat.gcd_pos_of_pos_right _ (by omega)
  omega
/-- A fraction in lowest terms. -/
def lowF (a b : Int) : Int × Int := (w64 (a.tdiv (gcdI (if a < 0 then w64 (0 - a) else a) b)), w64 (b.tdiv (gcdI (if a < 0 then w64 (0 - a) else a) b)))
abbrev frac (f : Int × Int) : AV := .g [.d (dI f.1), .d (dI f.2)]
theorem absW {a : Int} (ha : -9000000000000000000 ≤ a ∧ a ≤ 9000000000000000000) : 0 ≤ (if a < 0 then w64 (0 - a) else a) ∧ mm true a (w64 (0 - a)) = (if a < 0 then w64 (0 - a) else a) := by
  rw [w64_of (by omega) (by omega)]
  unfold mm
  simp only
  constructor
  · split <;> omega
  · split <;> split <;> omega
theorem errT_all {m : Mesh} : ∀ {l : List Tr}, errT m l = 0 → ∀ t ∈ l, inMB (w64 (m.nodes.length - 1)) t = true ∧ 0 < dbl m t ∧ dbl m t ≤ 800000000
  | [], _, t, h => by cases h
  | s :: r, h, t, ht => by
    rw [errT] at h
    cases h1 : inMB (w64 (m.nodes.length - 1)) s with
    | false => rw [h1] at h; cases h
    | true =>
      rw [h1] at h
      cases h2 : decide (dbl m s ≤ 0) with
      | true => rw [h2] at h; cases h
      | false =>
        cases h3 : decide (dbl m s > 800000000) with
        | true => rw [h2, h3] at h; cases h
        | false =>
          rw [h2, h3] at h
          rw [decide_eq_false_iff_not] at h2 h3
          rcases List.mem_cons.1 ht with rfl | ht
          · exact ⟨h1, by omega, by omega⟩
          · exact errT_all (l := r) h t ht
structure MVal (m : Mesh) : Prop where
  n : m.nodes.length ≤ 1024
  k : m.tris.length ≤ 2048
  good : ∀ i, good (ndA m i).pt = true
  lev : ∀ i, -20000 ≤ (ndA m i).lv ∧ (ndA m i).lv ≤ 20000
  tri : ∀ i, i < m.tris.length → inM m (m.tris.getD i default) ∧ 0 < dbl m (m.tris.getD i default) ∧ dbl m (m.tris.getD i default) ≤ 800000000
theorem MVal.of {m : Mesh} (h : errM m = 0) : MVal m := by
  unfold errM at h
  cases h1 : decide ((m.nodes.length : Int) > 1024) || decide ((m.tris.length : Int) > 2048) with
  | true => rw [h1] at h; cases h
  | false =>
    rw [h1, cond_false] at h
    rw [Bool.or_eq_false_iff, decide_eq_false_iff_not, decide_eq_false_iff_not] at h1
    cases h2 : m.nodes.any badN with
    | true => rw [h2] at h; cases h
    | false =>
      rw [h2, cond_false] at h
      refine ⟨by omega, by omega, fun i => (good_nodes h2 i).1, fun i => ?_, fun i hi => ?_⟩
      · have := (good_nodes h2 i).2
        unfold within at this
        simpa using this
      · have hm : m.tris.getD i default ∈ m.tris := by rw [getD_of hi]; exact List.getElem_mem hi
        obtain ⟨q1, q2, q3⟩ := errT_all h _ hm
        exact ⟨(inMB_iff (by omega)).1 q1, q2, q3⟩
/-- The triangle's weights at a place, the level there. -/
def wU (m : Mesh) (t : Tr) (p : Pt) : Int := cross (ndA m t.b).pt (ndA m t.c).pt p
def wV (m : Mesh) (t : Tr) (p : Pt) : Int := cross (ndA m t.c).pt (ndA m t.a).pt p
def wW (m : Mesh) (t : Tr) (p : Pt) : Int := cross (ndA m t.a).pt (ndA m t.b).pt p
def numT (m : Mesh) (t : Tr) (p : Pt) : Int := w64 (w64 (w64 (wU m t p * (ndA m t.a).lv) + w64 (wV m t p * (ndA m t.b).lv)) + w64 (wW m t p * (ndA m t.c).lv))
def denT (m : Mesh) (t : Tr) (p : Pt) : Int := w64 (w64 (wU m t p + wV m t p) + wW m t p)
def inT (m : Mesh) (t : Tr) (p : Pt) : Bool := (decide (wU m t p ≥ 0) && decide (wV m t p ≥ 0)) && decide (wW m t p ≥ 0)
def levT (m : Mesh) (p : Pt) : List Tr → Option (Int × Int)
  | [] => none
  | t :: r => bif inT m t p then some (lowF (numT m t p) (denT m t p)) else levT m p r
theorem den_ok {m : Mesh} (mv : MVal m) {i : Nat} (hi : i < m.tris.length) {p : Pt} (hp : good p = true) :
    (-9000000000000000000 ≤ numT m (m.tris.getD i default) p ∧ numT m (m.tris.getD i default) p ≤ 9000000000000000000) ∧ 0 < denT m (m.tris.getD i default) p := by
  obtain ⟨_, h2, _⟩ := mv.tri i hi
  generalize m.tris.getD i default = t at h2 ⊢
  obtain ⟨e0, _⟩ := cross_eq (mv.good t.a) (mv.good t.b) (mv.good t.c)
  obtain ⟨e1, b1⟩ := cross_eq (mv.good t.b) (mv.good t.c) hp
  obtain ⟨e2, b2⟩ := cross_eq (mv.good t.c) (mv.good t.a) hp
  obtain ⟨e3, b3⟩ := cross_eq (mv.good t.a) (mv.good t.b) hp
  have l1 := mv.lev t.a
  have l2 := mv.lev t.b
  have l3 := mv.lev t.c
  have key : crossE (ndA m t.b).pt (ndA m t.c).pt p + crossE (ndA m t.c).pt (ndA m t.a).pt p + crossE (ndA m t.a).pt (ndA m t.b).pt p = crossE (ndA m t.a).pt (ndA m t.b).pt (ndA m t.c).pt := by
    unfold crossE
    grind
  have hd : dbl m t = crossE (ndA m t.a).pt (ndA m t.b).pt (ndA m t.c).pt := e0
  have u1 : wU m t p = crossE (ndA m t.b).pt (ndA m t.c).pt p := e1
  have u2 : wV m t p = crossE (ndA m t.c).pt (ndA m t.a).pt p := e2
  have u3 : wW m t p = crossE (ndA m t.a).pt (ndA m t.b).pt p := e3
  have m1 := mul_le_of (a := wU m t p) (b := (ndA m t.a).lv) (A := 8000000000000) (B := 20000) (by omega) (by omega) (by omega) (by omega)
  have m2 := mul_le_of (a := wV m t p) (b := (ndA m t.b).lv) (A := 8000000000000) (B := 20000) (by omega) (by omega) (by omega) (by omega)
  have m3 := mul_le_of (a := wW m t p) (b := (ndA m t.c).lv) (A := 8000000000000) (B := 20000) (by omega) (by omega) (by omega) (by omega)
  constructor
  · unfold numT
    rw [w64_of (n := wU m t p * _) (by omega) (by omega), w64_of (n := wV m t p * _) (by omega) (by omega), w64_of (n := wW m t p * _) (by omega) (by omega), w64_of (n := wU m t p * _ + _) (by omega) (by omega), w64_of (by omega) (by omega)]
    omega
  · unfold denT
    rw [w64_of (n := wU m t p + _) (by omega) (by omega), w64_of (by omega) (by omega)]
    omega
theorem mm_in {m : Mesh} {t : Tr} {p : Pt} : decide (mm false (mm false (wU m t p) (wV m t p)) (wW m t p) ≥ 0) = inT m t p := by
  unfold inT mm
  rw [Bool.eq_iff_iff]
  simp only [Bool.and_eq_true, decide_eq_true_eq]
  constructor
  · intro h
    split at h <;> split at h <;> omega
  · intro h
    split <;> split <;> omega
abbrev rLev (o : Option (Int × Int)) : AV := match o with
  | some f => .t [.g [.d (dI f.1), .d (dI f.2)], .s (.d (dI 0))]
  | none => .t [.g [.d (dI 0), .d (dI 0)], .s (.d (dI 11))]
def mlevG (m : Mesh) (p : Pt) : (Int × Int) × Int := bif errM m != 0 then ((0, 0), errM m) else bif !good p then ((0, 0), 11) else match levT m p m.tris with
  | some f => (f, 0)
  | none => ((0, 0), 11)
theorem LeD.lit {b : Bool} : LeD (.lit b) (.val (.bool b)) := fun _ _ r => r
def rlevG (m : Mesh) (p : Pt) : (Int × Int) × Bool := match levT m p m.tris with
  | some f => (f, true)
  | none => ((0, 0), false)
def volS (m : Mesh) (lv : Int) (s : Int) (t : Tr) : Int := w64 (s + w64 (dbl m t * w64 (w64 (w64 ((ndA m t.a).lv + (ndA m t.b).lv) + (ndA m t.c).lv) - w64 (3 * lv))))
def volF (m : Mesh) (lv : Int) : Nat → Int
  | 0 => 0
  | i + 1 => volS m lv (volF m lv i) (m.tris.getD i default)
def mvolG (m : Mesh) (lv : Int) : Int × Int := bif errM m != 0 then (0, errM m) else bif !within lv (-20000) 20000 then (0, 2) else (volF m lv m.tris.length, 0)
end Go.Ch

/- slices.SortFunc at rows of structs, as a contract: the row holds core's mergeSort. -/
namespace Go.Ch
open Go Go.Ax Go.Sort Go.Shelf Go.Proofs

theorem heap_sortedK {w : World} {g n : Nat} {os : Array Obj} {cur : Array Value} {e : TypeId} {fr : Nat × Nat} (F : Array Value) (hb : w.heap[g]? = some (.cells cur e fr)) :
    (grow (putRow id (Sort.ahead w n) g 0 F) os).heap[g]? = some (.cells (putCells id 0 F cur) e fr) := by
  have hg : g < w.heap.size := (Array.getElem?_eq_some_iff.1 hb).1
  rw [heap_grow_old _ _ (by simpa using hg)]
  simp [putRow, mapBlock, Sort.ahead, Array.getElem?_modify, hb, onCells]
theorem heap_sortedK_other {w : World} {g n k : Nat} {os : Array Obj} (F : Array Value) (hk : k < w.heap.size) (h : k ≠ g) :
    (grow (putRow id (Sort.ahead w n) g 0 F) os).heap[k]? = w.heap[k]? := by
  rw [heap_grow_old _ _ (by simpa using hk)]
  simp [putRow, mapBlock, Sort.ahead, Array.getElem?_modify, Ne.symm h]
theorem putCellsK_get {F cur : Array Value} {t : Nat} (hi : t < F.size) (hc : t < cur.size) : (putCells id 0 F cur)[t]? = some F[t]! := by
  unfold putCells
  rw [Array.getElem?_mapIdx]
  simp [hc, hi]
theorem SortFK {P : Program} {α : Type} [Inhabited α] {ρ : Ren} (L : SlLaysF0.n6 P ρ) {F g e k : Nat} (hF : ρ.f 6 = F) (hcall : ∀ vs w, (callFunc F vs).run P w = .ok (.enter F vs) w) (hk0 : 0 < k)
    (aE : ∀ w, (isAgg (ρ.t 24)).run P w = .ok true w) (zE : ∀ w, (Go.sizeOf (ρ.t 24)).run P w = .ok k w)
    (el : α → Nat → DV) (enc : α → List Value) (hk : ∀ x, (enc x).length = k) (h1 : ∀ x, ∀ v ∈ enc x, v.oneCell' = true) (henc : ∀ x j, j < k → el x j = .val ((enc x)[j]!))
    (cf : α → α → Int) (hO : SWO (ltOf cf)) (hT : ∀ x y, (ltOf cf) x y = false → (ltOf cf) y x = false → x = y)
    (eg : ∀ args w, (callFunc g args).run P w = .ok (.enter g args) w) (hcmp : ∀ blk off n w, CmpLays P g #[] enc k cf blk off n w)
    (l : List α) (f0 : Nat → Nat → DV) (hf0 : ∀ i j, i < l.length → j < k → LeD (f0 i j) (el (l.getD i default) j)) (hl : l.length ≤ 1000000) :
    CallR P F [.s (.own 1001), .s (.clo g [])] [(1001, .row e l.length k f0)] (.t []) [(1001, .row e l.length k fun i => el ((l.mergeSort fun x y => !(ltOf cf) y x).getD i default))] := by
  subst hF
  refine ⟨hcall, fun M β w vs hr hM hbx hβ => ?_⟩
  obtain ⟨b, c, cur, hx, g1, h2, h3, h4, h5, h6⟩ := hbx.rep 1001 _ (List.mem_singleton.2 rfl)
  match vs, hr with
  | [v, v2], ⟨hv, hv2, _⟩ =>
    obtain ⟨b', c', hx', hv', hc'⟩ := hv
    rw [hx] at hx'
    cases hx'
    subst hv'
    obtain ⟨vs2, hv2, hrc⟩ := hv2
    obtain rfl : vs2 = [] := by cases vs2 with
      | nil => rfl
      | cons _ _ => exact hrc.elim
    subst hv2
    have hcell : ∀ i j, i < l.length → j < k → cur[i * k + j]? = some ((enc (l.getD i default))[j]!) := by
      intro i j hi hj
      obtain ⟨u, e1, e2⟩ := h6 i j hi hj
      have := hf0 i j hi hj M u e2
      rw [henc _ j hj] at this
      rw [e1, show u = (enc (l.getD i default))[j]! from this]
    have hb : b < w.heap.size := (Array.getElem?_eq_some_iff.1 g1).1
    have hflat : ∀ t, t < l.length * k → cur[t]? = some ((flatK enc k l.toArray)[t]!) := by
      intro t ht
      have hd : t / k < l.length := by rw [Nat.div_lt_iff_lt_mul hk0]; exact ht
      have hm : t % k < k := Nat.mod_lt _ hk0
      have := hcell (t / k) (t % k) hd hm
      rw [Nat.div_add_mod' t k] at this
      rw [this, get_flatK _ _ _ t (by simpa using ht)]
      simp [List.getD, hd]
    have hH : HoldsK enc k w b 0 l.toArray := by
      intro t ht
      have ht : t < l.length * k := by simpa using ht
      refine ⟨?_, by simp [World.frozen?, g1]⟩
      simp only [World.cell?, g1, Nat.zero_add, Option.isSome_none, Bool.false_eq_true, if_false]
      rw [hflat t ht]; rfl
    have hcon := AnyQ.slices_SortFunc_total L k aE zE enc hk h1 cf hO g #[] b 0 c.1 l.toArray w eg (hcmp b 0 l.toArray.size w) hH hb (by simp; omega) hT
    rw [h2]
    have hsz : l.toArray.size = l.length := by simp
    rw [hsz] at hcon
    refine hcon.mono ?_
    rintro q w' ⟨he, n, os, hw⟩
    generalize hsort : (l.toArray.toList.mergeSort fun x y => !(ltOf cf) y x) = sl at hw
    have hsort : (l.mergeSort fun x y => !(ltOf cf) y x) = sl := by rw [← hsort]
    have hlen : sl.length = l.length := by rw [← hsort, List.length_mergeSort]
    have hrow := heap_sortedK (w := w) (n := n) (os := os) (flatK enc k sl.toArray) g1
    have hoth : ∀ j, j < w.heap.size → j ≠ b → w'.heap[j]? = w.heap[j]? := fun j hj hne => by rw [hw]; exact heap_sortedK_other _ hj hne
    have hw2 : w' = grow (putRow id (Sort.ahead w n) b 0 (flatK enc k sl.toArray)) os := hw
    rw [← hw2] at hrow
    have hs : w.heap.size ≤ w'.heap.size := by rw [hw2]; simp [putRow, mapBlock, Sort.ahead]
    have hin : ∀ x, x ∈ names [(1001, Box.row e l.length k fun i => el (sl.getD i default))] → x = 1001 := fun x hx => List.mem_singleton.1 hx
    refine ⟨.tuple #[], M, β, he, Nm.le_refl β, ⟨[], rfl, trivial⟩, Grow.refl _ _, ?_, ⟨?_, ?_, ?_, ?_⟩, ?_, ?_, ?_, ?_, hs, ?_⟩
    · intro b2 o u hu
      have hne : b2 ≠ b := fun h => by
        subst h
        have := hbx.apart 1001 b2 c (List.mem_singleton.2 rfl) hx o
        rw [this] at hu; cases hu
      have hold := hM b2 o u hu
      have hb2 : b2 < w.heap.size := by
        cases h : w.heap[b2]? with
        | none => simp [World.cell?, h] at hold
        | some _ => exact (Array.getElem?_eq_some_iff.1 h).1
      simp only [World.cell?] at hold ⊢
      rw [hoth b2 hb2 hne]
      exact hold
    · intro x h
      rw [hin x h]; exact ⟨b, c, hx⟩
    · intro x bx h
      obtain ⟨rfl, rfl⟩ := Prod.mk.inj (List.mem_singleton.1 h)
      refine ⟨b, c, _, hx, hrow, h2, by simp [putCells, h3], h4, h5, fun i j hi hj => ?_⟩
      have hlt : i * k + j < l.length * k := by
        have : (i + 1) * k ≤ l.length * k := Nat.mul_le_mul_right k hi
        rw [Nat.add_mul] at this
        omega
      have hd : (i * k + j) / k = i := by
        rw [Nat.mul_comm, Nat.mul_add_div hk0, Nat.div_eq_of_lt hj, Nat.add_zero]
      have hm : (i * k + j) % k = j := by
        rw [Nat.mul_comm, Nat.mul_add_mod, Nat.mod_eq_of_lt hj]
      refine ⟨(enc (sl.getD i default))[j]!, ?_, ?_⟩
      · have hcs : i * k + j < cur.size := by
          rw [h3]
          have : l.length * k ≤ c.1 * k := Nat.mul_le_mul_right k (by omega)
          omega
        rw [putCellsK_get (by simpa [hlen] using hlt) hcs, get_flatK _ _ _ _ (by simpa [hlen] using hlt), hd, hm]
        have hi2 : i < sl.length := by omega
        simp [List.getD, hi2]
      · show (el (sl.getD i default) j).Rep M _
        rw [henc _ j hj]; rfl
    · intro x y b1 c1 c2 hx1 hy1 _ _
      rw [hin x hx1, hin y hy1]
    · intro x b1 c1 h e o
      rw [hin x h] at e
      rw [hx] at e
      cases e
      exact hbx.apart 1001 b c (List.mem_singleton.2 rfl) hx o
    · intro x b1 c1 h e
      rw [hin x h] at e
      exact .inr ⟨1001, c1, e⟩
    · rw [hw2]; rfl
    · rw [hw2]; rfl
    · rw [hw2]; rfl
    · refine ⟨fun j hj hne => hoth j hj (fun h => hne 1001 c (by rw [h]; exact hx)), ?_⟩
      rw [hw2]
      show w.drawn ≤ w.drawn + n
      omega
  | [], h => exact h.elim
  | [_], h => exact h.2.elim
  | _ :: _ :: _ :: _, h => exact h.2.2.elim
/-- A comparison with a contract leaves the world that the sort asks for. -/
theorem regrown {w w' : World} (h : Bel w w') : ∃ q os', w' = grow (w.drewN q) os' := by
  refine ⟨w'.drawn - w.drawn, w'.heap.extract w.heap.size w'.heap.size, ?_⟩
  have hd := h.drawn
  have hb0 := h.below
  obtain ⟨heap', tape', drawn', os', output'⟩ := w'
  have e1 : os' = w.os := hb0.os
  have e2 : tape' = w.tape := hb0.tape
  have e3 : output' = w.output := hb0.output
  have hs : w.heap.size ≤ heap'.size := hb0.size
  have hb : ∀ k, k < w.heap.size → heap'[k]? = w.heap[k]? := hb0.block
  subst e1 e2 e3
  have eh : heap' = w.heap ++ heap'.extract w.heap.size heap'.size := by
    apply Array.ext_getElem?
    intro k
    by_cases hk : k < w.heap.size
    · rw [Array.getElem?_append_left hk]; exact hb k hk
    · rw [Array.getElem?_append_right (by omega), Array.getElem?_extract]
      by_cases hk2 : k < heap'.size
      · rw [if_pos (by omega)]; congr 1; omega
      · rw [if_neg (by omega), Array.getElem?_eq_none (by omega)]
  simp only at hd
  simp only [grow, World.drewN]
  congr 1
  omega
theorem CmpLays.of {P : Program} {α : Type} [Inhabited α] {g k : Nat} {enc : α → List Value} {cf : α → α → Int} (arg : α → AV) (ha : ∀ x M β, (arg x).Rep M β (.agg (enc x).toArray)) (h : ∀ x y, CallP P g [arg x, arg y] (vI (cf x y))) (blk off n : Nat) (w : World) :
    CmpLays P g #[] enc k cf blk off n w := by
  intro m os dk hd x y
  generalize sortWorldK enc k w blk off m dk os = W
  refine ((h x y).2 (fun _ _ => none) W [.agg (enc x).toArray, .agg (enc y).toArray] ⟨ha x _ _, ha y _ _, trivial⟩ (fun _ _ _ e => by cases e)).mono ?_
  rintro e w' ⟨v, M', rfl, hr, _, _, hb⟩
  have hr : v = .int .i64 (cf x y) := hr
  subst hr
  exact ⟨rfl, regrown hb⟩
end Go.Ch

/- The layings of library functions that the shelf proves, in the numbers of this seat. -/
namespace Go.Proofs
open Go.Shelf
set_option maxRecDepth 100000
def Try.laysP_ren : Ren where
  f := fun n => match n with | 6 => 60 | 15 => 66 | 14 => 68 | 28 => 78 | 29 => 79 | 20 => 80 | 21 => 81 | 22 => 82 | 23 => 83 | 24 => 84 | 25 => 85 | 26 => 86 | 27 => 87 | 46 => 94 | 47 => 90 | 48 => 91 | 49 => 95 | 50 => 96 | 57 => 98 | n => n
  t := fun n => match n with | 22 => 33 | 24 => 44 | 25 => 95 | 3 => 3 | 39 => 100 | 0 => 0 | 53 => 112 | 55 => 114 | 4 => 4 | 46 => 106 | 45 => 105 | 50 => 61 | 5 => 5 | 9 => 9 | 66 => 120 | 70 => 124 | 76 => 128 | 77 => 129 | n => n
  g := fun n => n
theorem Try.laysP : SlLaysF0.n6 Try.prog Try.laysP_ren where
  mixed := by kernel_rfl
  f6 := ⟨ "slices.SortFunc[[]draghead/api.Point,draghead/api.Point]", of_decide_eq_true (by kernel_rfl), Try.func60.trans (congrArg some (by kernel_rfl))⟩
  f14 := ⟨ "slices.pdqsortCmpFunc[draghead/api.Point]", of_decide_eq_true (by kernel_rfl), Try.func68.trans (congrArg some (by kernel_rfl))⟩
  f15 := Try.func66.trans (congrArg some (by kernel_rfl))
  f20 := ⟨ "slices.insertionSortCmpFunc[draghead/api.Point]", of_decide_eq_true (by kernel_rfl), Try.func80.trans (congrArg some (by kernel_rfl))⟩
  f21 := ⟨ "slices.heapSortCmpFunc[draghead/api.Point]", of_decide_eq_true (by kernel_rfl), Try.func81.trans (congrArg some (by kernel_rfl))⟩
  f22 := ⟨ "slices.breakPatternsCmpFunc[draghead/api.Point]", of_decide_eq_true (by kernel_rfl), Try.func82.trans (congrArg some (by kernel_rfl))⟩
  f23 := ⟨ "slices.choosePivotCmpFunc[draghead/api.Point]", of_decide_eq_true (by kernel_rfl), Try.func83.trans (congrArg some (by kernel_rfl))⟩
  f24 := ⟨ "slices.reverseRangeCmpFunc[draghead/api.Point]", of_decide_eq_true (by kernel_rfl), Try.func84.trans (congrArg some (by kernel_rfl))⟩
  f25 := ⟨ "slices.partialInsertionSortCmpFunc[draghead/api.Point]", of_decide_eq_true (by kernel_rfl), Try.func85.trans (congrArg some (by kernel_rfl))⟩
  f26 := ⟨ "slices.partitionEqualCmpFunc[draghead/api.Point]", of_decide_eq_true (by kernel_rfl), Try.func86.trans (congrArg some (by kernel_rfl))⟩
  f27 := ⟨ "slices.partitionCmpFunc[draghead/api.Point]", of_decide_eq_true (by kernel_rfl), Try.func87.trans (congrArg some (by kernel_rfl))⟩
  f28 := Try.func78.trans (congrArg some (by kernel_rfl))
  f29 := Try.func79.trans (congrArg some (by kernel_rfl))
  f46 := ⟨ "slices.siftDownCmpFunc[draghead/api.Point]", of_decide_eq_true (by kernel_rfl), Try.func94.trans (congrArg some (by kernel_rfl))⟩
  f47 := Try.func90.trans (congrArg some (by kernel_rfl))
  f48 := Try.func91.trans (congrArg some (by kernel_rfl))
  f49 := ⟨ "slices.medianAdjacentCmpFunc[draghead/api.Point]", of_decide_eq_true (by kernel_rfl), Try.func95.trans (congrArg some (by kernel_rfl))⟩
  f50 := ⟨ "slices.medianCmpFunc[draghead/api.Point]", of_decide_eq_true (by kernel_rfl), Try.func96.trans (congrArg some (by kernel_rfl))⟩
  f57 := ⟨ "slices.order2CmpFunc[draghead/api.Point]", of_decide_eq_true (by kernel_rfl), Try.func98.trans (congrArg some (by kernel_rfl))⟩
  t0 := Try.underlying0
  a0 := Try.isAgg0
  z0 := Try.sizeOf0
  v0 := Try.zeroValue0
  t3 := Try.underlying3
  a3 := Try.isAgg3
  z3 := Try.sizeOf3
  v3 := Try.zeroValue3
  t4 := Try.underlying4
  a4 := Try.isAgg4
  z4 := Try.sizeOf4
  v4 := Try.zeroValue4
  t5 := Try.underlying5
  a5 := Try.isAgg5
  z5 := Try.sizeOf5
  v5 := Try.zeroValue5
  t9 := Try.underlying9
  a9 := Try.isAgg9
  z9 := Try.sizeOf9
  v9 := Try.zeroValue9
  t22 := Try.underlying33
  a22 := Try.isAgg33
  z22 := Try.sizeOf33
  v22 := Try.zeroValue33
  t25 := Try.underlying95
  a25 := Try.isAgg95
  z25 := Try.sizeOf95
  v25 := Try.zeroValue95
  t39 := Try.underlying100
  a39 := Try.isAgg100
  z39 := Try.sizeOf100
  v39 := Try.zeroValue100
  t45 := Try.underlying105
  a45 := Try.isAgg105
  z45 := Try.sizeOf105
  v45 := Try.zeroValue105
  t46 := Try.underlying106
  a46 := Try.isAgg106
  z46 := Try.sizeOf106
  v46 := Try.zeroValue106
  t50 := Try.underlying61
  a50 := Try.isAgg61
  z50 := Try.sizeOf61
  v50 := Try.zeroValue61
  t53 := Try.underlying112
  a53 := Try.isAgg112
  z53 := Try.sizeOf112
  v53 := Try.zeroValue112
  t55 := Try.underlying114
  a55 := Try.isAgg114
  z55 := Try.sizeOf114
  v55 := Try.zeroValue114
  t66 := Try.underlying120
  a66 := Try.isAgg120
  z66 := Try.sizeOf120
  v66 := Try.zeroValue120
  t70 := Try.underlying124
  a70 := Try.isAgg124
  z70 := Try.sizeOf124
  v70 := Try.zeroValue124
  t76 := Try.underlying128
  a76 := Try.isAgg128
  z76 := Try.sizeOf128
  v76 := Try.zeroValue128
  t77 := Try.underlying129
  a77 := Try.isAgg129
  z77 := Try.sizeOf129
  v77 := Try.zeroValue129
def Try.laysT_ren : Ren where
  f := fun n => match n with | 6 => 53 | 15 => 66 | 14 => 65 | 28 => 78 | 29 => 79 | 20 => 70 | 21 => 71 | 22 => 72 | 23 => 73 | 24 => 74 | 25 => 75 | 26 => 76 | 27 => 77 | 46 => 89 | 47 => 90 | 48 => 91 | 49 => 92 | 50 => 93 | 57 => 97 | n => n
  t := fun n => match n with | 22 => 36 | 24 => 55 | 25 => 91 | 3 => 3 | 39 => 100 | 0 => 0 | 53 => 112 | 55 => 114 | 4 => 4 | 46 => 106 | 45 => 105 | 50 => 61 | 5 => 5 | 9 => 9 | 66 => 120 | 70 => 124 | 76 => 128 | 77 => 129 | n => n
  g := fun n => n
theorem Try.laysT : SlLaysF0.n6 Try.prog Try.laysT_ren where
  mixed := by kernel_rfl
  f6 := ⟨ "slices.SortFunc[[]draghead/api.Triangle,draghead/api.Triangle]", of_decide_eq_true (by kernel_rfl), Try.func53.trans (congrArg some (by kernel_rfl))⟩
  f14 := ⟨ "slices.pdqsortCmpFunc[draghead/api.Triangle]", of_decide_eq_true (by kernel_rfl), Try.func65.trans (congrArg some (by kernel_rfl))⟩
  f15 := Try.func66.trans (congrArg some (by kernel_rfl))
  f20 := ⟨ "slices.insertionSortCmpFunc[draghead/api.Triangle]", of_decide_eq_true (by kernel_rfl), Try.func70.trans (congrArg some (by kernel_rfl))⟩
  f21 := ⟨ "slices.heapSortCmpFunc[draghead/api.Triangle]", of_decide_eq_true (by kernel_rfl), Try.func71.trans (congrArg some (by kernel_rfl))⟩
  f22 := ⟨ "slices.breakPatternsCmpFunc[draghead/api.Triangle]", of_decide_eq_true (by kernel_rfl), Try.func72.trans (congrArg some (by kernel_rfl))⟩
  f23 := ⟨ "slices.choosePivotCmpFunc[draghead/api.Triangle]", of_decide_eq_true (by kernel_rfl), Try.func73.trans (congrArg some (by kernel_rfl))⟩
  f24 := ⟨ "slices.reverseRangeCmpFunc[draghead/api.Triangle]", of_decide_eq_true (by kernel_rfl), Try.func74.trans (congrArg some (by kernel_rfl))⟩
  f25 := ⟨ "slices.partialInsertionSortCmpFunc[draghead/api.Triangle]", of_decide_eq_true (by kernel_rfl), Try.func75.trans (congrArg some (by kernel_rfl))⟩
  f26 := ⟨ "slices.partitionEqualCmpFunc[draghead/api.Triangle]", of_decide_eq_true (by kernel_rfl), Try.func76.trans (congrArg some (by kernel_rfl))⟩
  f27 := ⟨ "slices.partitionCmpFunc[draghead/api.Triangle]", of_decide_eq_true (by kernel_rfl), Try.func77.trans (congrArg some (by kernel_rfl))⟩
  f28 := Try.func78.trans (congrArg some (by kernel_rfl))
  f29 := Try.func79.trans (congrArg some (by kernel_rfl))
  f46 := ⟨ "slices.siftDownCmpFunc[draghead/api.Triangle]", of_decide_eq_true (by kernel_rfl), Try.func89.trans (congrArg some (by kernel_rfl))⟩
  f47 := Try.func90.trans (congrArg some (by kernel_rfl))
  f48 := Try.func91.trans (congrArg some (by kernel_rfl))
  f49 := ⟨ "slices.medianAdjacentCmpFunc[draghead/api.Triangle]", of_decide_eq_true (by kernel_rfl), Try.func92.trans (congrArg some (by kernel_rfl))⟩
  f50 := ⟨ "slices.medianCmpFunc[draghead/api.Triangle]", of_decide_eq_true (by kernel_rfl), Try.func93.trans (congrArg some (by kernel_rfl))⟩
  f57 := ⟨ "slices.order2CmpFunc[draghead/api.Triangle]", of_decide_eq_true (by kernel_rfl), Try.func97.trans (congrArg some (by kernel_rfl))⟩
  t0 := Try.underlying0
  a0 := Try.isAgg0
  z0 := Try.sizeOf0
  v0 := Try.zeroValue0
  t3 := Try.underlying3
  a3 := Try.isAgg3
  z3 := Try.sizeOf3
  v3 := Try.zeroValue3
  t4 := Try.underlying4
  a4 := Try.isAgg4
  z4 := Try.sizeOf4
  v4 := Try.zeroValue4
  t5 := Try.underlying5
  a5 := Try.isAgg5
  z5 := Try.sizeOf5
  v5 := Try.zeroValue5
  t9 := Try.underlying9
  a9 := Try.isAgg9
  z9 := Try.sizeOf9
  v9 := Try.zeroValue9
  t22 := Try.underlying36
  a22 := Try.isAgg36
  z22 := Try.sizeOf36
  v22 := Try.zeroValue36
  t25 := Try.underlying91
  a25 := Try.isAgg91
  z25 := Try.sizeOf91
  v25 := Try.zeroValue91
  t39 := Try.underlying100
  a39 := Try.isAgg100
  z39 := Try.sizeOf100
  v39 := Try.zeroValue100
  t45 := Try.underlying105
  a45 := Try.isAgg105
  z45 := Try.sizeOf105
  v45 := Try.zeroValue105
  t46 := Try.underlying106
  a46 := Try.isAgg106
  z46 := Try.sizeOf106
  v46 := Try.zeroValue106
  t50 := Try.underlying61
  a50 := Try.isAgg61
  z50 := Try.sizeOf61
  v50 := Try.zeroValue61
  t53 := Try.underlying112
  a53 := Try.isAgg112
  z53 := Try.sizeOf112
  v53 := Try.zeroValue112
  t55 := Try.underlying114
  a55 := Try.isAgg114
  z55 := Try.sizeOf114
  v55 := Try.zeroValue114
  t66 := Try.underlying120
  a66 := Try.isAgg120
  z66 := Try.sizeOf120
  v66 := Try.zeroValue120
  t70 := Try.underlying124
  a70 := Try.isAgg124
  z70 := Try.sizeOf124
  v70 := Try.zeroValue124
  t76 := Try.underlying128
  a76 := Try.isAgg128
  z76 := Try.sizeOf128
  v76 := Try.zeroValue128
  t77 := Try.underlying129
  a77 := Try.isAgg129
  z77 := Try.sizeOf129
  v77 := Try.zeroValue129
def Try.laysC_ren : Ren where
  f := fun n => match n with | 5 => 69 | 7 => 88 | n => n
  t := fun n => match n with | 22 => 3 | 3 => 3 | 4 => 4 | n => n
  g := fun n => n
theorem Try.laysC : SlLaysC2.n5 Try.prog Try.laysC_ren where
  mixed := by kernel_rfl
  f5 := ⟨ "cmp.Compare[int]", of_decide_eq_true (by kernel_rfl), Try.func69.trans (congrArg some (by kernel_rfl))⟩
  f7 := ⟨ "cmp.isNaN[int]", of_decide_eq_true (by kernel_rfl), Try.func88.trans (congrArg some (by kernel_rfl))⟩
  t3 := Try.underlying3
  a3 := Try.isAgg3
  z3 := Try.sizeOf3
  v3 := Try.zeroValue3
  t4 := Try.underlying4
  a4 := Try.isAgg4
  z4 := Try.sizeOf4
  v4 := Try.zeroValue4
  t22 := Try.underlying3
  a22 := Try.isAgg3
  z22 := Try.sizeOf3
  v22 := Try.zeroValue3
end Go.Proofs

/- cmp.Or, ahead, the comparison of triangles; the sorts. -/
namespace Go.Ch
open Go Go.Ax Go.Proofs Go.Proofs.Try Go.Hull
set_option maxRecDepth 100000
set_option pp.maxSteps 400
set_option maxHeartbeats 1000000

def orF (l : List Int) : Nat → Nat → Int
  | 0, _ => 0
  | n + 1, i => bif l.getD i 0 != 0 then l.getD i 0 else orF l n (i + 1)
theorem Or (l : List Int) (hl : l.length ≤ 1000000) : CallP Try.prog 55 [vInts l] (vI (orF l l.length 0)) := by
  refine callP_of_ex (rc := []) (N := 18) Try.func55 rfl rfl Try.call55 tab_ok mix rfl rfl (fun cx href => ?_)
  refine AW.loopI (fun i : Nat => ⟨[(3, vI 0), (6, vInts l), (7, vI l.length), (8, vI i)], []⟩) (fun i => i ≤ l.length ∧ orF l l.length 0 = orF l (l.length - i) i) (fun i => l.length - i) 0 ⟨Nat.zero_le _, rfl⟩ ?_ ?_
  · exact SubI.of0 href [] rfl trivial ⟨⟨rfl, LeQ.rfl⟩, ⟨rfl, LeQ.rfl⟩, ⟨rfl, LeQ.rfl⟩, ⟨rfl, LeQ.rfl⟩, trivial⟩
  · rintro i ⟨hi, hj⟩
    refine ex.sound (rc := []) tab_ok mix href _ ?_
    refine And.intro (fun h => ?_) (fun h => ?_)
    · have h : (i : Int) < l.length := decT h
      rw [show l.length - i = (l.length - (i + 1)) + 1 by omega, orF] at hj
      refine oi ⟨by omega, by omega⟩ ?_
      refine And.intro (fun h2 => ?_) (fun h2 => ?_)
      · have h2 : (l.getD i 0 != 0) = true := h2
        exact SubR.of_eq (by rw [hj, h2]; rfl)
      · have h2 : (l.getD i 0 != 0) = false := h2
        refine ⟨i + 1, ⟨by omega, by rw [hj, h2]; rfl⟩, by omega, ?_⟩
        exact SubI.of0 href [] rfl trivial ⟨⟨rfl, LeQ.rfl⟩, ⟨rfl, LeQ.rfl⟩, ⟨rfl, LeQ.rfl⟩, ⟨rfl, LeQ.int (w64_of (by omega) (by omega))⟩, trivial⟩
    · have h : ¬ (i : Int) < l.length := decF h
      rw [show l.length - i = 0 by omega] at hj
      exact SubR.of_eq (by rw [hj]; rfl)
def ahdI (a b : Pt) : Int := orF [sgn (a.x - b.x), sgn (a.y - b.y)] 2 0
theorem gAhead (a b : Pt) : CallP Try.prog 61 [pt a, pt b] (vI (ahdI a b)) := by
  refine callP_of_ex (rc := []) (N := 17) Try.func61 rfl rfl Try.call61 tab_ok mix rfl rfl (fun cx href => ?_)
  refine callN (Compare a.x b.x) ?_
  refine callN (Compare a.y b.y) ?_
  refine callN ((Or [sgn (a.x - b.x), sgn (a.y - b.y)] (by simp)).conv (args' := _) ⟨LeD.slc fun i j hi hj => LeD.of_eq ?_, trivial⟩) ?_
  · obtain rfl : j = 0 := by have : j < 1 := hj; omega
    match i, hi with
    | 0, _ => rfl
    | 1, _ => rfl
  refine And.intro (by kernel_rfl) ?_
  exact SubR.refl _
end Go.Ch

/- The sorts of points and triangles. -/
namespace Go.Ch
open Go Go.Ax Go.Sort Go.Proofs Go.Proofs.Try Go.Hull
set_option maxRecDepth 100000
set_option pp.maxSteps 400
set_option maxHeartbeats 1000000

theorem sgn_neg (n : Int) : sgn n < 0 ↔ n < 0 := by
  unfold sgn; split
  · simp; omega
  · split
    · simp; omega
    · simp; omega
theorem sgn_zero (n : Int) : sgn n = 0 ↔ n = 0 := by
  unfold sgn; split
  · simp; omega
  · split
    · simp; omega
    · simp; omega
theorem ahdI_eq (a b : Pt) : ahdI a b = bif sgn (a.x - b.x) != 0 then sgn (a.x - b.x) else bif sgn (a.y - b.y) != 0 then sgn (a.y - b.y) else 0 := rfl
theorem ahdI_neg (a b : Pt) : ahdI a b < 0 ↔ bef a b = true := by
  rw [ahdI_eq]
  unfold bef
  simp only [Bool.or_eq_true, Bool.and_eq_true, decide_eq_true_eq, beq_iff_eq]
  have h1 := sgn_neg (a.x - b.x)
  have h2 := sgn_neg (a.y - b.y)
  have z1 := sgn_zero (a.x - b.x)
  have z2 := sgn_zero (a.y - b.y)
  cases q1 : sgn (a.x - b.x) != 0 with
  | true =>
    have : sgn (a.x - b.x) ≠ 0 := by simpa using q1
    simp only [cond_true]
    omega
  | false =>
    have : sgn (a.x - b.x) = 0 := by simpa using q1
    simp only [cond_false]
    cases q2 : sgn (a.y - b.y) != 0 with
    | true => simp only [cond_true]; omega
    | false =>
      have : sgn (a.y - b.y) = 0 := by simpa using q2
      simp only [cond_false]
      omega
theorem lt_ahd (a b : Pt) : ltOf ahdI a b = bef a b := by
  unfold ltOf
  rw [Bool.eq_iff_iff, decide_eq_true_eq]
  exact ahdI_neg a b
theorem swo_ahd : SWO (ltOf ahdI) where
  irrefl x := by rw [lt_ahd]; exact bef_irr x
  trans x y z h1 h2 := by rw [lt_ahd] at *; exact bef_trans h1 h2
  ntrans x y z h1 h2 := by
    rw [lt_ahd] at *
    unfold bef at *
    simp only [Bool.or_eq_false_iff, Bool.and_eq_false_iff, decide_eq_false_iff_not, beq_eq_false_iff_ne] at *
    omega
theorem sortP_ahd (l : List Pt) : (l.mergeSort fun x y => !(ltOf ahdI) y x) = sortP l := by
  unfold sortP
  congr 1
  funext x y
  rw [lt_ahd]
  congr 1
  rw [Bool.eq_iff_iff, decide_eq_true_eq]
  exact (aheadI_neg y x).symm
def encPt (p : Pt) : List Value := [.int .i64 p.x, .int .i64 p.y]
theorem SortPts (l : List Pt) (f0 : Nat → Nat → DV) (hf0 : ∀ i j, i < l.length → j < 2 → LeD (f0 i j) (ptD (l.getD i default) j)) (hl : l.length ≤ 1000000) :
    CallR Try.prog 60 [.s (.own 1001), .s (.clo 61 [])] [(1001, .row 44 l.length 2 f0)] (.t []) [(1001, .row 44 l.length 2 (ptEl (sortP l)))] := by
  have h := SortFK (P := Try.prog) (α := Pt) (ρ := Try.laysP_ren) Try.laysP (F := 60) (g := 61) (e := 44) (k := 2) rfl Try.call60 (by decide) Try.isAgg44 Try.sizeOf44 ptD encPt (fun _ => rfl)
    (fun x v hv => by
      simp only [encPt, List.mem_cons, List.not_mem_nil, or_false] at hv
      rcases hv with rfl | rfl <;> rfl)
    (fun x j hj => by
      match j, hj with
      | 0, _ => rfl
      | 1, _ => rfl) ahdI swo_ahd
    (fun x y h1 h2 => by
      rw [lt_ahd] at h1 h2
      refine Classical.byContradiction fun hne => ?_
      rw [bef_tot hne h1] at h2
      cases h2) Try.call61
    (fun blk off n w => CmpLays.of pt (fun x M β => ⟨[_, _], rfl, rfl, rfl, trivial⟩) gAhead blk off n w) l f0 hf0 hl
  rw [sortP_ahd] at h
  exact h
/-- Triangles with small numbers. -/
abbrev TB : Type := { t : Tri // t.A < 1024 ∧ t.B < 1024 ∧ t.C < 1024 }
instance : Inhabited TB := ⟨⟨⟨0, 0, 0⟩, by decide⟩⟩
def trOf (t : Tri) : Tr := ⟨t.A, t.B, t.C⟩
def tbD (t : TB) : Nat → DV := trD (trOf t.1)
def cfB (s t : TB) : Int := cfT s.1 t.1
theorem orF3 (x y z : Int) : orF [x, y, z] 3 0 = if x ≠ 0 then x else if y ≠ 0 then y else z := by
  show (bif x != 0 then x else bif y != 0 then y else bif z != 0 then z else 0) = _
  by_cases hx : x = 0
  · subst hx
    by_cases hy : y = 0
    · subst hy
      by_cases hz : z = 0
      · subst hz; rfl
      · rw [show (z != 0) = true by simpa using hz]; simp
    · rw [show (y != 0) = true by simpa using hy]; simp [hy]
  · rw [show (x != 0) = true by simpa using hx]; simp [hx]
theorem gCmpT (s t : TB) : CallP Try.prog 54 [trV (trOf s.1), trV (trOf t.1)] (vI (cfB s t)) := by
  obtain ⟨⟨A, B, C⟩, h1, h2, h3⟩ := s
  obtain ⟨⟨A', B', C'⟩, k1, k2, k3⟩ := t
  simp only at h1 h2 h3 k1 k2 k3
  refine callP_of_ex (rc := []) (N := 22) Try.func54 rfl rfl Try.call54 tab_ok mix rfl rfl (fun cx href => ?_)
  refine callN ((Or [w64 ((A : Int) - A'), w64 ((B : Int) - B'), w64 ((C : Int) - C')] (by simp)).conv (args' := _) ⟨LeD.slc fun i j hi hj => LeD.of_eq ?_, trivial⟩) ?_
  · obtain rfl : j = 0 := by have : j < 1 := hj; omega
    match i, hi with
    | 0, _ => rfl
    | 1, _ => rfl
    | 2, _ => rfl
  refine SubR.of_eq ?_
  show vI (orF [w64 ((A : Int) - A'), w64 ((B : Int) - B'), w64 ((C : Int) - C')] 3 0) = _
  rw [w64_of (by omega) (by omega), w64_of (by omega) (by omega), w64_of (by omega) (by omega), orF3]
  rfl
theorem cfB_lt (s t : TB) : ltOf cfB s t = true ↔ tLt s.1 t.1 := by
  unfold ltOf cfB
  rw [decide_eq_true_eq]
  exact cfT_lt s.1 t.1
theorem cfB_ge (s t : TB) : ltOf cfB s t = false ↔ ¬ tLt s.1 t.1 := by
  rw [← cfB_lt]
  simp
theorem swo_cfB : SWO (ltOf cfB) where
  irrefl x := by rw [cfB_ge]; unfold tLt; omega
  trans x y z h1 h2 := by rw [cfB_lt] at *; unfold tLt at *; omega
  ntrans x y z h1 h2 := by rw [cfB_ge] at *; unfold tLt at *; omega
def encTB (t : TB) : List Value := [.int .i64 t.1.A, .int .i64 t.1.B, .int .i64 t.1.C]
theorem SortTB (l : List TB) (f0 : Nat → Nat → DV) (hf0 : ∀ i j, i < l.length → j < 3 → LeD (f0 i j) (tbD (l.getD i default) j)) (hl : l.length ≤ 1000000) :
    CallR Try.prog 53 [.s (.own 1001), .s (.clo 54 [])] [(1001, .row 55 l.length 3 f0)] (.t []) [(1001, .row 55 l.length 3 (fun i => tbD ((l.mergeSort fun x y => !(ltOf cfB) y x).getD i default)))] :=
  SortFK (P := Try.prog) (α := TB) (ρ := Try.laysT_ren) Try.laysT (F := 53) (g := 54) (e := 55) (k := 3) rfl Try.call53 (by decide) Try.isAgg55 Try.sizeOf55 tbD encTB (fun _ => rfl)
    (fun x v hv => by
      simp only [encTB, List.mem_cons, List.not_mem_nil, or_false] at hv
      rcases hv with rfl | rfl | rfl <;> rfl)
    (fun x j hj => by
      match j, hj with
      | 0, _ => rfl
      | 1, _ => rfl
      | 2, _ => rfl) cfB swo_cfB
    (fun x y h1 h2 => by
      rw [cfB_ge] at h1 h2
      unfold tLt at h1 h2
      obtain ⟨⟨A, B, C⟩, _⟩ := x
      obtain ⟨⟨A', B', C'⟩, _⟩ := y
      simp only at h1 h2
      have : A = A' := by omega
      have : B = B' := by omega
      have : C = C' := by omega
      subst_vars
      rfl) Try.call54
    (fun blk off n w => CmpLays.of (fun t : TB => trV (trOf t.1)) (fun x M β => ⟨[_, _, _], rfl, rfl, rfl, rfl, trivial⟩) gCmpT blk off n w) l f0 hf0 hl
def trTs (l : List Tri) : List Tr := l.map trOf
theorem lift_tb : ∀ (l : List Tri), (∀ t ∈ l, t.A < 1024 ∧ t.B < 1024 ∧ t.C < 1024) → ∃ lb : List TB, lb.map (fun t : TB => t.1) = l
  | [], _ => ⟨[], rfl⟩
  | t :: l, h => by
    obtain ⟨lb, e⟩ := lift_tb l (fun x hx => h x (List.mem_cons_of_mem _ hx))
    exact ⟨⟨t, h t List.mem_cons_self⟩ :: lb, by rw [List.map_cons, e]⟩
/-- The sort of triangles, at lists of triples of numbers. -/
theorem SortTri (l : List Tri) (hb : ∀ t ∈ l, t.A < 1024 ∧ t.B < 1024 ∧ t.C < 1024) (f0 : Nat → Nat → DV) (hf0 : ∀ i j, i < l.length → j < 3 → LeD (f0 i j) (trD ((trTs l).getD i default) j)) (hl : l.length ≤ 1000000) :
    CallR Try.prog 53 [.s (.own 1001), .s (.clo 54 [])] [(1001, .row 55 l.length 3 f0)] (.t []) [(1001, .row 55 l.length 3 (trEl (trTs (l.mergeSort fun x y => !(decide (cfT y x < 0))))))] := by
  obtain ⟨lb, rfl⟩ : ∃ lb : List TB, lb.map (fun t : TB => t.1) = l := lift_tb l hb
  have hg : ∀ (m : List TB) (i : Nat), i < m.length → (trTs (m.map (fun t : TB => t.1))).getD i default = trOf (m.getD i default).1 := by
    intro m i hi
    unfold trTs
    simp [List.getD, hi]
  have hms : (lb.map (fun t : TB => t.1)).mergeSort (fun x y => !(decide (cfT y x < 0))) = (lb.mergeSort fun x y => !(ltOf cfB) y x).map (fun t : TB => t.1) := by
    rw [List.map_mergeSort (s := fun x y => !(decide (cfT y x < 0)))]
    intro a _ b _
    rfl
  have hlen : (lb.map (fun t : TB => t.1)).length = lb.length := by simp
  have h := SortTB lb f0 (fun i j hi hj => by
    have := hf0 i j (by rw [hlen]; exact hi) hj
    rw [hg lb i hi] at this
    exact this) (by rw [← hlen]; exact hl)
  rw [hms, hlen]
  have he : (fun i => tbD ((lb.mergeSort fun x y => !(ltOf cfB) y x).getD i default)) = trEl (trTs ((lb.mergeSort fun x y => !(ltOf cfB) y x).map (fun t : TB => t.1))) := by
    funext i
    unfold trEl tbD
    by_cases hi : i < (lb.mergeSort fun x y => !(ltOf cfB) y x).length
    · rw [hg _ i hi]
    · have e1 : (lb.mergeSort fun x y => !(ltOf cfB) y x).getD i default = default := by
        rw [List.getD_eq_getElem?_getD, List.getElem?_eq_none (by omega)]; rfl
      have e2 : (trTs ((lb.mergeSort fun x y => !(ltOf cfB) y x).map (fun t : TB => t.1))).getD i default = default := by
        rw [List.getD_eq_getElem?_getD, List.getElem?_eq_none (by unfold trTs; simp; simpa using hi)]; rfl
      rw [e1, e2]; rfl
  rw [← he]
  exact h
end Go.Ch

/- slices.Clone, Compact, Reverse of points; geometry's apart. -/
namespace Go.Ch
open Go Go.Ax Go.Proofs Go.Proofs.Try Go.Hull
set_option maxRecDepth 100000
set_option pp.maxSteps 400
set_option maxHeartbeats 1000000

theorem ptFit (l : List Pt) (k j : Nat) : j < 2 → (ptEl l k j).fit = true := fun h => by
  match j, h with
  | 0, _ => rfl
  | 1, _ => rfl
theorem ClonePO (l : List Pt) (h0 : l ≠ []) (hl : l.length ≤ 1000000) : CallR Try.prog 59 [pts l] [] (.s (.own 7)) [(7, .row 44 l.length 2 (ptEl l))] := by
  refine callO_of_ex (rc := []) (N := 8) Try.func59 rfl rfl Try.call59 tab_ok mix rfl rfl rfl rfl (fun cx href => ?_)
  intro b hb
  refine And.intro (fun h => ?_) (fun h => ?_)
  · exact absurd (List.length_eq_zero_iff.1 (hb h)) h0
  · refine ob (show (0 + l.length) * 16 ≤ 140737488355328 by omega) ?_
    refine ob (fun k j hk hj => ptFit l k j hj) ?_
    refine ⟨LeQ.rfl, ?_, trivial⟩
    show some (some (Box.row 44 (0 + l.length) 2 (catF 0 _ (ptEl l)))) = _
    rw [Nat.zero_add, catF0]
theorem ClonePNil : CallP Try.prog 59 [pts []] (pts []) := by
  refine callP_of_ex (rc := []) (N := 8) Try.func59 rfl rfl Try.call59 tab_ok mix rfl rfl (fun cx href => ?_)
  intro b hb
  refine And.intro (fun h => ?_) (fun h => ?_)
  · exact SubR.le (LeD.nil (s' := 2) (f := ptEl []))
  · refine ob (show (0 + 0) * 16 ≤ 140737488355328 by omega) ?_
    refine ob (fun k j hk hj => absurd hk (Nat.not_lt_zero k)) ?_
    exact SubR.le (LeD.slc' rfl fun i j hi hj => absurd hi (Nat.not_lt_zero i))
/-- No point equals the one before it. -/
def Adj (l : List Pt) : Prop := ∀ i, i + 1 < l.length → l.getD (i + 1) default ≠ l.getD i default
theorem CompactR (l : List Pt) (ha : Adj l) (hl : l.length ≤ 1000000) :
    CallR Try.prog 62 [.s (.own 1001)] [(1001, .row 44 l.length 2 (ptEl l))] (.s (.own 1001)) [(1001, .row 44 l.length 2 (ptEl l))] := by
  refine callO_of_ex (rc := []) (N := 61) Try.func62 rfl rfl Try.call62 tab_ok mix rfl rfl rfl rfl (fun cx href => ?_)
  refine And.intro (fun h => ?_) (fun h => ?_)
  · exact ⟨LeQ.rfl, rfl, trivial⟩
  have h0 : ¬ (l.length : Int) < 2 := decF h
  refine AW.loopI (fun k : Nat => ⟨[(0, .s (.own 1001)), (3, vI k)], [(1001, some (.row 44 l.length 2 (ptEl l)))]⟩)
    (fun k => 1 ≤ k ∧ k ≤ l.length) (fun k => l.length - k) 1 ⟨Nat.le_refl _, by omega⟩ ?_ ?_
  · exact SubI.of [] (by rw [href]; rfl) rfl ⟨⟨rfl, LeBx.rfl⟩, trivial⟩ ⟨⟨rfl, LeQ.rfl⟩, ⟨rfl, LeQ.rfl⟩, trivial⟩
  · rintro k ⟨k1, k2⟩
    refine ex.sound (rc := []) tab_ok mix href _ ?_
    refine And.intro (fun h => ?_) (fun h => ?_)
    · have h : (k : Int) < l.length := decT h
      have ew : w64 ((k : Int) - 1) = (k : Int) - 1 := w64_of (by omega) (by omega)
      refine oi ⟨by omega, by omega⟩ ?_
      refine oi (show ((k : Int)).toNat < l.length by omega) ?_
      refine oi (show 0 ≤ w64 ((k : Int) - 1) ∧ w64 ((k : Int) - 1) < (l.length : Int) by rw [ew]; omega) ?_
      refine oi (show (w64 ((k : Int) - 1)).toNat < l.length by rw [ew]; omega) ?_
      refine And.intro (by kernel_rfl) ?_
      refine And.intro (fun h2 => ?_) (fun h2 => ?_)
      · exfalso
        have h2 : (l.getD k default == l.getD (w64 ((k : Int) - 1)).toNat default) = true := by rw [← pt_beq]; exact h2
        rw [ew, show ((k : Int) - 1).toNat = k - 1 by omega, beq_iff_eq] at h2
        have := ha (k - 1) (by omega)
        rw [show k - 1 + 1 = k by omega] at this
        exact this h2
      · refine ⟨k + 1, ⟨by omega, by omega⟩, by omega, ?_⟩
        exact SubI.of [] (by rw [href]; rfl) rfl ⟨⟨rfl, LeBx.rfl⟩, trivial⟩ ⟨⟨rfl, LeQ.rfl⟩, ⟨rfl, LeQ.int (w64_of (by omega) (by omega))⟩, trivial⟩
    · exact ⟨LeQ.rfl, rfl, trivial⟩
end Go.Ch

/- slices.Reverse of points; geometry's apart. -/
namespace Go.Ch
open Go Go.Ax Go.Proofs Go.Proofs.Try Go.Hull
set_option maxRecDepth 100000
set_option pp.maxSteps 400
set_option maxHeartbeats 1000000

/-- k points from both ends exchanged. -/
def rvP (l : List Pt) (k i : Nat) : Pt := if i < k ∨ l.length - k ≤ i then l.getD (l.length - 1 - i) default else l.getD i default
def rvF (l : List Pt) (k : Nat) : Nat → Nat → DV := fun i => ptD (rvP l k i)
theorem rowSet_self2 {f : Nat → Nat → DV} {i j : Nat} {x y : DV} (hj : j < 2) : rowSet f i 0 [.d x, .d y] i j = match j with | 0 => x | _ => y := by
  unfold rowSet
  rw [if_pos rfl]
  match j, hj with
  | 0, _ => rfl
  | 1, _ => rfl
theorem rv_step {l : List Pt} {k : Nat} (hk : 2 * k + 1 < l.length) {i j : Nat} (hi : i < l.length) (hj : j < 2) :
    rowSet (rowSet (rvF l k) k 0 [.d (rvF l k (l.length - 1 - k) 0), .d (rvF l k (l.length - 1 - k) 1)]) (l.length - 1 - k) 0 [.d (rvF l k k 0), .d (rvF l k k 1)] i j = rvF l (k + 1) i j := by
  have e1 : rvP l k (l.length - 1 - k) = l.getD (l.length - 1 - k) default := by unfold rvP; rw [if_neg (by omega)]
  have e2 : rvP l k k = l.getD k default := by unfold rvP; rw [if_neg (by omega)]
  by_cases h1 : i = l.length - 1 - k
  · subst h1
    rw [rowSet_self2 hj]
    have e3 : rvP l (k + 1) (l.length - 1 - k) = l.getD k default := by
      unfold rvP; rw [if_pos (by omega)]; congr 1; omega
    unfold rvF
    rw [e2, e3]
    match j, hj with
    | 0, _ => rfl
    | 1, _ => rfl
  · rw [rowSet_ne h1]
    by_cases h2 : i = k
    · subst h2
      rw [rowSet_self2 hj]
      have e3 : rvP l (i + 1) i = l.getD (l.length - 1 - i) default := by
        unfold rvP; rw [if_pos (by omega)]
      unfold rvF
      rw [e1, e3]
      match j, hj with
      | 0, _ => rfl
      | 1, _ => rfl
    · rw [rowSet_ne h2]
      unfold rvF
      congr 1
      unfold rvP
      by_cases h3 : i < k ∨ l.length - k ≤ i
      · rw [if_pos h3, if_pos (by omega)]
      · rw [if_neg h3, if_neg (by omega)]
theorem rv_end (l : List Pt) {i : Nat} (hi : i < l.length) : rvP l (l.length / 2) i = l.reverse.getD i default := by
  unfold rvP
  rw [List.getD_eq_getElem?_getD (l := l.reverse), List.getElem?_reverse hi]
  by_cases h : i < l.length / 2 ∨ l.length - l.length / 2 ≤ i
  · rw [if_pos h, List.getD_eq_getElem?_getD]
  · rw [if_neg h, List.getD_eq_getElem?_getD]
    congr 2; omega
theorem ReverseP (l : List Pt) (h0 : 0 < l.length) (hl : l.length ≤ 1000000) :
    CallR Try.prog 63 [.s (.own 1001)] [(1001, .row 44 l.length 2 (ptEl l))] (.t []) [(1001, .row 44 l.length 2 (rvF l (l.length / 2)))] := by
  refine callQ_of_ex (rc := []) (N := 28) Try.func63 rfl rfl Try.call63 tab_ok mix rfl rfl rfl (fun cx href => ?_)
  refine AW.loopI (fun k : Nat => ⟨[(0, .s (.own 1001)), (2, vI k), (3, vI ((l.length : Int) - 1 - k))], [(1001, some (.row 44 l.length 2 (rvF l k)))]⟩)
    (fun k => 2 * k ≤ l.length) (fun k => l.length - k) 0 (Nat.zero_le _) ?_ ?_
  · refine SubI.of [] (by rw [href]; rfl) rfl ⟨⟨rfl, LeBx.row rfl fun i j hi hj => LeD.of_eq ?_⟩, trivial⟩ ⟨⟨rfl, LeQ.rfl⟩, ⟨rfl, LeQ.rfl⟩, ⟨rfl, LeQ.int ?_⟩, trivial⟩
    · unfold rvF rvP
      rw [if_neg (by omega)]; rfl
    · exact (w64_of (by omega) (by omega)).trans (by omega)
  · intro k hk
    refine ex.sound (rc := []) tab_ok mix href _ ?_
    refine And.intro (fun h => ?_) (fun h => ?_)
    · have h : (k : Int) < (l.length : Int) - 1 - k := decT h
      refine oi ⟨by omega, by omega⟩ ?_
      refine oi (show ((l.length : Int) - 1 - k).toNat < l.length by omega) ?_
      refine oi ⟨by omega, by omega⟩ ?_
      refine oi (show ((k : Int)).toNat < l.length by omega) ?_
      refine oi ⟨by omega, by omega⟩ ?_
      refine ob (show ((k : Int)).toNat < l.length by omega) ?_
      refine oi ⟨by omega, by omega⟩ ?_
      refine ob (show ((l.length : Int) - 1 - k).toNat < l.length by omega) ?_
      refine And.intro (by kernel_rfl) ?_
      refine ⟨k + 1, by omega, by omega, ?_⟩
      refine SubI.of [] (by rw [href]; rfl) rfl ⟨⟨rfl, LeBx.row rfl fun i j hi hj => LeD.of_eq ?_⟩, trivial⟩ ⟨⟨rfl, LeQ.rfl⟩, ⟨rfl, LeQ.int (w64_of (by omega) (by omega))⟩, ⟨rfl, LeQ.int ?_⟩, trivial⟩
      · rw [← rv_step (l := l) (k := k) (by omega) hi hj]
        show rowSet (rowSet (rvF l k) ((k : Int)).toNat 0 [.d (rvF l k ((l.length : Int) - 1 - k).toNat 0), .d (rvF l k ((l.length : Int) - 1 - k).toNat 1)]) ((l.length : Int) - 1 - k).toNat 0 [.d (rvF l k ((k : Int)).toNat 0), .d (rvF l k ((k : Int)).toNat 1)] i j = _
        rw [show ((l.length : Int) - 1 - k).toNat = l.length - 1 - k by omega, Int.toNat_natCast]
      · exact (w64_of (by omega) (by omega)).trans (by omega)
    · have h : ¬ (k : Int) < (l.length : Int) - 1 - k := decF h
      obtain rfl : k = l.length / 2 := by omega
      exact ⟨rfl, trivial⟩
theorem ReversePR (l : List Pt) (h0 : 0 < l.length) (hl : l.length ≤ 1000000) :
    CallR Try.prog 63 [.s (.own 1001)] [(1001, .row 44 l.length 2 (ptEl l))] (.t []) [(1001, .row 44 l.length 2 (rvF l (l.length / 2)))] := ReverseP l h0 hl
/-- geometry.apart -/
theorem gApart (l : List Pt) (hg : ∀ p ∈ l, okP p) (hl : l.length ≤ 1000000) : CallP Try.prog 50 [pts l] (vB (apartB l)) := by
  refine callP_of_ex (rc := []) (N := 35) Try.func50 rfl rfl Try.call50 tab_ok mix rfl rfl (fun cx href => ?_)
  have hat : ∀ i, i < l.length → okP (l.getD i default) := fun i hi => by rw [getD_at hi]; exact hg _ (List.getElem_mem hi)
  refine AW.loopI (fun i : Nat => ⟨[(0, pts l), (7, pts l), (8, vI l.length), (9, vI i)], []⟩)
    (fun i => i ≤ l.length ∧ apartB l = (l.drop i).any fun p => l.any fun q => far p q) (fun i => l.length - i) 0 ⟨Nat.zero_le _, rfl⟩ ?_ ?_
  · exact SubI.of0 href [] rfl trivial ⟨⟨rfl, LeQ.rfl⟩, ⟨rfl, LeQ.rfl⟩, ⟨rfl, LeQ.rfl⟩, ⟨rfl, LeQ.rfl⟩, trivial⟩
  · rintro i ⟨hi, hj⟩
    refine ex.sound (rc := []) tab_ok mix href _ ?_
    refine And.intro (fun h => ?_) (fun h => ?_)
    · have h : (i : Int) < l.length := decT h
      have hi' : i < l.length := by omega
      have hp := hat i hi'
      rw [List.drop_eq_getElem_cons hi', List.any_cons] at hj
      have e0 : l.getD i default = l[i] := getD_at hi'
      refine oi ⟨by omega, by omega⟩ ?_
      refine AW.loopI (fun k : Nat => ⟨[(0, pts l), (4, .s (.ptr 4 0)), (7, pts l), (8, vI l.length), (9, vI i), (13, pts l), (14, vI l.length), (15, vI k)], [(4, some (.cells [.d (dI (l.getD i default).x), .d (dI (l.getD i default).y)]))]⟩)
        (fun k => k ≤ l.length ∧ (l.any fun q => far l[i] q) = (l.drop k).any fun q => far l[i] q) (fun k => l.length - k) 0 ⟨Nat.zero_le _, rfl⟩ ?_ ?_
      · exact SubI.of0 href [] rfl ⟨⟨rfl, LeBx.rfl⟩, trivial⟩ ⟨⟨rfl, LeQ.rfl⟩, ⟨rfl, LeQ.rfl⟩, ⟨rfl, LeQ.rfl⟩, ⟨rfl, LeQ.rfl⟩, ⟨rfl, LeQ.rfl⟩, ⟨rfl, LeQ.rfl⟩, ⟨rfl, LeQ.rfl⟩, ⟨rfl, LeQ.rfl⟩, trivial⟩
      · rintro k ⟨hk, hm⟩
        refine ex.sound (rc := []) tab_ok mix href _ ?_
        refine And.intro (fun h2 => ?_) (fun h2 => ?_)
        · have h2 : (k : Int) < l.length := decT h2
          have hk' : k < l.length := by omega
          have hq := hat k hk'
          rw [List.drop_eq_getElem_cons hk', List.any_cons] at hm
          have e1 : l.getD k default = l[k] := getD_at hk'
          unfold okP at hp hq
          have w1 : w64 ((l.getD i default).x - (l.getD k default).x) = (l.getD i default).x - (l.getD k default).x := w64_of (by omega) (by omega)
          have w2 : w64 ((l.getD i default).y - (l.getD k default).y) = (l.getD i default).y - (l.getD k default).y := w64_of (by omega) (by omega)
          refine oi ⟨by omega, by omega⟩ ?_
          repeat first | refine sk ?_ | refine st ?_ | refine sg ?_ | refine sh ?_ | refine su ?_ | refine sn1 ?_ | refine sn0 ?_ | refine And.intro (show imp none (gimp _ none) from trivial) ?_
          have hf : ∀ b, (decide (w64 ((l.getD i default).x - (l.getD k default).x) > 20000) || decide (w64 ((l.getD i default).y - (l.getD k default).y) > 20000)) = b → far l[i] l[k] = b := by
            intro b h
            rw [w1, w2, e0, e1] at h
            exact h
          refine And.intro (fun h3 => ?_) (fun h3 => ?_)
          · have h3 := hf _ h3
            exact SubR.lit (by rw [hj, hm, h3]; rfl)
          · have h3 := hf _ h3
            refine ⟨k + 1, ⟨by omega, by rw [hm, h3]; rfl⟩, by omega, ?_⟩
            exact SubI.of0 href [] rfl ⟨⟨rfl, LeBx.rfl⟩, trivial⟩ ⟨⟨rfl, LeQ.rfl⟩, ⟨rfl, LeQ.rfl⟩, ⟨rfl, LeQ.rfl⟩, ⟨rfl, LeQ.rfl⟩, ⟨rfl, LeQ.rfl⟩, ⟨rfl, LeQ.rfl⟩, ⟨rfl, LeQ.rfl⟩, ⟨rfl, LeQ.int (w64_of (by omega) (by omega))⟩, trivial⟩
        · have h2 : ¬ (k : Int) < l.length := decF h2
          obtain rfl : k = l.length := by omega
          rw [List.drop_length] at hm
          refine ⟨i + 1, ⟨by omega, by rw [hj, hm]; rfl⟩, by omega, ?_⟩
          exact SubI.of0 href [] rfl trivial ⟨⟨rfl, LeQ.rfl⟩, ⟨rfl, LeQ.rfl⟩, ⟨rfl, LeQ.rfl⟩, ⟨rfl, LeQ.int (w64_of (by omega) (by omega))⟩, trivial⟩
    · have h : ¬ (i : Int) < l.length := decF h
      obtain rfl : i = l.length := by omega
      rw [List.drop_length] at hj
      exact SubR.lit (by rw [hj]; rfl)
end Go.Ch

/- geometry.hull: no points; the words for its rounds. -/
namespace Go.Ch
open Go Go.Ax Go.Proofs Go.Proofs.Try Go.Hull
set_option maxRecDepth 100000
set_option pp.maxSteps 400
set_option maxHeartbeats 1000000

theorem SortPNil (a : AV) : CallP Try.prog 60 [pts [], a] (.t []) := by
  refine ⟨Try.call60, fun M w vs hr hM => ?_⟩
  match vs, hr with
  | [v, v2], ⟨hv, hv2, _⟩ =>
    obtain ⟨ad, cap, rfl, _⟩ := hv
    refine (AnyF.slices_SortFunc_none (P := Try.prog) (ρ := Try.laysP_ren) { Try.laysP with } ad cap v2 w).mono ?_
    rintro e w' ⟨he, rfl⟩
    exact ⟨.tuple #[], M, he, ⟨[], rfl, trivial⟩, Grow.refl _ _, hM, ⟨⟨rfl, rfl, rfl, Nat.le_refl _, fun _ _ => rfl⟩, Nat.le_refl _⟩⟩
  | [], h => exact h.elim
  | [_], h => exact h.2.elim
  | _ :: _ :: _ :: _, h => exact h.2.2.elim
theorem CompactPNil : CallP Try.prog 62 [pts []] (pts []) := by
  refine callP_of_ex (rc := []) (N := 61) Try.func62 rfl rfl Try.call62 tab_ok mix rfl rfl (fun cx href => ?_)
  refine And.intro (fun h => ?_) (fun h => ?_)
  · exact SubR.refl _
  · exact absurd (decF h) (by decide)
theorem hullNil : CallP Try.prog 51 [pts []] (pts []) := by
  refine callP_of_ex (rc := []) (N := 68) Try.func51 rfl rfl Try.call51 tab_ok mix rfl rfl (fun cx href => ?_)
  refine callN ClonePNil ?_
  refine callN (SortPNil _) ?_
  refine callN CompactPNil ?_
  refine And.intro (fun h => ?_) (fun h => ?_)
  · exact SubR.refl _
  · exact absurd (decF h) (by decide)
end Go.Ch

/- geometry.hull at one point or more. -/
namespace Go.Ch
open Go Go.Ax Go.Proofs Go.Proofs.Try Go.Hull
set_option maxRecDepth 100000
set_option pp.maxSteps 400
set_option maxHeartbeats 1000000

/-- The points of the round r, and what the rounds before it leave. -/
def sR (s : List Pt) : Nat → List Pt
  | 0 => s
  | r + 1 => (sR s r).reverse
def outR (s : List Pt) : Nat → List Pt
  | 0 => []
  | r + 1 => outR s r ++ (chain [] (sR s r)).reverse.dropLast
theorem sR_len (s : List Pt) : ∀ r, (sR s r).length = s.length
  | 0 => rfl
  | r + 1 => by rw [sR, List.length_reverse, sR_len s r]
theorem sR_mem {s : List Pt} {p : Pt} : ∀ {r}, p ∈ sR s r → p ∈ s
  | 0, h => h
  | r + 1, h => sR_mem (r := r) (by rw [sR, List.mem_reverse] at h; exact h)
theorem popS_mem {p q : Pt} : ∀ {st : List Pt}, q ∈ popS p st → q ∈ st
  | [], h => by simp [popS] at h
  | [v], h => by simpa [popS] using h
  | v :: u :: r, h => by
    rw [popS] at h
    split at h
    · exact List.mem_cons_of_mem _ (popS_mem h)
    · exact h
theorem chain_mem {q : Pt} : ∀ {l st : List Pt}, q ∈ chain st l → q ∈ st ∨ q ∈ l
  | [], st, h => .inl h
  | p :: ps, st, h => by
    rw [chain] at h
    rcases chain_mem h with h | h
    · rcases List.mem_cons.1 h with rfl | h
      · exact .inr (by simp)
      · exact .inl (popS_mem h)
    · exact .inr (by simp [h])
theorem chain_le : ∀ (l st : List Pt), (chain st l).length ≤ st.length + l.length
  | [], st => by simp [chain]
  | p :: ps, st => by
    rw [chain]
    have := chain_le ps (p :: popS p st)
    have h2 := popS_le (p := p) st
    simp only [List.length_cons] at this ⊢
    omega
theorem outR_len (s : List Pt) : ∀ r, (outR s r).length ≤ r * s.length
  | 0 => by simp [outR]
  | r + 1 => by
    rw [outR, List.length_append, List.length_dropLast, List.length_reverse]
    have h1 := outR_len s r
    have h2 := chain_le (sR s r) []
    rw [sR_len] at h2
    simp only [List.length_nil] at h2
    rw [Nat.add_mul]
    omega
theorem outR_mem {s : List Pt} {p : Pt} : ∀ {r}, p ∈ outR s r → p ∈ s
  | 0, h => by cases h
  | r + 1, h => by
    rw [outR] at h
    rcases List.mem_append.1 h with h | h
    · exact outR_mem h
    · have := List.mem_reverse.1 ((List.dropLast_sublist _).subset h)
      rcases chain_mem this with h | h
      · cases h
      · exact sR_mem h
def hullL (l : List Pt) : List Pt := if l.length < 2 then sortP l else outR (sortP l) 2
theorem chain_pos {l : List Pt} (h : 0 < l.length) : ∀ {st : List Pt}, 0 < (chain st l).length := by
  intro st
  have key : ∀ (l : List Pt) (st : List Pt), 0 < st.length → 0 < (chain st l).length := by
    intro l
    induction l with
    | nil => intro st h; exact h
    | cons p ps ih => intro st _; rw [chain]; exact ih _ (by simp)
  match l, h with
  | p :: ps, _ => rw [chain]; exact key _ _ (by simp)
theorem hullL_len {l : List Pt} : (hullL l).length = hullP l := by
  unfold hullL hullP
  split
  · exact (sortP_perm l).length_eq
  · show (([] ++ (chain [] (sortP l)).reverse.dropLast) ++ (chain [] (sortP l).reverse).reverse.dropLast).length = _
    unfold hullN
    rw [List.nil_append, List.length_append, List.length_dropLast, List.length_dropLast, List.length_reverse, List.length_reverse]
theorem chain_ge2 : ∀ (l st : List Pt), st ≠ [] → 2 ≤ st.length + l.length → (2 ≤ st.length ∨ l ≠ []) → 2 ≤ (chain st l).length
  | [], st, _, h, _ => by simpa [chain] using h
  | p :: ps, st, hs, _, _ => by
    rw [chain]
    have h1 := (popS_ne (p := p) st hs).1
    have h2 : 0 < (popS p st).length := List.length_pos_iff.2 h1
    exact chain_ge2 ps (p :: popS p st) (by simp) (by simp only [List.length_cons]; omega) (.inl (by simp only [List.length_cons]; omega))
theorem chain_two' {l : List Pt} (h : 2 ≤ l.length) : 2 ≤ (chain [] l).length := by
  match l, h with
  | a :: b :: r, _ =>
    rw [chain]
    exact chain_ge2 (b :: r) (a :: popS a []) (by simp) (by simp [popS]; omega) (.inr (by simp))
theorem drop_ne {pre : List Pt} {c : List Pt} (h : 2 ≤ c.length) : (pre ++ c.reverse.dropLast).isEmpty = false := by
  cases e : pre ++ c.reverse.dropLast with
  | nil =>
    have := congrArg List.length e
    simp only [List.length_append, List.length_dropLast, List.length_reverse, List.length_nil] at this
    omega
  | cons _ _ => rfl
theorem good_of {p : Pt} (h : okP p) : good p = true := good_iff.2 ⟨⟨h.1, h.2.1⟩, h.2.2⟩
theorem cross_crs {a b c : Pt} (ha : okP a) (hb : okP b) (hc : okP c) : cross a b c = crs a b c := (cross_eq (good_of ha) (good_of hb) (good_of hc)).1
theorem top_at (pre : List Pt) (v u : Pt) (t : List Pt) (hl : (pre ++ (v :: u :: t).reverse).length ≤ 1000000) :
    (pre ++ (v :: u :: t).reverse).getD (w64 (((pre ++ (v :: u :: t).reverse).length : Int) - 2)).toNat default = u ∧
    (pre ++ (v :: u :: t).reverse).getD (w64 (((pre ++ (v :: u :: t).reverse).length : Int) - 1)).toNat default = v := by
  have hn : (pre ++ (v :: u :: t).reverse).length = pre.length + t.length + 2 := by simp; omega
  rw [w64_of (by omega) (by omega), w64_of (by omega) (by omega), hn, show (((pre.length + t.length + 2 : Nat) : Int) - 2).toNat = pre.length + t.length by omega, show (((pre.length + t.length + 2 : Nat) : Int) - 1).toNat = pre.length + t.length + 1 by omega]
  have e : pre ++ (v :: u :: t).reverse = (pre ++ t.reverse) ++ [u, v] := by simp
  have hk : (pre ++ t.reverse).length = pre.length + t.length := by simp
  rw [e, List.getD_eq_getElem?_getD, List.getD_eq_getElem?_getD, List.getElem?_append_right (by omega), List.getElem?_append_right (by omega), hk]
  constructor
  · rw [show pre.length + t.length - (pre.length + t.length) = 0 by omega]; rfl
  · rw [show pre.length + t.length + 1 - (pre.length + t.length) = 1 by omega]; rfl
theorem pop_cons {x u v : Pt} {t : List Pt} (h : crs u v x ≤ 0) : popS x (v :: u :: t) = popS x (u :: t) := by rw [popS, if_pos h]
theorem pop_stop {x u v : Pt} {t : List Pt} (h : ¬ crs u v x ≤ 0) : popS x (v :: u :: t) = v :: u :: t := by rw [popS, if_neg h]
theorem ptRow_cut {a b : List Pt} {n i j : Nat} (h : ∀ k, k < n → a[k]? = b[k]?) (hi : i < n) : LeD (ptEl a i j) (ptEl b i j) := by
  refine LeD.of_eq ?_
  show ptD (a.getD i default) j = ptD (b.getD i default) j
  rw [List.getD_eq_getElem?_getD, List.getD_eq_getElem?_getD, h i hi]
theorem cut_at {a : List Pt} {v : Pt} {k : Nat} (h : k < a.length) : (a ++ [v])[k]? = a[k]? := by
  rw [List.getElem?_append_left h]
end Go.Ch

/- geometry.hull at one point or more: the walk. -/
namespace Go.Ch
open Go Go.Ax Go.Proofs Go.Proofs.Try Go.Hull
set_option maxRecDepth 100000
set_option pp.maxSteps 400
set_option maxHeartbeats 1000000

abbrev hS (r : Nat) (s o : List Pt) : St := ⟨[(0, .s (.own 8)), (3, .s (.mo o.isEmpty 100)), (17, vI r)],
  [(8, some (.row 44 s.length 2 (ptEl s))), (100, some (.mrow 44 o.length 2 (ptEl o)))]⟩
abbrev hS2 (r : Nat) (s pre : List Pt) (i : Nat) (st : List Pt) : St := ⟨[(0, .s (.own 8)), (3, .s (.mo (pre ++ st.reverse).isEmpty 100)), (4, vI pre.length), (17, vI r), (21, .s (.own 8)), (22, vI s.length), (23, vI i)],
  [(8, some (.row 44 s.length 2 (ptEl s))), (100, some (.mrow 44 (pre ++ st.reverse).length 2 (ptEl (pre ++ st.reverse))))]⟩
abbrev hS3 (r : Nat) (s pre : List Pt) (i : Nat) (st : List Pt) : St := ⟨[(3, .s (.own 100)), (0, .s (.own 8)), (4, vI pre.length), (6, .s (.ptr 6 0)), (17, vI r), (21, .s (.own 8)), (22, vI s.length), (23, vI i)],
  [(100, some (.row 44 (pre ++ st.reverse).length 2 (ptEl (pre ++ st.reverse)))), (6, some (.cells [.d (dI (s.getD i default).x), .d (dI (s.getD i default).y)])), (8, some (.row 44 s.length 2 (ptEl s)))]⟩
theorem hull1 (l : List Pt) (h0 : l ≠ []) (hd : Dist l) (ho : ∀ p ∈ l, okP p) (hl : l.length ≤ 1000) : CallP Try.prog 51 [pts l] (pts (hullL l)) := by
  have hso : ∀ p ∈ sortP l, okP p := fun p hp => ho p ((sortP_perm l).mem_iff.1 hp)
  have hsl : (sortP l).length = l.length := (sortP_perm l).length_eq
  have hnd : (sortP l).Nodup := (sortP_perm l).nodup_iff.2 (dist_nodup hd)
  have hadj : Adj (sortP l) := by
    intro i hi e
    rw [getD_at hi, getD_at (show i < _ by omega)] at e
    have := (List.getElem_inj hnd).1 e
    omega
  have hcomp := CompactR (sortP l) hadj (by omega)
  rw [hsl] at hcomp
  refine callP_of_aw Try.func51 rfl rfl Try.call51 tab_ok rfl rfl (fun cx href => ?_)
  refine AW.seq (ex.sound (rc := []) tab_ok mix href _ ?_)
  refine AW.seq (ex.sound (rc := [59]) tab_ok mix href _ ?_)
  refine ⟨[(7, 8)], _, _, _, _, ClonePO l h0 (by omega), rfl, trivial, rfl, ?_⟩
  refine AW.seq (ex.sound (rc := [60]) tab_ok mix href _ ?_)
  refine ⟨[(1001, 8)], _, _, _, _, SortPts l (ptEl l) (fun i j _ _ => LeD.refl _) (by omega), rfl, ⟨rfl, trivial⟩, rfl, ?_⟩
  refine AW.seq (ex.sound (rc := [62]) tab_ok mix href _ ?_)
  refine ⟨[(1001, 8)], _, _, _, _, hcomp, rfl, ⟨rfl, trivial⟩, rfl, ?_⟩
  refine AW.seq (ex.sound (rc := []) tab_ok mix href _ ?_)
  unfold hullL
  rw [← hsl]
  have hs0 : sortP l ≠ [] := fun e => h0 (List.eq_nil_of_length_eq_zero (by rw [← hsl, e]; rfl))
  generalize sortP l = s at *
  subst_vars
  refine And.intro (fun h => ?_) (fun h => ?_)
  · have h : (s.length : Int) < 2 := decT h
    rw [if_pos (by omega)]
    exact SubR.le (LeD.slc' rfl fun i j _ _ => LeD.refl _)
  have h : ¬ (s.length : Int) < 2 := decF h
  rw [if_neg (by omega)]
  refine AW.seq (ex.sound (rc := []) tab_ok mix href _ ?_)
  refine AW.cut (σ' := hS 2 (sR s 2) (outR s 2)) (AW.seq (ex.sound (rc := []) tab_ok mix href _ (AW.block ?_))) ?_
  · refine AW.loopI (fun r => hS r (sR s r) (outR s r)) (fun r => r ≤ 2) (fun r => 2 - r) 0 (Nat.zero_le _) ?_ ?_
    · refine SubI.of0 href [(100, 1000)] rfl ⟨⟨rfl, LeBx.row rfl fun i j _ _ => LeD.refl _⟩, ⟨rfl, rfl⟩, trivial⟩ ⟨⟨rfl, LeQ.rfl⟩, ⟨rfl, LeQ.nil rfl⟩, ⟨rfl, LeQ.rfl⟩, trivial⟩
    · intro r hr
      have hL : (sR s r).length = s.length := sR_len s r
      have hLo : ∀ p ∈ sR s r, okP p := fun p hp => hso p (sR_mem hp)
      have hpl : (outR s r).length ≤ 2000 := by
        have := outR_len s r
        have : r * s.length ≤ 2 * 1000 := Nat.mul_le_mul hr (by omega)
        omega
      have hpo : ∀ p ∈ outR s r, okP p := fun p hp => hso p (outR_mem hp)
      have hsn : sR s (r + 1) = (sR s r).reverse := rfl
      have hon : outR s (r + 1) = outR s r ++ (chain [] (sR s r)).reverse.dropLast := rfl
      have hcp : 0 < (chain [] (sR s r)).length := chain_pos (by omega)
      have hend : ∀ k, r = k → sR s k = sR s r ∧ outR s k = outR s r := fun k h => by subst h; exact ⟨rfl, rfl⟩
      generalize sR s r = L at *
      generalize outR s r = pre at *
      refine AW.seq (ex.sound (rc := []) tab_ok mix href _ ?_)
      refine AW.seq (ex.sound (rc := []) tab_ok mix href _ ?_)
      refine And.intro (fun h2 => ?_) (fun h2 => ?_)
      · have h2 : (r : Int) < 2 := decT h2
        refine AW.seq (AW.block (AW.seq (ex.sound (rc := []) tab_ok mix href _ ?_)))
        refine AW.cutE (fun _ : Unit => hS2 r L pre s.length (chain [] L)) (fun _ => True) (AW.seq (ex.sound (rc := []) tab_ok mix href _ (AW.block ?_))) ?_
        · refine AW.loopI (fun q : Nat × List Pt => hS2 r L pre q.1 q.2) (fun q => q.1 ≤ L.length ∧ chain [] L = chain q.2 (L.drop q.1) ∧ q.2.length ≤ q.1 ∧ ∀ p ∈ q.2, okP p) (fun q => L.length - q.1) (0, []) ⟨Nat.zero_le _, rfl, Nat.le_refl _, fun p hp => by cases hp⟩ ?_ ?_
          · refine SubI.of0 href [] rfl ⟨⟨rfl, LeBx.rfl⟩, ⟨rfl, LeBx.of_eq (by show Box.mrow 44 pre.length 2 (ptEl pre) = Box.mrow 44 (pre ++ ([] : List Pt).reverse).length 2 (ptEl (pre ++ ([] : List Pt).reverse)); rw [List.reverse_nil, List.append_nil])⟩, trivial⟩ ⟨⟨rfl, LeQ.rfl⟩, ⟨rfl, LeQ.mm (by simp)⟩, ⟨rfl, LeQ.int (by rw [bif_len])⟩, ⟨rfl, LeQ.rfl⟩, ⟨rfl, LeQ.rfl⟩, ⟨rfl, LeQ.rfl⟩, ⟨rfl, LeQ.rfl⟩, trivial⟩
          · rintro ⟨i, st⟩ ⟨hi, hch, hstl, hsto⟩
            refine AW.seq (ex.sound (rc := []) tab_ok mix href _ ?_)
            refine AW.seq (ex.sound (rc := []) tab_ok mix href _ ?_)
            refine And.intro (fun h3 => ?_) (fun h3 => ?_)
            · have h3 : (i : Int) < L.length := decT h3
              have hstl : st.length ≤ i := hstl
              have hsto : ∀ p ∈ st, okP p := hsto
              have hi' : i < L.length := by omega
              have ei : L.getD i default = L[i] := getD_at hi'
              rw [List.drop_eq_getElem_cons hi', chain, ← ei] at hch
              have hxo : okP (L.getD i default) := by rw [ei]; exact hLo _ (List.getElem_mem hi')
              refine AW.seq (AW.block ?_)
              refine AW.seq (ex.sound (rc := []) tab_ok mix href _ ?_)
              refine oi ⟨by omega, by omega⟩ ?_
              refine oi (show ((i : Int)).toNat < L.length by omega) ?_
              rw [Int.toNat_natCast]
              refine AW.cutE (fun _ : Unit => ⟨(6, .s (.ptr 6 0)) :: (hS2 r L pre i (popS (L.getD i default) st)).env, (6, some (.cells [.d (dI (L.getD i default).x), .d (dI (L.getD i default).y)])) :: (hS2 r L pre i (popS (L.getD i default) st)).box⟩) (fun _ => True) (AW.block ?_) ?_
              · cases hz : (pre ++ st.reverse).isEmpty with
                | true =>
                  have hnil : pre ++ st.reverse = [] := List.isEmpty_iff.1 hz
                  obtain ⟨hp0, hst0⟩ := List.append_eq_nil_iff.1 hnil
                  have hst0 : st = [] := List.reverse_eq_nil_iff.1 hst0
                  subst hp0 hst0
                  refine AW.loopI (fun _ : Unit => ⟨(6, .s (.ptr 6 0)) :: (hS2 r L [] i []).env, (6, some (.cells [.d (dI (L.getD i default).x), .d (dI (L.getD i default).y)])) :: (hS2 r L [] i []).box⟩) (fun _ => True) (fun _ => 0) () trivial ?_ ?_
                  · exact SubI.of0 href [] rfl ⟨⟨rfl, LeBx.rfl⟩, ⟨rfl, LeBx.rfl⟩, ⟨rfl, LeBx.rfl⟩, trivial⟩ ⟨⟨rfl, LeQ.rfl⟩, ⟨rfl, LeQ.rfl⟩, ⟨rfl, LeQ.rfl⟩, ⟨rfl, LeQ.rfl⟩, ⟨rfl, LeQ.rfl⟩, ⟨rfl, LeQ.rfl⟩, ⟨rfl, LeQ.rfl⟩, ⟨rfl, LeQ.rfl⟩, trivial⟩
                  · rintro _ _
                    refine AW.seq (ex.sound (rc := []) tab_ok mix href _ ?_)
                    repeat first | refine sk ?_ | refine st ?_ | refine sg ?_ | refine sh ?_ | refine su ?_ | refine sn1 ?_ | refine sn0 ?_ | refine And.intro (show imp none (gimp _ none) from trivial) ?_
                    repeat first | refine sk ?_ | refine st ?_ | refine sg ?_ | refine sh ?_ | refine su ?_ | refine sn1 ?_ | refine sn0 ?_ | refine And.intro (show imp none (gimp _ none) from trivial) ?_ | refine og (fun hb => absurd hb (by decide)) ?_
                    refine callF (vI 0) ?_ ?_
                    · exact (rfl : gpol true (decide (((bif (([] : List Pt) ++ [].reverse).isEmpty then 0 else (([] : List Pt) ++ [].reverse).length : Nat) : Int) ≥ w64 ((([] : List Pt).length : Int) + 2))) = false)
                    repeat first | refine sk ?_ | refine st ?_ | refine sg ?_ | refine sh ?_ | refine su ?_ | refine sn1 ?_ | refine sn0 ?_ | refine And.intro (show imp none (gimp _ none) from trivial) ?_
                    refine And.intro (by kernel_rfl) ?_
                    refine And.intro (fun h4 => ?_) (fun h4 => ?_)
                    · exact absurd h4 (by decide)
                    · refine ⟨rfl, (), trivial, ?_⟩
                      exact SubI.of0 href [] rfl ⟨⟨rfl, LeBx.rfl⟩, ⟨rfl, LeBx.rfl⟩, ⟨rfl, LeBx.rfl⟩, trivial⟩ ⟨⟨rfl, LeQ.rfl⟩, ⟨rfl, LeQ.rfl⟩, ⟨rfl, LeQ.rfl⟩, ⟨rfl, LeQ.rfl⟩, ⟨rfl, LeQ.rfl⟩, ⟨rfl, LeQ.rfl⟩, ⟨rfl, LeQ.rfl⟩, ⟨rfl, LeQ.rfl⟩, trivial⟩
                | false =>
                  refine AW.subI (SubI.own (e := 44) (n := (pre ++ st.reverse).length) (s := 2) (f := ptEl (pre ++ st.reverse)) (z := false) 3 100 ?_ rfl ?_) ?_
                  · show AV.s (.mo (pre ++ st.reverse).isEmpty 100) = _
                    rw [hz]
                  · rfl
                  refine AW.loopI (fun q : List Pt => hS3 r L pre i q) (fun q => popS (L.getD i default) q = popS (L.getD i default) st ∧ q.length ≤ st.length ∧ (∀ p ∈ q, okP p) ∧ 0 < (pre ++ q.reverse).length) (fun q => q.length) st ⟨rfl, Nat.le_refl _, hsto, by cases h : pre ++ st.reverse with | nil => rw [h] at hz; cases hz | cons _ _ => exact Nat.zero_lt_succ _⟩ ?_ ?_
                  · exact SubI.of0 href [] rfl ⟨⟨rfl, LeBx.rfl⟩, ⟨rfl, LeBx.rfl⟩, ⟨rfl, LeBx.rfl⟩, trivial⟩ ⟨⟨rfl, LeQ.rfl⟩, ⟨rfl, LeQ.rfl⟩, ⟨rfl, LeQ.rfl⟩, ⟨rfl, LeQ.rfl⟩, ⟨rfl, LeQ.rfl⟩, ⟨rfl, LeQ.rfl⟩, ⟨rfl, LeQ.rfl⟩, ⟨rfl, LeQ.rfl⟩, trivial⟩
                  · rintro q ⟨hq, hql, hqo, hq0⟩
                    refine AW.seq (ex.sound (rc := []) tab_ok mix href _ ?_)
                    have hol : (pre ++ q.reverse).length = pre.length + q.length := by rw [List.length_append, List.length_reverse]
                    have hoo : ∀ p ∈ (pre ++ q.reverse), okP p := fun p hp => by
                      rcases List.mem_append.1 hp with hp | hp
                      · exact hpo p hp
                      · exact hqo p (List.mem_reverse.1 hp)
                    have wa : w64 (((pre ++ q.reverse).length : Int) - 2) = ((pre ++ q.reverse).length : Int) - 2 := w64_of (by omega) (by omega)
                    have wb : w64 (((pre ++ q.reverse).length : Int) - 1) = ((pre ++ q.reverse).length : Int) - 1 := w64_of (by omega) (by omega)
                    have wc : w64 ((pre.length : Int) + 2) = (pre.length : Int) + 2 := w64_of (by omega) (by omega)
                    have hg2 : (decide (((pre ++ q.reverse).length : Int) ≥ w64 ((pre.length : Int) + 2))) = true → pre.length + 2 ≤ (pre ++ q.reverse).length := fun h => by
                      have := of_decide_eq_true h
                      omega
                    repeat first | refine sk ?_ | refine st ?_ | refine sg ?_ | refine sh ?_ | refine su ?_ | refine sn1 ?_ | refine sn0 ?_ | refine And.intro (show imp none (gimp _ none) from trivial) ?_
                    refine og (fun hb => ?_) ?_
                    · have := hg2 hb
                      show 0 ≤ w64 (((pre ++ q.reverse).length : Int) - 2) ∧ w64 (((pre ++ q.reverse).length : Int) - 2) < ((pre ++ q.reverse).length : Int)
                      omega
                    repeat first | refine sk ?_ | refine st ?_ | refine sg ?_ | refine sh ?_ | refine su ?_ | refine sn1 ?_ | refine sn0 ?_ | refine And.intro (show imp none (gimp _ none) from trivial) ?_
                    refine og (fun hb => ?_) ?_
                    · have := hg2 hb
                      show (w64 (((pre ++ q.reverse).length : Int) - 2)).toNat < (pre ++ q.reverse).length
                      omega
                    repeat first | refine sk ?_ | refine st ?_ | refine sg ?_ | refine sh ?_ | refine su ?_ | refine sn1 ?_ | refine sn0 ?_ | refine And.intro (show imp none (gimp _ none) from trivial) ?_
                    refine og (fun hb => ?_) ?_
                    · have := hg2 hb
                      show 0 ≤ w64 (((pre ++ q.reverse).length : Int) - 1) ∧ w64 (((pre ++ q.reverse).length : Int) - 1) < ((pre ++ q.reverse).length : Int)
                      omega
                    repeat first | refine sk ?_ | refine st ?_ | refine sg ?_ | refine sh ?_ | refine su ?_ | refine sn1 ?_ | refine sn0 ?_ | refine And.intro (show imp none (gimp _ none) from trivial) ?_
                    refine og (fun hb => ?_) ?_
                    · have := hg2 hb
                      show (w64 (((pre ++ q.reverse).length : Int) - 1)).toNat < (pre ++ q.reverse).length
                      omega
                    repeat first | refine sk ?_ | refine st ?_ | refine sg ?_ | refine sh ?_ | refine su ?_ | refine sn1 ?_ | refine sn0 ?_ | refine And.intro (show imp none (gimp _ none) from trivial) ?_
                    refine callG (gcross ((pre ++ q.reverse).getD (w64 (((pre ++ q.reverse).length : Int) - 2)).toNat default) ((pre ++ q.reverse).getD (w64 (((pre ++ q.reverse).length : Int) - 1)).toNat default) (L.getD i default)) ?_
                    repeat first | refine sk ?_ | refine st ?_ | refine sg ?_ | refine sh ?_ | refine su ?_ | refine sn1 ?_ | refine sn0 ?_ | refine And.intro (show imp none (gimp _ none) from trivial) ?_
                    refine And.intro (by kernel_rfl) ?_
                    refine And.intro (fun h4 => ?_) (fun h4 => ?_)
                    · have h4 : (decide (((pre ++ q.reverse).length : Int) ≥ w64 ((pre.length : Int) + 2)) && decide (cross ((pre ++ q.reverse).getD (w64 (((pre ++ q.reverse).length : Int) - 2)).toNat default) ((pre ++ q.reverse).getD (w64 (((pre ++ q.reverse).length : Int) - 1)).toNat default) (L.getD i default) ≤ 0)) = true := h4
                      rw [Bool.and_eq_true] at h4
                      obtain ⟨h5, h6⟩ := h4
                      have h5 := hg2 h5
                      have hq2 : 2 ≤ q.length := by omega
                      clear h5
                      match q, hq2, hq, hql, hqo, hq0, h6, hol with
                      | v :: u :: t, _, hq, hql, hqo, hq0, h6, hol =>
                        obtain ⟨e1, e2⟩ := top_at pre v u t (by simp only [List.length_cons] at hol hql; omega)
                        rw [e1, e2, cross_crs (hqo u (by simp)) (hqo v (by simp)) hxo] at h6
                        have h6 := of_decide_eq_true h6
                        simp only [List.length_cons] at hol hql
                        refine AW.block (ex.sound (rc := []) tab_ok mix href _ ?_)
                        have wd : w64 (((pre ++ (v :: u :: t).reverse).length : Int) - 1) = ((pre.length + t.length + 1 : Nat) : Int) := (w64_of (by omega) (by omega)).trans (by omega)
                        refine oi (show 0 ≤ (0 : Int) ∧ (0 : Int) ≤ w64 (((pre ++ (v :: u :: t).reverse).length : Int) - 1) ∧ w64 (((pre ++ (v :: u :: t).reverse).length : Int) - 1) ≤ ((pre ++ (v :: u :: t).reverse).length : Int) by omega) ?_
                        refine ⟨u :: t, ⟨(pop_cons h6).symm.trans hq, by simp only [List.length_cons]; omega, fun p hp => hqo p (List.mem_cons_of_mem _ hp), by simp only [List.length_append, List.length_reverse, List.length_cons]; omega⟩, by simp only [List.length_cons]; omega, ?_⟩
                        refine SubI.trans (b := ⟨(3, .s (.osl 100 2 0 (pre.length + t.length + 1))) :: [(0, .s (.own 8)), (4, vI pre.length), (6, .s (.ptr 6 0)), (17, vI r), (21, .s (.own 8)), (22, vI L.length), (23, vI i)],
                          (100, some (.row 44 (pre ++ (v :: u :: t).reverse).length 2 (ptEl (pre ++ (v :: u :: t).reverse)))) :: [(6, some (.cells [.d (dI (L.getD i default).x), .d (dI (L.getD i default).y)])), (8, some (.row 44 L.length 2 (ptEl L)))]⟩)
                          (SubI.of0 href [] rfl ⟨⟨rfl, LeBx.rfl⟩, ⟨rfl, LeBx.rfl⟩, ⟨rfl, LeBx.rfl⟩, trivial⟩ ⟨⟨rfl, LeQ.of_eq ?_⟩, ⟨rfl, LeQ.rfl⟩, ⟨rfl, LeQ.rfl⟩, ⟨rfl, LeQ.rfl⟩, ⟨rfl, LeQ.rfl⟩, ⟨rfl, LeQ.rfl⟩, ⟨rfl, LeQ.rfl⟩, ⟨rfl, LeQ.rfl⟩, trivial⟩) ?_
                        · show AV.s (.osl 100 2 0 ((w64 (((pre ++ (v :: u :: t).reverse).length : Int) - 1)).toNat - (0 : Int).toNat)) = AV.s (.osl 100 2 0 (pre.length + t.length + 1))
                          rw [wd]; rfl
                        refine SubI.trans (SubI.shrink (n := pre.length + t.length + 1) 3 100 href rfl rfl rfl (by omega) (by omega)) ?_
                        exact SubI.of0 href [] rfl ⟨⟨rfl, LeBx.row (by simp only [List.length_append, List.length_reverse, List.length_cons]; omega) fun i j hi _ => ptRow_cut (n := pre.length + t.length + 1) (fun k hk => by
                          rw [show pre ++ (v :: u :: t).reverse = (pre ++ (u :: t).reverse) ++ [v] by simp]
                          exact cut_at (by simp only [List.length_append, List.length_reverse, List.length_cons]; omega)) hi⟩, ⟨rfl, LeBx.rfl⟩, ⟨rfl, LeBx.rfl⟩, trivial⟩ ⟨⟨rfl, LeQ.rfl⟩, ⟨rfl, LeQ.rfl⟩, ⟨rfl, LeQ.rfl⟩, ⟨rfl, LeQ.rfl⟩, ⟨rfl, LeQ.rfl⟩, ⟨rfl, LeQ.rfl⟩, ⟨rfl, LeQ.rfl⟩, ⟨rfl, LeQ.rfl⟩, trivial⟩
                    · have hstop : popS (L.getD i default) q = q := by
                        have h4 : (decide (((pre ++ q.reverse).length : Int) ≥ w64 ((pre.length : Int) + 2)) && decide (cross ((pre ++ q.reverse).getD (w64 (((pre ++ q.reverse).length : Int) - 2)).toNat default) ((pre ++ q.reverse).getD (w64 (((pre ++ q.reverse).length : Int) - 1)).toNat default) (L.getD i default) ≤ 0)) = false := h4
                        match q, hqo, h4, hol, hql with
                        | [], _, _, _, _ => rfl
                        | [v], _, _, _, _ => rfl
                        | v :: u :: t, hqo, h4, hol, hql =>
                          simp only [List.length_cons] at hol hql
                          obtain ⟨e1, e2⟩ := top_at pre v u t (by omega)
                          rw [e1, e2, cross_crs (hqo u (by simp)) (hqo v (by simp)) hxo, decide_eq_true (show ((pre ++ (v :: u :: t).reverse).length : Int) ≥ w64 ((pre.length : Int) + 2) by omega), Bool.true_and] at h4
                          exact pop_stop (of_decide_eq_false h4)
                      refine ⟨rfl, (), trivial, ?_⟩
                      rw [← hq, hstop]
                      exact SubI.of0 href [] rfl ⟨⟨rfl, LeBx.rfl⟩, ⟨rfl, LeBx.rfl⟩, ⟨rfl, LeBx.mrow rfl fun i j _ _ => LeD.refl _⟩, trivial⟩ ⟨⟨rfl, LeQ.rfl⟩, ⟨rfl, LeQ.rfl⟩, ⟨rfl, LeQ.mo (by cases h : pre ++ q.reverse with | nil => rw [h] at hq0; exact absurd hq0 (Nat.lt_irrefl 0) | cons _ _ => rfl)⟩, ⟨rfl, LeQ.rfl⟩, ⟨rfl, LeQ.rfl⟩, ⟨rfl, LeQ.rfl⟩, ⟨rfl, LeQ.rfl⟩, ⟨rfl, LeQ.rfl⟩, trivial⟩
              · rintro _ _
                refine ex.sound (rc := []) tab_ok mix href _ ?_
                refine ob (by decide) ?_
                have hpl2 := popS_le (p := L.getD i default) st
                refine ob (by rw [bif_len]; show ((pre ++ (popS (L.getD i default) st).reverse).length + 1) * 16 ≤ 140737488355328; rw [List.length_append, List.length_reverse]; omega) ?_
                refine ob (fun k j hk hj => ?_) ?_
                · obtain rfl : k = 0 := by omega
                  match j, hj with
                  | 0, _ => rfl
                  | 1, _ => rfl
                refine ex.sound (rc := []) tab_ok mix href _ ?_
                refine ⟨(i + 1, L.getD i default :: popS (L.getD i default) st), ⟨by omega, hch, by simp only [List.length_cons]; omega, fun p hp => ?_⟩, by show L.length - (i + 1) < L.length - i; omega, ?_⟩
                · rcases List.mem_cons.1 hp with rfl | hp
                  · exact hxo
                  · exact hsto _ (popS_mem hp)
                · refine SubI.of0 href [(100, 57)] rfl ⟨⟨rfl, LeBx.rfl⟩, ⟨rfl, ?_⟩, trivial⟩ ⟨⟨rfl, LeQ.rfl⟩, ⟨rfl, LeQ.mo ?_⟩, ⟨rfl, LeQ.rfl⟩, ⟨rfl, LeQ.rfl⟩, ⟨rfl, LeQ.rfl⟩, ⟨rfl, LeQ.rfl⟩, ⟨rfl, LeQ.int (w64_of (by omega) (by omega))⟩, trivial⟩
                  · have e : pre ++ (L.getD i default :: popS (L.getD i default) st).reverse = (pre ++ (popS (L.getD i default) st).reverse) ++ [L.getD i default] := by simp
                    show LeBx _ (Box.mrow 44 (pre ++ (L.getD i default :: popS (L.getD i default) st).reverse).length 2 (ptEl (pre ++ (L.getD i default :: popS (L.getD i default) st).reverse)))
                    rw [e]
                    exact LeBx.snoc (el := ptD) fun j hj => match j, hj with
                      | 0, _ => rfl
                      | 1, _ => rfl
                  · have e : pre ++ (L.getD i default :: popS (L.getD i default) st).reverse = (pre ++ (popS (L.getD i default) st).reverse) ++ [L.getD i default] := by simp
                    show (pre ++ (L.getD i default :: popS (L.getD i default) st).reverse).isEmpty = false
                    rw [e]; exact isEmpty_snoc _ _
            · have h3 : ¬ (i : Int) < L.length := decF h3
              obtain rfl : i = L.length := by omega
              rw [List.drop_length, chain] at hch
              refine ⟨rfl, (), trivial, ?_⟩
              rw [hch, ← hL]
              exact SubI.of0 href [] rfl ⟨⟨rfl, LeBx.rfl⟩, ⟨rfl, LeBx.rfl⟩, trivial⟩ ⟨⟨rfl, LeQ.rfl⟩, ⟨rfl, LeQ.rfl⟩, ⟨rfl, LeQ.rfl⟩, ⟨rfl, LeQ.rfl⟩, ⟨rfl, LeQ.rfl⟩, ⟨rfl, LeQ.rfl⟩, ⟨rfl, LeQ.rfl⟩, trivial⟩
        · rintro _ _
          have hne : (pre ++ (chain [] L).reverse).isEmpty = false := by
            cases h : pre ++ (chain [] L).reverse with
            | nil => rw [List.append_eq_nil_iff] at h; rw [List.reverse_eq_nil_iff.1 h.2] at hcp; exact absurd hcp (Nat.lt_irrefl 0)
            | cons _ _ => rfl
          have hcl : (pre ++ (chain [] L).reverse).length = (pre ++ (chain [] L).reverse.dropLast).length + 1 := by
            simp only [List.length_append, List.length_reverse, List.length_dropLast]; omega
          have hcl2 := chain_le L []
          have hbig : (pre ++ (chain [] L).reverse).length ≤ 10000 := by
            simp only [List.length_append, List.length_reverse, List.length_nil] at hcl2 ⊢; omega
          refine AW.subI (SubI.own (e := 44) (n := (pre ++ (chain [] L).reverse).length) (s := 2) (f := ptEl (pre ++ (chain [] L).reverse)) (z := false) 3 100 ?_ rfl ?_) ?_
          · show AV.s (.mo (pre ++ (chain [] L).reverse).isEmpty 100) = _
            rw [hne]
          · rfl
          have wd : w64 (((pre ++ (chain [] L).reverse).length : Int) - 1) = ((pre ++ (chain [] L).reverse.dropLast).length : Int) := (w64_of (by omega) (by omega)).trans (by omega)
          refine AW.cut (σ' := ⟨[(3, .s (.own 100)), (0, .s (.own 8)), (17, vI r)],
            [(100, some (.row 44 (pre ++ (chain [] L).reverse.dropLast).length 2 (ptEl (pre ++ (chain [] L).reverse.dropLast)))), (8, some (.row 44 L.length 2 (ptEl L)))]⟩) (ex.sound (rc := []) tab_ok mix href _ ?_) ?_
          · refine oi (show 0 ≤ (0 : Int) ∧ (0 : Int) ≤ w64 (((pre ++ (chain [] L).reverse).length : Int) - 1) ∧ w64 (((pre ++ (chain [] L).reverse).length : Int) - 1) ≤ ((pre ++ (chain [] L).reverse).length : Int) by omega) ?_
            refine ⟨rfl, ?_⟩
            refine SubI.trans (b := ⟨(3, .s (.osl 100 2 0 (pre ++ (chain [] L).reverse.dropLast).length)) :: [(0, .s (.own 8)), (17, vI r)],
              (100, some (.row 44 (pre ++ (chain [] L).reverse).length 2 (ptEl (pre ++ (chain [] L).reverse)))) :: [(8, some (.row 44 L.length 2 (ptEl L)))]⟩)
              (SubI.of0 href [] rfl ⟨⟨rfl, LeBx.rfl⟩, ⟨rfl, LeBx.rfl⟩, trivial⟩ ⟨⟨rfl, LeQ.of_eq ?_⟩, ⟨rfl, LeQ.rfl⟩, ⟨rfl, LeQ.rfl⟩, trivial⟩) ?_
            · show AV.s (.osl 100 2 0 ((w64 (((pre ++ (chain [] L).reverse).length : Int) - 1)).toNat - (0 : Int).toNat)) = _
              rw [wd]; rfl
            refine SubI.trans (SubI.shrink (n := (pre ++ (chain [] L).reverse.dropLast).length) 3 100 href rfl rfl rfl (by omega) (by omega)) ?_
            exact SubI.of0 href [] rfl ⟨⟨rfl, LeBx.row rfl fun i j hi _ => ptRow_cut (n := (pre ++ (chain [] L).reverse.dropLast).length) (fun k hk => by
              rw [List.length_append] at hk
              rw [List.dropLast_eq_take, List.getElem?_append, List.getElem?_append]
              split
              · rfl
              · rw [List.getElem?_take, if_pos (by rw [List.length_dropLast] at hk; omega)]) hi⟩, ⟨rfl, LeBx.rfl⟩, trivial⟩ ⟨⟨rfl, LeQ.rfl⟩, ⟨rfl, LeQ.rfl⟩, ⟨rfl, LeQ.rfl⟩, trivial⟩
          · refine ex.sound (rc := [63]) tab_ok mix href _ ?_
            refine ⟨[(1001, 8)], _, _, _, _, ReverseP L (by omega) (by omega), rfl, ⟨rfl, trivial⟩, rfl, ?_⟩
            refine ex.sound (rc := []) tab_ok mix href _ ?_
            refine ⟨r + 1, by omega, by omega, ?_⟩
            rw [hsn, hon]
            refine SubI.of0 href [] rfl ⟨⟨rfl, LeBx.row (by rw [List.length_reverse]) fun i j hi _ => LeD.of_eq ?_⟩, ⟨rfl, LeBx.mrow rfl fun i j _ _ => LeD.refl _⟩, trivial⟩ ⟨⟨rfl, LeQ.rfl⟩, ⟨rfl, LeQ.mo ?_⟩, ⟨rfl, LeQ.int (w64_of (by omega) (by omega))⟩, trivial⟩
            · show ptD (rvP L (L.length / 2) i) j = ptD (L.reverse.getD i default) j
              rw [rv_end L hi]
            · exact drop_ne (chain_two' (by omega))
      · have h2 : ¬ (r : Int) < 2 := decF h2
        obtain ⟨e1, e2⟩ := hend 2 (by omega)
        rw [e1, e2]
        refine ⟨rfl, ?_⟩
        exact SubI.of0 href [] rfl ⟨⟨rfl, LeBx.rfl⟩, ⟨rfl, LeBx.rfl⟩, trivial⟩ ⟨⟨rfl, LeQ.rfl⟩, ⟨rfl, LeQ.rfl⟩, ⟨rfl, LeQ.int (show (r : Int) = 2 by omega)⟩, trivial⟩
  · have hz : (outR s 2).isEmpty = false := drop_ne (chain_two' (by rw [sR_len]; omega))
    refine AW.subI (SubI.own (e := 44) (n := (outR s 2).length) (s := 2) (f := ptEl (outR s 2)) (z := false) 3 100 ?_ rfl ?_) ?_
    · show AV.s (.mo (outR s 2).isEmpty 100) = _
      rw [hz]
    · rfl
    refine ex.sound (rc := []) tab_ok mix href _ ?_
    exact SubR.le (LeD.slc' rfl fun i j _ _ => LeD.refl _)
theorem hull (l : List Pt) (hd : Dist l) (ho : ∀ p ∈ l, okP p) (hl : l.length ≤ 1000) : CallP Try.prog 51 [pts l] (pts (hullL l)) := by
  by_cases h0 : l = []
  · subst h0
    have e : hullL [] = [] := by
      unfold hullL
      rw [if_pos (by decide)]
      exact List.eq_nil_of_length_eq_zero ((sortP_perm []).length_eq)
    rw [e]
    exact hullNil
  · exact hull1 l h0 hd ho hl
end Go.Ch

/- geometry.patchErr. -/
namespace Go.Ch
open Go Go.Ax Go.Proofs Go.Proofs.Try Go.Hull
set_option maxRecDepth 100000
set_option pp.maxSteps 400
set_option maxHeartbeats 1000000

def patchE (l : List Pt) : Int := bif errPts l != 0 then errPts l else bif dupP l then 5 else bif apartB l then 8 else bif decide ((hullP l : Int) < 3) then 10 else 0
theorem errPts_ok {l : List Pt} (h : errPts l = 0) : l.length ≤ 64 ∧ ∀ p ∈ l, okP p := by
  unfold errPts at h
  cases h1 : decide ((l.length : Int) > 64) with
  | true => rw [h1] at h; cases h
  | false =>
    rw [h1] at h
    cases h2 : l.any (fun p => !good p) with
    | true => rw [h2] at h; cases h
    | false =>
      refine ⟨by have := of_decide_eq_false h1; omega, fun p hp => ?_⟩
      rw [List.any_eq_false] at h2
      have := h2 p hp
      have : good p = true := by simpa using this
      rw [good_iff] at this
      unfold okP; omega
theorem gPatchErr (l : List Pt) (hl : l.length ≤ 1000000) : CallP Try.prog 40 [pts l] (vI (patchE l)) := by
  refine callP_of_ex (rc := []) (N := 30) Try.func40 rfl rfl Try.call40 tab_ok mix rfl rfl (fun cx href => ?_)
  refine callN (gCheck l (by omega)) ?_
  unfold patchE
  refine And.intro (fun h => ?_) (fun h => ?_)
  · have h : (errPts l != 0) = true := h
    rw [h]; exact SubR.refl _
  have h : (errPts l != 0) = false := h
  rw [h]
  have he : errPts l = 0 := by simpa using h
  obtain ⟨hl64, hok⟩ := errPts_ok he
  refine AW.loopI (fun i : Nat => ⟨[(0, pts l), (11, pts l), (12, vI l.length), (13, vI i)], []⟩)
    (fun i => i ≤ l.length ∧ dupP l = ((List.range l.length).drop i).any fun i => (l.take i).any fun q => q == l.getD i default) (fun i => l.length - i) 0 ⟨Nat.zero_le _, rfl⟩ ?_ ?_
  · exact SubI.of0 href [] rfl trivial ⟨⟨rfl, LeQ.rfl⟩, ⟨rfl, LeQ.rfl⟩, ⟨rfl, LeQ.rfl⟩, ⟨rfl, LeQ.rfl⟩, trivial⟩
  · rintro i ⟨hi, hj⟩
    refine ex.sound (rc := []) tab_ok mix href _ ?_
    refine And.intro (fun h => ?_) (fun h => ?_)
    · have h : (i : Int) < l.length := decT h
      have hi' : i < l.length := by omega
      rw [List.drop_eq_getElem_cons (by simpa using hi'), List.any_cons, List.getElem_range] at hj
      refine oi ⟨by omega, by omega⟩ ?_
      repeat first | refine sk ?_ | refine st ?_ | refine sg ?_ | refine sh ?_ | refine su ?_ | refine sn1 ?_ | refine sn0 ?_ | refine And.intro (show imp none (gimp _ none) from trivial) ?_
      refine oi (show 0 ≤ (0 : Int) ∧ (0 : Int) ≤ (i : Int) ∧ (i : Int) ≤ (l.length : Int) by omega) ?_
      repeat first | refine sk ?_ | refine st ?_ | refine sg ?_ | refine sh ?_ | refine su ?_ | refine sn1 ?_ | refine sn0 ?_ | refine And.intro (show imp none (gimp _ none) from trivial) ?_
      have hlt : (l.take i).length = i := by rw [List.length_take]; omega
      refine callN ((ContainsP (l.take i) (l.getD i default) (by omega)).conv (args' := _) ⟨LeD.slc' hlt.symm fun a j ha hj => LeD.of_eq ?_, ⟨LeD.refl _, LeD.refl _, trivial⟩, trivial⟩) ?_
      · have ha : a < i := ha
        show ptD (l.getD a default) j = ptD ((l.take i).getD a default) j
        rw [List.getD_eq_getElem?_getD, List.getD_eq_getElem?_getD, List.getElem?_take, if_pos ha]
      repeat first | refine sk ?_ | refine st ?_ | refine sg ?_ | refine sh ?_ | refine su ?_ | refine sn1 ?_ | refine sn0 ?_ | refine And.intro (show imp none (gimp _ none) from trivial) ?_
      refine And.intro (by kernel_rfl) ?_
      refine And.intro (fun h3 => ?_) (fun h3 => ?_)
      · have h3 : ((l.take i).any fun q => q == l.getD i default) = true := h3
        exact SubR.of_eq (by rw [hj, h3]; rfl)
      · have h3 : ((l.take i).any fun q => q == l.getD i default) = false := h3
        refine ⟨i + 1, ⟨by omega, by rw [hj, h3]; rfl⟩, by omega, ?_⟩
        exact SubI.of0 href [] rfl trivial ⟨⟨rfl, LeQ.rfl⟩, ⟨rfl, LeQ.rfl⟩, ⟨rfl, LeQ.rfl⟩, ⟨rfl, LeQ.int (w64_of (by omega) (by omega))⟩, trivial⟩
    · have h : ¬ (i : Int) < l.length := decF h
      obtain rfl : i = l.length := by omega
      have hdn : dupP l = false := by rw [hj, List.drop_eq_nil_of_le (by simp)]; rfl
      have hdist : Dist l := dist_of (by rw [← dup_eq]; exact hdn)
      rw [hdn]
      refine callN (gApart l hok (by omega)) ?_
      refine And.intro (fun h2 => ?_) (fun h2 => ?_)
      · have h2 : apartB l = true := h2
        exact SubR.of_eq (by rw [h2]; rfl)
      have h2 : apartB l = false := h2
      rw [h2]
      refine callN (hull l hdist hok (by omega)) ?_
      refine And.intro (fun h3 => ?_) (fun h3 => ?_)
      · have h3 : decide (((hullL l).length : Int) < 3) = true := h3
        rw [hullL_len] at h3
        exact SubR.of_eq (by rw [h3]; rfl)
      · have h3 : decide (((hullL l).length : Int) < 3) = false := h3
        rw [hullL_len] at h3
        exact SubR.of_eq (by rw [h3]; rfl)
end Go.Ch

/- geometry.circle. -/
namespace Go.Ch
open Go Go.Ax Go.Proofs Go.Proofs.Try Go.Hull
set_option maxRecDepth 100000
set_option pp.maxSteps 400
set_option maxHeartbeats 1000000

abbrev tri3 (a b c : Pt) : AV := .g [.d (dI a.x), .d (dI a.y), .d (dI b.x), .d (dI b.y), .d (dI c.x), .d (dI c.y)]
abbrev tri3B (a b c : Pt) : Box := .cells [.d (dI a.x), .d (dI a.y), .d (dI b.x), .d (dI b.y), .d (dI c.x), .d (dI c.y)]
def ox (p q : Pt) : Int := w64 (p.x - q.x)
def oy (p q : Pt) : Int := w64 (p.y - q.y)
def os (p q : Pt) : Int := w64 (w64 (ox p q * ox p q) + w64 (oy p q * oy p q))
def oc (p a b : Pt) : Int := w64 (w64 (ox a p * oy b p) - w64 (ox b p * oy a p))
abbrev fillB (x y z : Int) : Nat → Box
  | 0 => .cells [.d (dI 0), .d (dI 0), .d (dI 0)]
  | 1 => .cells [.d (dI x), .d (dI 0), .d (dI 0)]
  | 2 => .cells [.d (dI x), .d (dI y), .d (dI 0)]
  | _ => .cells [.d (dI x), .d (dI y), .d (dI z)]
def sums (a b c p : Pt) : Nat → Int
  | 0 => 0
  | 1 => w64 (0 + w64 (os a p * oc p b c))
  | 2 => w64 (w64 (0 + w64 (os a p * oc p b c)) + w64 (os b p * oc p c a))
  | _ => w64 (w64 (w64 (0 + w64 (os a p * oc p b c)) + w64 (os b p * oc p c a)) + w64 (os c p * oc p a b))
abbrev ciS1 (a b c p : Pt) (i : Nat) : St := ⟨[(2, .s (.ptr 2 0)), (3, .s (.ptr 3 0)), (5, .s (.ptr 5 0)), (6, .s (.ptr 6 0)), (7, .s (.ptr 7 0)), (14, tri3 a b c), (15, vI i)],
  [(2, some (tri3B a b c)), (3, some (.cells [.d (dI p.x), .d (dI p.y)])), (5, some (fillB (ox a p) (ox b p) (ox c p) i)), (6, some (fillB (oy a p) (oy b p) (oy c p) i)), (7, some (fillB (os a p) (os b p) (os c p) i))]⟩
abbrev ciS2 (a b c p : Pt) (i : Nat) : St := ⟨[(5, .s (.ptr 5 0)), (6, .s (.ptr 6 0)), (7, .s (.ptr 7 0)), (10, vI (sums a b c p i)), (51, vI i)],
  [(5, some (fillB (ox a p) (ox b p) (ox c p) 3)), (6, some (fillB (oy a p) (oy b p) (oy c p) 3)), (7, some (fillB (os a p) (os b p) (os c p) 3))]⟩
def circI (a b c p : Pt) : Int := sgn (sums a b c p 3 - 0)
theorem gCircle (a b c p : Pt) : CallP Try.prog 64 [tri3 a b c, pt p] (vI (circI a b c p)) := by
  refine callP_of_ex (rc := []) (N := 84) Try.func64 rfl rfl Try.call64 tab_ok mix rfl rfl (fun cx href => ?_)
  refine AW.loopI (ciS1 a b c p) (fun i => i ≤ 3) (fun i => 3 - i) 0 (Nat.zero_le _) ?_ ?_
  · exact SubI.of0 href [] rfl ⟨⟨rfl, LeBx.rfl⟩, ⟨rfl, LeBx.rfl⟩, ⟨rfl, LeBx.rfl⟩, ⟨rfl, LeBx.rfl⟩, ⟨rfl, LeBx.rfl⟩, trivial⟩ ⟨⟨rfl, LeQ.rfl⟩, ⟨rfl, LeQ.rfl⟩, ⟨rfl, LeQ.rfl⟩, ⟨rfl, LeQ.rfl⟩, ⟨rfl, LeQ.rfl⟩, ⟨rfl, LeQ.rfl⟩, ⟨rfl, LeQ.rfl⟩, trivial⟩
  · intro i hi
    refine ex.sound (rc := []) tab_ok mix href _ ?_
    refine And.intro (fun h => ?_) (fun h => ?_)
    · have h : (i : Int) < 3 := decT h
      have hi3 : i = 0 ∨ i = 1 ∨ i = 2 := by omega
      rcases hi3 with rfl | rfl | rfl
      · repeat first | refine sk ?_ | refine st ?_ | refine sg ?_ | refine sh ?_ | refine su ?_ | refine sn1 ?_ | refine sn0 ?_ | refine oi (by decide) ?_ | refine ob (by decide) ?_ | refine And.intro (by kernel_rfl) ?_ | refine And.intro (show imp none (gimp _ none) from trivial) ?_
        refine ⟨1, by omega, by omega, ?_⟩
        exact SubI.of0 href [] rfl ⟨⟨rfl, LeBx.rfl⟩, ⟨rfl, LeBx.rfl⟩, ⟨rfl, LeBx.rfl⟩, ⟨rfl, LeBx.rfl⟩, ⟨rfl, LeBx.rfl⟩, trivial⟩ ⟨⟨rfl, LeQ.rfl⟩, ⟨rfl, LeQ.rfl⟩, ⟨rfl, LeQ.rfl⟩, ⟨rfl, LeQ.rfl⟩, ⟨rfl, LeQ.rfl⟩, ⟨rfl, LeQ.rfl⟩, ⟨rfl, LeQ.rfl⟩, trivial⟩
      · repeat first | refine sk ?_ | refine st ?_ | refine sg ?_ | refine sh ?_ | refine su ?_ | refine sn1 ?_ | refine sn0 ?_ | refine oi (by decide) ?_ | refine ob (by decide) ?_ | refine And.intro (by kernel_rfl) ?_ | refine And.intro (show imp none (gimp _ none) from trivial) ?_
        refine ⟨2, by omega, by omega, ?_⟩
        exact SubI.of0 href [] rfl ⟨⟨rfl, LeBx.rfl⟩, ⟨rfl, LeBx.rfl⟩, ⟨rfl, LeBx.rfl⟩, ⟨rfl, LeBx.rfl⟩, ⟨rfl, LeBx.rfl⟩, trivial⟩ ⟨⟨rfl, LeQ.rfl⟩, ⟨rfl, LeQ.rfl⟩, ⟨rfl, LeQ.rfl⟩, ⟨rfl, LeQ.rfl⟩, ⟨rfl, LeQ.rfl⟩, ⟨rfl, LeQ.rfl⟩, ⟨rfl, LeQ.rfl⟩, trivial⟩
      · repeat first | refine sk ?_ | refine st ?_ | refine sg ?_ | refine sh ?_ | refine su ?_ | refine sn1 ?_ | refine sn0 ?_ | refine oi (by decide) ?_ | refine ob (by decide) ?_ | refine And.intro (by kernel_rfl) ?_ | refine And.intro (show imp none (gimp _ none) from trivial) ?_
        refine ⟨3, by omega, by omega, ?_⟩
        exact SubI.of0 href [] rfl ⟨⟨rfl, LeBx.rfl⟩, ⟨rfl, LeBx.rfl⟩, ⟨rfl, LeBx.rfl⟩, ⟨rfl, LeBx.rfl⟩, ⟨rfl, LeBx.rfl⟩, trivial⟩ ⟨⟨rfl, LeQ.rfl⟩, ⟨rfl, LeQ.rfl⟩, ⟨rfl, LeQ.rfl⟩, ⟨rfl, LeQ.rfl⟩, ⟨rfl, LeQ.rfl⟩, ⟨rfl, LeQ.rfl⟩, ⟨rfl, LeQ.rfl⟩, trivial⟩
    · have h : ¬ (i : Int) < 3 := decF h
      obtain rfl : i = 3 := by omega
      refine AW.loopI (ciS2 a b c p) (fun i => i ≤ 3) (fun i => 3 - i) 0 (Nat.zero_le _) ?_ ?_
      · exact SubI.of0 href [] rfl ⟨⟨rfl, LeBx.rfl⟩, ⟨rfl, LeBx.rfl⟩, ⟨rfl, LeBx.rfl⟩, trivial⟩ ⟨⟨rfl, LeQ.rfl⟩, ⟨rfl, LeQ.rfl⟩, ⟨rfl, LeQ.rfl⟩, ⟨rfl, LeQ.rfl⟩, ⟨rfl, LeQ.rfl⟩, trivial⟩
      · intro i hi
        refine ex.sound (rc := []) tab_ok mix href _ ?_
        refine And.intro (fun h => ?_) (fun h => ?_)
        · have h : (i : Int) < 3 := decT h
          have hi3 : i = 0 ∨ i = 1 ∨ i = 2 := by omega
          rcases hi3 with rfl | rfl | rfl
          · repeat first | refine sk ?_ | refine st ?_ | refine sg ?_ | refine sh ?_ | refine su ?_ | refine sn1 ?_ | refine sn0 ?_ | refine oi (by decide) ?_ | refine ob (by decide) ?_ | refine And.intro (by kernel_rfl) ?_ | refine And.intro (show imp none (gimp _ none) from trivial) ?_
            refine ⟨1, by omega, by omega, ?_⟩
            exact SubI.of0 href [] rfl ⟨⟨rfl, LeBx.rfl⟩, ⟨rfl, LeBx.rfl⟩, ⟨rfl, LeBx.rfl⟩, trivial⟩ ⟨⟨rfl, LeQ.rfl⟩, ⟨rfl, LeQ.rfl⟩, ⟨rfl, LeQ.rfl⟩, ⟨rfl, LeQ.rfl⟩, ⟨rfl, LeQ.rfl⟩, trivial⟩
          · repeat first | refine sk ?_ | refine st ?_ | refine sg ?_ | refine sh ?_ | refine su ?_ | refine sn1 ?_ | refine sn0 ?_ | refine oi (by decide) ?_ | refine ob (by decide) ?_ | refine And.intro (by kernel_rfl) ?_ | refine And.intro (show imp none (gimp _ none) from trivial) ?_
            refine ⟨2, by omega, by omega, ?_⟩
            exact SubI.of0 href [] rfl ⟨⟨rfl, LeBx.rfl⟩, ⟨rfl, LeBx.rfl⟩, ⟨rfl, LeBx.rfl⟩, trivial⟩ ⟨⟨rfl, LeQ.rfl⟩, ⟨rfl, LeQ.rfl⟩, ⟨rfl, LeQ.rfl⟩, ⟨rfl, LeQ.rfl⟩, ⟨rfl, LeQ.rfl⟩, trivial⟩
          · repeat first | refine sk ?_ | refine st ?_ | refine sg ?_ | refine sh ?_ | refine su ?_ | refine sn1 ?_ | refine sn0 ?_ | refine oi (by decide) ?_ | refine ob (by decide) ?_ | refine And.intro (by kernel_rfl) ?_ | refine And.intro (show imp none (gimp _ none) from trivial) ?_
            refine ⟨3, by omega, by omega, ?_⟩
            exact SubI.of0 href [] rfl ⟨⟨rfl, LeBx.rfl⟩, ⟨rfl, LeBx.rfl⟩, ⟨rfl, LeBx.rfl⟩, trivial⟩ ⟨⟨rfl, LeQ.rfl⟩, ⟨rfl, LeQ.rfl⟩, ⟨rfl, LeQ.rfl⟩, ⟨rfl, LeQ.rfl⟩, ⟨rfl, LeQ.rfl⟩, trivial⟩
        · have h : ¬ (i : Int) < 3 := decF h
          obtain rfl : i = 3 := by omega
          refine callN (Compare (sums a b c p 3) 0) ?_
          exact SubR.refl _
end Go.Ch

/- geometry.belongs. -/
namespace Go.Ch
open Go Go.Ax Go.Proofs Go.Proofs.Try Go.Hull
set_option maxRecDepth 100000
set_option pp.maxSteps 400
set_option maxHeartbeats 1000000

def Near (p q : Pt) : Prop := -20000 ≤ p.x - q.x ∧ p.x - q.x ≤ 20000 ∧ -20000 ≤ p.y - q.y ∧ p.y - q.y ≤ 20000
theorem os_eq {a p : Pt} (h : Near a p) : os a p = sqr p a ∧ 0 ≤ sqr p a ∧ sqr p a ≤ 800000000 := by
  unfold Near at h
  have h1 := mul_le_of (a := a.x - p.x) (b := a.x - p.x) (A := 20000) (B := 20000) (by omega) (by omega) (by omega) (by omega)
  have h2 := mul_le_of (a := a.y - p.y) (b := a.y - p.y) (A := 20000) (B := 20000) (by omega) (by omega) (by omega) (by omega)
  have e0 := sqr_nonneg p a
  unfold os ox oy sqr at *
  rw [w64_of (n := a.x - p.x) (by omega) (by omega), w64_of (n := a.y - p.y) (by omega) (by omega)]
  rw [w64_of (n := (a.x - p.x) * (a.x - p.x)) (by omega) (by omega), w64_of (n := (a.y - p.y) * (a.y - p.y)) (by omega) (by omega), w64_of (by omega) (by omega)]
  exact ⟨rfl, e0, by omega⟩
theorem oc_eq {a b p : Pt} (ha : Near a p) (hb : Near b p) : oc p a b = crs p a b ∧ -800000000 ≤ crs p a b ∧ crs p a b ≤ 800000000 := by
  unfold Near at ha hb
  have h1 := mul_le_of (a := a.x - p.x) (b := b.y - p.y) (A := 20000) (B := 20000) (by omega) (by omega) (by omega) (by omega)
  have h2 := mul_le_of (a := b.x - p.x) (b := a.y - p.y) (A := 20000) (B := 20000) (by omega) (by omega) (by omega) (by omega)
  have e : crs p a b = (a.x - p.x) * (b.y - p.y) - (b.x - p.x) * (a.y - p.y) := by unfold crs; rw [Int.mul_comm (a.y - p.y)]
  rw [e]
  unfold oc ox oy
  rw [w64_of (n := a.x - p.x) (by omega) (by omega), w64_of (n := a.y - p.y) (by omega) (by omega), w64_of (n := b.x - p.x) (by omega) (by omega), w64_of (n := b.y - p.y) (by omega) (by omega)]
  rw [w64_of (n := (a.x - p.x) * (b.y - p.y)) (by omega) (by omega), w64_of (n := (b.x - p.x) * (a.y - p.y)) (by omega) (by omega), w64_of (by omega) (by omega)]
  exact ⟨rfl, by omega, by omega⟩
theorem circ_det {a b c p : Pt} (ha : Near a p) (hb : Near b p) (hc : Near c p) : circI a b c p = sgn (det3 a b c p) := by
  obtain ⟨a1, a2, a3⟩ := os_eq ha
  obtain ⟨b1, b2, b3⟩ := os_eq hb
  obtain ⟨c1, c2, c3⟩ := os_eq hc
  obtain ⟨x1, x2, x3⟩ := oc_eq hb hc
  obtain ⟨y1, y2, y3⟩ := oc_eq hc ha
  obtain ⟨z1, z2, z3⟩ := oc_eq ha hb
  have m1 := mul_le_of (a := sqr p a) (b := crs p b c) (A := 800000000) (B := 800000000) (by omega) (by omega) (by omega) (by omega)
  have m2 := mul_le_of (a := sqr p b) (b := crs p c a) (A := 800000000) (B := 800000000) (by omega) (by omega) (by omega) (by omega)
  have m3 := mul_le_of (a := sqr p c) (b := crs p a b) (A := 800000000) (B := 800000000) (by omega) (by omega) (by omega) (by omega)
  unfold circI sums det3
  rw [a1, b1, c1, x1, y1, z1, w64_of (n := sqr p a * crs p b c) (by omega) (by omega), w64_of (n := sqr p b * crs p c a) (by omega) (by omega), w64_of (n := sqr p c * crs p a b) (by omega) (by omega),
    Int.zero_add, w64_of (n := sqr p a * crs p b c) (by omega) (by omega), w64_of (n := sqr p a * crs p b c + sqr p b * crs p c a) (by omega) (by omega), w64_of (by omega) (by omega), Int.sub_zero]
  rfl
theorem ahd_bef (a b : Pt) : decide (ahdI a b < 0) = bef a b := by
  rw [Bool.eq_iff_iff, decide_eq_true_iff]; exact ahdI_neg a b
theorem sgn_one (n : Int) : (sgn n == 1) = decide (n > 0) := by
  rw [Bool.eq_iff_iff]; unfold sgn; simp only [beq_iff_eq, decide_eq_true_eq]; split
  · constructor <;> intro <;> omega
  · split
    · constructor <;> intro <;> omega
    · constructor <;> intro <;> omega
theorem sgn_beq0 (n : Int) : (sgn n == 0) = (n == 0) := by
  rw [Bool.eq_iff_iff]; unfold sgn; simp only [beq_iff_eq]; split
  · constructor <;> intro <;> omega
  · split
    · constructor <;> intro <;> omega
    · constructor <;> intro <;> omega
def rotN (t : Pt × Pt × Pt) : Nat → Pt × Pt × Pt
  | 0 => t
  | k + 1 => rot1 (rotN t k)
abbrev t3B (t : Pt × Pt × Pt) : Box := tri3B t.1 t.2.1 t.2.2
theorem rot1_mem {l : List Pt} {t : Pt × Pt × Pt} (h : t.1 ∈ l ∧ t.2.1 ∈ l ∧ t.2.2 ∈ l) : (rot1 t).1 ∈ l ∧ (rot1 t).2.1 ∈ l ∧ (rot1 t).2.2 ∈ l := by
  unfold rot1; split
  · exact ⟨h.2.1, h.2.2, h.1⟩
  · exact h
theorem gBelongs (l : List Pt) (a b c : Pt) (ha : a ∈ l) (hb : b ∈ l) (hc : c ∈ l) (hap : apartB l = false) (ho : ∀ p ∈ l, okP p) (hl : l.length ≤ 1000000) : CallP Try.prog 52 [pts l, tri3 a b c] (vB (belP l a b c)) := by
  refine callP_of_ex (rc := []) (N := 59) Try.func52 rfl rfl Try.call52 tab_ok mix rfl rfl (fun cx href => ?_)
  refine AW.loopI (fun k : Nat => ⟨[(0, pts l), (3, .s (.ptr 3 0)), (7, vI k)], [(3, some (t3B (rotN (a, b, c) k)))]⟩) (fun k => k ≤ 2) (fun k => 2 - k) 0 (Nat.zero_le _) ?_ ?_
  · exact SubI.of0 href [] rfl ⟨⟨rfl, LeBx.rfl⟩, trivial⟩ ⟨⟨rfl, LeQ.rfl⟩, ⟨rfl, LeQ.rfl⟩, ⟨rfl, LeQ.rfl⟩, trivial⟩
  · intro k hk
    refine ex.sound (rc := []) tab_ok mix href _ ?_
    have hend : ∀ m, k = m → rotN (a, b, c) k = rotN (a, b, c) m := fun m h => h ▸ rfl
    have hst : rotN (a, b, c) (k + 1) = rot1 (rotN (a, b, c) k) := rfl
    generalize rotN (a, b, c) k = t at *
    refine And.intro (fun h => ?_) (fun h => ?_)
    · have h : (k : Int) < 2 := decT h
      obtain ⟨x, y, z⟩ := t
      repeat first | refine sk ?_ | refine st ?_ | refine sg ?_ | refine sh ?_ | refine su ?_ | refine sn1 ?_ | refine sn0 ?_ | refine oi (by decide) ?_ | refine ob (by decide) ?_ | refine og (fun _ => by decide) ?_ | refine And.intro (by kernel_rfl) ?_ | refine And.intro (show imp none (gimp _ none) from trivial) ?_
      refine callN (gAhead y x) ?_
      repeat first | refine sk ?_ | refine st ?_ | refine sg ?_ | refine sh ?_ | refine su ?_ | refine sn1 ?_ | refine sn0 ?_ | refine oi (by decide) ?_ | refine ob (by decide) ?_ | refine og (fun _ => by decide) ?_ | refine And.intro (by kernel_rfl) ?_ | refine And.intro (show imp none (gimp _ none) from trivial) ?_
      refine callG (gAhead z x) ?_
      repeat first | refine sk ?_ | refine st ?_ | refine sg ?_ | refine sh ?_ | refine su ?_ | refine sn1 ?_ | refine sn0 ?_ | refine oi (by decide) ?_ | refine ob (by decide) ?_ | refine og (fun _ => by decide) ?_ | refine And.intro (by kernel_rfl) ?_ | refine And.intro (show imp none (gimp _ none) from trivial) ?_
      refine And.intro (fun h2 => ?_) (fun h2 => ?_)
      · have h2 : (decide (ahdI y x < 0) || decide (ahdI z x < 0)) = true := h2
        rw [ahd_bef, ahd_bef] at h2
        have hr : rot1 (x, y, z) = (y, z, x) := by unfold rot1; rw [if_pos h2]
        repeat first | refine sk ?_ | refine st ?_ | refine sg ?_ | refine sh ?_ | refine su ?_ | refine sn1 ?_ | refine sn0 ?_ | refine oi (by decide) ?_ | refine ob (by decide) ?_ | refine og (fun _ => by decide) ?_ | refine And.intro (by kernel_rfl) ?_ | refine And.intro (show imp none (gimp _ none) from trivial) ?_
        refine ⟨k + 1, by omega, by omega, ?_⟩
        rw [hst, hr]
        exact SubI.of0 href [] rfl ⟨⟨rfl, LeBx.rfl⟩, trivial⟩ ⟨⟨rfl, LeQ.rfl⟩, ⟨rfl, LeQ.rfl⟩, ⟨rfl, LeQ.int (w64_of (by omega) (by omega))⟩, trivial⟩
      · have h2 : (decide (ahdI y x < 0) || decide (ahdI z x < 0)) = false := h2
        rw [ahd_bef, ahd_bef] at h2
        have hr : rot1 (x, y, z) = (x, y, z) := by unfold rot1; rw [if_neg (by rw [h2]; exact Bool.false_ne_true)]
        refine ⟨k + 1, by omega, by omega, ?_⟩
        rw [hst, hr]
        exact SubI.of0 href [] rfl ⟨⟨rfl, LeBx.rfl⟩, trivial⟩ ⟨⟨rfl, LeQ.rfl⟩, ⟨rfl, LeQ.rfl⟩, ⟨rfl, LeQ.int (w64_of (by omega) (by omega))⟩, trivial⟩
    · have h : ¬ (k : Int) < 2 := decF h
      have ht : t = rotP a b c := hend 2 (by omega)
      have hm := rot1_mem (rot1_mem (t := (a, b, c)) (l := l) ⟨ha, hb, hc⟩)
      have hm : t.1 ∈ l ∧ t.2.1 ∈ l ∧ t.2.2 ∈ l := by rw [ht]; exact hm
      have hbel : belP l a b c = l.all fun p => okProg t.1 t.2.1 t.2.2 p := by unfold belP; rw [ht]
      rw [hbel]
      clear ht hend hst hbel
      obtain ⟨x, y, z⟩ := t
      obtain ⟨hx, hy, hz⟩ := hm
      refine AW.loopI (fun i : Nat => ⟨[(3, .s (.ptr 3 0)), (31, pts l), (32, vI l.length), (33, vI i)], [(3, some (tri3B x y z))]⟩) (fun i => i ≤ l.length ∧ (l.all fun p => okProg x y z p) = (l.drop i).all fun p => okProg x y z p) (fun i => l.length - i) 0 ⟨Nat.zero_le _, rfl⟩ ?_ ?_
      · exact SubI.of0 href [] rfl ⟨⟨rfl, LeBx.rfl⟩, trivial⟩ ⟨⟨rfl, LeQ.rfl⟩, ⟨rfl, LeQ.rfl⟩, ⟨rfl, LeQ.rfl⟩, ⟨rfl, LeQ.rfl⟩, trivial⟩
      · rintro i ⟨hi, hj⟩
        refine ex.sound (rc := []) tab_ok mix href _ ?_
        refine And.intro (fun h => ?_) (fun h => ?_)
        · have h : (i : Int) < l.length := decT h
          have hi' : i < l.length := by omega
          rw [List.drop_eq_getElem_cons hi', List.all_cons, ← getD_at hi'] at hj
          have hp : l.getD i default ∈ l := by rw [getD_at hi']; exact List.getElem_mem hi'
          refine oi ⟨by omega, by omega⟩ ?_
          refine callN (gCircle x y z (l.getD i default)) ?_
          have hcd := circ_det (near_of hap hx hp) (near_of hap hy hp) (near_of hap hz hp)
          have h1 := sgn_one (det3 x y z (l.getD i default))
          have h0 := sgn_beq0 (det3 x y z (l.getD i default))
          rw [← hcd] at h1 h0
          refine And.intro (fun h2 => ?_) (fun h2 => ?_)
          · have h2 : (circI x y z (l.getD i default) == 1) = true := h2
            rw [h1] at h2
            exact SubR.lit (by rw [hj]; unfold okProg; rw [h2]; rfl)
          · have h2 : (circI x y z (l.getD i default) == 1) = false := h2
            rw [h1] at h2
            refine And.intro (fun h3 => ?_) (fun h3 => ?_)
            · have h3 : (circI x y z (l.getD i default) == 0) = true := h3
              rw [h0] at h3
              repeat first | refine sk ?_ | refine st ?_ | refine sg ?_ | refine sh ?_ | refine su ?_ | refine sn1 ?_ | refine sn0 ?_ | refine oi (by decide) ?_ | refine ob (by decide) ?_ | refine og (fun _ => by decide) ?_ | refine And.intro (by kernel_rfl) ?_ | refine And.intro (show imp none (gimp _ none) from trivial) ?_
              refine callN (gAhead (l.getD i default) x) ?_
              repeat first | refine sk ?_ | refine st ?_ | refine sg ?_ | refine sh ?_ | refine su ?_ | refine sn1 ?_ | refine sn0 ?_ | refine oi (by decide) ?_ | refine ob (by decide) ?_ | refine og (fun _ => by decide) ?_ | refine And.intro (by kernel_rfl) ?_ | refine And.intro (show imp none (gimp _ none) from trivial) ?_
              refine callG (gcross y z (l.getD i default)) ?_
              repeat first | refine sk ?_ | refine st ?_ | refine sg ?_ | refine sh ?_ | refine su ?_ | refine sn1 ?_ | refine sn0 ?_ | refine oi (by decide) ?_ | refine ob (by decide) ?_ | refine og (fun _ => by decide) ?_ | refine And.intro (by kernel_rfl) ?_ | refine And.intro (show imp none (gimp _ none) from trivial) ?_
              refine And.intro (fun h4 => ?_) (fun h4 => ?_)
              · have h4 : (decide (ahdI (l.getD i default) x < 0) || decide (cross y z (l.getD i default) < 0)) = true := h4
                rw [ahd_bef, cross_crs (ho _ hy) (ho _ hz) (ho _ hp)] at h4
                exact SubR.lit (by rw [hj]; unfold okProg; rw [h2, h3, ← Bool.not_or, h4]; rfl)
              · have h4 : (decide (ahdI (l.getD i default) x < 0) || decide (cross y z (l.getD i default) < 0)) = false := h4
                rw [ahd_bef, cross_crs (ho _ hy) (ho _ hz) (ho _ hp)] at h4
                refine ⟨i + 1, ⟨by omega, ?_⟩, by omega, ?_⟩
                · rw [hj]; unfold okProg; rw [h2, h3, ← Bool.not_or, h4]; rfl
                · exact SubI.of0 href [] rfl ⟨⟨rfl, LeBx.rfl⟩, trivial⟩ ⟨⟨rfl, LeQ.rfl⟩, ⟨rfl, LeQ.rfl⟩, ⟨rfl, LeQ.rfl⟩, ⟨rfl, LeQ.int (w64_of (by omega) (by omega))⟩, trivial⟩
            · have h3 : (circI x y z (l.getD i default) == 0) = false := h3
              rw [h0] at h3
              refine ⟨i + 1, ⟨by omega, ?_⟩, by omega, ?_⟩
              · rw [hj]; unfold okProg; rw [h2, h3]; rfl
              · exact SubI.of0 href [] rfl ⟨⟨rfl, LeBx.rfl⟩, trivial⟩ ⟨⟨rfl, LeQ.rfl⟩, ⟨rfl, LeQ.rfl⟩, ⟨rfl, LeQ.rfl⟩, ⟨rfl, LeQ.int (w64_of (by omega) (by omega))⟩, trivial⟩
        · have h : ¬ (i : Int) < l.length := decF h
          obtain rfl : i = l.length := by omega
          rw [List.drop_length] at hj
          exact SubR.lit (by rw [hj]; rfl)
end Go.Ch

/- geometry.triangulate. -/
namespace Go.Ch
open Go Go.Ax Go.Proofs Go.Proofs.Try Go.Hull
set_option maxRecDepth 100000
set_option pp.maxSteps 400
set_option maxHeartbeats 1000000

abbrev trs (l : List Tr) : AV := .s (.d (dTrs l))
theorem pC_succ (l : List Pt) (a b k : Nat) : pC l a b (k + 1) = pC l a b k ++ (progC l a b (b + 1 + k)).toList := by
  unfold pC
  rw [List.range_succ, List.filterMap_append]
  congr 1
theorem pB_succ (l : List Pt) (a k : Nat) : pB l a (k + 1) = pB l a k ++ pC l a (a + 1 + k) (l.length - (a + 1 + k + 1)) := by
  unfold pB
  rw [List.range_succ, List.flatMap_append, List.flatMap_cons, List.flatMap_nil, List.append_nil]
theorem pA_succ (l : List Pt) (k : Nat) : pA l (k + 1) = pA l k ++ pB l k (l.length - (k + 1)) := by
  unfold pA
  rw [List.range_succ, List.flatMap_append, List.flatMap_cons, List.flatMap_nil, List.append_nil]
theorem pC_len (l : List Pt) (a b : Nat) : ∀ k, (pC l a b k).length ≤ k
  | 0 => by simp [pC]
  | k + 1 => by
    rw [pC_succ, List.length_append]
    have := pC_len l a b k
    have : (progC l a b (b + 1 + k)).toList.length ≤ 1 := by cases progC l a b (b + 1 + k) <;> simp
    omega
theorem pB_len (l : List Pt) (a : Nat) : ∀ k, (pB l a k).length ≤ k * l.length
  | 0 => by simp [pB]
  | k + 1 => by
    rw [pB_succ, List.length_append, Nat.add_mul]
    have := pB_len l a k
    have := pC_len l a (a + 1 + k) (l.length - (a + 1 + k + 1))
    omega
theorem pA_len (l : List Pt) : ∀ k, (pA l k).length ≤ k * (l.length * l.length)
  | 0 => by simp [pA]
  | k + 1 => by
    rw [pA_succ, List.length_append, Nat.add_mul]
    have := pA_len l k
    have := pB_len l k (l.length - (k + 1))
    have : (l.length - (k + 1)) * l.length ≤ l.length * l.length := Nat.mul_le_mul_right _ (by omega)
    omega
theorem SortTNil (a : AV) : CallP Try.prog 53 [.s (.d (.val (.slice none 0 0))), a] (.t []) := by
  refine ⟨Try.call53, fun M w vs hr hM => ?_⟩
  match vs, hr with
  | [v, v2], ⟨hv, hv2, _⟩ =>
    have hv : v = .slice none 0 0 := hv
    subst hv
    refine (AnyF.slices_SortFunc_none (P := Try.prog) (ρ := Try.laysT_ren) { Try.laysT with } none 0 v2 w).mono ?_
    rintro e w' ⟨he, rfl⟩
    exact ⟨.tuple #[], M, he, ⟨[], rfl, trivial⟩, Grow.refl _ _, hM, ⟨⟨rfl, rfl, rfl, Nat.le_refl _, fun _ _ => rfl⟩, Nat.le_refl _⟩⟩
  | [], h => exact h.elim
  | [_], h => exact h.2.elim
  | _ :: _ :: _ :: _, h => exact h.2.2.elim
theorem LeBx.snocT {o : List Tri} {T : Tri} {g : Nat → Nat → DV} (hg : ∀ j, j < 3 → g 0 j = trD (trOf T) j) :
    LeBx (.row 55 ((bif o.isEmpty then 0 else o.length) + 1) 3 (catF (bif o.isEmpty then 0 else o.length) (trEl (trTs o)) g)) (.mrow 55 (o ++ [T]).length 3 (trEl (trTs (o ++ [T])))) := by
  rw [bif_len]
  refine LeBx.mrow (by simp) fun i j hi hj => LeD.of_eq ?_
  show (if i < o.length then trD ((trTs o).getD i default) j else g (i - o.length) j) = trD ((trTs (o ++ [T])).getD i default) j
  have hlen : (trTs o).length = o.length := by unfold trTs; rw [List.length_map]
  have ha : trTs (o ++ [T]) = trTs o ++ [trOf T] := by unfold trTs; rw [List.map_append]; rfl
  rw [ha, List.getD_eq_getElem?_getD, List.getD_eq_getElem?_getD]
  split
  · rename_i h
    rw [List.getElem?_append_left (by omega)]
  · rename_i h
    obtain rfl : i = o.length := by omega
    rw [List.getElem?_append_right (by omega), hlen, Nat.sub_self, hg j hj]
    rfl
abbrev tS0 (l : List Pt) (a : Nat) (o : List Tri) : St := ⟨[(0, pts l), (3, .s (.mo o.isEmpty 100)), (10, vI l.length), (11, vI a)], [(100, some (.mrow 55 o.length 3 (trEl (trTs o))))]⟩
abbrev tS1 (l : List Pt) (a b : Nat) (o : List Tri) : St := ⟨[(0, pts l), (3, .s (.mo o.isEmpty 100)), (4, vI a), (5, vI b), (10, vI l.length), (11, vI a)], [(100, some (.mrow 55 o.length 3 (trEl (trTs o))))]⟩
abbrev tS2 (l : List Pt) (a b c : Nat) (o : List Tri) : St := ⟨[(0, pts l), (3, .s (.mo o.isEmpty 100)), (4, vI a), (5, vI b), (6, vI c), (10, vI l.length), (11, vI a)], [(100, some (.mrow 55 o.length 3 (trEl (trTs o))))]⟩
abbrev tS3 (l : List Pt) (a b c : Nat) (o : List Tri) (n : Int) (t : Tri) : St := ⟨[(0, pts l), (3, .s (.mo o.isEmpty 100)), (4, vI a), (5, vI b), (6, vI c), (7, .s (.ptr 7 0)), (8, vI n), (10, vI l.length), (11, vI a)], [(7, some (.cells [.d (dI t.A), .d (dI t.B), .d (dI t.C)])), (100, some (.mrow 55 o.length 3 (trEl (trTs o))))]⟩
theorem gTriangulate (l : List Pt) (hap : apartB l = false) (ho : ∀ p ∈ l, okP p) (hl : l.length ≤ 64) : CallP Try.prog 41 [pts l] (trs (trTs ((triP l).mergeSort fun x y => !(decide (cfT y x < 0))))) := by
  refine callP_of_aw Try.func41 rfl rfl Try.call41 tab_ok rfl rfl (fun cx href => ?_)
  refine AW.seq (ex.sound (rc := []) tab_ok mix href _ ?_)
  refine AW.seq (ex.sound (rc := []) tab_ok mix href _ ?_)
  refine AW.cut (σ' := tS0 l l.length (triP l)) (ex.sound (rc := []) tab_ok mix href _ ?_) ?_
  · refine AW.loopI (fun a => tS0 l a (pA l a)) (fun a => a ≤ l.length) (fun a => l.length - a) 0 (Nat.zero_le _) ?_ ?_
    · exact SubI.of0 href [(100, 1000)] rfl ⟨⟨rfl, rfl⟩, trivial⟩ ⟨⟨rfl, LeQ.rfl⟩, ⟨rfl, LeQ.nil rfl⟩, ⟨rfl, LeQ.rfl⟩, ⟨rfl, LeQ.rfl⟩, trivial⟩
    · intro a ha
      have hal := pA_len l a
      have hal2 : (pA l a).length ≤ 262144 := by
        have : a * (l.length * l.length) ≤ 64 * (64 * 64) := Nat.mul_le_mul (by omega) (Nat.mul_le_mul hl hl)
        omega
      refine ex.sound (rc := []) tab_ok mix href _ ?_
      refine And.intro (fun h => ?_) (fun h => ?_)
      · have h : (a : Int) < l.length := decT h
        have ha' : a < l.length := by omega
        refine AW.loopI (fun j : Nat => tS1 l a (a + 1 + j) (pA l a ++ pB l a j)) (fun j => a + 1 + j ≤ l.length) (fun j => l.length - j) 0 (by omega) ?_ ?_
        · refine SubI.of0 href [] rfl ⟨⟨rfl, LeBx.of_eq (by show _ = Box.mrow 55 (pA l a ++ []).length 3 (trEl (trTs (pA l a ++ []))); rw [List.append_nil])⟩, trivial⟩ ⟨⟨rfl, LeQ.rfl⟩, ⟨rfl, LeQ.mm (by show _ = (pA l a ++ []).isEmpty; rw [List.append_nil])⟩, ⟨rfl, LeQ.rfl⟩, ⟨rfl, LeQ.int ((w64_of (by omega) (by omega)).trans (by omega))⟩, ⟨rfl, LeQ.rfl⟩, ⟨rfl, LeQ.rfl⟩, trivial⟩
        · intro j hjl
          have hbl := pB_len l a j
          have hbl2 : (pB l a j).length ≤ 4096 := by
            have : j * l.length ≤ 64 * 64 := Nat.mul_le_mul (by omega) hl
            omega
          refine AW.seq (ex.sound (rc := []) tab_ok mix href _ ?_)
          refine And.intro (fun h2 => ?_) (fun h2 => ?_)
          · have h2 : ((a + 1 + j : Nat) : Int) < l.length := decT h2
            refine AW.seq (AW.block (AW.seq (ex.sound (rc := []) tab_ok mix href _ (AW.block ?_))))
            have hb' : a + 1 + j < l.length := by omega
            generalize hb : a + 1 + j = b at h2 hb' ⊢
            generalize ho1 : pA l a ++ pB l a j = o
            have hol : o.length ≤ 300000 := by rw [← ho1, List.length_append]; omega
            refine AW.loopI (fun k : Nat => tS2 l a b (b + 1 + k) (o ++ pC l a b k)) (fun k => b + 1 + k ≤ l.length) (fun k => l.length - k) 0 (by omega) ?_ ?_
            · refine SubI.of0 href [] rfl ⟨⟨rfl, LeBx.of_eq (by show _ = Box.mrow 55 (o ++ []).length 3 (trEl (trTs (o ++ []))); rw [List.append_nil])⟩, trivial⟩ ⟨⟨rfl, LeQ.rfl⟩, ⟨rfl, LeQ.mm (by show _ = (o ++ []).isEmpty; rw [List.append_nil])⟩, ⟨rfl, LeQ.rfl⟩, ⟨rfl, LeQ.rfl⟩, ⟨rfl, LeQ.int ((w64_of (by omega) (by omega)).trans (by omega))⟩, ⟨rfl, LeQ.rfl⟩, ⟨rfl, LeQ.rfl⟩, trivial⟩
            · intro k hk
              have hcl := pC_len l a b k
              refine AW.seq (ex.sound (rc := []) tab_ok mix href _ ?_)
              refine And.intro (fun h3 => ?_) (fun h3 => ?_)
              · have h3 : ((b + 1 + k : Nat) : Int) < l.length := decT h3
                have hc' : b + 1 + k < l.length := by omega
                have hsucc := pC_succ l a b k
                generalize hc : b + 1 + k = c at h3 hc' hsucc ⊢
                generalize ho2 : o ++ pC l a b k = o2
                have hol2 : o2.length ≤ 400000 := by rw [← ho2, List.length_append]; omega
                refine AW.seq (AW.block (AW.seq (ex.sound (rc := []) tab_ok mix href _ ?_)))
                refine AW.cut (σ' := tS3 l a b c o2 (cross (l.getD a default) (l.getD b default) (l.getD c default)) ⟨a, b, c⟩) (ex.sound (rc := []) tab_ok mix href _ ?_) ?_
                · refine oi ⟨by omega, by omega⟩ ?_
                  repeat first | refine sk ?_ | refine st ?_ | refine sg ?_ | refine sh ?_ | refine su ?_ | refine sn1 ?_ | refine sn0 ?_ | refine And.intro (show imp none (gimp _ none) from trivial) ?_
                  refine oi ⟨by omega, by omega⟩ ?_
                  repeat first | refine sk ?_ | refine st ?_ | refine sg ?_ | refine sh ?_ | refine su ?_ | refine sn1 ?_ | refine sn0 ?_ | refine And.intro (show imp none (gimp _ none) from trivial) ?_
                  refine oi ⟨by omega, by omega⟩ ?_
                  repeat first | refine sk ?_ | refine st ?_ | refine sg ?_ | refine sh ?_ | refine su ?_ | refine sn1 ?_ | refine sn0 ?_ | refine And.intro (show imp none (gimp _ none) from trivial) ?_
                  refine callN (gcross (l.getD a default) (l.getD b default) (l.getD c default)) ?_
                  repeat first | refine sk ?_ | refine st ?_ | refine sg ?_ | refine sh ?_ | refine su ?_ | refine sn1 ?_ | refine sn0 ?_ | refine And.intro (show imp none (gimp _ none) from trivial) ?_
                  refine And.intro (by kernel_rfl) ?_
                  exact ⟨rfl, SubI.of0 href [] rfl ⟨⟨rfl, LeBx.rfl⟩, ⟨rfl, LeBx.rfl⟩, trivial⟩ ⟨⟨rfl, LeQ.rfl⟩, ⟨rfl, LeQ.rfl⟩, ⟨rfl, LeQ.rfl⟩, ⟨rfl, LeQ.rfl⟩, ⟨rfl, LeQ.rfl⟩, ⟨rfl, LeQ.rfl⟩, ⟨rfl, LeQ.rfl⟩, ⟨rfl, LeQ.rfl⟩, ⟨rfl, LeQ.rfl⟩, trivial⟩⟩
                have hla : l.getD a default ∈ l := by rw [getD_at ha']; exact List.getElem_mem ha'
                have hlb : l.getD b default ∈ l := by rw [getD_at hb']; exact List.getElem_mem hb'
                have hlc : l.getD c default ∈ l := by rw [getD_at hc']; exact List.getElem_mem hc'
                rw [cross_crs (ho _ hla) (ho _ hlb) (ho _ hlc)]
                have hP : progC l a b c = (if crs (l.getD a default) (l.getD b default) (l.getD c default) ≠ 0 ∧ belP l (l.getD (if crs (l.getD a default) (l.getD b default) (l.getD c default) < 0 then (⟨a, c, b⟩ : Tri) else ⟨a, b, c⟩).A default) (l.getD (if crs (l.getD a default) (l.getD b default) (l.getD c default) < 0 then (⟨a, c, b⟩ : Tri) else ⟨a, b, c⟩).B default) (l.getD (if crs (l.getD a default) (l.getD b default) (l.getD c default) < 0 then (⟨a, c, b⟩ : Tri) else ⟨a, b, c⟩).C default) = true then some (if crs (l.getD a default) (l.getD b default) (l.getD c default) < 0 then (⟨a, c, b⟩ : Tri) else ⟨a, b, c⟩) else none) := rfl
                generalize crs (l.getD a default) (l.getD b default) (l.getD c default) = n at hP ⊢
                have hT : ∀ T : Tri, (if n < 0 then (⟨a, c, b⟩ : Tri) else ⟨a, b, c⟩) = T → T.A < l.length ∧ T.B < l.length ∧ T.C < l.length := by
                  rintro T rfl
                  split
                  · exact ⟨ha', hc', hb'⟩
                  · exact ⟨ha', hb', hc'⟩
                generalize hTe : (if n < 0 then (⟨a, c, b⟩ : Tri) else ⟨a, b, c⟩) = T at hP
                obtain ⟨t1, t2, t3⟩ := hT T hTe
                have ht1 : l.getD T.A default ∈ l := by rw [getD_at t1]; exact List.getElem_mem t1
                have ht2 : l.getD T.B default ∈ l := by rw [getD_at t2]; exact List.getElem_mem t2
                have ht3 : l.getD T.C default ∈ l := by rw [getD_at t3]; exact List.getElem_mem t3
                refine AW.cut (σ' := tS3 l a b c o2 n T) (ex.sound (rc := []) tab_ok mix href _ ?_) ?_
                · refine And.intro (fun h4 => ?_) (fun h4 => ?_)
                  · have h4 : n < 0 := decT h4
                    obtain rfl : (⟨a, c, b⟩ : Tri) = T := by rw [← hTe, if_pos h4]
                    exact ⟨rfl, SubI.of0 href [] rfl ⟨⟨rfl, LeBx.rfl⟩, ⟨rfl, LeBx.rfl⟩, trivial⟩ ⟨⟨rfl, LeQ.rfl⟩, ⟨rfl, LeQ.rfl⟩, ⟨rfl, LeQ.rfl⟩, ⟨rfl, LeQ.rfl⟩, ⟨rfl, LeQ.rfl⟩, ⟨rfl, LeQ.rfl⟩, ⟨rfl, LeQ.rfl⟩, ⟨rfl, LeQ.rfl⟩, ⟨rfl, LeQ.rfl⟩, trivial⟩⟩
                  · have h4 : ¬ n < 0 := decF h4
                    obtain rfl : (⟨a, b, c⟩ : Tri) = T := by rw [← hTe, if_neg h4]
                    exact ⟨rfl, SubI.of0 href [] rfl ⟨⟨rfl, LeBx.rfl⟩, ⟨rfl, LeBx.rfl⟩, trivial⟩ ⟨⟨rfl, LeQ.rfl⟩, ⟨rfl, LeQ.rfl⟩, ⟨rfl, LeQ.rfl⟩, ⟨rfl, LeQ.rfl⟩, ⟨rfl, LeQ.rfl⟩, ⟨rfl, LeQ.rfl⟩, ⟨rfl, LeQ.rfl⟩, ⟨rfl, LeQ.rfl⟩, ⟨rfl, LeQ.rfl⟩, trivial⟩⟩
                clear hTe hT
                refine ex.sound (rc := []) tab_ok mix href _ ?_
                repeat first | refine sk ?_ | refine st ?_ | refine sg ?_ | refine sh ?_ | refine su ?_ | refine sn1 ?_ | refine sn0 ?_ | refine And.intro (show imp none (gimp _ none) from trivial) ?_
                refine og (fun _ => ⟨by omega, by omega⟩) ?_
                repeat first | refine sk ?_ | refine st ?_ | refine sg ?_ | refine sh ?_ | refine su ?_ | refine sn1 ?_ | refine sn0 ?_ | refine And.intro (show imp none (gimp _ none) from trivial) ?_
                refine og (fun _ => ⟨by omega, by omega⟩) ?_
                repeat first | refine sk ?_ | refine st ?_ | refine sg ?_ | refine sh ?_ | refine su ?_ | refine sn1 ?_ | refine sn0 ?_ | refine And.intro (show imp none (gimp _ none) from trivial) ?_
                refine og (fun _ => ⟨by omega, by omega⟩) ?_
                repeat first | refine sk ?_ | refine st ?_ | refine sg ?_ | refine sh ?_ | refine su ?_ | refine sn1 ?_ | refine sn0 ?_ | refine And.intro (show imp none (gimp _ none) from trivial) ?_
                refine callG (gBelongs l (l.getD T.A default) (l.getD T.B default) (l.getD T.C default) ht1 ht2 ht3 hap ho (by omega)) ?_
                repeat first | refine sk ?_ | refine st ?_ | refine sg ?_ | refine sh ?_ | refine su ?_ | refine sn1 ?_ | refine sn0 ?_ | refine And.intro (show imp none (gimp _ none) from trivial) ?_
                refine And.intro (by kernel_rfl) ?_
                refine And.intro (fun h4 => ?_) (fun h4 => ?_)
                · have h4 : (n != 0 && belP l (l.getD T.A default) (l.getD T.B default) (l.getD T.C default)) = true := h4
                  have hPs : progC l a b c = some T := by
                    rw [hP, if_pos]
                    rw [Bool.and_eq_true] at h4
                    exact ⟨by simpa using h4.1, h4.2⟩
                  refine ob (by decide) ?_
                  refine ob (by rw [bif_len]; show (o2.length + 1) * 24 ≤ 140737488355328; omega) ?_
                  refine ob (fun k j hk hj => ?_) ?_
                  · obtain rfl : k = 0 := by omega
                    match j, hj with
                    | 0, _ => rfl
                    | 1, _ => rfl
                    | 2, _ => rfl
                  refine ex.sound (rc := []) tab_ok mix href _ ?_
                  refine ⟨k + 1, by omega, by omega, ?_⟩
                  have e : o ++ pC l a b (k + 1) = o2 ++ [T] := by rw [hsucc, hPs, ← ho2, List.append_assoc]; rfl
                  show SubI cx _ _ (tS2 l a b (b + 1 + (k + 1)) (o ++ pC l a b (k + 1)))
                  rw [e]
                  exact SubI.of0 href [(100, 78)] rfl ⟨⟨rfl, LeBx.snocT (T := T) fun j hj => match j, hj with
                    | 0, _ => rfl
                    | 1, _ => rfl
                    | 2, _ => rfl⟩, trivial⟩ ⟨⟨rfl, LeQ.rfl⟩, ⟨rfl, LeQ.mo (isEmpty_snoc _ _)⟩, ⟨rfl, LeQ.rfl⟩, ⟨rfl, LeQ.rfl⟩, ⟨rfl, LeQ.int ((w64_of (by omega) (by omega)).trans (by omega))⟩, ⟨rfl, LeQ.rfl⟩, ⟨rfl, LeQ.rfl⟩, trivial⟩
                · have h4 : (n != 0 && belP l (l.getD T.A default) (l.getD T.B default) (l.getD T.C default)) = false := h4
                  have hPn : progC l a b c = none := by
                    rw [hP, if_neg]
                    rintro ⟨h5, h6⟩
                    rw [h6, Bool.and_true] at h4
                    exact h5 (by simpa using h4)
                  refine ex.sound (rc := []) tab_ok mix href _ ?_
                  refine ⟨k + 1, by omega, by omega, ?_⟩
                  have e : o ++ pC l a b (k + 1) = o2 := by rw [hsucc, hPn, ← ho2]; simp
                  show SubI cx _ _ (tS2 l a b (b + 1 + (k + 1)) (o ++ pC l a b (k + 1)))
                  rw [e]
                  exact SubI.of0 href [] rfl ⟨⟨rfl, LeBx.rfl⟩, trivial⟩ ⟨⟨rfl, LeQ.rfl⟩, ⟨rfl, LeQ.rfl⟩, ⟨rfl, LeQ.rfl⟩, ⟨rfl, LeQ.rfl⟩, ⟨rfl, LeQ.int ((w64_of (by omega) (by omega)).trans (by omega))⟩, ⟨rfl, LeQ.rfl⟩, ⟨rfl, LeQ.rfl⟩, trivial⟩
              · have h3 : ¬ ((b + 1 + k : Nat) : Int) < l.length := decF h3
                obtain rfl : k = l.length - (b + 1) := by omega
                refine ex.sound (rc := []) tab_ok mix href _ ?_
                refine ⟨j + 1, by omega, by omega, ?_⟩
                have e : pA l a ++ pB l a (j + 1) = o ++ pC l a b (l.length - (b + 1)) := by rw [pB_succ, ← List.append_assoc, ho1, hb]
                show SubI cx _ _ (tS1 l a (a + 1 + (j + 1)) (pA l a ++ pB l a (j + 1)))
                rw [e]
                exact SubI.of0 href [] rfl ⟨⟨rfl, LeBx.rfl⟩, trivial⟩ ⟨⟨rfl, LeQ.rfl⟩, ⟨rfl, LeQ.rfl⟩, ⟨rfl, LeQ.rfl⟩, ⟨rfl, LeQ.int ((w64_of (by omega) (by omega)).trans (by omega))⟩, ⟨rfl, LeQ.rfl⟩, ⟨rfl, LeQ.rfl⟩, trivial⟩
          · have h2 : ¬ ((a + 1 + j : Nat) : Int) < l.length := decF h2
            obtain rfl : j = l.length - (a + 1) := by omega
            refine ⟨a + 1, by omega, by omega, ?_⟩
            show SubI cx _ _ (tS0 l (a + 1) (pA l (a + 1)))
            rw [pA_succ]
            exact SubI.of0 href [] rfl ⟨⟨rfl, LeBx.rfl⟩, trivial⟩ ⟨⟨rfl, LeQ.rfl⟩, ⟨rfl, LeQ.rfl⟩, ⟨rfl, LeQ.rfl⟩, ⟨rfl, LeQ.int ((w64_of (by omega) (by omega)).trans (by omega))⟩, trivial⟩
      · have h : ¬ (a : Int) < l.length := decF h
        obtain rfl : a = l.length := by omega
        refine ⟨rfl, ?_⟩
        exact SubI.of0 href [] rfl ⟨⟨rfl, LeBx.rfl⟩, trivial⟩ ⟨⟨rfl, LeQ.rfl⟩, ⟨rfl, LeQ.rfl⟩, ⟨rfl, LeQ.rfl⟩, ⟨rfl, LeQ.rfl⟩, trivial⟩
  · have hbd : ∀ t ∈ triP l, t.A < 1024 ∧ t.B < 1024 ∧ t.C < 1024 := fun t ht => by
      have := mem_triP.1 ht
      omega
    have hpl : (triP l).length ≤ 300000 := by
      have := pA_len l l.length
      have h2 : l.length * (l.length * l.length) ≤ 64 * (64 * 64) := Nat.mul_le_mul hl (Nat.mul_le_mul hl hl)
      unfold triP; omega
    generalize triP l = o at hbd hpl ⊢
    cases hz : o.isEmpty with
    | true =>
      obtain rfl : o = [] := List.isEmpty_iff.1 hz
      refine AW.subI (σ' := ⟨[(3, .s (.d (.val (.slice none 0 0))))], []⟩) (SubI.of0 href [] rfl trivial ⟨⟨rfl, LeQ.toNil rfl⟩, trivial⟩) ?_
      refine ex.sound (rc := []) tab_ok mix href _ ?_
      refine callN (SortTNil _) ?_
      have e : ([] : List Tri).mergeSort (fun x y => !(decide (cfT y x < 0))) = [] := List.eq_nil_of_length_eq_zero (by rw [List.length_mergeSort]; rfl)
      rw [e]
      exact SubR.le LeD.nil
    | false =>
      refine AW.subI (SubI.own (e := 55) (n := o.length) (s := 3) (f := trEl (trTs o)) (z := false) 3 100 ?_ rfl ?_) ?_
      · show AV.s (.mo o.isEmpty 100) = _
        rw [hz]
      · rfl
      refine ex.sound (rc := [53]) tab_ok mix href _ ?_
      refine ⟨[(1001, 100)], _, _, _, _, SortTri o hbd (trEl (trTs o)) (fun i j _ hj => LeD.refl _) (by omega), rfl, ⟨rfl, trivial⟩, rfl, ?_⟩
      refine SubR.le (LeD.slc' ?_ fun i j _ hj => LeD.refl _)
      unfold trTs; rw [List.length_map, List.length_mergeSort]
end Go.Ch

/- The reference's Check, Before, Dot, Square, Close, InCircle. -/
namespace Go.Ch
open Go Go.Ax Go.Proofs Go.Proofs.Try Go.Hull
set_option maxRecDepth 100000
set_option pp.maxSteps 400
set_option maxHeartbeats 1000000

theorem abs_of {n : Int} (h : -4000000 ≤ n ∧ n ≤ 4000000) : (if n < 0 then w64 (0 - n) else n) = absI n := by
  unfold absI
  split
  · rw [w64_of (by omega) (by omega)]; omega
  · rfl
theorem rClose (l : List Pt) (hg : ∀ p ∈ l, okP p) (hl : l.length ≤ 1000000) : CallP Try.prog 9 [pts l] (vB (closeR l)) := by
  refine callP_of_ex (rc := []) (N := 44) Try.func9 rfl rfl Try.call9 tab_ok mix rfl rfl (fun cx href => ?_)
  refine AW.loopI (fun i : Nat => ⟨[(0, pts l), (3, vI i)], []⟩)
    (fun i => i ≤ l.length ∧ closeR l = ((List.range l.length).drop i).all fun i => (List.range i).all fun k => !farA (l.getD i default) (l.getD k default)) (fun i => l.length - i) 0 ⟨Nat.zero_le _, rfl⟩ ?_ ?_
  · exact SubI.of0 href [] rfl trivial ⟨⟨rfl, LeQ.rfl⟩, ⟨rfl, LeQ.rfl⟩, trivial⟩
  · rintro i ⟨hi, hj⟩
    refine ex.sound (rc := []) tab_ok mix href _ ?_
    refine And.intro (fun h => ?_) (fun h => ?_)
    · have h : (i : Int) < l.length := decT h
      have hi' : i < l.length := by omega
      rw [List.drop_eq_getElem_cons (by simpa using hi'), List.all_cons, List.getElem_range] at hj
      have hp := hg (l.getD i default) (by rw [getD_at hi']; exact List.getElem_mem hi')
      refine AW.loopI (fun k : Nat => ⟨[(0, pts l), (3, vI i), (4, vI k)], []⟩)
        (fun k => k ≤ i ∧ ((List.range i).all fun k => !farA (l.getD i default) (l.getD k default)) = ((List.range i).drop k).all fun k => !farA (l.getD i default) (l.getD k default)) (fun k => i - k) 0 ⟨Nat.zero_le _, rfl⟩ ?_ ?_
      · exact SubI.of0 href [] rfl trivial ⟨⟨rfl, LeQ.rfl⟩, ⟨rfl, LeQ.rfl⟩, ⟨rfl, LeQ.rfl⟩, trivial⟩
      · rintro k ⟨hk, hm⟩
        refine ex.sound (rc := []) tab_ok mix href _ ?_
        refine And.intro (fun h2 => ?_) (fun h2 => ?_)
        · have h2 : (k : Int) < i := decT h2
          have hk' : k < i := by omega
          rw [List.drop_eq_getElem_cons (by simpa using hk'), List.all_cons, List.getElem_range] at hm
          have hq := hg (l.getD k default) (by rw [getD_at (show k < l.length by omega)]; exact List.getElem_mem (show k < l.length by omega))
          unfold okP at hp hq
          have w1 : w64 ((l.getD i default).x - (l.getD k default).x) = (l.getD i default).x - (l.getD k default).x := w64_of (by omega) (by omega)
          have w2 : w64 ((l.getD i default).y - (l.getD k default).y) = (l.getD i default).y - (l.getD k default).y := w64_of (by omega) (by omega)
          refine oi ⟨by omega, by omega⟩ ?_
          repeat first | refine sk ?_ | refine st ?_ | refine sg ?_ | refine sh ?_ | refine su ?_ | refine sn1 ?_ | refine sn0 ?_ | refine And.intro (show imp none (gimp _ none) from trivial) ?_
          refine oi ⟨by omega, by omega⟩ ?_
          repeat first | refine sk ?_ | refine st ?_ | refine sg ?_ | refine sh ?_ | refine su ?_ | refine sn1 ?_ | refine sn0 ?_ | refine And.intro (show imp none (gimp _ none) from trivial) ?_
          refine callN (Abs (w64 ((l.getD i default).x - (l.getD k default).x))) ?_
          repeat first | refine sk ?_ | refine st ?_ | refine sg ?_ | refine sh ?_ | refine su ?_ | refine sn1 ?_ | refine sn0 ?_ | refine And.intro (show imp none (gimp _ none) from trivial) ?_
          refine og (fun _ => ⟨by omega, by omega⟩) ?_
          repeat first | refine sk ?_ | refine st ?_ | refine sg ?_ | refine sh ?_ | refine su ?_ | refine sn1 ?_ | refine sn0 ?_ | refine And.intro (show imp none (gimp _ none) from trivial) ?_
          refine og (fun _ => ⟨by omega, by omega⟩) ?_
          repeat first | refine sk ?_ | refine st ?_ | refine sg ?_ | refine sh ?_ | refine su ?_ | refine sn1 ?_ | refine sn0 ?_ | refine And.intro (show imp none (gimp _ none) from trivial) ?_
          refine callG (Abs (w64 ((l.getD i default).y - (l.getD k default).y))) ?_
          repeat first | refine sk ?_ | refine st ?_ | refine sg ?_ | refine sh ?_ | refine su ?_ | refine sn1 ?_ | refine sn0 ?_ | refine And.intro (show imp none (gimp _ none) from trivial) ?_
          refine And.intro (by kernel_rfl) ?_
          have hf : ∀ b, (decide ((if w64 ((l.getD i default).x - (l.getD k default).x) < 0 then w64 (0 - w64 ((l.getD i default).x - (l.getD k default).x)) else w64 ((l.getD i default).x - (l.getD k default).x)) > 20000) || decide ((if w64 ((l.getD i default).y - (l.getD k default).y) < 0 then w64 (0 - w64 ((l.getD i default).y - (l.getD k default).y)) else w64 ((l.getD i default).y - (l.getD k default).y)) > 20000)) = b → farA (l.getD i default) (l.getD k default) = b := by
            intro b h
            rw [w1, w2, abs_of (by omega), abs_of (by omega)] at h
            exact h
          refine And.intro (fun h3 => ?_) (fun h3 => ?_)
          · have h3 := hf _ h3
            exact SubR.lit (by rw [hj, hm, h3]; rfl)
          · have h3 := hf _ h3
            refine ⟨k + 1, ⟨by omega, by rw [hm, h3]; rfl⟩, by omega, ?_⟩
            exact SubI.of0 href [] rfl trivial ⟨⟨rfl, LeQ.rfl⟩, ⟨rfl, LeQ.rfl⟩, ⟨rfl, LeQ.int (w64_of (by omega) (by omega))⟩, trivial⟩
        · have h2 : ¬ (k : Int) < i := decF h2
          obtain rfl : k = i := by omega
          rw [List.drop_eq_nil_of_le (by simp)] at hm
          refine ⟨k + 1, ⟨by omega, by rw [hj, hm]; rfl⟩, by omega, ?_⟩
          exact SubI.of0 href [] rfl trivial ⟨⟨rfl, LeQ.rfl⟩, ⟨rfl, LeQ.int (w64_of (by omega) (by omega))⟩, trivial⟩
    · have h : ¬ (i : Int) < l.length := decF h
      obtain rfl : i = l.length := by omega
      rw [List.drop_eq_nil_of_le (by simp)] at hj
      exact SubR.lit (by rw [hj]; rfl)
def dcI (a b c d : Pt) : Int := w64 (w64 (w64 (os a d * w64 (w64 (ox b d * oy c d) - w64 (oy b d * ox c d))) - w64 (os b d * w64 (w64 (ox a d * oy c d) - w64 (oy a d * ox c d)))) + w64 (os c d * w64 (w64 (ox a d * oy b d) - w64 (oy a d * ox b d))))
def incI (a b c d : Pt) : Int := w64 (sgn (dcI a b c d) * sgn (cross a b c))
end Go.Ch
