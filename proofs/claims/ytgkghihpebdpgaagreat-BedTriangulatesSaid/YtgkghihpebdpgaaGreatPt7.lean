/- Part 7: lemmas that the proofs of this seat share; by itself it claims nothing. -/
import Derived.Shelf.SlSortCmp.NoneTotal
import Derived.Shelf.SlicesG.Cmp
import Derived.Test.YtgkghihpebdpgaaGreatChecked
import Derived.Shelf.Sort.Plain
import Derived.Shelf.Slices.In.SortNone
import Derived.Test.YtgkghihpebdpgaaGreatPt6
/- slices.SortFunc at rows of structs, as a contract: the row holds core's mergeSort. -/
namespace Go.Ch
open Go Go.Ax Go.Sort Go.Shelf Go.Proofs

theorem heap_sortedK {w : World} {g n : Nat} {os : Array Obj} {cur : Array Value} {e : TypeId} {fr : Nat × Nat} (F : Array Value) (hb : w.heap[g]? = some (.cells cur e fr)) :
    (grow (putRow id (Sort.ahead w n) g 0 F) os).heap[g]? = some (.cells (putCells id 0 F cur) e fr) := by
  have hg : g < w.heap.size := (Array.getElem?_eq_some_iff.1 hb).1
  rw [heap_grow_old _ _ (by simpa using hg)]
  simp [putRow, mapBlock, Sort.ahead, Array.getElem?_modify, hb, onCells]
theorem heap_sortedK_other {w : World} {g n k : Nat} {os : Array Obj} (F : Array Value) (hk : k < w.heap.size) (h : k ≠ g) :
    (grow (putRow id (Sort.ahead w n) g 0 F) os).heap[k]? = w.heap[k]? := by
  rw [heap_grow_old _ _ (by simpa using hk)]
  simp [putRow, mapBlock, Sort.ahead, Array.getElem?_modify, Ne.symm h]
theorem putCellsK_get {F cur : Array Value} {t : Nat} (hi : t < F.size) (hc : t < cur.size) : (putCells id 0 F cur)[t]? = some F[t]! := by
  unfold putCells
  rw [Array.getElem?_mapIdx]
  simp [hc, hi]
theorem SortFK {P : Program} {α : Type} [Inhabited α] {ρ : Ren} (L : SlLaysF0.n6 P ρ) {F g e k : Nat} (hF : ρ.f 6 = F) (hcall : ∀ vs w, (callFunc F vs).run P w = .ok (.enter F vs) w) (hk0 : 0 < k)
    (aE : ∀ w, (isAgg (ρ.t 24)).run P w = .ok true w) (zE : ∀ w, (Go.sizeOf (ρ.t 24)).run P w = .ok k w)
    (el : α → Nat → DV) (enc : α → List Value) (hk : ∀ x, (enc x).length = k) (h1 : ∀ x, ∀ v ∈ enc x, v.oneCell' = true) (henc : ∀ x j, j < k → el x j = .val ((enc x)[j]!))
    (cf : α → α → Int) (hO : SWO (ltOf cf)) (hT : ∀ x y, (ltOf cf) x y = false → (ltOf cf) y x = false → x = y)
    (eg : ∀ args w, (callFunc g args).run P w = .ok (.enter g args) w) (hcmp : ∀ blk off n w, CmpLays P g #[] enc k cf blk off n w)
    (l : List α) (f0 : Nat → Nat → DV) (hf0 : ∀ i j, i < l.length → j < k → LeD (f0 i j) (el (l.getD i default) j)) (hl : l.length ≤ 1000000) :
    CallR P F [.s (.own 1001), .s (.clo g [])] [(1001, .row e l.length k f0)] (.t []) [(1001, .row e l.length k fun i => el ((l.mergeSort fun x y => !(ltOf cf) y x).getD i default))] := by
  subst hF
  refine ⟨hcall, fun M β w vs hr hM hbx hβ => ?_⟩
  obtain ⟨b, c, cur, hx, g1, h2, h3, h4, h5, h6⟩ := hbx.rep 1001 _ (List.mem_singleton.2 rfl)
  match vs, hr with
  | [v, v2], ⟨hv, hv2, _⟩ =>
    obtain ⟨b', c', hx', hv', hc'⟩ := hv
    rw [hx] at hx'
    cases hx'
    subst hv'
    obtain ⟨vs2, hv2, hrc⟩ := hv2
    obtain rfl : vs2 = [] := by cases vs2 with
      | nil => rfl
      | cons _ _ => exact hrc.elim
    subst hv2
    have hcell : ∀ i j, i < l.length → j < k → cur[i * k + j]? = some ((enc (l.getD i default))[j]!) := by
      intro i j hi hj
      obtain ⟨u, e1, e2⟩ := h6 i j hi hj
      have := hf0 i j hi hj M u e2
      rw [henc _ j hj] at this
      rw [e1, show u = (enc (l.getD i default))[j]! from this]
    have hb : b < w.heap.size := (Array.getElem?_eq_some_iff.1 g1).1
    have hflat : ∀ t, t < l.length * k → cur[t]? = some ((flatK enc k l.toArray)[t]!) := by
      intro t ht
      have hd : t / k < l.length := by rw [Nat.div_lt_iff_lt_mul hk0]; exact ht
      have hm : t % k < k := Nat.mod_lt _ hk0
      have := hcell (t / k) (t % k) hd hm
      rw [Nat.div_add_mod' t k] at this
      rw [this, get_flatK _ _ _ t (by simpa using ht)]
      simp [List.getD, hd]
    have hH : HoldsK enc k w b 0 l.toArray := by
      intro t ht
      have ht : t < l.length * k := by simpa using ht
      refine ⟨?_, by simp [World.frozen?, g1]⟩
      simp only [World.cell?, g1, Nat.zero_add, Option.isSome_none, Bool.false_eq_true, if_false]
      rw [hflat t ht]; rfl
    have hcon := AnyQ.slices_SortFunc_total L k aE zE enc hk h1 cf hO g #[] b 0 c.1 l.toArray w eg (hcmp b 0 l.toArray.size w) hH hb (by simp; omega) hT
    rw [h2]
    have hsz : l.toArray.size = l.length := by simp
    rw [hsz] at hcon
    refine hcon.mono ?_
    rintro q w' ⟨he, n, os, hw⟩
    generalize hsort : (l.toArray.toList.mergeSort fun x y => !(ltOf cf) y x) = sl at hw
    have hsort : (l.mergeSort fun x y => !(ltOf cf) y x) = sl := by rw [← hsort]
    have hlen : sl.length = l.length := by rw [← hsort, List.length_mergeSort]
    have hrow := heap_sortedK (w := w) (n := n) (os := os) (flatK enc k sl.toArray) g1
    have hoth : ∀ j, j < w.heap.size → j ≠ b → w'.heap[j]? = w.heap[j]? := fun j hj hne => by rw [hw]; exact heap_sortedK_other _ hj hne
    have hw2 : w' = grow (putRow id (Sort.ahead w n) b 0 (flatK enc k sl.toArray)) os := hw
    rw [← hw2] at hrow
    have hs : w.heap.size ≤ w'.heap.size := by rw [hw2]; simp [putRow, mapBlock, Sort.ahead]
    have hin : ∀ x, x ∈ names [(1001, Box.row e l.length k fun i => el (sl.getD i default))] → x = 1001 := fun x hx => List.mem_singleton.1 hx
    refine ⟨.tuple #[], M, β, he, Nm.le_refl β, ⟨[], rfl, trivial⟩, Grow.refl _ _, ?_, ⟨?_, ?_, ?_, ?_⟩, ?_, ?_, ?_, ?_, hs, ?_⟩
    · intro b2 o u hu
      have hne : b2 ≠ b := fun h => by
        subst h
        have := hbx.apart 1001 b2 c (List.mem_singleton.2 rfl) hx o
        rw [this] at hu; cases hu
      have hold := hM b2 o u hu
      have hb2 : b2 < w.heap.size := by
        cases h : w.heap[b2]? with
        | none => simp [World.cell?, h] at hold
        | some _ => exact (Array.getElem?_eq_some_iff.1 h).1
      simp only [World.cell?] at hold ⊢
      rw [hoth b2 hb2 hne]
      exact hold
    · intro x h
      rw [hin x h]; exact ⟨b, c, hx⟩
    · intro x bx h
      obtain ⟨rfl, rfl⟩ := Prod.mk.inj (List.mem_singleton.1 h)
      refine ⟨b, c, _, hx, hrow, h2, by simp [putCells, h3], h4, h5, fun i j hi hj => ?_⟩
      have hlt : i * k + j < l.length * k := by
        have : (i + 1) * k ≤ l.length * k := Nat.mul_le_mul_right k hi
        rw [Nat.add_mul] at this
        omega
      have hd : (i * k + j) / k = i := by
        rw [Nat.mul_comm, Nat.mul_add_div hk0, Nat.div_eq_of_lt hj, Nat.add_zero]
      have hm : (i * k + j) % k = j := by
        rw [Nat.mul_comm, Nat.mul_add_mod, Nat.mod_eq_of_lt hj]
      refine ⟨(enc (sl.getD i default))[j]!, ?_, ?_⟩
      · have hcs : i * k + j < cur.size := by
          rw [h3]
          have : l.length * k ≤ c.1 * k := Nat.mul_le_mul_right k (by omega)
          omega
        rw [putCellsK_get (by simpa [hlen] using hlt) hcs, get_flatK _ _ _ _ (by simpa [hlen] using hlt), hd, hm]
        have hi2 : i < sl.length := by omega
        simp [List.getD, hi2]
      · show (el (sl.getD i default) j).Rep M _
        rw [henc _ j hj]; rfl
    · intro x y b1 c1 c2 hx1 hy1 _ _
      rw [hin x hx1, hin y hy1]
    · intro x b1 c1 h e o
      rw [hin x h] at e
      rw [hx] at e
      cases e
      exact hbx.apart 1001 b c (List.mem_singleton.2 rfl) hx o
    · intro x b1 c1 h e
      rw [hin x h] at e
      exact .inr ⟨1001, c1, e⟩
    · rw [hw2]; rfl
    · rw [hw2]; rfl
    · rw [hw2]; rfl
    · refine ⟨fun j hj hne => hoth j hj (fun h => hne 1001 c (by rw [h]; exact hx)), ?_⟩
      rw [hw2]
      show w.drawn ≤ w.drawn + n
      omega
  | [], h => exact h.elim
  | [_], h => exact h.2.elim
  | _ :: _ :: _ :: _, h => exact h.2.2.elim
/-- A comparison with a contract leaves the world that the sort asks for. -/
theorem regrown {w w' : World} (h : Bel w w') : ∃ q os', w' = grow (w.drewN q) os' := by
  refine ⟨w'.drawn - w.drawn, w'.heap.extract w.heap.size w'.heap.size, ?_⟩
  have hd := h.drawn
  have hb0 := h.below
  obtain ⟨heap', tape', drawn', os', output'⟩ := w'
  have e1 : os' = w.os := hb0.os
  have e2 : tape' = w.tape := hb0.tape
  have e3 : output' = w.output := hb0.output
  have hs : w.heap.size ≤ heap'.size := hb0.size
  have hb : ∀ k, k < w.heap.size → heap'[k]? = w.heap[k]? := hb0.block
  subst e1 e2 e3
  have eh : heap' = w.heap ++ heap'.extract w.heap.size heap'.size := by
    apply Array.ext_getElem?
    intro k
    by_cases hk : k < w.heap.size
    · rw [Array.getElem?_append_left hk]; exact hb k hk
    · rw [Array.getElem?_append_right (by omega), Array.getElem?_extract]
      by_cases hk2 : k < heap'.size
      · rw [if_pos (by omega)]; congr 1; omega
      · rw [if_neg (by omega), Array.getElem?_eq_none (by omega)]
  simp only at hd
  simp only [grow, World.drewN]
  congr 1
  omega
theorem CmpLays.of {P : Program} {α : Type} [Inhabited α] {g k : Nat} {enc : α → List Value} {cf : α → α → Int} (arg : α → AV) (ha : ∀ x M β, (arg x).Rep M β (.agg (enc x).toArray)) (h : ∀ x y, CallP P g [arg x, arg y] (vI (cf x y))) (blk off n : Nat) (w : World) :
    CmpLays P g #[] enc k cf blk off n w := by
  intro m os dk hd x y
  generalize sortWorldK enc k w blk off m dk os = W
  refine ((h x y).2 (fun _ _ => none) W [.agg (enc x).toArray, .agg (enc y).toArray] ⟨ha x _ _, ha y _ _, trivial⟩ (fun _ _ _ e => by cases e)).mono ?_
  rintro e w' ⟨v, M', rfl, hr, _, _, hb⟩
  have hr : v = .int .i64 (cf x y) := hr
  subst hr
  exact ⟨rfl, regrown hb⟩
end Go.Ch

/- The layings of library functions that the shelf proves, in the numbers of this seat. -/
namespace Go.Proofs
open Go.Shelf
set_option maxRecDepth 100000
def Tryz.laysP_ren : Ren where
  f := fun n => match n with | 6 => 93 | 15 => 90 | 14 => 112 | 28 => 110 | 29 => 111 | 20 => 129 | 21 => 130 | 22 => 131 | 23 => 132 | 24 => 133 | 25 => 134 | 26 => 135 | 27 => 136 | 46 => 141 | 47 => 124 | 48 => 125 | 49 => 142 | 50 => 143 | 57 => 145 | n => n
  t := fun n => match n with | 22 => 34 | 24 => 39 | 25 => 96 | 3 => 3 | 39 => 121 | 0 => 0 | 53 => 137 | 55 => 139 | 4 => 4 | 46 => 130 | 45 => 129 | 50 => 80 | 5 => 5 | 9 => 9 | 66 => 148 | 70 => 152 | 76 => 161 | 77 => 162 | n => n
  g := fun n => n
theorem Tryz.laysP : SlLaysF0.n6 Tryz.prog Tryz.laysP_ren where
  mixed := by kernel_rfl
  f6 := ⟨ "slices.SortFunc[[]draghead/api.Point,draghead/api.Point]", of_decide_eq_true (by kernel_rfl), Tryz.func93.trans (congrArg some (by kernel_rfl))⟩
  f14 := ⟨ "slices.pdqsortCmpFunc[draghead/api.Point]", of_decide_eq_true (by kernel_rfl), Tryz.func112.trans (congrArg some (by kernel_rfl))⟩
  f15 := Tryz.func90.trans (congrArg some (by kernel_rfl))
  f20 := ⟨ "slices.insertionSortCmpFunc[draghead/api.Point]", of_decide_eq_true (by kernel_rfl), Tryz.func129.trans (congrArg some (by kernel_rfl))⟩
  f21 := ⟨ "slices.heapSortCmpFunc[draghead/api.Point]", of_decide_eq_true (by kernel_rfl), Tryz.func130.trans (congrArg some (by kernel_rfl))⟩
  f22 := ⟨ "slices.breakPatternsCmpFunc[draghead/api.Point]", of_decide_eq_true (by kernel_rfl), Tryz.func131.trans (congrArg some (by kernel_rfl))⟩
  f23 := ⟨ "slices.choosePivotCmpFunc[draghead/api.Point]", of_decide_eq_true (by kernel_rfl), Tryz.func132.trans (congrArg some (by kernel_rfl))⟩
  f24 := ⟨ "slices.reverseRangeCmpFunc[draghead/api.Point]", of_decide_eq_true (by kernel_rfl), Tryz.func133.trans (congrArg some (by kernel_rfl))⟩
  f25 := ⟨ "slices.partialInsertionSortCmpFunc[draghead/api.Point]", of_decide_eq_true (by kernel_rfl), Tryz.func134.trans (congrArg some (by kernel_rfl))⟩
  f26 := ⟨ "slices.partitionEqualCmpFunc[draghead/api.Point]", of_decide_eq_true (by kernel_rfl), Tryz.func135.trans (congrArg some (by kernel_rfl))⟩
  f27 := ⟨ "slices.partitionCmpFunc[draghead/api.Point]", of_decide_eq_true (by kernel_rfl), Tryz.func136.trans (congrArg some (by kernel_rfl))⟩
  f28 := Tryz.func110.trans (congrArg some (by kernel_rfl))
  f29 := Tryz.func111.trans (congrArg some (by kernel_rfl))
  f46 := ⟨ "slices.siftDownCmpFunc[draghead/api.Point]", of_decide_eq_true (by kernel_rfl), Tryz.func141.trans (congrArg some (by kernel_rfl))⟩
  f47 := Tryz.func124.trans (congrArg some (by kernel_rfl))
  f48 := Tryz.func125.trans (congrArg some (by kernel_rfl))
  f49 := ⟨ "slices.medianAdjacentCmpFunc[draghead/api.Point]", of_decide_eq_true (by kernel_rfl), Tryz.func142.trans (congrArg some (by kernel_rfl))⟩
  f50 := ⟨ "slices.medianCmpFunc[draghead/api.Point]", of_decide_eq_true (by kernel_rfl), Tryz.func143.trans (congrArg some (by kernel_rfl))⟩
  f57 := ⟨ "slices.order2CmpFunc[draghead/api.Point]", of_decide_eq_true (by kernel_rfl), Tryz.func145.trans (congrArg some (by kernel_rfl))⟩
  t0 := Tryz.underlying0
  a0 := Tryz.isAgg0
  z0 := Tryz.sizeOf0
  v0 := Tryz.zeroValue0
  t3 := Tryz.underlying3
  a3 := Tryz.isAgg3
  z3 := Tryz.sizeOf3
  v3 := Tryz.zeroValue3
  t4 := Tryz.underlying4
  a4 := Tryz.isAgg4
  z4 := Tryz.sizeOf4
  v4 := Tryz.zeroValue4
  t5 := Tryz.underlying5
  a5 := Tryz.isAgg5
  z5 := Tryz.sizeOf5
  v5 := Tryz.zeroValue5
  t9 := Tryz.underlying9
  a9 := Tryz.isAgg9
  z9 := Tryz.sizeOf9
  v9 := Tryz.zeroValue9
  t22 := Tryz.underlying34
  a22 := Tryz.isAgg34
  z22 := Tryz.sizeOf34
  v22 := Tryz.zeroValue34
  t25 := Tryz.underlying96
  a25 := Tryz.isAgg96
  z25 := Tryz.sizeOf96
  v25 := Tryz.zeroValue96
  t39 := Tryz.underlying121
  a39 := Tryz.isAgg121
  z39 := Tryz.sizeOf121
  v39 := Tryz.zeroValue121
  t45 := Tryz.underlying129
  a45 := Tryz.isAgg129
  z45 := Tryz.sizeOf129
  v45 := Tryz.zeroValue129
  t46 := Tryz.underlying130
  a46 := Tryz.isAgg130
  z46 := Tryz.sizeOf130
  v46 := Tryz.zeroValue130
  t50 := Tryz.underlying80
  a50 := Tryz.isAgg80
  z50 := Tryz.sizeOf80
  v50 := Tryz.zeroValue80
  t53 := Tryz.underlying137
  a53 := Tryz.isAgg137
  z53 := Tryz.sizeOf137
  v53 := Tryz.zeroValue137
  t55 := Tryz.underlying139
  a55 := Tryz.isAgg139
  z55 := Tryz.sizeOf139
  v55 := Tryz.zeroValue139
  t66 := Tryz.underlying148
  a66 := Tryz.isAgg148
  z66 := Tryz.sizeOf148
  v66 := Tryz.zeroValue148
  t70 := Tryz.underlying152
  a70 := Tryz.isAgg152
  z70 := Tryz.sizeOf152
  v70 := Tryz.zeroValue152
  t76 := Tryz.underlying161
  a76 := Tryz.isAgg161
  z76 := Tryz.sizeOf161
  v76 := Tryz.zeroValue161
  t77 := Tryz.underlying162
  a77 := Tryz.isAgg162
  z77 := Tryz.sizeOf162
  v77 := Tryz.zeroValue162
def Tryz.laysT_ren : Ren where
  f := fun n => match n with | 6 => 82 | 15 => 90 | 14 => 98 | 28 => 110 | 29 => 111 | 20 => 114 | 21 => 115 | 22 => 116 | 23 => 117 | 24 => 118 | 25 => 119 | 26 => 120 | 27 => 121 | 46 => 137 | 47 => 124 | 48 => 125 | 49 => 138 | 50 => 139 | 57 => 144 | n => n
  t := fun n => match n with | 22 => 28 | 24 => 70 | 25 => 115 | 3 => 3 | 39 => 121 | 0 => 0 | 53 => 137 | 55 => 139 | 4 => 4 | 46 => 130 | 45 => 129 | 50 => 80 | 5 => 5 | 9 => 9 | 66 => 148 | 70 => 152 | 76 => 161 | 77 => 162 | n => n
  g := fun n => n
theorem Tryz.laysT : SlLaysF0.n6 Tryz.prog Tryz.laysT_ren where
  mixed := by kernel_rfl
  f6 := ⟨ "slices.SortFunc[[]draghead/api.Triangle,draghead/api.Triangle]", of_decide_eq_true (by kernel_rfl), Tryz.func82.trans (congrArg some (by kernel_rfl))⟩
  f14 := ⟨ "slices.pdqsortCmpFunc[draghead/api.Triangle]", of_decide_eq_true (by kernel_rfl), Tryz.func98.trans (congrArg some (by kernel_rfl))⟩
  f15 := Tryz.func90.trans (congrArg some (by kernel_rfl))
  f20 := ⟨ "slices.insertionSortCmpFunc[draghead/api.Triangle]", of_decide_eq_true (by kernel_rfl), Tryz.func114.trans (congrArg some (by kernel_rfl))⟩
  f21 := ⟨ "slices.heapSortCmpFunc[draghead/api.Triangle]", of_decide_eq_true (by kernel_rfl), Tryz.func115.trans (congrArg some (by kernel_rfl))⟩
  f22 := ⟨ "slices.breakPatternsCmpFunc[draghead/api.Triangle]", of_decide_eq_true (by kernel_rfl), Tryz.func116.trans (congrArg some (by kernel_rfl))⟩
  f23 := ⟨ "slices.choosePivotCmpFunc[draghead/api.Triangle]", of_decide_eq_true (by kernel_rfl), Tryz.func117.trans (congrArg some (by kernel_rfl))⟩
  f24 := ⟨ "slices.reverseRangeCmpFunc[draghead/api.Triangle]", of_decide_eq_true (by kernel_rfl), Tryz.func118.trans (congrArg some (by kernel_rfl))⟩
  f25 := ⟨ "slices.partialInsertionSortCmpFunc[draghead/api.Triangle]", of_decide_eq_true (by kernel_rfl), Tryz.func119.trans (congrArg some (by kernel_rfl))⟩
  f26 := ⟨ "slices.partitionEqualCmpFunc[draghead/api.Triangle]", of_decide_eq_true (by kernel_rfl), Tryz.func120.trans (congrArg some (by kernel_rfl))⟩
  f27 := ⟨ "slices.partitionCmpFunc[draghead/api.Triangle]", of_decide_eq_true (by kernel_rfl), Tryz.func121.trans (congrArg some (by kernel_rfl))⟩
  f28 := Tryz.func110.trans (congrArg some (by kernel_rfl))
  f29 := Tryz.func111.trans (congrArg some (by kernel_rfl))
  f46 := ⟨ "slices.siftDownCmpFunc[draghead/api.Triangle]", of_decide_eq_true (by kernel_rfl), Tryz.func137.trans (congrArg some (by kernel_rfl))⟩
  f47 := Tryz.func124.trans (congrArg some (by kernel_rfl))
  f48 := Tryz.func125.trans (congrArg some (by kernel_rfl))
  f49 := ⟨ "slices.medianAdjacentCmpFunc[draghead/api.Triangle]", of_decide_eq_true (by kernel_rfl), Tryz.func138.trans (congrArg some (by kernel_rfl))⟩
  f50 := ⟨ "slices.medianCmpFunc[draghead/api.Triangle]", of_decide_eq_true (by kernel_rfl), Tryz.func139.trans (congrArg some (by kernel_rfl))⟩
  f57 := ⟨ "slices.order2CmpFunc[draghead/api.Triangle]", of_decide_eq_true (by kernel_rfl), Tryz.func144.trans (congrArg some (by kernel_rfl))⟩
  t0 := Tryz.underlying0
  a0 := Tryz.isAgg0
  z0 := Tryz.sizeOf0
  v0 := Tryz.zeroValue0
  t3 := Tryz.underlying3
  a3 := Tryz.isAgg3
  z3 := Tryz.sizeOf3
  v3 := Tryz.zeroValue3
  t4 := Tryz.underlying4
  a4 := Tryz.isAgg4
  z4 := Tryz.sizeOf4
  v4 := Tryz.zeroValue4
  t5 := Tryz.underlying5
  a5 := Tryz.isAgg5
  z5 := Tryz.sizeOf5
  v5 := Tryz.zeroValue5
  t9 := Tryz.underlying9
  a9 := Tryz.isAgg9
  z9 := Tryz.sizeOf9
  v9 := Tryz.zeroValue9
  t22 := Tryz.underlying28
  a22 := Tryz.isAgg28
  z22 := Tryz.sizeOf28
  v22 := Tryz.zeroValue28
  t25 := Tryz.underlying115
  a25 := Tryz.isAgg115
  z25 := Tryz.sizeOf115
  v25 := Tryz.zeroValue115
  t39 := Tryz.underlying121
  a39 := Tryz.isAgg121
  z39 := Tryz.sizeOf121
  v39 := Tryz.zeroValue121
  t45 := Tryz.underlying129
  a45 := Tryz.isAgg129
  z45 := Tryz.sizeOf129
  v45 := Tryz.zeroValue129
  t46 := Tryz.underlying130
  a46 := Tryz.isAgg130
  z46 := Tryz.sizeOf130
  v46 := Tryz.zeroValue130
  t50 := Tryz.underlying80
  a50 := Tryz.isAgg80
  z50 := Tryz.sizeOf80
  v50 := Tryz.zeroValue80
  t53 := Tryz.underlying137
  a53 := Tryz.isAgg137
  z53 := Tryz.sizeOf137
  v53 := Tryz.zeroValue137
  t55 := Tryz.underlying139
  a55 := Tryz.isAgg139
  z55 := Tryz.sizeOf139
  v55 := Tryz.zeroValue139
  t66 := Tryz.underlying148
  a66 := Tryz.isAgg148
  z66 := Tryz.sizeOf148
  v66 := Tryz.zeroValue148
  t70 := Tryz.underlying152
  a70 := Tryz.isAgg152
  z70 := Tryz.sizeOf152
  v70 := Tryz.zeroValue152
  t76 := Tryz.underlying161
  a76 := Tryz.isAgg161
  z76 := Tryz.sizeOf161
  v76 := Tryz.zeroValue161
  t77 := Tryz.underlying162
  a77 := Tryz.isAgg162
  z77 := Tryz.sizeOf162
  v77 := Tryz.zeroValue162
def Tryz.laysC_ren : Ren where
  f := fun n => match n with | 5 => 113 | 7 => 128 | n => n
  t := fun n => match n with | 22 => 3 | 3 => 3 | 4 => 4 | n => n
  g := fun n => n
theorem Tryz.laysC : SlLaysC2.n5 Tryz.prog Tryz.laysC_ren where
  mixed := by kernel_rfl
  f5 := ⟨ "cmp.Compare[int]", of_decide_eq_true (by kernel_rfl), Tryz.func113.trans (congrArg some (by kernel_rfl))⟩
  f7 := ⟨ "cmp.isNaN[int]", of_decide_eq_true (by kernel_rfl), Tryz.func128.trans (congrArg some (by kernel_rfl))⟩
  t3 := Tryz.underlying3
  a3 := Tryz.isAgg3
  z3 := Tryz.sizeOf3
  v3 := Tryz.zeroValue3
  t4 := Tryz.underlying4
  a4 := Tryz.isAgg4
  z4 := Tryz.sizeOf4
  v4 := Tryz.zeroValue4
  t22 := Tryz.underlying3
  a22 := Tryz.isAgg3
  z22 := Tryz.sizeOf3
  v22 := Tryz.zeroValue3
end Go.Proofs

/- cmp.Or, ahead, the comparison of triangles; the sorts. -/
namespace Go.Ch
open Go Go.Ax Go.Proofs Go.Proofs.Tryz Go.Hull
set_option maxRecDepth 100000
set_option pp.maxSteps 400
set_option maxHeartbeats 1000000

def orF (l : List Int) : Nat → Nat → Int
  | 0, _ => 0
  | n + 1, i => bif l.getD i 0 != 0 then l.getD i 0 else orF l n (i + 1)
theorem Or (l : List Int) (hl : l.length ≤ 1000000) : CallP Tryz.prog 84 [vInts l] (vI (orF l l.length 0)) := by
  refine callP_of_ex (rc := []) (N := 18) Tryz.func84 rfl rfl Tryz.call84 tab_ok mix rfl rfl (fun cx href => ?_)
  refine AW.loopI (fun i : Nat => ⟨[(3, vI 0), (6, vInts l), (7, vI l.length), (8, vI i)], []⟩) (fun i => i ≤ l.length ∧ orF l l.length 0 = orF l (l.length - i) i) (fun i => l.length - i) 0 ⟨Nat.zero_le _, rfl⟩ ?_ ?_
  · exact SubI.of0 href [] rfl trivial ⟨⟨rfl, LeQ.rfl⟩, ⟨rfl, LeQ.rfl⟩, ⟨rfl, LeQ.rfl⟩, ⟨rfl, LeQ.rfl⟩, trivial⟩
  · rintro i ⟨hi, hj⟩
    refine ex.sound (rc := []) tab_ok mix href _ ?_
    refine And.intro (fun h => ?_) (fun h => ?_)
    · have h : (i : Int) < l.length := decT h
      rw [show l.length - i = (l.length - (i + 1)) + 1 by omega, orF] at hj
      refine oi ⟨by omega, by omega⟩ ?_
      refine And.intro (fun h2 => ?_) (fun h2 => ?_)
      · have h2 : (l.getD i 0 != 0) = true := h2
        exact SubR.of_eq (by rw [hj, h2]; rfl)
      · have h2 : (l.getD i 0 != 0) = false := h2
        refine ⟨i + 1, ⟨by omega, by rw [hj, h2]; rfl⟩, by omega, ?_⟩
        exact SubI.of0 href [] rfl trivial ⟨⟨rfl, LeQ.rfl⟩, ⟨rfl, LeQ.rfl⟩, ⟨rfl, LeQ.rfl⟩, ⟨rfl, LeQ.int (w64_of (by omega) (by omega))⟩, trivial⟩
    · have h : ¬ (i : Int) < l.length := decF h
      rw [show l.length - i = 0 by omega] at hj
      exact SubR.of_eq (by rw [hj]; rfl)
def ahdI (a b : Pt) : Int := orF [sgn (a.x - b.x), sgn (a.y - b.y)] 2 0
theorem gAhead (a b : Pt) : CallP Tryz.prog 94 [pt a, pt b] (vI (ahdI a b)) := by
  refine callP_of_ex (rc := []) (N := 17) Tryz.func94 rfl rfl Tryz.call94 tab_ok mix rfl rfl (fun cx href => ?_)
  refine callN (Compare a.x b.x) ?_
  refine callN (Compare a.y b.y) ?_
  refine callN ((Or [sgn (a.x - b.x), sgn (a.y - b.y)] (by simp)).conv (args' := _) ⟨LeD.slc fun i j hi hj => LeD.of_eq ?_, trivial⟩) ?_
  · obtain rfl : j = 0 := by have : j < 1 := hj; omega
    match i, hi with
    | 0, _ => rfl
    | 1, _ => rfl
  refine And.intro (by kernel_rfl) ?_
  exact SubR.refl _
end Go.Ch

namespace Go.Ch
open Go Go.Shelf Go.Proofs
def renSort : Ren where
  f :=
    fun n => match n with
    | 189 => 72
    | 125 => 90
    | 257 => 89
    | 128 => 110
    | 129 => 111
    | 294 => 101
    | 295 => 102
    | 296 => 103
    | 297 => 104
    | 298 => 105
    | 299 => 106
    | 216 => 107
    | 300 => 108
    | 301 => 109
    | 328 => 123
    | 329 => 124
    | 330 => 125
    | 331 => 126
    | 332 => 127
    | 215 => 128
    | 343 => 140
    | n => n
  t :=
    fun n => match n with
    | 28 => 23
    | 3 => 3
    | 46 => 121
    | 0 => 0
    | 51 => 137
    | 53 => 139
    | 4 => 4
    | 183 => 130
    | 182 => 129
    | 131 => 80
    | 5 => 5
    | 9 => 9
    | 218 => 148
    | 222 => 152
    | 228 => 161
    | 229 => 162
    | n => n
  g :=
    fun n => n
set_option maxRecDepth 100000 in
theorem laysSort : Lays.n189 Tryz.prog renSort where
  mixed := by kernel_rfl
  f125 := Tryz.func90.trans (congrArg some (by kernel_rfl))
  f128 := Tryz.func110.trans (congrArg some (by kernel_rfl))
  f129 := Tryz.func111.trans (congrArg some (by kernel_rfl))
  f189 := Tryz.func72.trans (congrArg some (by kernel_rfl))
  f215 := Tryz.func128.trans (congrArg some (by kernel_rfl))
  f216 := Tryz.func107.trans (congrArg some (by kernel_rfl))
  f257 := Tryz.func89.trans (congrArg some (by kernel_rfl))
  f294 := Tryz.func101.trans (congrArg some (by kernel_rfl))
  f295 := Tryz.func102.trans (congrArg some (by kernel_rfl))
  f296 := Tryz.func103.trans (congrArg some (by kernel_rfl))
  f297 := Tryz.func104.trans (congrArg some (by kernel_rfl))
  f298 := Tryz.func105.trans (congrArg some (by kernel_rfl))
  f299 := Tryz.func106.trans (congrArg some (by kernel_rfl))
  f300 := Tryz.func108.trans (congrArg some (by kernel_rfl))
  f301 := Tryz.func109.trans (congrArg some (by kernel_rfl))
  f328 := Tryz.func123.trans (congrArg some (by kernel_rfl))
  f329 := Tryz.func124.trans (congrArg some (by kernel_rfl))
  f330 := Tryz.func125.trans (congrArg some (by kernel_rfl))
  f331 := Tryz.func126.trans (congrArg some (by kernel_rfl))
  f332 := Tryz.func127.trans (congrArg some (by kernel_rfl))
  f343 := Tryz.func140.trans (congrArg some (by kernel_rfl))
  t0 := Tryz.underlying0
  a0 := Tryz.isAgg0
  z0 := Tryz.sizeOf0
  v0 := Tryz.zeroValue0
  t3 := Tryz.underlying3
  a3 := Tryz.isAgg3
  z3 := Tryz.sizeOf3
  v3 := Tryz.zeroValue3
  t4 := Tryz.underlying4
  a4 := Tryz.isAgg4
  z4 := Tryz.sizeOf4
  v4 := Tryz.zeroValue4
  t5 := Tryz.underlying5
  a5 := Tryz.isAgg5
  z5 := Tryz.sizeOf5
  v5 := Tryz.zeroValue5
  t9 := Tryz.underlying9
  a9 := Tryz.isAgg9
  z9 := Tryz.sizeOf9
  v9 := Tryz.zeroValue9
  t28 := Tryz.underlying23
  a28 := Tryz.isAgg23
  z28 := Tryz.sizeOf23
  v28 := Tryz.zeroValue23
  t46 := Tryz.underlying121
  a46 := Tryz.isAgg121
  z46 := Tryz.sizeOf121
  v46 := Tryz.zeroValue121
  t51 := Tryz.underlying137
  a51 := Tryz.isAgg137
  z51 := Tryz.sizeOf137
  v51 := Tryz.zeroValue137
  t53 := Tryz.underlying139
  a53 := Tryz.isAgg139
  z53 := Tryz.sizeOf139
  v53 := Tryz.zeroValue139
  t131 := Tryz.underlying80
  a131 := Tryz.isAgg80
  z131 := Tryz.sizeOf80
  v131 := Tryz.zeroValue80
  t182 := Tryz.underlying129
  a182 := Tryz.isAgg129
  z182 := Tryz.sizeOf129
  v182 := Tryz.zeroValue129
  t183 := Tryz.underlying130
  a183 := Tryz.isAgg130
  z183 := Tryz.sizeOf130
  v183 := Tryz.zeroValue130
  t218 := Tryz.underlying148
  a218 := Tryz.isAgg148
  z218 := Tryz.sizeOf148
  v218 := Tryz.zeroValue148
  t222 := Tryz.underlying152
  a222 := Tryz.isAgg152
  z222 := Tryz.sizeOf152
  v222 := Tryz.zeroValue152
  t228 := Tryz.underlying161
  a228 := Tryz.isAgg161
  z228 := Tryz.sizeOf161
  v228 := Tryz.zeroValue161
  t229 := Tryz.underlying162
  a229 := Tryz.isAgg162
  z229 := Tryz.sizeOf162
  v229 := Tryz.zeroValue162
end Go.Ch

namespace Go.Ch
open Go Go.Ax Go.Sort Go.Proofs Go.Proofs.Tryz

theorem heap_sorted {w : World} {g n : Nat} {os : Array Obj} {cur : Array Value} {e : TypeId} {fr : Nat × Nat} (d : Array Int) (hb : w.heap[g]? = some (.cells cur e fr)) :
    (grow (putRow (Value.int .i64) (Sort.ahead w n) g 0 d) os).heap[g]? = some (.cells (putCells (Value.int .i64) 0 d cur) e fr) := by
  have hg : g < w.heap.size := (Array.getElem?_eq_some_iff.1 hb).1
  rw [heap_grow_old _ _ (by simpa using hg)]
  simp [putRow, mapBlock, Sort.ahead, Array.getElem?_modify, hb, onCells]
theorem heap_sorted_other {w : World} {g n k : Nat} {os : Array Obj} (d : Array Int) (hk : k < w.heap.size) (h : k ≠ g) :
    (grow (putRow (Value.int .i64) (Sort.ahead w n) g 0 d) os).heap[k]? = w.heap[k]? := by
  rw [heap_grow_old _ _ (by simpa using hk)]
  simp [putRow, mapBlock, Sort.ahead, Array.getElem?_modify, Ne.symm h]
theorem putCells_get {cur : Array Value} {m : List Int} {i : Nat} (hi : i < m.length) (hc : i < cur.size) : (putCells (Value.int .i64) 0 m.toArray cur)[i]? = some (.int .i64 (m.getD i 0)) := by
  unfold putCells
  rw [Array.getElem?_mapIdx]
  simp [hc, hi]
theorem SortR (l : List Int) (f0 : Nat → Nat → DV) (hf0 : ∀ i j, i < l.length → j < 1 → LeD (f0 i j) (intEl l i j)) (hl : l.length ≤ 1000000) :
    CallR Tryz.prog 72 [.s (.own 1001)] [(1001, .row 3 l.length 1 f0)] (.t []) [(1001, .row 3 l.length 1 (intEl (sortI l)))] := by
  refine ⟨Tryz.call72, fun M β w vs hr hM hbx hβ => ?_⟩
  obtain ⟨b, c, cur, hx, h1, h2, h3, h4, h5, h6⟩ := hbx.rep 1001 _ (List.mem_singleton.2 rfl)
  match vs, hr with
  | [v], ⟨hv, _⟩ =>
    obtain ⟨b', c', hx', hv', hc'⟩ := hv
    rw [hx] at hx'
    cases hx'
    subst hv'
    have hsz : cur.size = c.1 := by rw [h3, Nat.mul_one]
    have hcell : ∀ j, j < l.length → cur[j]? = some (.int .i64 (l.getD j 0)) := by
      intro j hj
      obtain ⟨u, e1, e2⟩ := h6 j 0 hj (by decide)
      rw [Nat.mul_one, Nat.add_zero] at e1
      have : u = .int .i64 (l.getD j 0) := hf0 j 0 hj (by decide) M u e2
      rw [e1, this]
    have hH : Holds (Value.int .i64) w b 0 l.toArray := by
      intro j hj
      have hj : j < l.length := by simpa using hj
      refine ⟨?_, by simp [World.frozen?, h1]⟩
      simp only [World.cell?, h1, Nat.zero_add, Option.isSome_none, Bool.false_eq_true, if_false]
      rw [hcell j hj]
      simp [hj]
    have hb : b < w.heap.size := (Array.getElem?_eq_some_iff.1 h1).1
    rw [h2]
    refine (Any.slices_Sort_int laysSort b 0 c.1 l w hH hb (by omega)).mono ?_
    rintro e w' ⟨he, n, os, hw⟩
    have hlen : (sortI l).length = l.length := sortI_len
    have hrow := heap_sorted (w := w) (n := n) (os := os) (sortI l).toArray h1
    have hoth : ∀ k, k < w.heap.size → k ≠ b → w'.heap[k]? = w.heap[k]? := fun k hk hne => by rw [hw]; exact heap_sorted_other _ hk hne
    rw [← hw] at hrow
    have hs : w.heap.size ≤ w'.heap.size := by rw [hw]; simp [putRow, mapBlock, Sort.ahead]
    have hin : ∀ x, x ∈ names [(1001, Box.row 3 l.length 1 (intEl (sortI l)))] → x = 1001 := fun x hx => List.mem_singleton.1 hx
    refine ⟨.tuple #[], M, β, he, Nm.le_refl β, ⟨[], rfl, trivial⟩, Grow.refl _ _, ?_, ⟨?_, ?_, ?_, ?_⟩, ?_, ?_, ?_, ?_, hs, ?_⟩
    · intro b2 o u hu
      have hne : b2 ≠ b := fun h => by
        subst h
        have := hbx.apart 1001 b2 c (List.mem_singleton.2 rfl) hx o
        rw [this] at hu; cases hu
      have hold := hM b2 o u hu
      have hb2 : b2 < w.heap.size := by
        cases h : w.heap[b2]? with
        | none => simp [World.cell?, h] at hold
        | some _ => exact (Array.getElem?_eq_some_iff.1 h).1
      simp only [World.cell?] at hold ⊢
      rw [hoth b2 hb2 hne]
      exact hold
    · intro x h
      rw [hin x h]; exact ⟨b, c, hx⟩
    · intro x bx h
      obtain ⟨rfl, rfl⟩ := Prod.mk.inj (List.mem_singleton.1 h)
      refine ⟨b, c, _, hx, hrow, h2, by simp [putCells, h3], h4, h5, fun i j hi hj => ?_⟩
      obtain rfl : j = 0 := by omega
      refine ⟨.int .i64 ((sortI l).getD i 0), ?_, rfl⟩
      rw [Nat.mul_one, Nat.add_zero]
      exact putCells_get (by omega) (by omega)
    · intro x y b1 c1 c2 hx1 hy1 _ _
      rw [hin x hx1, hin y hy1]
    · intro x b1 c1 h e o
      rw [hin x h] at e
      rw [hx] at e
      cases e
      exact hbx.apart 1001 b c (List.mem_singleton.2 rfl) hx o
    · intro x b1 c1 h e
      rw [hin x h] at e
      exact .inr ⟨1001, c1, e⟩
    · rw [hw]; rfl
    · rw [hw]; rfl
    · rw [hw]; rfl
    · refine ⟨fun k hk hne => hoth k hk (fun h => hne 1001 c (by rw [h]; exact hx)), ?_⟩
      rw [hw]
      show w.drawn ≤ w.drawn + n
      omega
  | [], h => exact h.elim
  | _ :: _ :: _, h => exact h.2.elim
theorem SortNil : CallP Tryz.prog 72 [.s (.d (.val (.slice none 0 0)))] (.t []) := by
  refine ⟨Tryz.call72, fun M w vs hr hM => ?_⟩
  match vs, hr with
  | [v], ⟨hv, _⟩ =>
    have hv : v = .slice none 0 0 := hv
    subst hv
    refine (Any.slices_Sort_int_none laysSort none 0 w).mono ?_
    rintro e w' ⟨he, rfl⟩
    exact ⟨.tuple #[], M, he, ⟨[], rfl, trivial⟩, Grow.refl _ _, hM, ⟨⟨rfl, rfl, rfl, Nat.le_refl _, fun _ _ => rfl⟩, Nat.le_refl _⟩⟩
  | [], h => exact h.elim
  | _ :: _ :: _, h => exact h.2.elim
end Go.Ch

namespace Go.Ch
open Go Go.Ax Go.Proofs Go.Proofs.Tryz
set_option maxRecDepth 100000
set_option pp.maxSteps 400
set_option maxHeartbeats 1000000

theorem countP_notin {n i : Nat} {sn : List Nat} (hi : i < n) (h : i ∉ sn) : ((List.range n).countP fun k => !(i :: sn).contains k) + 1 ≤ (List.range n).countP fun k => !sn.contains k := by
  refine countP_drop (fun k _ hk => ?_) ⟨i, List.mem_range.2 hi, by simpa using h, by simp⟩
  simp at hk ⊢
  exact hk.2
theorem nodup_len {n : Nat} {sn : List Nat} (h : sn.Nodup) (hlt : ∀ i ∈ sn, i < n) : sn.length ≤ n := by
  have hp : sn.Perm ((List.range n).filter fun i => sn.contains i) := (List.perm_ext_iff_of_nodup h (List.Pairwise.filter _ List.nodup_range)).2 fun i => by
    simp only [List.mem_filter, List.mem_range, List.contains_iff_mem]
    exact ⟨fun hi => ⟨hlt i hi, hi⟩, fun hi => hi.2⟩
  have := hp.length_eq
  have h2 := List.length_filter_le (fun i => sn.contains i) (List.range n)
  rw [List.length_range] at h2
  omega
def outK (b : List (Int × Int)) (sn : List Nat) : List Int := sn.reverse.map (keyAt b)
theorem outK_cons {b : List (Int × Int)} {i : Nat} {sn : List Nat} : outK b (i :: sn) = outK b sn ++ [keyAt b i] := by simp [outK]
abbrev lvS1 (g : Grid) (i : Nat) : St := ⟨[(1, .s (.ptr 1 0)), (3, .s (.mp 8)), (10, vInts g.levels), (11, vI g.levels.length), (12, vI i)], [(1, some (gridB g)), (8, some (.map .bool (lvF g.levels i)))]⟩
abbrev lvS2 (b : List (Int × Int)) (sn : List Nat) : St := ⟨[(24, .s (.ptr 24 0)), (6, .s (.mo (outK b sn).isEmpty 100))], [(8, some (.map .bool b)), (24, some (.iter 8 b.length sn)), (100, some (.mrow 3 (outK b sn).length 1 (intEl (outK b sn))))]⟩
theorem levels (g : Grid) (hn : g.levels.length ≤ 1024) : CallP Tryz.prog 47 [grid g] (vInts (levelsL g.levels)) := by
  refine callP_of_aw Tryz.func47 rfl rfl Tryz.call47 tab_ok rfl rfl (fun cx href => ?_)
  refine AW.seq (ex.sound (rc := []) tab_ok mix href _ ?_)
  refine AW.seq (ex.sound (rc := []) tab_ok mix href _ ?_)
  refine AW.cut (σ' := lvS1 g g.levels.length) (ex.sound (rc := []) tab_ok mix href _ ?_) ?_
  · refine AW.loopI (lvS1 g) (fun i => i ≤ g.levels.length) (fun i => g.levels.length - i) 0 (Nat.zero_le _) ?_ ?_
    · exact SubI.of0 href [] rfl ⟨⟨rfl, LeBx.rfl⟩, ⟨rfl, LeBx.rfl⟩, trivial⟩ ⟨⟨rfl, LeQ.rfl⟩, ⟨rfl, LeQ.rfl⟩, ⟨rfl, LeQ.rfl⟩, ⟨rfl, LeQ.rfl⟩, ⟨rfl, LeQ.rfl⟩, trivial⟩
    · intro i hi
      refine ex.sound (rc := []) tab_ok mix href _ ?_
      refine And.intro (fun h => ?_) (fun h => ?_)
      · have h : (i : Int) < g.levels.length := decT h
        refine oi ⟨by omega, by omega⟩ ?_
        refine callN (bknown g i (by omega) (by omega)) ?_
        refine And.intro (fun h2 => ?_) (fun h2 => ?_)
        · have h2 : (g.levels.getD i 0 != 30000) = true := h2
          refine ⟨i + 1, by omega, by omega, ?_⟩
          refine SubI.of0 href [] rfl ⟨⟨rfl, LeBx.rfl⟩, ⟨rfl, LeBx.of_eq ?_⟩, trivial⟩ ⟨⟨rfl, LeQ.rfl⟩, ⟨rfl, LeQ.rfl⟩, ⟨rfl, LeQ.rfl⟩, ⟨rfl, LeQ.rfl⟩, ⟨rfl, LeQ.int (w64_of (by omega) (by omega))⟩, trivial⟩
          rw [lvF, lvS, h2]; rfl
        · have h2 : (g.levels.getD i 0 != 30000) = false := h2
          refine ⟨i + 1, by omega, by omega, ?_⟩
          refine SubI.of0 href [] rfl ⟨⟨rfl, LeBx.rfl⟩, ⟨rfl, LeBx.of_eq ?_⟩, trivial⟩ ⟨⟨rfl, LeQ.rfl⟩, ⟨rfl, LeQ.rfl⟩, ⟨rfl, LeQ.rfl⟩, ⟨rfl, LeQ.rfl⟩, ⟨rfl, LeQ.int (w64_of (by omega) (by omega))⟩, trivial⟩
          rw [lvF, lvS, h2]; rfl
      · have h : ¬ (i : Int) < g.levels.length := decF h
        obtain rfl : i = g.levels.length := by omega
        exact ⟨rfl, SubI.of0 href [] rfl ⟨⟨rfl, LeBx.rfl⟩, ⟨rfl, LeBx.rfl⟩, trivial⟩ ⟨⟨rfl, LeQ.rfl⟩, ⟨rfl, LeQ.rfl⟩, ⟨rfl, LeQ.rfl⟩, ⟨rfl, LeQ.rfl⟩, ⟨rfl, LeQ.rfl⟩, trivial⟩⟩
  have hbl := lvF_len g.levels g.levels.length
  unfold levelsL
  generalize hb : lvF g.levels g.levels.length = b at hbl
  refine AW.seq (ex.sound (rc := []) tab_ok mix href _ ?_)
  refine AW.cutE (lvS2 b) (fun sn => sortI (outK b sn) = sortI (b.map (·.1)) ∧ (outK b sn).length ≤ 1024) (ex.sound (rc := []) tab_ok mix href _ ?_) ?_
  · refine AW.loopI (lvS2 b) (fun sn => sn.Nodup ∧ ∀ i ∈ sn, i < b.length) (fun sn => (List.range b.length).countP fun k => !sn.contains k) [] ⟨List.nodup_nil, fun i h => by cases h⟩ ?_ ?_
    · exact SubI.of0 href [(100, 1000)] rfl ⟨⟨rfl, LeBx.of_eq (by rw [hb]; rfl)⟩, ⟨rfl, LeBx.of_eq (by rw [hb]; rfl)⟩, ⟨rfl, rfl⟩, trivial⟩ ⟨⟨rfl, LeQ.rfl⟩, ⟨rfl, LeQ.nil rfl⟩, trivial⟩
    · rintro sn ⟨hnd, hlt⟩
      refine ex.sound (rc := []) tab_ok mix href _ ?_
      have hlen : sn.length ≤ b.length := nodup_len hnd hlt
      have hol : (outK b sn).length ≤ 1024 := by unfold outK; rw [List.length_map, List.length_reverse]; omega
      refine ⟨rfl, fun hall => ?_, fun i hi hni => ?_⟩
      · refine ⟨rfl, sn, ⟨?_, hol⟩, ?_⟩
        · exact keys_sort hnd hlt hall
        · exact SubI.of0 href [] rfl ⟨⟨rfl, LeBx.rfl⟩, ⟨rfl, LeBx.rfl⟩, ⟨rfl, LeBx.rfl⟩, trivial⟩ ⟨⟨rfl, LeQ.rfl⟩, ⟨rfl, LeQ.rfl⟩, trivial⟩
      · refine ⟨rfl, hi, ?_⟩
        refine ob (by decide) ?_
        refine ob (by rw [bif_len]; show _ * 8 ≤ _; omega) ?_
        refine ob (fit1 (lt1 rfl)) ?_
        refine ⟨i :: sn, ⟨List.nodup_cons.2 ⟨hni, hnd⟩, fun k hk => ?_⟩, ?_, ?_⟩
        · rcases List.mem_cons.1 hk with rfl | hk
          · exact hi
          · exact hlt k hk
        · have := countP_notin hi hni
          omega
        · refine SubI.of0 href [(100, 32)] rfl ⟨⟨rfl, LeBx.rfl⟩, ⟨rfl, LeBx.rfl⟩, ⟨rfl, ?_⟩, trivial⟩ ⟨⟨rfl, LeQ.rfl⟩, ⟨rfl, LeQ.mo ?_⟩, trivial⟩
          · rw [outK_cons]; exact nearRow intRow rfl
          · rw [outK_cons]; exact isEmpty_snoc _ _
  · rintro sn ⟨hso, hsl⟩
    rw [← hso]
    generalize hl : outK b sn = l at hsl
    cases hz : l.isEmpty with
    | true =>
      obtain rfl : l = [] := List.isEmpty_iff.1 hz
      refine AW.subI (σ' := ⟨[(6, .s (.d (.val (.slice none 0 0))))], []⟩) (SubI.of0 href [] rfl trivial ⟨⟨rfl, LeQ.toNil (by rw [hl]; rfl)⟩, trivial⟩) ?_
      refine ex.sound (rc := []) tab_ok mix href _ ?_
      refine callN SortNil ?_
      have e : sortI [] = [] := List.eq_nil_of_length_eq_zero sortI_len
      rw [e]
      exact SubR.le LeD.nil
    | false =>
      refine AW.subI (SubI.own (e := 3) (n := l.length) (s := 1) (f := intEl l) (z := false) 6 100 ?_ rfl ?_) ?_
      · show AV.s (.mo (outK b sn).isEmpty 100) = _
        rw [hl, hz]
      · show some (some (Box.mrow 3 (outK b sn).length 1 (intEl (outK b sn)))) = _
        rw [hl]
      refine ex.sound (rc := [72]) tab_ok mix href _ ?_
      refine ⟨[(1001, 100)], _, _, _, _, SortR l (intEl l) (fun i j _ hj => ?_) (by omega), rfl, ?_, rfl, ?_⟩
      · obtain rfl : j = 0 := by omega
        exact LeD.refl _
      · exact ⟨rfl, trivial⟩
      · refine SubR.le (LeD.slc' sortI_len.symm fun i j _ hj => ?_)
        obtain rfl : j = 0 := by omega
        exact LeD.refl _
end Go.Ch

namespace Go.Ch
open Go Go.Ax Go.Proofs Go.Proofs.Tryz
set_option maxRecDepth 100000
set_option pp.maxSteps 400
set_option maxHeartbeats 1000000

abbrev intF (h : Nat → Int) : Nat → Nat → DV := fun i _ => dI (h i)
def snocF (h : Nat → Int) (n : Nat) (x : Int) : Nat → Int := fun i => if i < n then h i else x
theorem LeBx.snocI {n m : Nat} {h : Nat → Int} {g : Nat → Nat → DV} {x : Int} (hg : g 0 0 = dI x) (hm : n + 1 = m) : LeBx (.row 3 (n + 1) 1 (catF n (intF h) g)) (.row 3 m 1 (intF (snocF h n x))) := by
  refine LeBx.row hm fun i j hi hj => LeD.of_eq ?_
  obtain rfl : j = 0 := by omega
  unfold catF
  show _ = dI (if i < n then h i else x)
  by_cases e : i < n
  · rw [if_pos e, if_pos e]
  · rw [if_neg e, if_neg e, show i - n = 0 by omega]; exact hg
theorem and_right {a b : Bool} (h : gpol true (a && b) = true) : b = true := by
  have h : (a && b) = true := h
  simp only [Bool.and_eq_true] at h
  exact h.2
theorem or_right {a b : Bool} (h : gpol false (a || !b) = true) : b = true := by
  have h : (!(a || !b)) = true := h
  cases b with
  | true => rfl
  | false => simp at h
theorem wayL_eq {n : Nat} {ok : Int → Bool} {nr : Int → List Int} {fr to : List Int} {s : BS} (h : searchL ok nr to n (fr.foldl (seedS ok) ([], [])) = s) : wayL n ok nr fr to = match s.2 with | [] => [] | i :: _ => (backL s.1 s.1.length i [i]).reverse := by
  subst h; rfl
theorem searchL_nil {ok : Int → Bool} {nr : Int → List Int} {to : List Int} {b : List (Int × Int)} : ∀ {m : Nat}, searchL ok nr to m (b, []) = (b, [])
  | 0 => rfl
  | _ + 1 => rfl
theorem nearL_len {g : Grid} {i : Int} : (nearL g i).length ≤ 4 := by
  have l1 := len1 (b := decide (i ≥ g.cols)) (x := i - g.cols)
  have l2 := len1 (b := decide (i % g.cols > 0)) (x := i - 1)
  have l3 := len1 (b := decide (i % g.cols < g.cols - 1)) (x := i + 1)
  have l4 := len1 (b := decide (i + g.cols < g.levels.length)) (x := i + g.cols)
  unfold nearL
  simp only [List.length_append]
  omega
theorem intRow1 {l : List Int} : RowIs 1 l.length (intEl l) (fun x _ => dI x) l := ⟨rfl, fun _ _ _ _ => rfl⟩
def okMost (g : Grid) (most : Int) (i : Int) : Bool := knownG g i && decide (levelAt g i ≤ most)
theorem okMost_known {g : Grid} {most i : Int} (h : okMost g most i = true) : there g i = true := by
  unfold okMost knownG at h
  simp only [Bool.and_eq_true] at h
  exact h.1.1
theorem clear1 (g : Grid) (most i : Int) (hi : knownG g i = true) (f h : Nat → DV) (hf : f 5 = dInts g.levels) (hh : h 0 = dI most) : CallP Tryz.prog 49 [vI i, .s (.d (.rp 6 f)), .s (.d (.rp 1 h))] (vB (decide (levelAt g i ≤ most))) := by
  have ht : there g i = true := by
    unfold knownG at hi
    simp only [Bool.and_eq_true] at hi
    exact hi.1
  have ht := there_iff.1 ht
  have h1 : LeAs [vI i, .s (.d (.rp 6 f)), .s (.d (.rp 1 h))] [vI i, .s (.d (.rp 6 fun j => if j = 5 then dInts g.levels else .junk)), .s (.d (.rp 1 fun _ => dI most))] :=
    ⟨LeD.refl _, LeD.rp fun j hj => ?_, LeD.rp fun j hj => LeD.of_eq (by rw [show j = 0 by omega]; exact hh), trivial⟩
  · refine CallP.conv ?_ h1
    refine callP_of_ex (rc := []) (N := 12) Tryz.func49 rfl rfl Tryz.call49 tab_ok mix rfl rfl (fun cx _ => ?_)
    refine oi ⟨by omega, by omega⟩ ?_
    refine And.intro (by kernel_rfl) ?_
    exact SubR.refl _
  · by_cases e : j = 5
    · rw [if_pos e, e]; exact LeD.of_eq hf
    · rw [if_neg e]; exact fun _ _ _ => trivial
end Go.Ch

namespace Go.Ch
open Go Go.Ax Go.Proofs Go.Proofs.Tryz
set_option maxRecDepth 100000
set_option pp.maxSteps 400
set_option maxHeartbeats 1000000
set_option linter.unusedVariables false

abbrev wayClear1 (g : Grid) (most : Int) (fr to : List Int) (s : BS) (i : Nat) : St := ⟨[(4, .s (.ptr 4 0)), (2, vInts to), (3, .s (.clo 49 [.ptr 1001 0, .ptr 1002 0])), (9, .s (.mp 22)), (10, .s (.mo s.2.isEmpty 100)), (23, vInts fr), (24, vI fr.length), (25, vI i)], [(1001, some (gridB g)), (1002, some (.cells [.d (dI most)])), (4, some (gridB g)), (22, some (.map .int s.1)), (100, some (.mrow 3 s.2.length 1 (intEl s.2)))]⟩
abbrev wayClear0 (g : Grid) (most : Int) : St := ⟨[(10, .s (.d (.val (.slice none 0 0))))], [(1001, some (gridB g)), (1002, some (.cells [.d (dI most)]))]⟩
abbrev wayClear2 (g : Grid) (most : Int) (to : List Int) (lo : Nat) (h : Nat → Int) (s : BS) : St := ⟨[(4, .s (.ptr 4 0)), (2, vInts to), (3, .s (.clo 49 [.ptr 1001 0, .ptr 1002 0])), (9, .s (.mp 22)), (10, .s (.osl 100 1 lo s.2.length))], [(1001, some (gridB g)), (1002, some (.cells [.d (dI most)])), (4, some (gridB g)), (22, some (.map .int s.1)), (100, some (.row 3 (lo + s.2.length) 1 (intF h)))]⟩
abbrev wayClear4 (g : Grid) (most : Int) (to : List Int) (x : Int) (nr : List Int) (lo : Nat) (h : Nat → Int) (s : BS) (j : Nat) : St := ⟨[(4, .s (.ptr 4 0)), (2, vInts to), (3, .s (.clo 49 [.ptr 1001 0, .ptr 1002 0])), (9, .s (.mp 22)), (10, .s (.osl 100 1 lo s.2.length)), (15, vI x), (68, vInts nr), (69, vI nr.length), (70, vI j)], [(1001, some (gridB g)), (1002, some (.cells [.d (dI most)])), (4, some (gridB g)), (22, some (.map .int s.1)), (100, some (.row 3 (lo + s.2.length) 1 (intF h)))]⟩
abbrev wayClear5 (g : Grid) (most : Int) (b : List (Int × Int)) (i : Int) (out : List Int) : St := ⟨[(9, .s (.mp 22)), (20, .s (.own 200)), (21, vI i)], [(1001, some (gridB g)), (1002, some (.cells [.d (dI most)])), (22, some (.map .int b)), (200, some (.row 3 out.length 1 (intEl out)))]⟩
theorem wayClear (g : Grid) (most : Int) (fr to : List Int) (hg : GVal g) (hf : fr.length ≤ 1000) (ht : to.length ≤ 1000) :
    CallR Tryz.prog 48 [grid g, vInts fr, vInts to, .s (.clo 49 [.ptr 1001 0, .ptr 1002 0])] [(1001, gridB g), (1002, .cells [.d (dI most)])] (vInts (wayL g.levels.length (okMost g most) (nearL g) fr to)) [(1001, gridB g), (1002, .cells [.d (dI most)])] := by
  have hn := hg.n
  have hok : ∀ i, (okMost g most) i = true → 0 ≤ i ∧ i < g.levels.length := fun i h => there_iff.1 (okMost_known h)
  refine callR_of_aw Tryz.func48 rfl rfl Tryz.call48 tab_ok rfl rfl rfl rfl (fun cx href => ?_)
  refine AW.seq (ex.sound (rc := [74]) tab_ok mix href _ ?_)
  refine AW.scope ?_
  refine AW.seq (ex.sound (rc := [74]) tab_ok mix href _ ?_)
  refine AW.seq (ex.sound (rc := [74]) tab_ok mix href _ ?_)
  refine AW.cut (σ' := wayClear1 g most fr to ((fr.take fr.length).foldl (seedS (okMost g most)) ([], [])) fr.length) (ex.sound (rc := [74]) tab_ok mix href _ ?_) ?_
  · refine AW.loopI (fun i => wayClear1 g most fr to ((fr.take i).foldl (seedS (okMost g most)) ([], [])) i) (fun i => i ≤ fr.length) (fun i => fr.length - i) 0 (Nat.zero_le _) ?_ ?_
    · exact SubI.of [(100, 1000)] (by rw [href]; rfl) rfl ⟨⟨rfl, LeBx.rfl⟩, ⟨rfl, LeBx.rfl⟩, ⟨rfl, LeBx.rfl⟩, ⟨rfl, LeBx.rfl⟩, ⟨rfl, rfl⟩, trivial⟩ ⟨⟨rfl, LeQ.rfl⟩, ⟨rfl, LeQ.rfl⟩, ⟨rfl, LeQ.rfl⟩, ⟨rfl, LeQ.rfl⟩, ⟨rfl, LeQ.nil rfl⟩, ⟨rfl, LeQ.rfl⟩, ⟨rfl, LeQ.rfl⟩, ⟨rfl, LeQ.rfl⟩, trivial⟩
    · intro i hi
      have hw := Bw.seeds hok (l := fr) i hi
      refine ex.sound (rc := [74]) tab_ok mix href _ ?_
      refine And.intro (fun h => ?_) (fun h => ?_)
      · have h : (i : Int) < fr.length := decT h
        have hi' : i < fr.length := by omega
        have hs := foldl_take (f := seedS (okMost g most)) (b := ([], [])) hi'
        have hx : fr[i] = fr.getD i 0 := by simp [hi']
        rw [hx] at hs
        generalize (fr.take i).foldl (seedS (okMost g most)) ([], []) = s at hw hs
        have hl : s.2.length ≤ 1024 := by have := hw.2; unfold muS at this; omega
        refine oi ⟨by omega, by omega⟩ ?_
        repeat first | refine sk ?_ | refine st ?_ | refine sg ?_ | refine sh ?_ | refine su ?_ | refine sn1 ?_ | refine sn0 ?_
        refine callG (knownI g (fr.getD i 0) (by omega)) ?_
        repeat first | refine sk ?_ | refine st ?_ | refine sg ?_ | refine sh ?_ | refine su ?_ | refine sn1 ?_ | refine sn0 ?_
        refine callGo (fun hk => clear1 g most _ (and_right hk) _ _ rfl rfl) ?_
        repeat first | refine sk ?_ | refine st ?_ | refine sg ?_ | refine sh ?_ | refine su ?_ | refine sn1 ?_ | refine sn0 ?_
        refine And.intro (fun h2 => ?_) (fun h2 => ?_)
        · have h2 : ((!hasM s.1 (fr.getD i 0) && knownG g (fr.getD i 0)) && decide (levelAt g (fr.getD i 0) ≤ most)) = true := h2
          rw [Bool.and_assoc] at h2
          have hs : (fr.take (i + 1)).foldl (seedS (okMost g most)) ([], []) = (setM s.1 (fr.getD i 0) (fr.getD i 0), s.2 ++ [fr.getD i 0]) := by
            rw [hs]
            show (bif !hasM s.1 (fr.getD i 0) && (knownG g (fr.getD i 0) && decide (levelAt g (fr.getD i 0) ≤ most)) then _ else _) = _
            rw [h2]; rfl
          refine ob (by decide) ?_
          refine ob (by rw [bif_len]; show _ * 8 ≤ _; omega) ?_
          refine ob (fit1 (lt1 rfl)) ?_
          refine ⟨i + 1, by omega, by omega, ?_⟩
          show SubI cx _ _ (wayClear1 g most fr to ((fr.take (i + 1)).foldl (seedS (okMost g most)) ([], [])) (i + 1))
          rw [hs]
          exact SubI.of [(100, 53)] (by rw [href]; rfl) rfl ⟨⟨rfl, LeBx.rfl⟩, ⟨rfl, LeBx.rfl⟩, ⟨rfl, LeBx.rfl⟩, ⟨rfl, LeBx.rfl⟩, ⟨rfl, nearRow intRow rfl⟩, trivial⟩ ⟨⟨rfl, LeQ.rfl⟩, ⟨rfl, LeQ.rfl⟩, ⟨rfl, LeQ.rfl⟩, ⟨rfl, LeQ.rfl⟩, ⟨rfl, LeQ.mo (isEmpty_snoc _ _)⟩, ⟨rfl, LeQ.rfl⟩, ⟨rfl, LeQ.rfl⟩, ⟨rfl, LeQ.int (w64_of (by omega) (by omega))⟩, trivial⟩
        · have h2 : ((!hasM s.1 (fr.getD i 0) && knownG g (fr.getD i 0)) && decide (levelAt g (fr.getD i 0) ≤ most)) = false := h2
          rw [Bool.and_assoc] at h2
          have hs : (fr.take (i + 1)).foldl (seedS (okMost g most)) ([], []) = s := by
            rw [hs]
            show (bif !hasM s.1 (fr.getD i 0) && (knownG g (fr.getD i 0) && decide (levelAt g (fr.getD i 0) ≤ most)) then _ else _) = _
            rw [h2]; rfl
          refine ⟨i + 1, by omega, by omega, ?_⟩
          show SubI cx _ _ (wayClear1 g most fr to ((fr.take (i + 1)).foldl (seedS (okMost g most)) ([], [])) (i + 1))
          rw [hs]
          exact SubI.of [] (by rw [href]; rfl) rfl ⟨⟨rfl, LeBx.rfl⟩, ⟨rfl, LeBx.rfl⟩, ⟨rfl, LeBx.rfl⟩, ⟨rfl, LeBx.rfl⟩, ⟨rfl, LeBx.rfl⟩, trivial⟩ ⟨⟨rfl, LeQ.rfl⟩, ⟨rfl, LeQ.rfl⟩, ⟨rfl, LeQ.rfl⟩, ⟨rfl, LeQ.rfl⟩, ⟨rfl, LeQ.rfl⟩, ⟨rfl, LeQ.rfl⟩, ⟨rfl, LeQ.rfl⟩, ⟨rfl, LeQ.int (w64_of (by omega) (by omega))⟩, trivial⟩
      · have h : ¬ (i : Int) < fr.length := decF h
        obtain rfl : i = fr.length := by omega
        exact ⟨rfl, SubI.of [] (by rw [href]; rfl) rfl ⟨⟨rfl, LeBx.rfl⟩, ⟨rfl, LeBx.rfl⟩, ⟨rfl, LeBx.rfl⟩, ⟨rfl, LeBx.rfl⟩, ⟨rfl, LeBx.rfl⟩, trivial⟩ ⟨⟨rfl, LeQ.rfl⟩, ⟨rfl, LeQ.rfl⟩, ⟨rfl, LeQ.rfl⟩, ⟨rfl, LeQ.rfl⟩, ⟨rfl, LeQ.rfl⟩, ⟨rfl, LeQ.rfl⟩, ⟨rfl, LeQ.rfl⟩, ⟨rfl, LeQ.rfl⟩, trivial⟩⟩
  rw [List.take_length]
  have h0 := Bw.seeds hok (l := fr) fr.length (Nat.le_refl _)
  rw [List.take_length] at h0
  have hwl := wayL_eq (n := g.levels.length) (ok := (okMost g most)) (nr := nearL g) (fr := fr) (to := to) (s := searchL (okMost g most) (nearL g) to g.levels.length (fr.foldl (seedS (okMost g most)) ([], []))) rfl
  rw [hwl]
  clear hwl
  generalize fr.foldl (seedS (okMost g most)) ([], []) = s0 at h0 ⊢
  refine AW.seq (AW.label ?_)
  cases hz : s0.2.isEmpty with
  | true =>
    have hs0 : s0 = (s0.1, []) := Prod.ext rfl (List.isEmpty_iff.1 hz)
    rw [hs0, searchL_nil]
    refine AW.subI (σ' := wayClear0 g most) (SubI.of [] (by rw [href]; rfl) rfl ⟨⟨rfl, LeBx.rfl⟩, ⟨rfl, LeBx.rfl⟩, trivial⟩ ⟨⟨rfl, LeQ.toNil rfl⟩, trivial⟩) ?_
    refine AW.cut (σ' := wayClear0 g most) (ex.sound (rc := [74]) tab_ok mix href _ ?_) ?_
    · refine AW.loopI (fun _ : Unit => wayClear0 g most) (fun _ => True) (fun _ => 0) () trivial ?_ ?_
      · exact SubI.of [] (by rw [href]; rfl) rfl ⟨⟨rfl, LeBx.rfl⟩, ⟨rfl, LeBx.rfl⟩, trivial⟩ ⟨⟨rfl, LeQ.rfl⟩, trivial⟩
      · intro _ _
        refine ex.sound (rc := [74]) tab_ok mix href _ ?_
        refine And.intro (fun h => by cases h) (fun _ => ?_)
        exact ⟨rfl, SubI.of [] (by rw [href]; rfl) rfl ⟨⟨rfl, LeBx.rfl⟩, ⟨rfl, LeBx.rfl⟩, trivial⟩ ⟨⟨rfl, LeQ.rfl⟩, trivial⟩⟩
    · refine ex.sound (rc := [74]) tab_ok mix href _ ?_
      refine And.intro (fun _ => ?_) (fun h => by cases h)
      exact ⟨SubR.le LeD.nil, ⟨rfl, rfl, trivial⟩⟩
  | false =>
    have hrow : SubI cx Tryz.f48.ntmps (wayClear1 g most fr to s0 fr.length) (wayClear2 g most to 0 (fun j => s0.2.getD j 0) s0) := by
      refine SubI.trans (SubI.osl (e := 3) (n := s0.2.length) (s := 1) (f := intEl s0.2) (z := s0.2.isEmpty) 10 100 rfl hz rfl) ?_
      exact SubI.of [] (by rw [href]; rfl) rfl ⟨⟨rfl, LeBx.rfl⟩, ⟨rfl, LeBx.rfl⟩, ⟨rfl, LeBx.rfl⟩, ⟨rfl, LeBx.rfl⟩, ⟨rfl, LeBx.row (Nat.zero_add _).symm fun i j _ _ => LeD.refl _⟩, trivial⟩ ⟨⟨rfl, LeQ.rfl⟩, ⟨rfl, LeQ.rfl⟩, ⟨rfl, LeQ.rfl⟩, ⟨rfl, LeQ.rfl⟩, ⟨rfl, LeQ.rfl⟩, trivial⟩
    refine AW.subI hrow ?_
    clear hrow hz
    refine AW.cutE (fun q : Nat × (Nat → Int) => wayClear2 g most to q.1 q.2 (searchL (okMost g most) (nearL g) to g.levels.length s0)) (fun q => Bw g.levels.length (okMost g most) (searchL (okMost g most) (nearL g) to g.levels.length s0) ∧ ∀ j, j < (searchL (okMost g most) (nearL g) to g.levels.length s0).2.length → q.2 (q.1 + j) = (searchL (okMost g most) (nearL g) to g.levels.length s0).2.getD j 0) (ex.sound (rc := [74]) tab_ok mix href _ ?_) ?_
    · refine AW.loopI (fun q : Nat × (Nat → Int) × BS × Nat => wayClear2 g most to q.1 q.2.1 q.2.2.1)
        (fun q => searchL (okMost g most) (nearL g) to g.levels.length s0 = searchL (okMost g most) (nearL g) to q.2.2.2 q.2.2.1 ∧ muS g.levels.length q.2.2.1 ≤ q.2.2.2 ∧ Bw g.levels.length (okMost g most) q.2.2.1 ∧ q.1 + muS g.levels.length q.2.2.1 ≤ g.levels.length ∧ ∀ j, j < q.2.2.1.2.length → q.2.1 (q.1 + j) = q.2.2.1.2.getD j 0)
        (fun q => q.2.2.2) (0, (fun j => s0.2.getD j 0), s0, g.levels.length) ⟨rfl, h0.2, h0.1, by simp only; have := h0.2; omega, fun j _ => by simp only [Nat.zero_add]⟩ ?_ ?_
      · exact SubI.of [] (by rw [href]; rfl) rfl ⟨⟨rfl, LeBx.rfl⟩, ⟨rfl, LeBx.rfl⟩, ⟨rfl, LeBx.rfl⟩, ⟨rfl, LeBx.rfl⟩, ⟨rfl, LeBx.rfl⟩, trivial⟩ ⟨⟨rfl, LeQ.rfl⟩, ⟨rfl, LeQ.rfl⟩, ⟨rfl, LeQ.rfl⟩, ⟨rfl, LeQ.rfl⟩, ⟨rfl, LeQ.rfl⟩, trivial⟩
      · rintro ⟨lo, h, ⟨b, t⟩, m⟩ ⟨he, hm, hw, hlo, hh⟩
        simp only at he hm hw hlo hh ⊢
        refine ex.sound (rc := [74]) tab_ok mix href _ ?_
        refine And.intro (fun h1 => ?_) (fun h1 => ?_)
        · have h1 : (t.length : Int) > 0 := decT h1
          match t, m with
          | [], _ => simp at h1
          | i :: r, 0 => exfalso; unfold muS at hm; simp at hm
          | i :: r, m + 1 =>
            have hi0 : h (lo + 0) = i := hh 0 (by simp)
            subst hi0
            have hlen : (h (lo + 0) :: r).length ≤ 1024 := by unfold muS at hlo; simp only at hlo; omega
            have hix := hw.mem (h (lo + 0)) (List.mem_cons_self ..)
            have hxr := hok _ (hw.key _ hix)
            refine oi ⟨by omega, by omega⟩ ?_
            refine oi (show lo + 0 < lo + (h (lo + 0) :: r).length by simp) ?_
            refine callN (ContainsI to (h (lo + 0)) (by omega)) ?_
            refine And.intro (fun h2 => ?_) (fun h2 => ?_)
            · have h2 : to.contains (h (lo + 0)) = true := h2
              rw [searchL, h2, cond_true] at he
              rw [he]
              refine ⟨rfl, (lo, h), ⟨hw, hh⟩, ?_⟩
              exact SubI.of [] (by rw [href]; rfl) rfl ⟨⟨rfl, LeBx.rfl⟩, ⟨rfl, LeBx.rfl⟩, ⟨rfl, LeBx.rfl⟩, ⟨rfl, LeBx.rfl⟩, ⟨rfl, LeBx.rfl⟩, trivial⟩ ⟨⟨rfl, LeQ.rfl⟩, ⟨rfl, LeQ.rfl⟩, ⟨rfl, LeQ.rfl⟩, ⟨rfl, LeQ.rfl⟩, ⟨rfl, LeQ.rfl⟩, trivial⟩
            · have h2 : to.contains (h (lo + 0)) = false := h2
              rw [searchL, h2, cond_false] at he
              refine callN (near g (h (lo + 0)) hg hxr.1 hxr.2) ?_
              have hnl : (nearL g (h (lo + 0))).length ≤ 1000000 := Nat.le_trans nearL_len (by decide)
              have hpw : ∀ j, j ≤ (nearL g (h (lo + 0))).length → _ := fun j hj => hw.pushes hok hix (l := nearL g (h (lo + 0))) j hj
              have hph : ∀ j, _ := fun j => pushes_head (ok := (okMost g most)) (c := h (lo + 0)) (s := (b, h (lo + 0) :: r)) rfl ((nearL g (h (lo + 0))).take j)
              have hpl : pushL (okMost g most) (h (lo + 0)) (nearL g (h (lo + 0))) (b, h (lo + 0) :: r) = ((nearL g (h (lo + 0))).take (nearL g (h (lo + 0))).length).foldl (pushS (okMost g most) (h (lo + 0))) (b, h (lo + 0) :: r) := by rw [List.take_length]; rfl
              rw [hpl] at he
              generalize hx : h (lo + 0) = x at *
              generalize nearL g x = nr at *
              refine AW.loopI (fun q : Nat × (Nat → Int) × Nat => wayClear4 g most to x nr q.1 q.2.1 ((nr.take q.2.2).foldl (pushS (okMost g most) x) (b, x :: r)) q.2.2)
                (fun q => q.2.2 ≤ nr.length ∧ q.1 + muS g.levels.length ((nr.take q.2.2).foldl (pushS (okMost g most) x) (b, x :: r)) ≤ g.levels.length ∧ ∀ j, j < ((nr.take q.2.2).foldl (pushS (okMost g most) x) (b, x :: r)).2.length → q.2.1 (q.1 + j) = ((nr.take q.2.2).foldl (pushS (okMost g most) x) (b, x :: r)).2.getD j 0)
                (fun q => nr.length - q.2.2) (lo, h, 0) ⟨Nat.zero_le _, hlo, hh⟩ ?_ ?_
              · exact SubI.of [] (by rw [href]; rfl) rfl ⟨⟨rfl, LeBx.rfl⟩, ⟨rfl, LeBx.rfl⟩, ⟨rfl, LeBx.rfl⟩, ⟨rfl, LeBx.rfl⟩, ⟨rfl, LeBx.rfl⟩, trivial⟩ ⟨⟨rfl, LeQ.rfl⟩, ⟨rfl, LeQ.rfl⟩, ⟨rfl, LeQ.rfl⟩, ⟨rfl, LeQ.rfl⟩, ⟨rfl, LeQ.rfl⟩, ⟨rfl, LeQ.int hx⟩, ⟨rfl, LeQ.rfl⟩, ⟨rfl, LeQ.rfl⟩, ⟨rfl, LeQ.rfl⟩, trivial⟩
              · rintro ⟨lo, h, j⟩ ⟨hj, hlo, hh⟩
                simp only at hj hlo hh ⊢
                have hpj := hpw j hj
                obtain ⟨r', hr'⟩ := hph j
                refine ex.sound (rc := [74]) tab_ok mix href _ ?_
                refine And.intro (fun h3 => ?_) (fun h3 => ?_)
                · have h3 : (j : Int) < nr.length := decT h3
                  have hj' : j < nr.length := by omega
                  have hs := foldl_take (f := pushS (okMost g most) x) (b := (b, x :: r)) hj'
                  have hk : nr[j] = nr.getD j 0 := by simp [hj']
                  rw [hk] at hs
                  generalize (nr.take j).foldl (pushS (okMost g most) x) (b, x :: r) = s at hlo hh hpj hr' hs
                  have hsl : s.2.length ≤ g.levels.length - lo := by unfold muS at hlo; omega
                  refine oi ⟨by omega, by omega⟩ ?_
                  repeat first | refine sk ?_ | refine st ?_ | refine sg ?_ | refine sh ?_ | refine su ?_ | refine sn1 ?_ | refine sn0 ?_
                  refine callG (knownI g (nr.getD j 0) (by omega)) ?_
                  repeat first | refine sk ?_ | refine st ?_ | refine sg ?_ | refine sh ?_ | refine su ?_ | refine sn1 ?_ | refine sn0 ?_
                  refine callGo (fun hk => clear1 g most _ (or_right hk) _ _ rfl rfl) ?_
                  repeat first | refine sk ?_ | refine st ?_ | refine sg ?_ | refine sh ?_ | refine su ?_ | refine sn1 ?_ | refine sn0 ?_
                  refine And.intro (fun h4 => ?_) (fun h4 => ?_)
                  · have h4 : ((hasM s.1 (nr.getD j 0) || !knownG g (nr.getD j 0)) || !decide (levelAt g (nr.getD j 0) ≤ most)) = true := h4
                    rw [Bool.or_assoc, ← Bool.not_and] at h4
                    have hs : (nr.take (j + 1)).foldl (pushS (okMost g most) x) (b, x :: r) = s := by
                      rw [hs]
                      show (bif hasM s.1 (nr.getD j 0) || !(knownG g (nr.getD j 0) && decide (levelAt g (nr.getD j 0) ≤ most)) then _ else _) = _
                      rw [h4]; rfl
                    refine ⟨(lo, h, j + 1), ⟨by simp only; omega, by simp only; rw [hs]; exact hlo, by simp only; rw [hs]; exact hh⟩, by simp only; omega, ?_⟩
                    show SubI cx _ _ (wayClear4 g most to x nr lo h ((nr.take (j + 1)).foldl (pushS (okMost g most) x) (b, x :: r)) (j + 1))
                    rw [hs]
                    exact SubI.of [] (by rw [href]; rfl) rfl ⟨⟨rfl, LeBx.rfl⟩, ⟨rfl, LeBx.rfl⟩, ⟨rfl, LeBx.rfl⟩, ⟨rfl, LeBx.rfl⟩, ⟨rfl, LeBx.rfl⟩, trivial⟩ ⟨⟨rfl, LeQ.rfl⟩, ⟨rfl, LeQ.rfl⟩, ⟨rfl, LeQ.rfl⟩, ⟨rfl, LeQ.rfl⟩, ⟨rfl, LeQ.rfl⟩, ⟨rfl, LeQ.rfl⟩, ⟨rfl, LeQ.rfl⟩, ⟨rfl, LeQ.rfl⟩, ⟨rfl, LeQ.int (w64_of (by omega) (by omega))⟩, trivial⟩
                  · have h4 : ((hasM s.1 (nr.getD j 0) || !knownG g (nr.getD j 0)) || !decide (levelAt g (nr.getD j 0) ≤ most)) = false := h4
                    rw [Bool.or_assoc, ← Bool.not_and] at h4
                    have hs : (nr.take (j + 1)).foldl (pushS (okMost g most) x) (b, x :: r) = (setM s.1 (nr.getD j 0) x, s.2 ++ [nr.getD j 0]) := by
                      rw [hs]
                      show (bif hasM s.1 (nr.getD j 0) || !(knownG g (nr.getD j 0) && decide (levelAt g (nr.getD j 0) ≤ most)) then _ else _) = _
                      rw [h4]; rfl
                    have hmu : muS g.levels.length ((nr.take (j + 1)).foldl (pushS (okMost g most) x) (b, x :: r)) ≤ muS g.levels.length s := by
                      have hh1 : ((hasM s.1 (nr.getD j 0)) || !((okMost g most) (nr.getD j 0))) = false := h4
                      rw [Bool.or_eq_false_iff] at hh1
                      rw [hs]
                      exact (hpj.1.put hok (by simpa using hh1.2) hh1.1 (.inr hpj.2.2)).2
                    rw [hs] at hmu
                    refine ob (by decide) ?_
                    refine ob (show (lo + s.2.length + 1) * 8 ≤ _ by omega) ?_
                    refine ob (fit1 (lt1 rfl)) ?_
                    refine And.intro ?_ ?_
                    · refine ⟨(lo, snocF h (lo + s.2.length) (nr.getD j 0), j + 1), ⟨by simp only; omega, by simp only; rw [hs]; omega, ?_⟩, by simp only; omega, ?_⟩
                      · simp only
                        rw [hs]
                        intro k hk
                        rw [List.length_append, List.length_singleton] at hk
                        show (if lo + k < lo + s.2.length then h (lo + k) else nr.getD j 0) = (s.2 ++ [nr.getD j 0]).getD k 0
                        rw [getD_app]
                        by_cases e : k < s.2.length
                        · rw [if_pos (by omega), if_pos e]; exact hh k e
                        · rw [if_neg (by omega), if_neg e, if_pos (by omega)]
                      · show SubI cx _ _ (wayClear4 g most to x nr lo (snocF h (lo + s.2.length) (nr.getD j 0)) ((nr.take (j + 1)).foldl (pushS (okMost g most) x) (b, x :: r)) (j + 1))
                        rw [hs]
                        exact SubI.of [(100, 99)] (by rw [href]; rfl) rfl ⟨⟨rfl, LeBx.rfl⟩, ⟨rfl, LeBx.rfl⟩, ⟨rfl, LeBx.rfl⟩, ⟨rfl, LeBx.rfl⟩, ⟨rfl, LeBx.snocI rfl (by rw [List.length_append, List.length_singleton]; omega)⟩, trivial⟩ ⟨⟨rfl, LeQ.rfl⟩, ⟨rfl, LeQ.rfl⟩, ⟨rfl, LeQ.rfl⟩, ⟨rfl, LeQ.rfl⟩, ⟨rfl, LeQ.of_eq (by rw [List.length_append, List.length_singleton]; rfl)⟩, ⟨rfl, LeQ.rfl⟩, ⟨rfl, LeQ.rfl⟩, ⟨rfl, LeQ.rfl⟩, ⟨rfl, LeQ.int (w64_of (by omega) (by omega))⟩, trivial⟩
                    · refine ⟨(0, snocF (fun i => h (lo + i)) s.2.length (nr.getD j 0), j + 1), ⟨by simp only; omega, by simp only; rw [hs]; omega, ?_⟩, by simp only; omega, ?_⟩
                      · simp only
                        rw [hs]
                        intro k hk
                        rw [List.length_append, List.length_singleton] at hk
                        show (if 0 + k < s.2.length then h (lo + (0 + k)) else nr.getD j 0) = (s.2 ++ [nr.getD j 0]).getD k 0
                        rw [getD_app, Nat.zero_add]
                        by_cases e : k < s.2.length
                        · rw [if_pos e, if_pos e]; exact hh k e
                        · rw [if_neg e, if_neg e, if_pos (by omega)]
                      · show SubI cx _ _ (wayClear4 g most to x nr 0 (snocF (fun i => h (lo + i)) s.2.length (nr.getD j 0)) ((nr.take (j + 1)).foldl (pushS (okMost g most) x) (b, x :: r)) (j + 1))
                        rw [hs]
                        exact SubI.of [(100, 99)] (by rw [href]; rfl) rfl ⟨⟨rfl, LeBx.rfl⟩, ⟨rfl, LeBx.rfl⟩, ⟨rfl, LeBx.rfl⟩, ⟨rfl, LeBx.rfl⟩, ⟨rfl, LeBx.snocI rfl (by rw [List.length_append, List.length_singleton]; omega)⟩, trivial⟩ ⟨⟨rfl, LeQ.rfl⟩, ⟨rfl, LeQ.rfl⟩, ⟨rfl, LeQ.rfl⟩, ⟨rfl, LeQ.rfl⟩, ⟨rfl, LeQ.of_eq (by rw [List.length_append, List.length_singleton]; rfl)⟩, ⟨rfl, LeQ.rfl⟩, ⟨rfl, LeQ.rfl⟩, ⟨rfl, LeQ.rfl⟩, ⟨rfl, LeQ.int (w64_of (by omega) (by omega))⟩, trivial⟩
                · have h3 : ¬ (j : Int) < nr.length := decF h3
                  obtain rfl : j = nr.length := by omega
                  generalize (nr.take nr.length).foldl (pushS (okMost g most) x) (b, x :: r) = s at hlo hh hpj hr' he
                  obtain ⟨b', t'⟩ := s
                  simp only at hr'
                  subst hr'
                  have hmt : muS g.levels.length (b', x :: r') = muS g.levels.length (b', r') + 1 := by unfold muS; simp only [List.length_cons]; omega
                  have hmp := hpj.2.1
                  refine oi ⟨by decide, by show (1 : Int) ≤ ((x :: r').length : Int); simp only [List.length_cons]; omega, Int.le_refl _⟩ ?_
                  refine ⟨(lo + 1, h, (b', r'), m), ⟨he, by simp only; omega, hpj.1.tail, by simp only; omega, fun k hk => ?_⟩, by simp only; omega, ?_⟩
                  · have := hh (k + 1) (by simp only [List.length_cons]; simp only at hk; omega)
                    show h (lo + 1 + k) = r'.getD k 0
                    rw [show lo + 1 + k = lo + (k + 1) by omega, this]; rfl
                  · exact SubI.of [] (by rw [href]; rfl) rfl ⟨⟨rfl, LeBx.rfl⟩, ⟨rfl, LeBx.rfl⟩, ⟨rfl, LeBx.rfl⟩, ⟨rfl, LeBx.rfl⟩, ⟨rfl, LeBx.row (by simp only [List.length_cons]; omega) fun _ _ _ _ => LeD.refl _⟩, trivial⟩ ⟨⟨rfl, LeQ.rfl⟩, ⟨rfl, LeQ.rfl⟩, ⟨rfl, LeQ.rfl⟩, ⟨rfl, LeQ.rfl⟩, ⟨rfl, LeQ.rfl⟩, trivial⟩
        · have h1 : ¬ (t.length : Int) > 0 := decF h1
          obtain rfl : t = [] := List.eq_nil_of_length_eq_zero (by omega)
          rw [searchL_nil] at he
          rw [he]
          refine ⟨rfl, (lo, h), ⟨hw, hh⟩, ?_⟩
          exact SubI.of [] (by rw [href]; rfl) rfl ⟨⟨rfl, LeBx.rfl⟩, ⟨rfl, LeBx.rfl⟩, ⟨rfl, LeBx.rfl⟩, ⟨rfl, LeBx.rfl⟩, ⟨rfl, LeBx.rfl⟩, trivial⟩ ⟨⟨rfl, LeQ.rfl⟩, ⟨rfl, LeQ.rfl⟩, ⟨rfl, LeQ.rfl⟩, ⟨rfl, LeQ.rfl⟩, ⟨rfl, LeQ.rfl⟩, trivial⟩
    · generalize searchL (okMost g most) (nearL g) to g.levels.length s0 = s
      rintro ⟨lo, h⟩ ⟨hw, hh⟩
      simp only at hw hh ⊢
      refine ex.sound (rc := [74]) tab_ok mix href _ ?_
      obtain ⟨b, t⟩ := s
      match t with
      | [] =>
        refine And.intro (fun _ => ?_) (fun h => by cases h)
        exact ⟨SubR.le LeD.nil, ⟨rfl, rfl, trivial⟩⟩
      | i :: r =>
        have hi0 : h (lo + 0) = i := hh 0 (by simp)
        refine And.intro (fun h => ?_) (fun _ => ?_)
        · exfalso
          have h : (((i :: r).length : Int) == 0) = true := h
          rw [len0] at h; cases h
        have hm := hw.mem i (List.mem_cons_self ..)
        have hpl := posM_lt hm
        have hcn := hw.cnt
        simp only at hm hpl hcn
        refine oi ⟨Int.le_refl _, by show (0 : Int) < ((i :: r).length : Int); simp only [List.length_cons]; omega⟩ ?_
        refine oi (show lo + 0 < lo + (i :: r).length by simp) ?_
        refine oi ⟨Int.le_refl _, by show (0 : Int) < ((i :: r).length : Int); simp only [List.length_cons]; omega⟩ ?_
        refine oi (show lo + 0 < lo + (i :: r).length by simp) ?_
        refine AW.loopI (fun q : Int × List Int × Nat => wayClear5 g most b q.1 q.2.1)
          (fun q => backL b b.length i [i] = backL b q.2.2 q.1 q.2.1 ∧ hasM b q.1 = true ∧ posM b q.1 ≤ q.2.2 ∧ 0 < q.2.1.length ∧ q.2.1.length + posM b q.1 ≤ 1025)
          (fun q => posM b q.1) (i, [i], b.length) ⟨rfl, hm, Nat.le_of_lt hpl, by simp, by simp only [List.length_singleton]; omega⟩ ?_ ?_
        · refine SubI.of [(200, 107)] (by rw [href]; rfl) rfl ⟨⟨rfl, LeBx.rfl⟩, ⟨rfl, LeBx.rfl⟩, ⟨rfl, LeBx.rfl⟩, ⟨rfl, LeBx.row rfl fun k j hk hj => LeD.of_eq ?_⟩, trivial⟩ ⟨⟨rfl, LeQ.rfl⟩, ⟨rfl, LeQ.rfl⟩, ⟨rfl, LeQ.int hi0⟩, trivial⟩
          have hk : k < 1 := hk
          obtain rfl : k = 0 := by omega
          have hj : j < 1 := hj
          obtain rfl : j = 0 := by omega
          exact congrArg dI hi0
        · generalize hi00 : i = i0
          rintro ⟨i, out, m⟩ ⟨he, hm, hpos, ho0, hol⟩
          simp only at he hm hpos ho0 hol ⊢
          refine ex.sound (rc := [74]) tab_ok mix href _ ?_
          refine oi hm ?_
          refine And.intro (fun h => ?_) (fun h => ?_)
          · have h : (getM b i != i) = true := h
            have hne : getM b i ≠ i := by simpa using h
            have hp := (hw.par i hm).resolve_left hne
            simp only at hp
            match m with
            | 0 => omega
            | m + 1 =>
              rw [backL, beq_eq_false_iff_ne.2 hne, cond_false] at he
              refine oi hm ?_
              refine ob (show (out.length + 1) * 8 ≤ _ by omega) ?_
              refine ob (fit1 (lt1 rfl)) ?_
              refine oi hm ?_
              refine ⟨(getM b i, out ++ [getM b i], m), ⟨he, hp.1, by simp only; omega, by simp, by simp only [List.length_append, List.length_singleton]; omega⟩, hp.2, ?_⟩
              exact SubI.of [(200, 124)] (by rw [href]; rfl) rfl ⟨⟨rfl, LeBx.rfl⟩, ⟨rfl, LeBx.rfl⟩, ⟨rfl, LeBx.rfl⟩, ⟨rfl, RowIs.row (el := fun x _ => dI x) (RowIs.snoc intRow1 (lt1 rfl))⟩, trivial⟩ ⟨⟨rfl, LeQ.rfl⟩, ⟨rfl, LeQ.rfl⟩, ⟨rfl, LeQ.rfl⟩, trivial⟩
          · have h : (getM b i != i) = false := h
            have heq : (getM b i == i) = true := by simpa using h
            have hres : backL b b.length i0 [i0] = out := by
              rw [he]
              cases m with
              | zero => rfl
              | succ m => rw [backL, heq, cond_true]
            simp only
            rw [hres]
            refine ⟨[(1001, 200)], _, _, _, _, ReverseR out (intEl out) (fun i j _ hj => ?_) ho0 (by omega), rfl, ⟨rfl, trivial⟩, rfl, ?_⟩
            · obtain rfl : j = 0 := by omega
              exact LeD.refl _
            · refine ⟨SubR.le (LeD.slc' (by simp) fun i j hi hj => LeD.of_eq ?_), ⟨rfl, rfl, trivial⟩⟩
              obtain rfl : j = 0 := by omega
              exact revF_end hi
end Go.Ch

namespace Go.Ch
open Go Go.Ax Go.Proofs Go.Proofs.Tryz
set_option maxRecDepth 100000
set_option pp.maxSteps 400
set_option maxHeartbeats 1000000

structure WayV where
  fr : List Int
  to : List Int
  level : Int
  path : List Int
  bar : List Int
  deriving Inhabited
abbrev wayB (q : WayV) : Box := .cells [.d (dInts q.fr), .d (dInts q.to), .d (dI q.level), .d (dInts q.path), .d (dInts q.bar)]
abbrev wayA (q : WayV) : AV := .g [.d (dInts q.fr), .d (dInts q.to), .d (dI q.level), .d (dInts q.path), .d (dInts q.bar)]
def okFree (g : Grid) (bar : List Int) (i : Int) : Bool := knownG g i && !bar.contains i
theorem okFree_known {g : Grid} {bar : List Int} {i : Int} (h : okFree g bar i = true) : there g i = true := by
  unfold okFree knownG at h
  simp only [Bool.and_eq_true] at h
  exact h.1.1
theorem check1 (q : WayV) (hq : q.bar.length ≤ 1000000) (i : Int) (f : Nat → DV) (hf : f 4 = dInts q.bar) : CallP Tryz.prog 51 [vI i, .s (.d (.rp 5 f))] (vB (!q.bar.contains i)) := by
  have h1 : LeAs [vI i, .s (.d (.rp 5 f))] [vI i, .s (.d (.rp 5 fun j => if j = 4 then dInts q.bar else .junk))] :=
    ⟨LeD.refl _, LeD.rp fun j hj => ?_, trivial⟩
  · refine CallP.conv ?_ h1
    refine callP_of_ex (rc := []) (N := 10) Tryz.func51 rfl rfl Tryz.call51 tab_ok mix rfl rfl (fun cx _ => ?_)
    refine callN (ContainsI q.bar i hq) ?_
    exact SubR.refl _
  · by_cases e : j = 4
    · rw [if_pos e, e]; exact LeD.of_eq hf
    · rw [if_neg e]; exact fun _ _ _ => trivial
end Go.Ch

namespace Go.Ch
open Go Go.Ax Go.Proofs Go.Proofs.Tryz
set_option maxRecDepth 100000
set_option pp.maxSteps 400
set_option maxHeartbeats 1000000
set_option linter.unusedVariables false

abbrev wayCheck1 (g : Grid) (v : WayV) (fr to : List Int) (s : BS) (i : Nat) : St := ⟨[(4, .s (.ptr 4 0)), (2, vInts to), (3, .s (.clo 51 [.ptr 1001 0])), (9, .s (.mp 22)), (10, .s (.mo s.2.isEmpty 100)), (23, vInts fr), (24, vI fr.length), (25, vI i)], [(1001, some (wayB v)), (4, some (gridB g)), (22, some (.map .int s.1)), (100, some (.mrow 3 s.2.length 1 (intEl s.2)))]⟩
abbrev wayCheck0 (g : Grid) (v : WayV) : St := ⟨[(10, .s (.d (.val (.slice none 0 0))))], [(1001, some (wayB v))]⟩
abbrev wayCheck2 (g : Grid) (v : WayV) (to : List Int) (lo : Nat) (h : Nat → Int) (s : BS) : St := ⟨[(4, .s (.ptr 4 0)), (2, vInts to), (3, .s (.clo 51 [.ptr 1001 0])), (9, .s (.mp 22)), (10, .s (.osl 100 1 lo s.2.length))], [(1001, some (wayB v)), (4, some (gridB g)), (22, some (.map .int s.1)), (100, some (.row 3 (lo + s.2.length) 1 (intF h)))]⟩
abbrev wayCheck4 (g : Grid) (v : WayV) (to : List Int) (x : Int) (nr : List Int) (lo : Nat) (h : Nat → Int) (s : BS) (j : Nat) : St := ⟨[(4, .s (.ptr 4 0)), (2, vInts to), (3, .s (.clo 51 [.ptr 1001 0])), (9, .s (.mp 22)), (10, .s (.osl 100 1 lo s.2.length)), (15, vI x), (68, vInts nr), (69, vI nr.length), (70, vI j)], [(1001, some (wayB v)), (4, some (gridB g)), (22, some (.map .int s.1)), (100, some (.row 3 (lo + s.2.length) 1 (intF h)))]⟩
abbrev wayCheck5 (g : Grid) (v : WayV) (b : List (Int × Int)) (i : Int) (out : List Int) : St := ⟨[(9, .s (.mp 22)), (20, .s (.own 200)), (21, vI i)], [(1001, some (wayB v)), (22, some (.map .int b)), (200, some (.row 3 out.length 1 (intEl out)))]⟩
theorem wayCheck (g : Grid) (v : WayV) (fr to : List Int) (hg : GVal g) (hf : fr.length ≤ 1000) (ht : to.length ≤ 1000) (hq : v.bar.length ≤ 1000000) :
    CallR Tryz.prog 48 [grid g, vInts fr, vInts to, .s (.clo 51 [.ptr 1001 0])] [(1001, wayB v)] (vInts (wayL g.levels.length (okFree g v.bar) (nearL g) fr to)) [(1001, wayB v)] := by
  have hn := hg.n
  have hok : ∀ i, (okFree g v.bar) i = true → 0 ≤ i ∧ i < g.levels.length := fun i h => there_iff.1 (okFree_known h)
  refine callR_of_aw Tryz.func48 rfl rfl Tryz.call48 tab_ok rfl rfl rfl rfl (fun cx href => ?_)
  refine AW.seq (ex.sound (rc := [74]) tab_ok mix href _ ?_)
  refine AW.scope ?_
  refine AW.seq (ex.sound (rc := [74]) tab_ok mix href _ ?_)
  refine AW.seq (ex.sound (rc := [74]) tab_ok mix href _ ?_)
  refine AW.cut (σ' := wayCheck1 g v fr to ((fr.take fr.length).foldl (seedS (okFree g v.bar)) ([], [])) fr.length) (ex.sound (rc := [74]) tab_ok mix href _ ?_) ?_
  · refine AW.loopI (fun i => wayCheck1 g v fr to ((fr.take i).foldl (seedS (okFree g v.bar)) ([], [])) i) (fun i => i ≤ fr.length) (fun i => fr.length - i) 0 (Nat.zero_le _) ?_ ?_
    · exact SubI.of [(100, 1000)] (by rw [href]; rfl) rfl ⟨⟨rfl, LeBx.rfl⟩, ⟨rfl, LeBx.rfl⟩, ⟨rfl, LeBx.rfl⟩, ⟨rfl, rfl⟩, trivial⟩ ⟨⟨rfl, LeQ.rfl⟩, ⟨rfl, LeQ.rfl⟩, ⟨rfl, LeQ.rfl⟩, ⟨rfl, LeQ.rfl⟩, ⟨rfl, LeQ.nil rfl⟩, ⟨rfl, LeQ.rfl⟩, ⟨rfl, LeQ.rfl⟩, ⟨rfl, LeQ.rfl⟩, trivial⟩
    · intro i hi
      have hw := Bw.seeds hok (l := fr) i hi
      refine ex.sound (rc := [74]) tab_ok mix href _ ?_
      refine And.intro (fun h => ?_) (fun h => ?_)
      · have h : (i : Int) < fr.length := decT h
        have hi' : i < fr.length := by omega
        have hs := foldl_take (f := seedS (okFree g v.bar)) (b := ([], [])) hi'
        have hx : fr[i] = fr.getD i 0 := by simp [hi']
        rw [hx] at hs
        generalize (fr.take i).foldl (seedS (okFree g v.bar)) ([], []) = s at hw hs
        have hl : s.2.length ≤ 1024 := by have := hw.2; unfold muS at this; omega
        refine oi ⟨by omega, by omega⟩ ?_
        repeat first | refine sk ?_ | refine st ?_ | refine sg ?_ | refine sh ?_ | refine su ?_ | refine sn1 ?_ | refine sn0 ?_
        refine callG (knownI g (fr.getD i 0) (by omega)) ?_
        repeat first | refine sk ?_ | refine st ?_ | refine sg ?_ | refine sh ?_ | refine su ?_ | refine sn1 ?_ | refine sn0 ?_
        refine callGo (fun hk => check1 v hq _ _ rfl) ?_
        repeat first | refine sk ?_ | refine st ?_ | refine sg ?_ | refine sh ?_ | refine su ?_ | refine sn1 ?_ | refine sn0 ?_
        refine And.intro (fun h2 => ?_) (fun h2 => ?_)
        · have h2 : ((!hasM s.1 (fr.getD i 0) && knownG g (fr.getD i 0)) && (!v.bar.contains (fr.getD i 0))) = true := h2
          rw [Bool.and_assoc] at h2
          have hs : (fr.take (i + 1)).foldl (seedS (okFree g v.bar)) ([], []) = (setM s.1 (fr.getD i 0) (fr.getD i 0), s.2 ++ [fr.getD i 0]) := by
            rw [hs]
            show (bif !hasM s.1 (fr.getD i 0) && (knownG g (fr.getD i 0) && (!v.bar.contains (fr.getD i 0))) then _ else _) = _
            rw [h2]; rfl
          refine ob (by decide) ?_
          refine ob (by rw [bif_len]; show _ * 8 ≤ _; omega) ?_
          refine ob (fit1 (lt1 rfl)) ?_
          refine ⟨i + 1, by omega, by omega, ?_⟩
          show SubI cx _ _ (wayCheck1 g v fr to ((fr.take (i + 1)).foldl (seedS (okFree g v.bar)) ([], [])) (i + 1))
          rw [hs]
          exact SubI.of [(100, 53)] (by rw [href]; rfl) rfl ⟨⟨rfl, LeBx.rfl⟩, ⟨rfl, LeBx.rfl⟩, ⟨rfl, LeBx.rfl⟩, ⟨rfl, nearRow intRow rfl⟩, trivial⟩ ⟨⟨rfl, LeQ.rfl⟩, ⟨rfl, LeQ.rfl⟩, ⟨rfl, LeQ.rfl⟩, ⟨rfl, LeQ.rfl⟩, ⟨rfl, LeQ.mo (isEmpty_snoc _ _)⟩, ⟨rfl, LeQ.rfl⟩, ⟨rfl, LeQ.rfl⟩, ⟨rfl, LeQ.int (w64_of (by omega) (by omega))⟩, trivial⟩
        · have h2 : ((!hasM s.1 (fr.getD i 0) && knownG g (fr.getD i 0)) && (!v.bar.contains (fr.getD i 0))) = false := h2
          rw [Bool.and_assoc] at h2
          have hs : (fr.take (i + 1)).foldl (seedS (okFree g v.bar)) ([], []) = s := by
            rw [hs]
            show (bif !hasM s.1 (fr.getD i 0) && (knownG g (fr.getD i 0) && (!v.bar.contains (fr.getD i 0))) then _ else _) = _
            rw [h2]; rfl
          refine ⟨i + 1, by omega, by omega, ?_⟩
          show SubI cx _ _ (wayCheck1 g v fr to ((fr.take (i + 1)).foldl (seedS (okFree g v.bar)) ([], [])) (i + 1))
          rw [hs]
          exact SubI.of [] (by rw [href]; rfl) rfl ⟨⟨rfl, LeBx.rfl⟩, ⟨rfl, LeBx.rfl⟩, ⟨rfl, LeBx.rfl⟩, ⟨rfl, LeBx.rfl⟩, trivial⟩ ⟨⟨rfl, LeQ.rfl⟩, ⟨rfl, LeQ.rfl⟩, ⟨rfl, LeQ.rfl⟩, ⟨rfl, LeQ.rfl⟩, ⟨rfl, LeQ.rfl⟩, ⟨rfl, LeQ.rfl⟩, ⟨rfl, LeQ.rfl⟩, ⟨rfl, LeQ.int (w64_of (by omega) (by omega))⟩, trivial⟩
      · have h : ¬ (i : Int) < fr.length := decF h
        obtain rfl : i = fr.length := by omega
        exact ⟨rfl, SubI.of [] (by rw [href]; rfl) rfl ⟨⟨rfl, LeBx.rfl⟩, ⟨rfl, LeBx.rfl⟩, ⟨rfl, LeBx.rfl⟩, ⟨rfl, LeBx.rfl⟩, trivial⟩ ⟨⟨rfl, LeQ.rfl⟩, ⟨rfl, LeQ.rfl⟩, ⟨rfl, LeQ.rfl⟩, ⟨rfl, LeQ.rfl⟩, ⟨rfl, LeQ.rfl⟩, ⟨rfl, LeQ.rfl⟩, ⟨rfl, LeQ.rfl⟩, ⟨rfl, LeQ.rfl⟩, trivial⟩⟩
  rw [List.take_length]
  have h0 := Bw.seeds hok (l := fr) fr.length (Nat.le_refl _)
  rw [List.take_length] at h0
  have hwl := wayL_eq (n := g.levels.length) (ok := (okFree g v.bar)) (nr := nearL g) (fr := fr) (to := to) (s := searchL (okFree g v.bar) (nearL g) to g.levels.length (fr.foldl (seedS (okFree g v.bar)) ([], []))) rfl
  rw [hwl]
  clear hwl
  generalize fr.foldl (seedS (okFree g v.bar)) ([], []) = s0 at h0 ⊢
  refine AW.seq (AW.label ?_)
  cases hz : s0.2.isEmpty with
  | true =>
    have hs0 : s0 = (s0.1, []) := Prod.ext rfl (List.isEmpty_iff.1 hz)
    rw [hs0, searchL_nil]
    refine AW.subI (σ' := wayCheck0 g v) (SubI.of [] (by rw [href]; rfl) rfl ⟨⟨rfl, LeBx.rfl⟩, trivial⟩ ⟨⟨rfl, LeQ.toNil rfl⟩, trivial⟩) ?_
    refine AW.cut (σ' := wayCheck0 g v) (ex.sound (rc := [74]) tab_ok mix href _ ?_) ?_
    · refine AW.loopI (fun _ : Unit => wayCheck0 g v) (fun _ => True) (fun _ => 0) () trivial ?_ ?_
      · exact SubI.of [] (by rw [href]; rfl) rfl ⟨⟨rfl, LeBx.rfl⟩, trivial⟩ ⟨⟨rfl, LeQ.rfl⟩, trivial⟩
      · intro _ _
        refine ex.sound (rc := [74]) tab_ok mix href _ ?_
        refine And.intro (fun h => by cases h) (fun _ => ?_)
        exact ⟨rfl, SubI.of [] (by rw [href]; rfl) rfl ⟨⟨rfl, LeBx.rfl⟩, trivial⟩ ⟨⟨rfl, LeQ.rfl⟩, trivial⟩⟩
    · refine ex.sound (rc := [74]) tab_ok mix href _ ?_
      refine And.intro (fun _ => ?_) (fun h => by cases h)
      exact ⟨SubR.le LeD.nil, ⟨rfl, trivial⟩⟩
  | false =>
    have hrow : SubI cx Tryz.f48.ntmps (wayCheck1 g v fr to s0 fr.length) (wayCheck2 g v to 0 (fun j => s0.2.getD j 0) s0) := by
      refine SubI.trans (SubI.osl (e := 3) (n := s0.2.length) (s := 1) (f := intEl s0.2) (z := s0.2.isEmpty) 10 100 rfl hz rfl) ?_
      exact SubI.of [] (by rw [href]; rfl) rfl ⟨⟨rfl, LeBx.rfl⟩, ⟨rfl, LeBx.rfl⟩, ⟨rfl, LeBx.rfl⟩, ⟨rfl, LeBx.row (Nat.zero_add _).symm fun i j _ _ => LeD.refl _⟩, trivial⟩ ⟨⟨rfl, LeQ.rfl⟩, ⟨rfl, LeQ.rfl⟩, ⟨rfl, LeQ.rfl⟩, ⟨rfl, LeQ.rfl⟩, ⟨rfl, LeQ.rfl⟩, trivial⟩
    refine AW.subI hrow ?_
    clear hrow hz
    refine AW.cutE (fun q : Nat × (Nat → Int) => wayCheck2 g v to q.1 q.2 (searchL (okFree g v.bar) (nearL g) to g.levels.length s0)) (fun q => Bw g.levels.length (okFree g v.bar) (searchL (okFree g v.bar) (nearL g) to g.levels.length s0) ∧ ∀ j, j < (searchL (okFree g v.bar) (nearL g) to g.levels.length s0).2.length → q.2 (q.1 + j) = (searchL (okFree g v.bar) (nearL g) to g.levels.length s0).2.getD j 0) (ex.sound (rc := [74]) tab_ok mix href _ ?_) ?_
    · refine AW.loopI (fun q : Nat × (Nat → Int) × BS × Nat => wayCheck2 g v to q.1 q.2.1 q.2.2.1)
        (fun q => searchL (okFree g v.bar) (nearL g) to g.levels.length s0 = searchL (okFree g v.bar) (nearL g) to q.2.2.2 q.2.2.1 ∧ muS g.levels.length q.2.2.1 ≤ q.2.2.2 ∧ Bw g.levels.length (okFree g v.bar) q.2.2.1 ∧ q.1 + muS g.levels.length q.2.2.1 ≤ g.levels.length ∧ ∀ j, j < q.2.2.1.2.length → q.2.1 (q.1 + j) = q.2.2.1.2.getD j 0)
        (fun q => q.2.2.2) (0, (fun j => s0.2.getD j 0), s0, g.levels.length) ⟨rfl, h0.2, h0.1, by simp only; have := h0.2; omega, fun j _ => by simp only [Nat.zero_add]⟩ ?_ ?_
      · exact SubI.of [] (by rw [href]; rfl) rfl ⟨⟨rfl, LeBx.rfl⟩, ⟨rfl, LeBx.rfl⟩, ⟨rfl, LeBx.rfl⟩, ⟨rfl, LeBx.rfl⟩, trivial⟩ ⟨⟨rfl, LeQ.rfl⟩, ⟨rfl, LeQ.rfl⟩, ⟨rfl, LeQ.rfl⟩, ⟨rfl, LeQ.rfl⟩, ⟨rfl, LeQ.rfl⟩, trivial⟩
      · rintro ⟨lo, h, ⟨b, t⟩, m⟩ ⟨he, hm, hw, hlo, hh⟩
        simp only at he hm hw hlo hh ⊢
        refine ex.sound (rc := [74]) tab_ok mix href _ ?_
        refine And.intro (fun h1 => ?_) (fun h1 => ?_)
        · have h1 : (t.length : Int) > 0 := decT h1
          match t, m with
          | [], _ => simp at h1
          | i :: r, 0 => exfalso; unfold muS at hm; simp at hm
          | i :: r, m + 1 =>
            have hi0 : h (lo + 0) = i := hh 0 (by simp)
            subst hi0
            have hlen : (h (lo + 0) :: r).length ≤ 1024 := by unfold muS at hlo; simp only at hlo; omega
            have hix := hw.mem (h (lo + 0)) (List.mem_cons_self ..)
            have hxr := hok _ (hw.key _ hix)
            refine oi ⟨by omega, by omega⟩ ?_
            refine oi (show lo + 0 < lo + (h (lo + 0) :: r).length by simp) ?_
            refine callN (ContainsI to (h (lo + 0)) (by omega)) ?_
            refine And.intro (fun h2 => ?_) (fun h2 => ?_)
            · have h2 : to.contains (h (lo + 0)) = true := h2
              rw [searchL, h2, cond_true] at he
              rw [he]
              refine ⟨rfl, (lo, h), ⟨hw, hh⟩, ?_⟩
              exact SubI.of [] (by rw [href]; rfl) rfl ⟨⟨rfl, LeBx.rfl⟩, ⟨rfl, LeBx.rfl⟩, ⟨rfl, LeBx.rfl⟩, ⟨rfl, LeBx.rfl⟩, trivial⟩ ⟨⟨rfl, LeQ.rfl⟩, ⟨rfl, LeQ.rfl⟩, ⟨rfl, LeQ.rfl⟩, ⟨rfl, LeQ.rfl⟩, ⟨rfl, LeQ.rfl⟩, trivial⟩
            · have h2 : to.contains (h (lo + 0)) = false := h2
              rw [searchL, h2, cond_false] at he
              refine callN (near g (h (lo + 0)) hg hxr.1 hxr.2) ?_
              have hnl : (nearL g (h (lo + 0))).length ≤ 1000000 := Nat.le_trans nearL_len (by decide)
              have hpw : ∀ j, j ≤ (nearL g (h (lo + 0))).length → _ := fun j hj => hw.pushes hok hix (l := nearL g (h (lo + 0))) j hj
              have hph : ∀ j, _ := fun j => pushes_head (ok := (okFree g v.bar)) (c := h (lo + 0)) (s := (b, h (lo + 0) :: r)) rfl ((nearL g (h (lo + 0))).take j)
              have hpl : pushL (okFree g v.bar) (h (lo + 0)) (nearL g (h (lo + 0))) (b, h (lo + 0) :: r) = ((nearL g (h (lo + 0))).take (nearL g (h (lo + 0))).length).foldl (pushS (okFree g v.bar) (h (lo + 0))) (b, h (lo + 0) :: r) := by rw [List.take_length]; rfl
              rw [hpl] at he
              generalize hx : h (lo + 0) = x at *
              generalize nearL g x = nr at *
              refine AW.loopI (fun q : Nat × (Nat → Int) × Nat => wayCheck4 g v to x nr q.1 q.2.1 ((nr.take q.2.2).foldl (pushS (okFree g v.bar) x) (b, x :: r)) q.2.2)
                (fun q => q.2.2 ≤ nr.length ∧ q.1 + muS g.levels.length ((nr.take q.2.2).foldl (pushS (okFree g v.bar) x) (b, x :: r)) ≤ g.levels.length ∧ ∀ j, j < ((nr.take q.2.2).foldl (pushS (okFree g v.bar) x) (b, x :: r)).2.length → q.2.1 (q.1 + j) = ((nr.take q.2.2).foldl (pushS (okFree g v.bar) x) (b, x :: r)).2.getD j 0)
                (fun q => nr.length - q.2.2) (lo, h, 0) ⟨Nat.zero_le _, hlo, hh⟩ ?_ ?_
              · exact SubI.of [] (by rw [href]; rfl) rfl ⟨⟨rfl, LeBx.rfl⟩, ⟨rfl, LeBx.rfl⟩, ⟨rfl, LeBx.rfl⟩, ⟨rfl, LeBx.rfl⟩, trivial⟩ ⟨⟨rfl, LeQ.rfl⟩, ⟨rfl, LeQ.rfl⟩, ⟨rfl, LeQ.rfl⟩, ⟨rfl, LeQ.rfl⟩, ⟨rfl, LeQ.rfl⟩, ⟨rfl, LeQ.int hx⟩, ⟨rfl, LeQ.rfl⟩, ⟨rfl, LeQ.rfl⟩, ⟨rfl, LeQ.rfl⟩, trivial⟩
              · rintro ⟨lo, h, j⟩ ⟨hj, hlo, hh⟩
                simp only at hj hlo hh ⊢
                have hpj := hpw j hj
                obtain ⟨r', hr'⟩ := hph j
                refine ex.sound (rc := [74]) tab_ok mix href _ ?_
                refine And.intro (fun h3 => ?_) (fun h3 => ?_)
                · have h3 : (j : Int) < nr.length := decT h3
                  have hj' : j < nr.length := by omega
                  have hs := foldl_take (f := pushS (okFree g v.bar) x) (b := (b, x :: r)) hj'
                  have hk : nr[j] = nr.getD j 0 := by simp [hj']
                  rw [hk] at hs
                  generalize (nr.take j).foldl (pushS (okFree g v.bar) x) (b, x :: r) = s at hlo hh hpj hr' hs
                  have hsl : s.2.length ≤ g.levels.length - lo := by unfold muS at hlo; omega
                  refine oi ⟨by omega, by omega⟩ ?_
                  repeat first | refine sk ?_ | refine st ?_ | refine sg ?_ | refine sh ?_ | refine su ?_ | refine sn1 ?_ | refine sn0 ?_
                  refine callG (knownI g (nr.getD j 0) (by omega)) ?_
                  repeat first | refine sk ?_ | refine st ?_ | refine sg ?_ | refine sh ?_ | refine su ?_ | refine sn1 ?_ | refine sn0 ?_
                  refine callGo (fun hk => check1 v hq _ _ rfl) ?_
                  repeat first | refine sk ?_ | refine st ?_ | refine sg ?_ | refine sh ?_ | refine su ?_ | refine sn1 ?_ | refine sn0 ?_
                  refine And.intro (fun h4 => ?_) (fun h4 => ?_)
                  · have h4 : ((hasM s.1 (nr.getD j 0) || !knownG g (nr.getD j 0)) || !(!v.bar.contains (nr.getD j 0))) = true := h4
                    rw [Bool.or_assoc, ← Bool.not_and] at h4
                    have hs : (nr.take (j + 1)).foldl (pushS (okFree g v.bar) x) (b, x :: r) = s := by
                      rw [hs]
                      show (bif hasM s.1 (nr.getD j 0) || !(knownG g (nr.getD j 0) && (!v.bar.contains (nr.getD j 0))) then _ else _) = _
                      rw [h4]; rfl
                    refine ⟨(lo, h, j + 1), ⟨by simp only; omega, by simp only; rw [hs]; exact hlo, by simp only; rw [hs]; exact hh⟩, by simp only; omega, ?_⟩
                    show SubI cx _ _ (wayCheck4 g v to x nr lo h ((nr.take (j + 1)).foldl (pushS (okFree g v.bar) x) (b, x :: r)) (j + 1))
                    rw [hs]
                    exact SubI.of [] (by rw [href]; rfl) rfl ⟨⟨rfl, LeBx.rfl⟩, ⟨rfl, LeBx.rfl⟩, ⟨rfl, LeBx.rfl⟩, ⟨rfl, LeBx.rfl⟩, trivial⟩ ⟨⟨rfl, LeQ.rfl⟩, ⟨rfl, LeQ.rfl⟩, ⟨rfl, LeQ.rfl⟩, ⟨rfl, LeQ.rfl⟩, ⟨rfl, LeQ.rfl⟩, ⟨rfl, LeQ.rfl⟩, ⟨rfl, LeQ.rfl⟩, ⟨rfl, LeQ.rfl⟩, ⟨rfl, LeQ.int (w64_of (by omega) (by omega))⟩, trivial⟩
                  · have h4 : ((hasM s.1 (nr.getD j 0) || !knownG g (nr.getD j 0)) || !(!v.bar.contains (nr.getD j 0))) = false := h4
                    rw [Bool.or_assoc, ← Bool.not_and] at h4
                    have hs : (nr.take (j + 1)).foldl (pushS (okFree g v.bar) x) (b, x :: r) = (setM s.1 (nr.getD j 0) x, s.2 ++ [nr.getD j 0]) := by
                      rw [hs]
                      show (bif hasM s.1 (nr.getD j 0) || !(knownG g (nr.getD j 0) && (!v.bar.contains (nr.getD j 0))) then _ else _) = _
                      rw [h4]; rfl
                    have hmu : muS g.levels.length ((nr.take (j + 1)).foldl (pushS (okFree g v.bar) x) (b, x :: r)) ≤ muS g.levels.length s := by
                      have hh1 : ((hasM s.1 (nr.getD j 0)) || !((okFree g v.bar) (nr.getD j 0))) = false := h4
                      rw [Bool.or_eq_false_iff] at hh1
                      rw [hs]
                      exact (hpj.1.put hok (by simpa using hh1.2) hh1.1 (.inr hpj.2.2)).2
                    rw [hs] at hmu
                    refine ob (by decide) ?_
                    refine ob (show (lo + s.2.length + 1) * 8 ≤ _ by omega) ?_
                    refine ob (fit1 (lt1 rfl)) ?_
                    refine And.intro ?_ ?_
                    · refine ⟨(lo, snocF h (lo + s.2.length) (nr.getD j 0), j + 1), ⟨by simp only; omega, by simp only; rw [hs]; omega, ?_⟩, by simp only; omega, ?_⟩
                      · simp only
                        rw [hs]
                        intro k hk
                        rw [List.length_append, List.length_singleton] at hk
                        show (if lo + k < lo + s.2.length then h (lo + k) else nr.getD j 0) = (s.2 ++ [nr.getD j 0]).getD k 0
                        rw [getD_app]
                        by_cases e : k < s.2.length
                        · rw [if_pos (by omega), if_pos e]; exact hh k e
                        · rw [if_neg (by omega), if_neg e, if_pos (by omega)]
                      · show SubI cx _ _ (wayCheck4 g v to x nr lo (snocF h (lo + s.2.length) (nr.getD j 0)) ((nr.take (j + 1)).foldl (pushS (okFree g v.bar) x) (b, x :: r)) (j + 1))
                        rw [hs]
                        exact SubI.of [(100, 99)] (by rw [href]; rfl) rfl ⟨⟨rfl, LeBx.rfl⟩, ⟨rfl, LeBx.rfl⟩, ⟨rfl, LeBx.rfl⟩, ⟨rfl, LeBx.snocI rfl (by rw [List.length_append, List.length_singleton]; omega)⟩, trivial⟩ ⟨⟨rfl, LeQ.rfl⟩, ⟨rfl, LeQ.rfl⟩, ⟨rfl, LeQ.rfl⟩, ⟨rfl, LeQ.rfl⟩, ⟨rfl, LeQ.of_eq (by rw [List.length_append, List.length_singleton]; rfl)⟩, ⟨rfl, LeQ.rfl⟩, ⟨rfl, LeQ.rfl⟩, ⟨rfl, LeQ.rfl⟩, ⟨rfl, LeQ.int (w64_of (by omega) (by omega))⟩, trivial⟩
                    · refine ⟨(0, snocF (fun i => h (lo + i)) s.2.length (nr.getD j 0), j + 1), ⟨by simp only; omega, by simp only; rw [hs]; omega, ?_⟩, by simp only; omega, ?_⟩
                      · simp only
                        rw [hs]
                        intro k hk
                        rw [List.length_append, List.length_singleton] at hk
                        show (if 0 + k < s.2.length then h (lo + (0 + k)) else nr.getD j 0) = (s.2 ++ [nr.getD j 0]).getD k 0
                        rw [getD_app, Nat.zero_add]
                        by_cases e : k < s.2.length
                        · rw [if_pos e, if_pos e]; exact hh k e
                        · rw [if_neg e, if_neg e, if_pos (by omega)]
                      · show SubI cx _ _ (wayCheck4 g v to x nr 0 (snocF (fun i => h (lo + i)) s.2.length (nr.getD j 0)) ((nr.take (j + 1)).foldl (pushS (okFree g v.bar) x) (b, x :: r)) (j + 1))
                        rw [hs]
                        exact SubI.of [(100, 99)] (by rw [href]; rfl) rfl ⟨⟨rfl, LeBx.rfl⟩, ⟨rfl, LeBx.rfl⟩, ⟨rfl, LeBx.rfl⟩, ⟨rfl, LeBx.snocI rfl (by rw [List.length_append, List.length_singleton]; omega)⟩, trivial⟩ ⟨⟨rfl, LeQ.rfl⟩, ⟨rfl, LeQ.rfl⟩, ⟨rfl, LeQ.rfl⟩, ⟨rfl, LeQ.rfl⟩, ⟨rfl, LeQ.of_eq (by rw [List.length_append, List.length_singleton]; rfl)⟩, ⟨rfl, LeQ.rfl⟩, ⟨rfl, LeQ.rfl⟩, ⟨rfl, LeQ.rfl⟩, ⟨rfl, LeQ.int (w64_of (by omega) (by omega))⟩, trivial⟩
                · have h3 : ¬ (j : Int) < nr.length := decF h3
                  obtain rfl : j = nr.length := by omega
                  generalize (nr.take nr.length).foldl (pushS (okFree g v.bar) x) (b, x :: r) = s at hlo hh hpj hr' he
                  obtain ⟨b', t'⟩ := s
                  simp only at hr'
                  subst hr'
                  have hmt : muS g.levels.length (b', x :: r') = muS g.levels.length (b', r') + 1 := by unfold muS; simp only [List.length_cons]; omega
                  have hmp := hpj.2.1
                  refine oi ⟨by decide, by show (1 : Int) ≤ ((x :: r').length : Int); simp only [List.length_cons]; omega, Int.le_refl _⟩ ?_
                  refine ⟨(lo + 1, h, (b', r'), m), ⟨he, by simp only; omega, hpj.1.tail, by simp only; omega, fun k hk => ?_⟩, by simp only; omega, ?_⟩
                  · have := hh (k + 1) (by simp only [List.length_cons]; simp only at hk; omega)
                    show h (lo + 1 + k) = r'.getD k 0
                    rw [show lo + 1 + k = lo + (k + 1) by omega, this]; rfl
                  · exact SubI.of [] (by rw [href]; rfl) rfl ⟨⟨rfl, LeBx.rfl⟩, ⟨rfl, LeBx.rfl⟩, ⟨rfl, LeBx.rfl⟩, ⟨rfl, LeBx.row (by simp only [List.length_cons]; omega) fun _ _ _ _ => LeD.refl _⟩, trivial⟩ ⟨⟨rfl, LeQ.rfl⟩, ⟨rfl, LeQ.rfl⟩, ⟨rfl, LeQ.rfl⟩, ⟨rfl, LeQ.rfl⟩, ⟨rfl, LeQ.rfl⟩, trivial⟩
        · have h1 : ¬ (t.length : Int) > 0 := decF h1
          obtain rfl : t = [] := List.eq_nil_of_length_eq_zero (by omega)
          rw [searchL_nil] at he
          rw [he]
          refine ⟨rfl, (lo, h), ⟨hw, hh⟩, ?_⟩
          exact SubI.of [] (by rw [href]; rfl) rfl ⟨⟨rfl, LeBx.rfl⟩, ⟨rfl, LeBx.rfl⟩, ⟨rfl, LeBx.rfl⟩, ⟨rfl, LeBx.rfl⟩, trivial⟩ ⟨⟨rfl, LeQ.rfl⟩, ⟨rfl, LeQ.rfl⟩, ⟨rfl, LeQ.rfl⟩, ⟨rfl, LeQ.rfl⟩, ⟨rfl, LeQ.rfl⟩, trivial⟩
    · generalize searchL (okFree g v.bar) (nearL g) to g.levels.length s0 = s
      rintro ⟨lo, h⟩ ⟨hw, hh⟩
      simp only at hw hh ⊢
      refine ex.sound (rc := [74]) tab_ok mix href _ ?_
      obtain ⟨b, t⟩ := s
      match t with
      | [] =>
        refine And.intro (fun _ => ?_) (fun h => by cases h)
        exact ⟨SubR.le LeD.nil, ⟨rfl, trivial⟩⟩
      | i :: r =>
        have hi0 : h (lo + 0) = i := hh 0 (by simp)
        refine And.intro (fun h => ?_) (fun _ => ?_)
        · exfalso
          have h : (((i :: r).length : Int) == 0) = true := h
          rw [len0] at h; cases h
        have hm := hw.mem i (List.mem_cons_self ..)
        have hpl := posM_lt hm
        have hcn := hw.cnt
        simp only at hm hpl hcn
        refine oi ⟨Int.le_refl _, by show (0 : Int) < ((i :: r).length : Int); simp only [List.length_cons]; omega⟩ ?_
        refine oi (show lo + 0 < lo + (i :: r).length by simp) ?_
        refine oi ⟨Int.le_refl _, by show (0 : Int) < ((i :: r).length : Int); simp only [List.length_cons]; omega⟩ ?_
        refine oi (show lo + 0 < lo + (i :: r).length by simp) ?_
        refine AW.loopI (fun q : Int × List Int × Nat => wayCheck5 g v b q.1 q.2.1)
          (fun q => backL b b.length i [i] = backL b q.2.2 q.1 q.2.1 ∧ hasM b q.1 = true ∧ posM b q.1 ≤ q.2.2 ∧ 0 < q.2.1.length ∧ q.2.1.length + posM b q.1 ≤ 1025)
          (fun q => posM b q.1) (i, [i], b.length) ⟨rfl, hm, Nat.le_of_lt hpl, by simp, by simp only [List.length_singleton]; omega⟩ ?_ ?_
        · refine SubI.of [(200, 107)] (by rw [href]; rfl) rfl ⟨⟨rfl, LeBx.rfl⟩, ⟨rfl, LeBx.rfl⟩, ⟨rfl, LeBx.row rfl fun k j hk hj => LeD.of_eq ?_⟩, trivial⟩ ⟨⟨rfl, LeQ.rfl⟩, ⟨rfl, LeQ.rfl⟩, ⟨rfl, LeQ.int hi0⟩, trivial⟩
          have hk : k < 1 := hk
          obtain rfl : k = 0 := by omega
          have hj : j < 1 := hj
          obtain rfl : j = 0 := by omega
          exact congrArg dI hi0
        · generalize hi00 : i = i0
          rintro ⟨i, out, m⟩ ⟨he, hm, hpos, ho0, hol⟩
          simp only at he hm hpos ho0 hol ⊢
          refine ex.sound (rc := [74]) tab_ok mix href _ ?_
          refine oi hm ?_
          refine And.intro (fun h => ?_) (fun h => ?_)
          · have h : (getM b i != i) = true := h
            have hne : getM b i ≠ i := by simpa using h
            have hp := (hw.par i hm).resolve_left hne
            simp only at hp
            match m with
            | 0 => omega
            | m + 1 =>
              rw [backL, beq_eq_false_iff_ne.2 hne, cond_false] at he
              refine oi hm ?_
              refine ob (show (out.length + 1) * 8 ≤ _ by omega) ?_
              refine ob (fit1 (lt1 rfl)) ?_
              refine oi hm ?_
              refine ⟨(getM b i, out ++ [getM b i], m), ⟨he, hp.1, by simp only; omega, by simp, by simp only [List.length_append, List.length_singleton]; omega⟩, hp.2, ?_⟩
              exact SubI.of [(200, 124)] (by rw [href]; rfl) rfl ⟨⟨rfl, LeBx.rfl⟩, ⟨rfl, LeBx.rfl⟩, ⟨rfl, RowIs.row (el := fun x _ => dI x) (RowIs.snoc intRow1 (lt1 rfl))⟩, trivial⟩ ⟨⟨rfl, LeQ.rfl⟩, ⟨rfl, LeQ.rfl⟩, ⟨rfl, LeQ.rfl⟩, trivial⟩
          · have h : (getM b i != i) = false := h
            have heq : (getM b i == i) = true := by simpa using h
            have hres : backL b b.length i0 [i0] = out := by
              rw [he]
              cases m with
              | zero => rfl
              | succ m => rw [backL, heq, cond_true]
            simp only
            rw [hres]
            refine ⟨[(1001, 200)], _, _, _, _, ReverseR out (intEl out) (fun i j _ hj => ?_) ho0 (by omega), rfl, ⟨rfl, trivial⟩, rfl, ?_⟩
            · obtain rfl : j = 0 := by omega
              exact LeD.refl _
            · refine ⟨SubR.le (LeD.slc' (by simp) fun i j hi hj => LeD.of_eq ?_), ⟨rfl, trivial⟩⟩
              obtain rfl : j = 0 := by omega
              exact revF_end hi
end Go.Ch

namespace Go.Ch
open Go Go.Ax Go.Proofs Go.Proofs.Tryz
set_option maxRecDepth 100000
set_option pp.maxSteps 400
set_option maxHeartbeats 1000000

/-- The cells of a barrier among the first i ones. -/
def barC (g : Grid) (m : Int) (k : Nat) : Bool := g.levels.getD k 0 != 30000 && decide (g.levels.getD k 0 ≥ m)
def barL (g : Grid) (m : Int) (i : Nat) : List Int := (List.range i).filterMap fun k => bif barC g m k then some (k : Int) else none
theorem barL_succ (g : Grid) (m : Int) (i : Nat) : barL g m (i + 1) = barL g m i ++ (bif barC g m i then [(i : Int)] else []) := by
  unfold barL
  rw [filterMap_range_succ]
  cases barC g m i <;> rfl
theorem barL_len (g : Grid) (m : Int) : ∀ i, (barL g m i).length ≤ i
  | 0 => Nat.le_refl _
  | i + 1 => by
    rw [barL_succ, List.length_append]
    have := barL_len g m i
    have := len1 (b := barC g m i) (x := (i : Int))
    omega
abbrev RouteR := Int × List Int × List Int × Int
def wayM (g : Grid) (m : Int) (fr to : List Int) : List Int := wayL g.levels.length (okMost g m) (nearL g) fr to
def clearL (g : Grid) (fr to : List Int) : List Int → RouteR
  | [] => (0, [], [], 11)
  | m :: r => bif (wayM g m fr to).isEmpty then clearL g fr to r else (m, wayM g m fr to, barL g m g.levels.length, 0)
def clearG (g : Grid) (fr to : List Int) : RouteR := bif endsG g fr to != 0 then (0, [], [], endsG g fr to) else clearL g fr to (levelsL g.levels)
abbrev rRoute (r : RouteR) : AV := .t [.g [.d (dI r.1), .d (dInts r.2.1), .d (dInts r.2.2.1)], .s (.d (dI r.2.2.2))]
abbrev nilS : SV := .d (.val (.slice none 0 0))
theorem rRoute_nil {e e' : Int} (h : e = e') : SubR (.t [.g [.d (dI 0), nilS, nilS], .s (.d (dI e))]) (rRoute (0, [], [], e')) := by
  subst h
  exact SubR.t ⟨⟨LeD.refl _, LeD.nil, LeD.nil, trivial⟩, LeD.refl _, trivial⟩
theorem endsG_zero {g : Grid} {fr to : List Int} (h : endsG g fr to = 0) : errG g = 0 ∧ fr.isEmpty = false ∧ to.isEmpty = false ∧ ∀ i ∈ fr ++ to, there g i = true := by
  unfold endsG at h
  cases h1 : errG g != 0 with
  | true => rw [h1, cond_true] at h; simp [h] at h1
  | false =>
    rw [h1, cond_false] at h
    refine ⟨by simpa using h1, ?_⟩
    cases h2 : fr.isEmpty || to.isEmpty with
    | true => rw [h2, cond_true] at h; cases h
    | false =>
      rw [h2, cond_false] at h
      rw [Bool.or_eq_false_iff] at h2
      refine ⟨h2.1, h2.2, ?_⟩
      unfold endsErr at h
      cases h3 : (fr ++ to).all (there g) with
      | false => rw [h3] at h; cases h
      | true => rw [List.all_eq_true] at h3; exact h3
abbrev clS (g : Grid) (fr to ls : List Int) (i : Nat) : St := ⟨[(3, .s (.ptr 3 0)), (1, vInts fr), (2, vInts to), (6, .s (.ptr 6 0)), (24, vInts ls), (25, vI ls.length), (26, vI i)], [(3, some (gridB g)), (6, some (.cells [.d (dI 0), nilS, nilS]))]⟩
abbrev clS2 (g : Grid) (m : Int) (p : List Int) (i : Nat) : St := ⟨[(3, .s (.ptr 3 0)), (10, .s (.ptr 10 0)), (6, .s (.ptr 6 0)), (12, .s (.ptr 12 0)), (42, vInts g.levels), (43, vI g.levels.length), (44, vI i)],
  [(3, some (gridB g)), (10, some (.cells [.d (dI m)])), (6, some (.cells [.d (dI 0), nilS, nilS])), (12, some (.cells [.d (dI m), .d (dInts p), .mo (barL g m i).isEmpty 100])), (100, some (.mrow 3 (barL g m i).length 1 (intEl (barL g m i))))]⟩
theorem gClear (g : Grid) (fr to : List Int) (hg : g.ok) (hf : fr.length ≤ 1000) (ht : to.length ≤ 1000) : CallP Tryz.prog 17 [grid g, vInts fr, vInts to] (rRoute (clearG g fr to)) := by
  refine callP_of_ex (rc := [48]) (N := 67) Tryz.func17 rfl rfl Tryz.call17 tab_ok mix rfl rfl (fun cx href => ?_)
  refine callN (ends g fr to hg hf ht) ?_
  unfold clearG
  refine And.intro (fun h => ?_) (fun h => ?_)
  · have h : (endsG g fr to != 0) = true := h
    rw [h, cond_true]
    exact rRoute_nil rfl
  have h : (endsG g fr to != 0) = false := h
  rw [h, cond_false]
  have hv : GVal g := GVal.of (endsG_zero (by simpa using h)).1
  have hn := hv.n
  refine callN (levels g hn) ?_
  have hll := levelsL_len (lv := g.levels)
  generalize levelsL g.levels = ls at hll ⊢
  refine AW.loopI (clS g fr to ls) (fun i => i ≤ ls.length ∧ clearL g fr to ls = clearL g fr to (ls.drop i)) (fun i => ls.length - i) 0 ⟨Nat.zero_le _, rfl⟩ ?_ ?_
  · exact SubI.of0 href [] rfl ⟨⟨rfl, LeBx.rfl⟩, ⟨rfl, LeBx.rfl⟩, trivial⟩ ⟨⟨rfl, LeQ.rfl⟩, ⟨rfl, LeQ.rfl⟩, ⟨rfl, LeQ.rfl⟩, ⟨rfl, LeQ.rfl⟩, ⟨rfl, LeQ.rfl⟩, ⟨rfl, LeQ.rfl⟩, ⟨rfl, LeQ.rfl⟩, trivial⟩
  · rintro i ⟨hi, hj⟩
    refine ex.sound (rc := [48]) tab_ok mix href _ ?_
    refine And.intro (fun h1 => ?_) (fun h1 => ?_)
    · have h1 : (i : Int) < ls.length := decT h1
      have hi' : i < ls.length := by omega
      rw [List.drop_eq_getElem_cons hi', clearL] at hj
      have hx : ls[i] = ls.getD i 0 := by simp [hi']
      rw [hx] at hj
      generalize hm : ls.getD i 0 = m at hj
      refine oi ⟨by omega, by omega⟩ ?_
      refine ⟨[(1001, 3), (1002, 10)], _, _, _, _, wayClear g (ls.getD i 0) fr to hv hf ht, rfl, ⟨rfl, rfl, trivial⟩, rfl, ?_⟩
      refine And.intro (fun h2 => ?_) (fun h2 => ?_)
      · have h2 : (((wayM g (ls.getD i 0) fr to).length : Int) == 0) = true := h2
        rw [len0, hm] at h2
        rw [h2, cond_true] at hj
        refine ⟨i + 1, ⟨by omega, hj⟩, by omega, ?_⟩
        exact SubI.of0 href [] rfl ⟨⟨rfl, LeBx.rfl⟩, ⟨rfl, LeBx.rfl⟩, trivial⟩ ⟨⟨rfl, LeQ.rfl⟩, ⟨rfl, LeQ.rfl⟩, ⟨rfl, LeQ.rfl⟩, ⟨rfl, LeQ.rfl⟩, ⟨rfl, LeQ.rfl⟩, ⟨rfl, LeQ.rfl⟩, ⟨rfl, LeQ.int (w64_of (by omega) (by omega))⟩, trivial⟩
      · have h2 : (((wayM g (ls.getD i 0) fr to).length : Int) == 0) = false := h2
        rw [len0, hm] at h2
        rw [h2, cond_false] at hj
        rw [hj]
        refine AW.loopI (clS2 g m (wayM g m fr to)) (fun k => k ≤ g.levels.length) (fun k => g.levels.length - k) 0 (Nat.zero_le _) ?_ ?_
        · subst hm
          exact SubI.of0 href [(100, 1000)] rfl ⟨⟨rfl, LeBx.rfl⟩, ⟨rfl, LeBx.rfl⟩, ⟨rfl, LeBx.rfl⟩, ⟨rfl, LeBx.cells ⟨LeQ.rfl, LeQ.rfl, LeQ.nil rfl, trivial⟩⟩, ⟨rfl, rfl⟩, trivial⟩ ⟨⟨rfl, LeQ.rfl⟩, ⟨rfl, LeQ.rfl⟩, ⟨rfl, LeQ.rfl⟩, ⟨rfl, LeQ.rfl⟩, ⟨rfl, LeQ.rfl⟩, ⟨rfl, LeQ.rfl⟩, ⟨rfl, LeQ.rfl⟩, trivial⟩
        · intro k hk
          have hbl := barL_len g m k
          have hbs := barL_succ g m k
          refine ex.sound (rc := [48]) tab_ok mix href _ ?_
          refine And.intro (fun h3 => ?_) (fun h3 => ?_)
          · have h3 : (k : Int) < g.levels.length := decT h3
            refine oi ⟨by omega, by omega⟩ ?_
            refine callN (bknown g k (by omega) (by omega)) ?_
            repeat first | refine sk ?_ | refine st ?_ | refine sg ?_ | refine sh ?_ | refine su ?_ | refine sn1 ?_ | refine sn0 ?_
            refine And.intro (fun h4 => ?_) (fun h4 => ?_)
            · have h4 : barC g m k = true := h4
              rw [h4, cond_true] at hbs
              refine ob (by decide) ?_
              refine ob (by rw [bif_len]; show _ * 8 ≤ _; omega) ?_
              refine ob (fit1 (lt1 rfl)) ?_
              refine ⟨k + 1, by omega, by omega, ?_⟩
              show SubI cx _ _ (clS2 g m (wayM g m fr to) (k + 1))
              unfold clS2
              rw [hbs]
              exact SubI.of0 href [(100, 61)] rfl ⟨⟨rfl, LeBx.rfl⟩, ⟨rfl, LeBx.rfl⟩, ⟨rfl, LeBx.rfl⟩, ⟨rfl, LeBx.cells ⟨LeQ.rfl, LeQ.rfl, LeQ.mo (isEmpty_snoc _ _), trivial⟩⟩, ⟨rfl, nearRow intRow rfl⟩, trivial⟩ ⟨⟨rfl, LeQ.rfl⟩, ⟨rfl, LeQ.rfl⟩, ⟨rfl, LeQ.rfl⟩, ⟨rfl, LeQ.rfl⟩, ⟨rfl, LeQ.rfl⟩, ⟨rfl, LeQ.rfl⟩, ⟨rfl, LeQ.int (w64_of (by omega) (by omega))⟩, trivial⟩
            · have h4 : barC g m k = false := h4
              rw [h4, cond_false, List.append_nil] at hbs
              refine ⟨k + 1, by omega, by omega, ?_⟩
              show SubI cx _ _ (clS2 g m (wayM g m fr to) (k + 1))
              unfold clS2
              rw [hbs]
              exact SubI.of0 href [] rfl ⟨⟨rfl, LeBx.rfl⟩, ⟨rfl, LeBx.rfl⟩, ⟨rfl, LeBx.rfl⟩, ⟨rfl, LeBx.rfl⟩, ⟨rfl, LeBx.rfl⟩, trivial⟩ ⟨⟨rfl, LeQ.rfl⟩, ⟨rfl, LeQ.rfl⟩, ⟨rfl, LeQ.rfl⟩, ⟨rfl, LeQ.rfl⟩, ⟨rfl, LeQ.rfl⟩, ⟨rfl, LeQ.rfl⟩, ⟨rfl, LeQ.int (w64_of (by omega) (by omega))⟩, trivial⟩
          · have h3 : ¬ (k : Int) < g.levels.length := decF h3
            obtain rfl : k = g.levels.length := by omega
            exact SubR.t ⟨⟨LeD.refl _, LeD.refl _, LeD.slc' (bif_len _) fun _ _ _ _ => LeD.refl _, trivial⟩, LeD.refl _, trivial⟩
    · have h1 : ¬ (i : Int) < ls.length := decF h1
      obtain rfl : i = ls.length := by omega
      rw [hj, List.drop_length]
      exact rRoute_nil rfl
end Go.Ch

namespace Go.Ch
open Go Go.Ax Go.Proofs Go.Proofs.Tryz
set_option maxRecDepth 100000
set_option pp.maxSteps 400
set_option maxHeartbeats 1000000

def wayBad (g : Grid) (l : List Int) (k : Nat) : Bool := !knownG g (l.getD k 0) || (decide ((k : Int) > 0) && !(nearL g (l.getD (k - 1) 0)).contains (l.getD k 0))
def wayRest (g : Grid) (l : List Int) : Nat → Nat → Int → Int × Bool
  | 0, _, h => (h, true)
  | n + 1, k, h => bif wayBad g l k then (0, false) else wayRest g l n (k + 1) (mm true h (levelAt g (l.getD k 0)))
def isWayG (g : Grid) (q : WayV) : Int × Bool :=
  bif (q.path.isEmpty || !q.fr.contains (q.path.getD 0 0)) || !q.to.contains (q.path.getD (q.path.length - 1) 0) then (0, false) else wayRest g q.path q.path.length 0 (-20000)
abbrev rIW (r : Int × Bool) : AV := .t [.s (.d (dI r.1)), .s (.d (.val (.bool r.2)))]
structure WayV.sm (q : WayV) : Prop where
  fr : q.fr.length ≤ 1000
  to : q.to.length ≤ 1000
  path : q.path.length ≤ 1000000
  bar : q.bar.length ≤ 1000000
theorem LeDlit {b : Bool} : LeD (.lit b) (.val (.bool b)) := fun _ _ r => r
theorem isWay (g : Grid) (q : WayV) (hg : GVal g) (hq : q.sm) : CallP Tryz.prog 50 [grid g, wayA q] (rIW (isWayG g q)) := by
  have hn := hg.n
  have hp := hq.path
  have hfr := hq.fr
  have hto := hq.to
  refine callP_of_ex (rc := []) (N := 73) Tryz.func50 rfl rfl Tryz.call50 tab_ok mix rfl rfl (fun cx href => ?_)
  repeat first | refine sk ?_ | refine st ?_ | refine sg ?_ | refine sh ?_ | refine su ?_ | refine sn1 ?_ | refine sn0 ?_
  refine og (fun h => ⟨Int.le_refl _, ?_⟩) ?_
  · have h : (!((q.path.length : Int) == 0)) = true := h
    rw [Bool.not_eq_true', beq_eq_false_iff_ne] at h
    show (0 : Int) < (q.path.length : Int)
    omega
  repeat first | refine sk ?_ | refine st ?_ | refine sg ?_ | refine sh ?_ | refine su ?_ | refine sn1 ?_ | refine sn0 ?_
  refine callG (ContainsI q.fr (q.path.getD 0 0) (by omega)) ?_
  repeat first | refine sk ?_ | refine st ?_ | refine sg ?_ | refine sh ?_ | refine su ?_ | refine sn1 ?_ | refine sn0 ?_
  refine og (fun h => ?_) ?_
  · have h : (!(((q.path.length : Int) == 0) || !q.fr.contains (q.path.getD 0 0))) = true := h
    rw [Bool.not_eq_true', Bool.or_eq_false_iff, beq_eq_false_iff_ne] at h
    have e : w64 ((q.path.length : Int) - 1) = (q.path.length : Int) - 1 := w64_of (by omega) (by omega)
    show 0 ≤ w64 ((q.path.length : Int) - 1) ∧ w64 ((q.path.length : Int) - 1) < (q.path.length : Int)
    omega
  repeat first | refine sk ?_ | refine st ?_ | refine sg ?_ | refine sh ?_ | refine su ?_ | refine sn1 ?_ | refine sn0 ?_
  refine callG (ContainsI q.to (q.path.getD (w64 ((q.path.length : Int) - 1)).toNat 0) (by omega)) ?_
  repeat first | refine sk ?_ | refine st ?_ | refine sg ?_ | refine sh ?_ | refine su ?_ | refine sn1 ?_ | refine sn0 ?_
  refine And.intro (by kernel_rfl) ?_
  have ei : (w64 ((q.path.length : Int) - 1)).toNat = q.path.length - 1 := by rw [w64_of (by omega) (by omega)]; omega
  unfold isWayG
  refine And.intro (fun h => ?_) (fun h => ?_)
  · have h : ((((q.path.length : Int) == 0) || !q.fr.contains (q.path.getD 0 0)) || !q.to.contains (q.path.getD (w64 ((q.path.length : Int) - 1)).toNat 0)) = true := h
    rw [ei, len0] at h
    rw [h, cond_true]
    exact SubR.t ⟨LeD.refl _, LeDlit, trivial⟩
  have h : ((((q.path.length : Int) == 0) || !q.fr.contains (q.path.getD 0 0)) || !q.to.contains (q.path.getD (w64 ((q.path.length : Int) - 1)).toNat 0)) = false := h
  rw [ei, len0] at h
  rw [h, cond_false]
  refine AW.loopI (fun s : Nat × Int => ⟨[(2, .s (.ptr 2 0)), (6, vInts q.path), (7, vI s.2), (37, vInts q.path), (38, vI q.path.length), (39, vI s.1)], [(2, some (gridB g))]⟩)
    (fun s => s.1 ≤ q.path.length ∧ wayRest g q.path q.path.length 0 (-20000) = wayRest g q.path (q.path.length - s.1) s.1 s.2 ∧ ∀ k, k < s.1 → knownG g (q.path.getD k 0) = true) (fun s => q.path.length - s.1) (0, -20000) ⟨Nat.zero_le _, rfl, fun k hk => absurd hk (Nat.not_lt_zero k)⟩ ?_ ?_
  · exact SubI.of0 href [] rfl ⟨⟨rfl, LeBx.rfl⟩, trivial⟩ ⟨⟨rfl, LeQ.rfl⟩, ⟨rfl, LeQ.rfl⟩, ⟨rfl, LeQ.rfl⟩, ⟨rfl, LeQ.rfl⟩, ⟨rfl, LeQ.rfl⟩, ⟨rfl, LeQ.rfl⟩, trivial⟩
  · rintro ⟨k, hi⟩ ⟨hk, he, hkn⟩
    simp only at hk he hkn ⊢
    refine ex.sound (rc := []) tab_ok mix href _ ?_
    refine And.intro (fun h1 => ?_) (fun h1 => ?_)
    · have h1 : (k : Int) < q.path.length := decT h1
      rw [show q.path.length - k = (q.path.length - (k + 1)) + 1 by omega, wayRest] at he
      refine oi ⟨by omega, by omega⟩ ?_
      refine callN (knownI g (q.path.getD k 0) (by omega)) ?_
      repeat first | refine sk ?_ | refine st ?_ | refine sg ?_ | refine sh ?_ | refine su ?_ | refine sn1 ?_ | refine sn0 ?_
      have ek : 0 < k → (w64 ((k : Int) - 1)).toNat = k - 1 := fun h => by rw [w64_of (by omega) (by omega)]; omega
      have hpos : ∀ {b : Bool}, (gpol false b && gpol true (decide ((k : Int) > 0))) = true → 0 < k := fun {b} h => by
        rw [Bool.and_eq_true] at h
        have : decide ((k : Int) > 0) = true := h.2
        have := of_decide_eq_true this
        omega
      refine og (fun h => ?_) ?_
      · have := hpos h
        show 0 ≤ w64 ((k : Int) - 1) ∧ w64 ((k : Int) - 1) < (q.path.length : Int)
        rw [w64_of (by omega) (by omega)]; omega
      repeat first | refine sk ?_ | refine st ?_ | refine sg ?_ | refine sh ?_ | refine su ?_ | refine sn1 ?_ | refine sn0 ?_
      refine callGo (r := vInts (nearL g (q.path.getD (w64 ((k : Int) - 1)).toNat 0))) (fun h => ?_) ?_
      · have hk0 := hpos h
        have hkk := hkn (k - 1) (by omega)
        unfold knownG at hkk
        rw [Bool.and_eq_true] at hkk
        have := there_iff.1 hkk.1
        rw [← ek hk0] at this
        exact near g _ hg this.1 this.2
      repeat first | refine sk ?_ | refine st ?_ | refine sg ?_ | refine sh ?_ | refine su ?_ | refine sn1 ?_ | refine sn0 ?_
      refine callG (ContainsI (nearL g (q.path.getD (w64 ((k : Int) - 1)).toNat 0)) (q.path.getD k 0) (Nat.le_trans nearL_len (by decide))) ?_
      repeat first | refine sk ?_ | refine st ?_ | refine sg ?_ | refine sh ?_ | refine su ?_ | refine sn1 ?_ | refine sn0 ?_
      refine And.intro (by kernel_rfl) ?_
      have hbad : wayBad g q.path k = (!knownG g (q.path.getD k 0) || (decide ((k : Int) > 0) && !(nearL g (q.path.getD (w64 ((k : Int) - 1)).toNat 0)).contains (q.path.getD k 0))) := by
        unfold wayBad
        by_cases hk0 : 0 < k
        · rw [ek hk0]
        · rw [decide_eq_false (by omega)]; simp
      refine And.intro (fun h2 => ?_) (fun h2 => ?_)
      · have h2 : (!knownG g (q.path.getD k 0) || (decide ((k : Int) > 0) && !(nearL g (q.path.getD (w64 ((k : Int) - 1)).toNat 0)).contains (q.path.getD k 0))) = true := h2
        rw [hbad, h2, cond_true] at he
        rw [he]
        exact SubR.t ⟨LeD.refl _, LeDlit, trivial⟩
      · have h2 : (!knownG g (q.path.getD k 0) || (decide ((k : Int) > 0) && !(nearL g (q.path.getD (w64 ((k : Int) - 1)).toNat 0)).contains (q.path.getD k 0))) = false := h2
        rw [hbad, h2, cond_false] at he
        have hkk : knownG g (q.path.getD k 0) = true := by
          rw [Bool.or_eq_false_iff] at h2
          simpa using h2.1
        have hth : 0 ≤ q.path.getD k 0 ∧ q.path.getD k 0 < g.levels.length := by
          unfold knownG at hkk
          rw [Bool.and_eq_true] at hkk
          exact there_iff.1 hkk.1
        refine oi ⟨hth.1, hth.2⟩ ?_
        refine ⟨(k + 1, mm true hi (levelAt g (q.path.getD k 0))), ⟨by simp only; omega, he, fun j hj => ?_⟩, by simp only; omega, ?_⟩
        · by_cases e : j = k
          · rw [e]; exact hkk
          · simp only at hj; exact hkn j (by omega)
        · exact SubI.of0 href [] rfl ⟨⟨rfl, LeBx.rfl⟩, trivial⟩ ⟨⟨rfl, LeQ.rfl⟩, ⟨rfl, LeQ.rfl⟩, ⟨rfl, LeQ.rfl⟩, ⟨rfl, LeQ.rfl⟩, ⟨rfl, LeQ.rfl⟩, ⟨rfl, LeQ.int (w64_of (by omega) (by omega))⟩, trivial⟩
    · have h1 : ¬ (k : Int) < q.path.length := decF h1
      obtain rfl : k = q.path.length := by omega
      rw [Nat.sub_self, wayRest] at he
      rw [he]
      exact SubR.t ⟨LeD.refl _, LeDlit, trivial⟩
end Go.Ch

namespace Go.Ch
open Go Go.Ax Go.Proofs Go.Proofs.Tryz
set_option maxRecDepth 100000
set_option pp.maxSteps 400
set_option maxHeartbeats 1000000

def barBad (g : Grid) (h : Int) (i : Int) : Bool := !knownG g i || decide (levelAt g i < h)
def wayF (g : Grid) (q : WayV) : List Int := wayL g.levels.length (okFree g q.bar) (nearL g) q.fr q.to
def checkG (g : Grid) (q : WayV) : Int :=
  bif endsG g q.fr q.to != 0 then endsG g q.fr q.to else
  bif !(isWayG g q).2 || ((isWayG g q).1 != q.level) then 21 else
  bif q.bar.any (barBad g (isWayG g q).1) then 21 else
  bif !(wayF g q).isEmpty then 21 else 0
theorem gCheckClear (g : Grid) (q : WayV) (hg : g.ok) (hq : q.sm) : CallP Tryz.prog 18 [grid g, wayA q] (vI (checkG g q)) := by
  have hb := hq.bar
  refine callP_of_ex (rc := [48]) (N := 65) Tryz.func18 rfl rfl Tryz.call18 tab_ok mix rfl rfl (fun cx href => ?_)
  refine callN (ends g q.fr q.to hg hq.fr hq.to) ?_
  unfold checkG
  refine And.intro (fun h => ?_) (fun h => ?_)
  · have h : (endsG g q.fr q.to != 0) = true := h
    rw [h, cond_true]
    exact SubR.refl _
  have h : (endsG g q.fr q.to != 0) = false := h
  rw [h, cond_false]
  have hv : GVal g := GVal.of (endsG_zero (by simpa using h)).1
  have hn := hv.n
  refine callN (isWay g q hv hq) ?_
  repeat first | refine sk ?_ | refine st ?_ | refine sg ?_ | refine sh ?_ | refine su ?_ | refine sn1 ?_ | refine sn0 ?_
  refine And.intro (fun h1 => ?_) (fun h1 => ?_)
  · have h1 : (!(isWayG g q).2 || ((isWayG g q).1 != q.level)) = true := h1
    rw [h1, cond_true]
    exact SubR.refl _
  have h1 : (!(isWayG g q).2 || ((isWayG g q).1 != q.level)) = false := h1
  rw [h1, cond_false]
  generalize hH : (isWayG g q).1 = H
  refine AW.loopI (fun i : Nat => ⟨[(2, .s (.ptr 2 0)), (3, .s (.ptr 3 0)), (6, vI H), (36, vInts q.bar), (37, vI q.bar.length), (38, vI i)], [(2, some (gridB g)), (3, some (wayB q))]⟩)
    (fun i => i ≤ q.bar.length ∧ q.bar.any (barBad g H) = (q.bar.drop i).any (barBad g H)) (fun i => q.bar.length - i) 0 ⟨Nat.zero_le _, rfl⟩ ?_ ?_
  · exact SubI.of0 href [] rfl ⟨⟨rfl, LeBx.rfl⟩, ⟨rfl, LeBx.rfl⟩, trivial⟩ ⟨⟨rfl, LeQ.rfl⟩, ⟨rfl, LeQ.rfl⟩, ⟨rfl, LeQ.rfl⟩, ⟨rfl, LeQ.rfl⟩, ⟨rfl, LeQ.rfl⟩, ⟨rfl, LeQ.rfl⟩, trivial⟩
  · rintro i ⟨hi, hj⟩
    refine ex.sound (rc := [48]) tab_ok mix href _ ?_
    refine And.intro (fun h2 => ?_) (fun h2 => ?_)
    · have h2 : (i : Int) < q.bar.length := decT h2
      have hi' : i < q.bar.length := by omega
      have hx : q.bar[i] = q.bar.getD i 0 := by simp [hi']
      rw [List.drop_eq_getElem_cons hi', List.any_cons, hx] at hj
      refine oi ⟨by omega, by omega⟩ ?_
      refine callN (knownI g (q.bar.getD i 0) (by omega)) ?_
      repeat first | refine sk ?_ | refine st ?_ | refine sg ?_ | refine sh ?_ | refine su ?_ | refine sn1 ?_ | refine sn0 ?_
      refine og (fun h => ?_) ?_
      · have h : (!(!knownG g (q.bar.getD i 0))) = true := h
        rw [Bool.not_not] at h
        unfold knownG at h
        rw [Bool.and_eq_true] at h
        exact there_iff.1 h.1
      repeat first | refine sk ?_ | refine st ?_ | refine sg ?_ | refine sh ?_ | refine su ?_ | refine sn1 ?_ | refine sn0 ?_
      refine And.intro (fun h3 => ?_) (fun h3 => ?_)
      · have h3 : barBad g H (q.bar.getD i 0) = true := h3
        rw [hj, h3, Bool.true_or, cond_true]
        exact SubR.refl _
      · have h3 : barBad g H (q.bar.getD i 0) = false := h3
        rw [h3, Bool.false_or] at hj
        refine ⟨i + 1, ⟨by omega, hj⟩, by omega, ?_⟩
        exact SubI.of0 href [] rfl ⟨⟨rfl, LeBx.rfl⟩, ⟨rfl, LeBx.rfl⟩, trivial⟩ ⟨⟨rfl, LeQ.rfl⟩, ⟨rfl, LeQ.rfl⟩, ⟨rfl, LeQ.rfl⟩, ⟨rfl, LeQ.rfl⟩, ⟨rfl, LeQ.rfl⟩, ⟨rfl, LeQ.int (w64_of (by omega) (by omega))⟩, trivial⟩
    · have h2 : ¬ (i : Int) < q.bar.length := decF h2
      obtain rfl : i = q.bar.length := by omega
      rw [hj, List.drop_length, List.any_nil, cond_false]
      refine ⟨[(1001, 3)], _, _, _, _, wayCheck g q q.fr q.to hv hq.fr hq.to hb, rfl, ⟨rfl, trivial⟩, rfl, ?_⟩
      refine And.intro (fun h3 => ?_) (fun h3 => ?_)
      · have h3 : decide (((wayF g q).length : Int) > 0) = true := h3
        have h3 := of_decide_eq_true h3
        have : (wayF g q).isEmpty = false := by
          cases hw : wayF g q with
          | nil => rw [hw] at h3; simp at h3
          | cons => rfl
        rw [this]
        exact SubR.refl _
      · have h3 : decide (((wayF g q).length : Int) > 0) = false := h3
        have h3 := of_decide_eq_false h3
        have : (wayF g q).isEmpty = true := by
          cases hw : wayF g q with
          | nil => rfl
          | cons a r => exfalso; rw [hw] at h3; simp only [List.length_cons] at h3; omega
        rw [this]
        exact SubR.refl _
end Go.Ch

namespace Go.Ch
open Go Go.Ax Go.Proofs Go.Proofs.Tryz
set_option maxRecDepth 100000
set_option pp.maxSteps 400
set_option maxHeartbeats 1000000

def smallG : Grid := ⟨0, 0, 100, 3, 2, [-500, -300, -400, -600, 30000, -450]⟩
def afterG : Grid := ⟨0, 0, 100, 3, 2, [-500, -500, -350, -600, -700, -450]⟩
def smallW : WayV := ⟨[3], [5], -300, [3, 0, 1, 2, 5], [1]⟩
theorem smallG_ok : smallG.ok := by
  refine ⟨by decide, by decide, by decide, by decide, by decide, by decide, ?_⟩
  intro a ha
  simp only [smallG, List.mem_cons, List.not_mem_nil, or_false] at ha
  rcases ha with rfl | rfl | rfl | rfl | rfl | rfl <;> decide
theorem afterG_ok : afterG.ok := by
  refine ⟨by decide, by decide, by decide, by decide, by decide, by decide, ?_⟩
  intro a ha
  simp only [afterG, List.mem_cons, List.not_mem_nil, or_false] at ha
  rcases ha with rfl | rfl | rfl | rfl | rfl | rfl <;> decide
theorem sortI_eq {l m : List Int} (h : l.Perm m) (hm : m.Pairwise (fun a b => a ≤ b)) : sortI l = m :=
  List.Perm.eq_of_pairwise (le := fun a b => a ≤ b) (fun a b _ _ h1 h2 => by omega) (sortI_pw l) hm ((List.mergeSort_perm l _).trans h)
theorem levels_small : levelsL smallG.levels = [-600, -500, -450, -400, -300] := sortI_eq (by decide) (by decide)
theorem clear_small : clearG smallG [3] [5] = (-300, [3, 0, 1, 2, 5], [1], 0) := by
  unfold clearG
  rw [levels_small]
  decide +kernel
theorem check_small : checkG smallG smallW = 0 := by decide +kernel
theorem cmp_small : cmpR smallG afterG = (⟨2000000, 500000, 1⟩, 0) := by kernel_rfl
theorem bsmall : CallP Tryz.prog 15 [] (grid smallG) := by
  refine callP_of_ex (rc := []) (N := 3) Tryz.func15 rfl rfl Tryz.call15 tab_ok mix rfl rfl (fun cx _ => ?_)
  refine SubR.le ⟨LeD.refl _, LeD.refl _, LeD.refl _, LeD.refl _, LeD.refl _, LeD.slc' rfl fun i j hi hj => ?_, trivial⟩
  have hi : i < 6 := hi
  obtain rfl : j = 0 := by have : j < 1 := hj; omega
  match i, hi with
  | 0, _ => exact LeD.of_eq rfl
  | 1, _ => exact LeD.of_eq rfl
  | 2, _ => exact LeD.of_eq rfl
  | 3, _ => exact LeD.of_eq rfl
  | 4, _ => exact LeD.of_eq rfl
  | 5, _ => exact LeD.of_eq rfl
theorem one1 {x : Int} {f : Nat → Nat → DV} (h : f 0 0 = dI x := by rfl) : LeD (.slc 1 1 f) (dInts [x]) := LeD.slc fun i j hi hj => by
  obtain rfl : i = 0 := by omega
  obtain rfl : j = 0 := by omega
  exact LeD.of_eq h
theorem bawake : CallP Tryz.prog 4 [] (vB true) := by
  have hc := gClear smallG [3] [5] smallG_ok (by decide) (by decide)
  rw [clear_small] at hc
  have hk := gCheckClear smallG smallW smallG_ok ⟨by decide, by decide, by decide, by decide⟩
  rw [check_small] at hk
  have hm := gCompare smallG afterG smallG_ok afterG_ok
  rw [cmp_small] at hm
  refine callP_of_ex (rc := [2000017]) (N := 47) Tryz.func4 rfl rfl Tryz.call4 tab_ok mix rfl rfl (fun cx href => ?_)
  refine callN bsmall ?_
  refine callN bsmall ?_
  refine callN (hm.conv (args' := _) ⟨⟨LeD.refl _, LeD.refl _, LeD.refl _, LeD.refl _, LeD.refl _, LeD.refl _, trivial⟩, ⟨LeD.refl _, LeD.refl _, LeD.refl _, LeD.refl _, LeD.refl _, ?_, trivial⟩, trivial⟩) ?_
  · refine LeD.slc' rfl fun i j hi hj => ?_
    have hi : i < 6 := hi
    obtain rfl : j = 0 := by have : j < 1 := hj; omega
    match i, hi with
    | 0, _ => exact LeD.of_eq rfl
    | 1, _ => exact LeD.of_eq rfl
    | 2, _ => exact LeD.of_eq rfl
    | 3, _ => exact LeD.of_eq rfl
    | 4, _ => exact LeD.of_eq rfl
    | 5, _ => exact LeD.of_eq rfl
  refine And.intro (by kernel_rfl) ?_
  refine callN bsmall ?_
  refine ⟨[17, 18], _, hc.conv (args' := _) ⟨⟨LeD.refl _, LeD.refl _, LeD.refl _, LeD.refl _, LeD.refl _, LeD.refl _, trivial⟩, one1, one1, trivial⟩, ?_⟩
  repeat first | refine sk ?_ | refine st ?_ | refine sg ?_ | refine sh ?_ | refine su ?_ | refine sn1 ?_ | refine sn0 ?_
  refine callG bsmall ?_
  repeat first | refine sk ?_ | refine st ?_ | refine sg ?_ | refine sh ?_ | refine su ?_ | refine sn1 ?_ | refine sn0 ?_
  refine ob (by kernel_rfl) ?_
  refine ob (by kernel_rfl) ?_
  repeat first | refine sk ?_ | refine st ?_ | refine sg ?_ | refine sh ?_ | refine su ?_ | refine sn1 ?_ | refine sn0 ?_
  refine callG (CallP.conv hk ?_) ?_
  · exact ⟨⟨LeD.refl _, LeD.refl _, LeD.refl _, LeD.refl _, LeD.refl _, LeD.refl _, trivial⟩, ⟨one1, one1, LeD.refl _, LeD.refl _, LeD.refl _, trivial⟩, trivial⟩
  repeat first | refine sk ?_ | refine st ?_ | refine sg ?_ | refine sh ?_ | refine su ?_ | refine sn1 ?_ | refine sn0 ?_
  refine And.intro (by kernel_rfl) ?_
  exact SubR.lit (by kernel_rfl)
end Go.Ch

namespace Go.Ch
open Go Go.Ax Go.Proofs Go.Proofs.Tryz
set_option maxRecDepth 100000
set_option pp.maxSteps 400
set_option maxHeartbeats 1000000

def withG (g : Grid) (lv : Nat → Int) : Grid := ⟨g.x, g.y, g.side, g.cols, g.rows, (List.range g.levels.length).map lv⟩
def wF (lv : Nat → Int) (i : Nat) : Nat → Nat → DV := fun k _ => if k < i then dI (lv k) else dI 0
def blankG (g : Grid) : Grid × Int := bif errG g != 0 then (zeroG, errG g) else (withG g fun _ => 30000, 0)
theorem GVal.pos {g : Grid} (h : GVal g) : 0 < g.levels.length := by
  have h1 := h.len
  have h2 := h.cols
  have h3 := h.rows
  have : 0 < g.cols * g.rows := Int.mul_pos (by omega) (by omega)
  omega
end Go.Ch

namespace Go.Ch
open Go Go.Ax Go.Proofs Go.Proofs.Tryz
set_option maxRecDepth 100000
set_option pp.maxSteps 400
set_option maxHeartbeats 1000000

theorem alike_with (g : Grid) (lv : Nat → Int) : alike (withG g lv) g = true := by
  unfold alike withG
  simp
end Go.Ch

namespace Go.Ch
open Go Go.Ax Go.Proofs Go.Proofs.Tryz
set_option maxRecDepth 100000
set_option pp.maxSteps 400
set_option maxHeartbeats 1000000

def abS (g : Grid) (lv : Int) (s : Int × Int) (i : Nat) : Int × Int :=
  bif g.levels.getD i 0 != 30000 && decide (g.levels.getD i 0 > lv) then (w64 (s.1 + w64 (w64 (g.side * g.side) * w64 (g.levels.getD i 0 - lv))), w64 (s.2 + 1)) else s
def abF (g : Grid) (lv : Int) : Nat → Int × Int
  | 0 => (0, 0)
  | i + 1 => abS g lv (abF g lv i) i
def aboveG (g : Grid) (lv : Int) : Int × Int × Int :=
  bif errG g != 0 then (0, 0, errG g) else bif !within lv (-20000) 20000 then (0, 0, 2) else ((abF g lv g.levels.length).1, (abF g lv g.levels.length).2, 0)
theorem knownF_in {g : Grid} {i : Nat} (hi : i < g.levels.length) : knownF g i = (g.levels.getD i 0 != 30000) := by
  unfold knownF
  rw [decide_eq_true (show (i : Int) ≥ 0 by omega), decide_eq_true (show (i : Int) < g.levels.length by omega)]
  rfl
end Go.Ch

namespace Go.Ch
open Go Go.Ax Go.Proofs Go.Proofs.Tryz
set_option maxRecDepth 100000
set_option pp.maxSteps 400
set_option maxHeartbeats 1000000

def gD6 (g : Grid) : Nat → DV
  | 0 => dI g.x
  | 1 => dI g.y
  | 2 => dI g.side
  | 3 => dI g.cols
  | 4 => dI g.rows
  | 5 => dInts g.levels
  | _ => .junk
theorem six {p : Nat → Prop} (h0 : p 0) (h1 : p 1) (h2 : p 2) (h3 : p 3) (h4 : p 4) (h5 : p 5) : ∀ j, j < 6 → p j := fun j hj => by
  match j, hj with
  | 0, _ => exact h0
  | 1, _ => exact h1
  | 2, _ => exact h2
  | 3, _ => exact h3
  | 4, _ => exact h4
  | 5, _ => exact h5
def latP (a b : Grid) (i : Nat) : Int := bif b.levels.getD i 0 != 30000 then b.levels.getD i 0 else a.levels.getD i 0
def shoP (a b : Grid) (i : Nat) : Int := bif !(b.levels.getD i 0 != 30000) then a.levels.getD i 0 else bif !(a.levels.getD i 0 != 30000) then b.levels.getD i 0 else mm true (a.levels.getD i 0) (b.levels.getD i 0)
theorem two_le {a b : Grid} {i : Nat} {f h : Nat → DV} (hf : ∀ j, j < 6 → f j = gD6 b j) (hh : ∀ j, j < 6 → h j = gD6 a j) :
    LeAs [vI i, .s (.d (.rp 6 f)), .s (.d (.rp 6 h))] [vI i, .s (.d (.rp 6 (gD6 b))), .s (.d (.rp 6 (gD6 a)))] :=
  ⟨LeD.refl _, LeD.rp fun j hj => LeD.of_eq (hf j hj), LeD.rp fun j hj => LeD.of_eq (hh j hj), trivial⟩
def latestG (a b : Grid) : Grid × Int := bif err2 a b != 0 then (zeroG, err2 a b) else (withG a (latP a b), 0)
def shoalG (a b : Grid) : Grid × Int := bif err2 a b != 0 then (zeroG, err2 a b) else (withG a (shoP a b), 0)
end Go.Ch

namespace Go.Ch
open Go Go.Ax Go.Proofs Go.Proofs.Tryz
set_option maxRecDepth 100000
set_option pp.maxSteps 400
set_option maxHeartbeats 1000000

def laQ (a b : Grid) (i : Nat) : Int := bif b.levels.getD i 0 == 30000 then a.levels.getD i 0 else b.levels.getD i 0
def laH (a b : Grid) (k : Nat) : Nat → Int := fun j => if j < k then laQ a b j else b.levels.getD j 0
theorem laH_zero {a b : Grid} {j : Nat} : laH a b 0 j = b.levels.getD j 0 := if_neg (Nat.not_lt_zero j)
theorem laH_done {a b : Grid} {k j : Nat} (h : j < k) : laH a b k j = laQ a b j := if_pos h
theorem laH_new {a b : Grid} {k : Nat} (h : b.levels.getD k 0 = 30000) : laH a b (k + 1) k = a.levels.getD k 0 := by
  rw [laH_done (Nat.lt_succ_self k)]; unfold laQ; rw [h]; rfl
theorem laH_keep {a b : Grid} {k : Nat} (h : b.levels.getD k 0 ≠ 30000) : laH a b (k + 1) k = laH a b k k := by
  rw [laH_done (Nat.lt_succ_self k)]; unfold laQ laH
  rw [if_neg (Nat.lt_irrefl k), beq_eq_false_iff_ne.2 h]; rfl
theorem laH_old {a b : Grid} {k j : Nat} (h : j ≠ k) : laH a b (k + 1) j = laH a b k j := by
  unfold laH
  by_cases e : j < k
  · rw [if_pos e, if_pos (by omega)]
  · rw [if_neg e, if_neg (by omega)]
def shQ (a b : Grid) (i : Nat) : Int := bif a.levels.getD i 0 != 30000 && decide (a.levels.getD i 0 > laQ a b i) then a.levels.getD i 0 else laQ a b i
def shH (a b : Grid) (k : Nat) : Nat → Int := fun j => if j < k then shQ a b j else laH a b b.levels.length j
theorem shH_old {a b : Grid} {k j : Nat} (h : j ≠ k) : shH a b (k + 1) j = shH a b k j := by
  unfold shH
  by_cases e : j < k
  · rw [if_pos e, if_pos (by omega)]
  · rw [if_neg e, if_neg (by omega)]
end Go.Ch

namespace Go.Ch
open Go Go.Ax Go.Proofs Go.Proofs.Tryz
set_option maxRecDepth 100000
set_option pp.maxSteps 400
set_option maxHeartbeats 1000000

theorem sameC_eq {a b : Grid} (h : sameC a b = true) : a.x = b.x ∧ a.y = b.y ∧ a.side = b.side ∧ a.cols = b.cols ∧ a.rows = b.rows := by
  unfold sameC at h
  simpa using h
theorem withG_eq {a b : Grid} {f h : Nat → Int} (hs : sameC a b = true) (hl : b.levels.length = a.levels.length) (hf : ∀ i, i < a.levels.length → f i = h i) : withG a f = withG b h := by
  obtain ⟨h1, h2, h3, h4, h5⟩ := sameC_eq hs
  unfold withG
  rw [h1, h2, h3, h4, h5, hl]
  congr 1
  exact List.map_congr_left fun i hi => hf i (List.mem_range.1 hi)
set_option linter.unusedSimpArgs false
theorem lat_eq {a b : Grid} (i : Nat) : latP a b i = laQ a b i := by
  unfold latP laQ
  generalize a.levels.getD i 0 = x
  generalize b.levels.getD i 0 = y
  by_cases hb : y = 30000
  · have hb1 : (y == 30000) = true := beq_iff_eq.2 hb
    have hb2 : (y != 30000) = false := by rw [bne, hb1]; rfl
    by_cases ha : x = 30000
    · have ha1 : (x == 30000) = true := beq_iff_eq.2 ha
      have ha2 : (x != 30000) = false := by rw [bne, ha1]; rfl
      simp only [ha1, ha2, hb1, hb2, cond_true, cond_false, Bool.not_true, Bool.not_false, Bool.true_and, Bool.false_and, Bool.false_or, Bool.or_false]
      try (first | rfl | omega | (simp; done) | (simp; omega))
    · have ha1 : (x == 30000) = false := beq_eq_false_iff_ne.2 ha
      have ha2 : (x != 30000) = true := by rw [bne, ha1]; rfl
      simp only [ha1, ha2, hb1, hb2, cond_true, cond_false, Bool.not_true, Bool.not_false, Bool.true_and, Bool.false_and, Bool.false_or, Bool.or_false]
      try (first | rfl | omega | (simp; done) | (simp; omega))
  · have hb1 : (y == 30000) = false := beq_eq_false_iff_ne.2 hb
    have hb2 : (y != 30000) = true := by rw [bne, hb1]; rfl
    by_cases ha : x = 30000
    · have ha1 : (x == 30000) = true := beq_iff_eq.2 ha
      have ha2 : (x != 30000) = false := by rw [bne, ha1]; rfl
      simp only [ha1, ha2, hb1, hb2, cond_true, cond_false, Bool.not_true, Bool.not_false, Bool.true_and, Bool.false_and, Bool.false_or, Bool.or_false]
      try (first | rfl | omega | (simp; done) | (simp; omega))
    · have ha1 : (x == 30000) = false := beq_eq_false_iff_ne.2 ha
      have ha2 : (x != 30000) = true := by rw [bne, ha1]; rfl
      simp only [ha1, ha2, hb1, hb2, cond_true, cond_false, Bool.not_true, Bool.not_false, Bool.true_and, Bool.false_and, Bool.false_or, Bool.or_false]
      try (first | rfl | omega | (simp; done) | (simp; omega))
theorem sho_eq {a b : Grid} (i : Nat) : shoP a b i = shQ a b i := by
  unfold shoP shQ laQ mm
  generalize a.levels.getD i 0 = x
  generalize b.levels.getD i 0 = y
  by_cases hb : y = 30000
  · have hb1 : (y == 30000) = true := beq_iff_eq.2 hb
    have hb2 : (y != 30000) = false := by rw [bne, hb1]; rfl
    by_cases ha : x = 30000
    · have ha1 : (x == 30000) = true := beq_iff_eq.2 ha
      have ha2 : (x != 30000) = false := by rw [bne, ha1]; rfl
      simp only [ha1, ha2, hb1, hb2, cond_true, cond_false, Bool.not_true, Bool.not_false, Bool.true_and, Bool.false_and, Bool.false_or, Bool.or_false]
      try (first | rfl | omega | (simp; done) | (simp; omega))
    · have ha1 : (x == 30000) = false := beq_eq_false_iff_ne.2 ha
      have ha2 : (x != 30000) = true := by rw [bne, ha1]; rfl
      simp only [ha1, ha2, hb1, hb2, cond_true, cond_false, Bool.not_true, Bool.not_false, Bool.true_and, Bool.false_and, Bool.false_or, Bool.or_false]
      try (first | rfl | omega | (simp; done) | (simp; omega))
  · have hb1 : (y == 30000) = false := beq_eq_false_iff_ne.2 hb
    have hb2 : (y != 30000) = true := by rw [bne, hb1]; rfl
    by_cases ha : x = 30000
    · have ha1 : (x == 30000) = true := beq_iff_eq.2 ha
      have ha2 : (x != 30000) = false := by rw [bne, ha1]; rfl
      simp only [ha1, ha2, hb1, hb2, cond_true, cond_false, Bool.not_true, Bool.not_false, Bool.true_and, Bool.false_and, Bool.false_or, Bool.or_false]
      try (first | rfl | omega | (simp; done) | (simp; omega))
    · have ha1 : (x == 30000) = false := beq_eq_false_iff_ne.2 ha
      have ha2 : (x != 30000) = true := by rw [bne, ha1]; rfl
      simp only [ha1, ha2, hb1, hb2, cond_true, cond_false, Bool.not_true, Bool.not_false, Bool.true_and, Bool.false_and, Bool.false_or, Bool.or_false]
      by_cases h : x > y
      · rw [decide_eq_true h, cond_true, if_neg (by omega)]
      · rw [decide_eq_false h, cond_false]
        split <;> omega
theorem sho_comm {a b : Grid} (i : Nat) : shoP a b i = shoP b a i := by
  unfold shoP mm
  generalize a.levels.getD i 0 = x
  generalize b.levels.getD i 0 = y
  by_cases hb : y = 30000
  · have hb1 : (y == 30000) = true := beq_iff_eq.2 hb
    have hb2 : (y != 30000) = false := by rw [bne, hb1]; rfl
    by_cases ha : x = 30000
    · have ha1 : (x == 30000) = true := beq_iff_eq.2 ha
      have ha2 : (x != 30000) = false := by rw [bne, ha1]; rfl
      simp only [ha1, ha2, hb1, hb2, cond_true, cond_false, Bool.not_true, Bool.not_false, Bool.true_and, Bool.false_and, Bool.false_or, Bool.or_false]
      try (first | rfl | omega | (simp; done) | (simp; omega))
    · have ha1 : (x == 30000) = false := beq_eq_false_iff_ne.2 ha
      have ha2 : (x != 30000) = true := by rw [bne, ha1]; rfl
      simp only [ha1, ha2, hb1, hb2, cond_true, cond_false, Bool.not_true, Bool.not_false, Bool.true_and, Bool.false_and, Bool.false_or, Bool.or_false]
      try (first | rfl | omega | (simp; done) | (simp; omega))
  · have hb1 : (y == 30000) = false := beq_eq_false_iff_ne.2 hb
    have hb2 : (y != 30000) = true := by rw [bne, hb1]; rfl
    by_cases ha : x = 30000
    · have ha1 : (x == 30000) = true := beq_iff_eq.2 ha
      have ha2 : (x != 30000) = false := by rw [bne, ha1]; rfl
      simp only [ha1, ha2, hb1, hb2, cond_true, cond_false, Bool.not_true, Bool.not_false, Bool.true_and, Bool.false_and, Bool.false_or, Bool.or_false]
      try (first | rfl | omega | (simp; done) | (simp; omega))
    · have ha1 : (x == 30000) = false := beq_eq_false_iff_ne.2 ha
      have ha2 : (x != 30000) = true := by rw [bne, ha1]; rfl
      simp only [ha1, ha2, hb1, hb2, cond_true, cond_false, Bool.not_true, Bool.not_false, Bool.true_and, Bool.false_and, Bool.false_or, Bool.or_false]
      split <;> split <;> omega
theorem sho_ge {a b : Grid} (i : Nat) : ((a.levels.getD i 0 != 30000 && decide (shoP a b i < a.levels.getD i 0)) || (b.levels.getD i 0 != 30000 && decide (shoP a b i < b.levels.getD i 0))) = false := by
  unfold shoP mm
  generalize a.levels.getD i 0 = x
  generalize b.levels.getD i 0 = y
  by_cases hb : y = 30000
  · have hb1 : (y == 30000) = true := beq_iff_eq.2 hb
    have hb2 : (y != 30000) = false := by rw [bne, hb1]; rfl
    by_cases ha : x = 30000
    · have ha1 : (x == 30000) = true := beq_iff_eq.2 ha
      have ha2 : (x != 30000) = false := by rw [bne, ha1]; rfl
      simp only [ha1, ha2, hb1, hb2, cond_true, cond_false, Bool.not_true, Bool.not_false, Bool.true_and, Bool.false_and, Bool.false_or, Bool.or_false]
      try (first | rfl | omega | (simp; done) | (simp; omega))
    · have ha1 : (x == 30000) = false := beq_eq_false_iff_ne.2 ha
      have ha2 : (x != 30000) = true := by rw [bne, ha1]; rfl
      simp only [ha1, ha2, hb1, hb2, cond_true, cond_false, Bool.not_true, Bool.not_false, Bool.true_and, Bool.false_and, Bool.false_or, Bool.or_false]
      try (first | rfl | omega | (simp; done) | (simp; omega))
  · have hb1 : (y == 30000) = false := beq_eq_false_iff_ne.2 hb
    have hb2 : (y != 30000) = true := by rw [bne, hb1]; rfl
    by_cases ha : x = 30000
    · have ha1 : (x == 30000) = true := beq_iff_eq.2 ha
      have ha2 : (x != 30000) = false := by rw [bne, ha1]; rfl
      simp only [ha1, ha2, hb1, hb2, cond_true, cond_false, Bool.not_true, Bool.not_false, Bool.true_and, Bool.false_and, Bool.false_or, Bool.or_false]
      try (first | rfl | omega | (simp; done) | (simp; omega))
    · have ha1 : (x == 30000) = false := beq_eq_false_iff_ne.2 ha
      have ha2 : (x != 30000) = true := by rw [bne, ha1]; rfl
      simp only [ha1, ha2, hb1, hb2, cond_true, cond_false, Bool.not_true, Bool.not_false, Bool.true_and, Bool.false_and, Bool.false_or, Bool.or_false]
      rw [Bool.or_eq_false_iff, decide_eq_false_iff_not, decide_eq_false_iff_not]
      split <;> omega
theorem sameC_symm {a b : Grid} (h : sameC a b = true) : sameC b a = true := by
  obtain ⟨h1, h2, h3, h4, h5⟩ := sameC_eq h
  unfold sameC
  simp [h1, h2, h3, h4, h5]
theorem withG_len {g : Grid} {f : Nat → Int} : (withG g f).levels.length = g.levels.length := by simp [withG]
end Go.Ch

namespace Go.Ch
open Go Go.Ax Go.Proofs Go.Proofs.Tryz
set_option maxRecDepth 100000
set_option pp.maxSteps 400
set_option maxHeartbeats 1000000

/-- The cell of a place. -/
def outG (g : Grid) (p : Pt) : Bool := ((decide (p.x < g.x) || decide (p.y < g.y)) || decide (p.x ≥ g.x + g.cols * g.side)) || decide (p.y ≥ g.y + g.rows * g.side)
def cellI (g : Grid) (p : Pt) : Int := bif outG g p then -1 else (p.y - g.y) / g.side * g.cols + (p.x - g.x) / g.side
/-- A cell contains a place. -/
def mtC (g : Grid) (p : Pt) (i : Nat) : Bool :=
  ((decide (p.x ≥ g.x + (i : Int) % g.cols * g.side) && decide (p.x < g.x + (i : Int) % g.cols * g.side + g.side)) && decide (p.y ≥ g.y + (i : Int) / g.cols * g.side)) && decide (p.y < g.y + (i : Int) / g.cols * g.side + g.side)
theorem div_range {a s q : Int} (hs : 0 < s) : (q * s ≤ a ∧ a < q * s + s) ↔ a / s = q := by
  constructor
  · rintro ⟨h1, h2⟩
    have e1 : q ≤ a / s := (Int.le_ediv_iff_mul_le hs).2 h1
    have e2 : a / s < q + 1 := (Int.ediv_lt_iff_lt_mul hs).2 (by rw [Int.add_mul, Int.one_mul]; exact h2)
    omega
  · rintro rfl
    have h1 := Int.ediv_mul_le a (show s ≠ 0 by omega)
    have h2 := Int.lt_ediv_add_one_mul_self a hs
    rw [Int.add_mul, Int.one_mul] at h2
    exact ⟨h1, h2⟩
theorem mtC_iff {g : Grid} (hg : GVal g) {p : Pt} {i : Nat} : mtC g p i = true ↔ (p.x - g.x) / g.side = (i : Int) % g.cols ∧ (p.y - g.y) / g.side = (i : Int) / g.cols := by
  have hs := hg.side
  unfold mtC
  simp only [Bool.and_eq_true, decide_eq_true_eq]
  rw [← div_range (a := p.x - g.x) (q := (i : Int) % g.cols) (show 0 < g.side by omega), ← div_range (a := p.y - g.y) (q := (i : Int) / g.cols) (show 0 < g.side by omega)]
  constructor
  · rintro ⟨⟨⟨h1, h2⟩, h3⟩, h4⟩
    exact ⟨⟨by omega, by omega⟩, by omega, by omega⟩
  · rintro ⟨⟨h1, h2⟩, h3, h4⟩
    exact ⟨⟨⟨by omega, by omega⟩, by omega⟩, by omega⟩
theorem ij_range {g : Grid} (hg : GVal g) {i : Nat} (hi : i < g.levels.length) : 0 ≤ (i : Int) % g.cols ∧ (i : Int) % g.cols < g.cols ∧ 0 ≤ (i : Int) / g.cols ∧ (i : Int) / g.cols < g.rows := by
  have hc := hg.cols
  refine ⟨Int.emod_nonneg _ (by omega), Int.emod_lt_of_pos _ (by omega), Int.ediv_nonneg (by omega) (by omega), ?_⟩
  refine (Int.ediv_lt_iff_lt_mul (by omega)).2 ?_
  have := hg.len
  rw [Int.mul_comm]; omega
/-- Where the place is in. -/
theorem cellI_in {g : Grid} (hg : GVal g) {p : Pt} (h : outG g p = false) : 0 ≤ cellI g p ∧ cellI g p < g.levels.length ∧ cellI g p % g.cols = (p.x - g.x) / g.side ∧ cellI g p / g.cols = (p.y - g.y) / g.side ∧
    0 ≤ (p.x - g.x) / g.side ∧ (p.x - g.x) / g.side < g.cols ∧ 0 ≤ (p.y - g.y) / g.side ∧ (p.y - g.y) / g.side < g.rows := by
  have hs := hg.side
  have hc := hg.cols
  have hl := hg.len
  have ho := h
  unfold outG at h
  simp only [Bool.or_eq_false_iff, decide_eq_false_iff_not] at h
  obtain ⟨⟨⟨h1, h2⟩, h3⟩, h4⟩ := h
  have q1 : 0 ≤ (p.x - g.x) / g.side := Int.ediv_nonneg (by omega) (by omega)
  have q2 : (p.x - g.x) / g.side < g.cols := (Int.ediv_lt_iff_lt_mul (by omega)).2 (by omega)
  have q3 : 0 ≤ (p.y - g.y) / g.side := Int.ediv_nonneg (by omega) (by omega)
  have q4 : (p.y - g.y) / g.side < g.rows := (Int.ediv_lt_iff_lt_mul (by omega)).2 (by omega)
  have e : cellI g p = (p.y - g.y) / g.side * g.cols + (p.x - g.x) / g.side := by unfold cellI; rw [ho]; rfl
  rw [e]
  generalize (p.x - g.x) / g.side = u at q1 q2 ⊢
  generalize (p.y - g.y) / g.side = v at q3 q4 ⊢
  have m1 : 0 ≤ v * g.cols := Int.mul_nonneg q3 (by omega)
  have m2 : (v + 1) * g.cols ≤ g.rows * g.cols := Int.mul_le_mul_of_nonneg_right (by omega) (by omega)
  rw [Int.add_mul, Int.one_mul, Int.mul_comm g.rows] at m2
  refine ⟨by omega, by omega, ?_, ?_, q1, q2, q3, q4⟩
  · rw [Int.add_comm, Int.add_mul_emod_self_right]
    exact Int.emod_eq_of_lt q1 q2
  · rw [Int.add_comm, Int.add_mul_ediv_right _ _ (by omega), Int.ediv_eq_zero_of_lt q1 q2]; omega
theorem mtC_cell {g : Grid} (hg : GVal g) {p : Pt} {i : Nat} (hi : i < g.levels.length) : mtC g p i = (!outG g p && ((i : Int) == cellI g p)) := by
  have hs := hg.side
  have hr := ij_range hg hi
  rw [Bool.eq_iff_iff, mtC_iff hg]
  cases ho : outG g p with
  | true =>
    simp only [Bool.not_true, Bool.false_and, Bool.false_eq_true, iff_false]
    rintro ⟨e1, e2⟩
    have r1 := (div_range (a := p.x - g.x) (q := (i : Int) % g.cols) (show 0 < g.side by omega)).2 e1
    have r2 := (div_range (a := p.y - g.y) (q := (i : Int) / g.cols) (show 0 < g.side by omega)).2 e2
    have m1 : 0 ≤ (i : Int) % g.cols * g.side := Int.mul_nonneg hr.1 (by omega)
    have m2 : 0 ≤ (i : Int) / g.cols * g.side := Int.mul_nonneg hr.2.2.1 (by omega)
    have m3 : ((i : Int) % g.cols + 1) * g.side ≤ g.cols * g.side := Int.mul_le_mul_of_nonneg_right (by omega) (by omega)
    have m4 : ((i : Int) / g.cols + 1) * g.side ≤ g.rows * g.side := Int.mul_le_mul_of_nonneg_right (by omega) (by omega)
    rw [Int.add_mul, Int.one_mul] at m3 m4
    have : outG g p = false := by
      unfold outG
      simp only [Bool.or_eq_false_iff, decide_eq_false_iff_not]
      exact ⟨⟨⟨by omega, by omega⟩, by omega⟩, by omega⟩
    rw [this] at ho; cases ho
  | false =>
    obtain ⟨c1, c2, c3, c4, _⟩ := cellI_in hg ho
    simp only [Bool.not_false, Bool.true_and, beq_iff_eq]
    rw [← c3, ← c4]
    constructor
    · rintro ⟨e1, e2⟩
      have d1 := Int.emod_add_mul_ediv (i : Int) g.cols
      have d2 := Int.emod_add_mul_ediv (cellI g p) g.cols
      rw [e1, e2] at d2
      omega
    · intro e
      rw [e]; exact ⟨rfl, rfl⟩
end Go.Ch

namespace Go.Ch
open Go Go.Ax Go.Proofs Go.Proofs.Tryz
set_option maxRecDepth 100000
set_option pp.maxSteps 400
set_option maxHeartbeats 1000000

theorem gw {g : Grid} (hg : GVal g) : w64 (g.cols * g.side) = g.cols * g.side ∧ w64 (g.rows * g.side) = g.rows * g.side ∧ w64 (g.x + g.cols * g.side) = g.x + g.cols * g.side ∧ w64 (g.y + g.rows * g.side) = g.y + g.rows * g.side := by
  have hx := hg.x
  have hy := hg.y
  have hs := hg.side
  have hc := hg.cols
  have hr := hg.rows
  have h1 := hg.right
  have h2 := hg.top
  have m1 : 0 ≤ g.cols * g.side := Int.mul_nonneg (by omega) (by omega)
  have m2 : 0 ≤ g.rows * g.side := Int.mul_nonneg (by omega) (by omega)
  exact ⟨w64_of (by omega) (by omega), w64_of (by omega) (by omega), w64_of (by omega) (by omega), w64_of (by omega) (by omega)⟩
def rcF (g : Grid) (p : Pt) : Nat → Nat → Int
  | 0, _ => -1
  | n + 1, i => bif mtC g p i then (i : Int) else rcF g p n (i + 1)
theorem rcF_eq {g : Grid} (hg : GVal g) {p : Pt} : ∀ n i, i + n = g.levels.length → (outG g p = true ∨ (i : Int) ≤ cellI g p) → rcF g p n i = cellI g p
  | 0, i, h, ho => by
    rw [rcF]
    cases hb : outG g p with
    | true => unfold cellI; rw [hb]; rfl
    | false =>
      have := (cellI_in hg hb).2.1
      rw [hb] at ho
      rcases ho with ho | ho
      · cases ho
      · omega
  | n + 1, i, h, ho => by
    rw [rcF, mtC_cell hg (by omega)]
    cases hb : outG g p with
    | true =>
      rw [Bool.not_true, Bool.false_and, cond_false]
      exact rcF_eq hg n (i + 1) (by omega) (.inl hb)
    | false =>
      rw [hb] at ho
      have ho := ho.resolve_left (fun h => by cases h)
      rw [Bool.not_false, Bool.true_and]
      cases he : (i : Int) == cellI g p with
      | true => rw [cond_true]; exact beq_iff_eq.1 he
      | false =>
        have he := beq_eq_false_iff_ne.1 he
        rw [cond_false]
        exact rcF_eq hg n (i + 1) (by omega) (.inr (by omega))
theorem mw {g : Grid} (hg : GVal g) {i : Nat} (hi : i < g.levels.length) : w64 (g.x + w64 ((i : Int).tmod g.cols * g.side)) = g.x + (i : Int) % g.cols * g.side ∧ w64 (g.y + w64 (w64 ((i : Int).tdiv g.cols) * g.side)) = g.y + (i : Int) / g.cols * g.side ∧
    w64 (g.x + (i : Int) % g.cols * g.side + g.side) = g.x + (i : Int) % g.cols * g.side + g.side ∧ w64 (g.y + (i : Int) / g.cols * g.side + g.side) = g.y + (i : Int) / g.cols * g.side + g.side := by
  have hr := ij_range hg hi
  have hs := hg.side
  have hx := hg.x
  have hy := hg.y
  have h1 := hg.right
  have h2 := hg.top
  have hrr := hg.rows
  have m1 : 0 ≤ (i : Int) % g.cols * g.side := Int.mul_nonneg hr.1 (by omega)
  have m2 : 0 ≤ (i : Int) / g.cols * g.side := Int.mul_nonneg hr.2.2.1 (by omega)
  have m3 : ((i : Int) % g.cols + 1) * g.side ≤ g.cols * g.side := Int.mul_le_mul_of_nonneg_right (by omega) (by omega)
  have m4 : ((i : Int) / g.cols + 1) * g.side ≤ g.rows * g.side := Int.mul_le_mul_of_nonneg_right (by omega) (by omega)
  rw [Int.add_mul, Int.one_mul] at m3 m4
  rw [Int.tmod_eq_emod_of_nonneg (by omega), Int.tdiv_eq_ediv_of_nonneg (by omega)]
  have a1 : w64 ((i : Int) / g.cols) = (i : Int) / g.cols := w64_of (by omega) (by omega)
  have a2 : w64 ((i : Int) % g.cols * g.side) = (i : Int) % g.cols * g.side := w64_of (by omega) (by omega)
  have a3 : w64 ((i : Int) / g.cols * g.side) = (i : Int) / g.cols * g.side := w64_of (by omega) (by omega)
  rw [a1, a2, a3]
  exact ⟨w64_of (by omega) (by omega), w64_of (by omega) (by omega), w64_of (by omega) (by omega), w64_of (by omega) (by omega)⟩
end Go.Ch

namespace Go.Ch
open Go Go.Ax Go.Proofs Go.Proofs.Tryz
set_option maxRecDepth 100000
set_option pp.maxSteps 400
set_option maxHeartbeats 1000000

def absI (n : Int) : Int := if n < 0 then -n else n
def neigh (g : Grid) (i k : Int) : Bool := absI (i % g.cols - k % g.cols) + absI (i / g.cols - k / g.cols) == 1
theorem divmod {c q r k : Int} (hk : k = c * q + r) (h0 : 0 ≤ r) (h1 : r < c) : k % c = r ∧ k / c = q := by
  subst hk
  have hc : c ≠ 0 := by omega
  constructor
  · rw [Int.add_comm, Int.add_mul_emod_self_left]
    exact Int.emod_eq_of_lt h0 h1
  · rw [Int.add_comm, Int.add_mul_ediv_left _ _ hc, Int.ediv_eq_zero_of_lt h0 h1]; omega
theorem neigh_iff {g : Grid} (hc : 1 ≤ g.cols) {i k : Int} : neigh g i k = true ↔ (k = i - g.cols ∨ k = i + g.cols ∨ (k = i - 1 ∧ i % g.cols > 0) ∨ (k = i + 1 ∧ i % g.cols < g.cols - 1)) := by
  unfold neigh
  rw [beq_iff_eq]
  have di := Int.emod_add_mul_ediv i g.cols
  have dk := Int.emod_add_mul_ediv k g.cols
  have ri := Int.emod_nonneg i (show g.cols ≠ 0 by omega)
  have ri' := Int.emod_lt_of_pos i (show 0 < g.cols by omega)
  have rk := Int.emod_nonneg k (show g.cols ≠ 0 by omega)
  have rk' := Int.emod_lt_of_pos k (show 0 < g.cols by omega)
  constructor
  · intro h
    generalize i % g.cols = a at *
    generalize k % g.cols = b at *
    generalize i / g.cols = p at *
    generalize k / g.cols = q at *
    unfold absI at h
    have hq : q = p ∨ q = p + 1 ∨ q = p - 1 := by split at h <;> split at h <;> omega
    rcases hq with rfl | rfl | rfl
    · have : b = a + 1 ∨ b = a - 1 := by split at h <;> split at h <;> omega
      rcases this with e | e
      · exact .inr (.inr (.inr ⟨by omega, by omega⟩))
      · exact .inr (.inr (.inl ⟨by omega, by omega⟩))
    · have : b = a := by split at h <;> split at h <;> omega
      rw [Int.mul_add, Int.mul_one] at dk
      exact .inr (.inl (by omega))
    · have : b = a := by split at h <;> split at h <;> omega
      rw [Int.mul_sub, Int.mul_one] at dk
      exact .inl (by omega)
  · have fin : ∀ r q, k = g.cols * q + r → 0 ≤ r → r < g.cols → absI (i % g.cols - r) + absI (i / g.cols - q) = 1 → absI (i % g.cols - k % g.cols) + absI (i / g.cols - k / g.cols) = 1 := by
      intro r q hk h0 h1 h
      obtain ⟨e1, e2⟩ := divmod hk h0 h1
      rw [e1, e2]; exact h
    rintro (h | h | ⟨h, h'⟩ | ⟨h, h'⟩)
    · refine fin (i % g.cols) (i / g.cols - 1) (by rw [Int.mul_sub, Int.mul_one]; omega) ri ri' ?_
      rw [Int.sub_self, show i / g.cols - (i / g.cols - 1) = 1 by omega]; rfl
    · refine fin (i % g.cols) (i / g.cols + 1) (by rw [Int.mul_add, Int.mul_one]; omega) ri ri' ?_
      rw [Int.sub_self, show i / g.cols - (i / g.cols + 1) = -1 by omega]; rfl
    · refine fin (i % g.cols - 1) (i / g.cols) (by omega) (by omega) (by omega) ?_
      rw [Int.sub_self, show i % g.cols - (i % g.cols - 1) = 1 by omega]; rfl
    · refine fin (i % g.cols + 1) (i / g.cols) (by omega) (by omega) (by omega) ?_
      rw [Int.sub_self, show i % g.cols - (i % g.cols + 1) = -1 by omega]; rfl
def rnL (g : Grid) (i : Int) (m : Nat) : List Int := (List.range m).filterMap fun k : Nat => bif neigh g i (k : Int) then some (k : Int) else none
theorem rnL_succ (g : Grid) (i : Int) (m : Nat) : rnL g i (m + 1) = rnL g i m ++ (bif neigh g i m then [(m : Int)] else []) := by
  unfold rnL
  rw [filterMap_range_succ]
  cases neigh g i m <;> rfl
theorem rnL_mem {g : Grid} {i k : Int} {m : Nat} : k ∈ rnL g i m ↔ 0 ≤ k ∧ k < m ∧ neigh g i k = true := by
  unfold rnL
  simp only [List.mem_filterMap, List.mem_range]
  constructor
  · rintro ⟨j, hj, h⟩
    cases hn : neigh g i j with
    | false => rw [hn] at h; cases h
    | true => rw [hn] at h; cases h; exact ⟨by omega, by omega, hn⟩
  · rintro ⟨h0, h1, h2⟩
    refine ⟨k.toNat, by omega, ?_⟩
    rw [show ((k.toNat : Nat) : Int) = k by omega, h2]; rfl
theorem rnL_pw (g : Grid) (i : Int) : ∀ m, (rnL g i m).Pairwise (fun a b => a < b)
  | 0 => List.Pairwise.nil
  | m + 1 => by
    rw [rnL_succ]
    cases neigh g i m with
    | false => rw [cond_false, List.append_nil]; exact rnL_pw g i m
    | true =>
      rw [cond_true, List.pairwise_append]
      refine ⟨rnL_pw g i m, List.pairwise_singleton _ _, fun a ha b hb => ?_⟩
      have := (rnL_mem.1 ha).2.1
      have hb : b = m := by simpa using hb
      omega
theorem mem_bif {b : Bool} {x k : Int} : k ∈ (bif b then [x] else []) ↔ b = true ∧ k = x := by cases b <;> simp
theorem nearL_mem {g : Grid} {i k : Int} : k ∈ nearL g i ↔ (i ≥ g.cols ∧ k = i - g.cols) ∨ (i % g.cols > 0 ∧ k = i - 1) ∨ (i % g.cols < g.cols - 1 ∧ k = i + 1) ∨ (i + g.cols < g.levels.length ∧ k = i + g.cols) := by
  unfold nearL
  simp only [List.mem_append, mem_bif, decide_eq_true_eq, or_assoc]
theorem nearL_pw {g : Grid} (hc : 1 ≤ g.cols) (i : Int) : (nearL g i).Pairwise (fun a b => a < b) := by
  have ri := Int.emod_nonneg i (show g.cols ≠ 0 by omega)
  have ri' := Int.emod_lt_of_pos i (show 0 < g.cols by omega)
  have one : ∀ (b : Bool) (x : Int), (bif b then [x] else []).Pairwise (fun a b : Int => a < b) := fun b x => by cases b <;> simp
  unfold nearL
  simp only [List.pairwise_append, List.mem_append, mem_bif, decide_eq_true_eq]
  refine ⟨⟨⟨one _ _, one _ _, ?_⟩, one _ _, ?_⟩, one _ _, ?_⟩
  · rintro a ⟨h1, rfl⟩ b ⟨h2, rfl⟩; omega
  · rintro a (⟨h1, rfl⟩ | ⟨h1, rfl⟩) b ⟨h2, rfl⟩ <;> omega
  · rintro a ((⟨h1, rfl⟩ | ⟨h1, rfl⟩) | ⟨h1, rfl⟩) b ⟨h2, rfl⟩ <;> omega
theorem ascend_eq {l m : List Int} (hl : l.Pairwise (fun a b => a < b)) (hm : m.Pairwise (fun a b => a < b)) (h : ∀ x, x ∈ l ↔ x ∈ m) : l = m := by
  have nd : ∀ {l : List Int}, l.Pairwise (fun a b => a < b) → l.Nodup := fun hl => hl.imp fun h => by omega
  refine List.Perm.eq_of_pairwise (le := fun a b => a < b) (fun a b _ _ h1 h2 => by omega) hl hm ((List.perm_ext_iff_of_nodup (nd hl) (nd hm)).2 h)
theorem near_eq {g : Grid} (hg : GVal g) {i : Int} (h0 : 0 ≤ i) (hi : i < g.levels.length) : rnL g i g.levels.length = nearL g i := by
  have hc := hg.cols
  have ri := Int.emod_nonneg i (show g.cols ≠ 0 by omega)
  have ri' := Int.emod_lt_of_pos i (show 0 < g.cols by omega)
  have di := Int.emod_add_mul_ediv i g.cols
  have hq : i / g.cols < g.rows := (Int.ediv_lt_iff_lt_mul (by omega)).2 (by have := hg.len; rw [Int.mul_comm]; omega)
  have hq0 : 0 ≤ i / g.cols := Int.ediv_nonneg h0 (by omega)
  refine ascend_eq (rnL_pw g i _) (nearL_pw (by omega) i) fun k => ?_
  rw [rnL_mem, nearL_mem, neigh_iff (by omega)]
  have hlen := hg.len
  have m2 : g.cols * (i / g.cols + 1) ≤ g.cols * g.rows := Int.mul_le_mul_of_nonneg_left (by omega) (by omega)
  rw [Int.mul_add, Int.mul_one] at m2
  have m3 : 0 ≤ g.cols * (i / g.cols) := Int.mul_nonneg (by omega) hq0
  constructor
  · rintro ⟨h1, h2, h | h | ⟨h, h'⟩ | ⟨h, h'⟩⟩
    · exact .inl ⟨by omega, h⟩
    · exact .inr (.inr (.inr ⟨by omega, h⟩))
    · exact .inr (.inl ⟨h', h⟩)
    · exact .inr (.inr (.inl ⟨h', h⟩))
  · rintro (⟨h', h⟩ | ⟨h', h⟩ | ⟨h', h⟩ | ⟨h', h⟩)
    · exact ⟨by omega, by omega, .inl h⟩
    · exact ⟨by omega, by omega, .inr (.inr (.inl ⟨h, h'⟩))⟩
    · exact ⟨by omega, by omega, .inr (.inr (.inr ⟨h, h'⟩))⟩
    · exact ⟨by omega, by omega, .inr (.inl h)⟩
end Go.Ch

namespace Go.Ch
open Go Go.Ax Go.Proofs Go.Proofs.Tryz
set_option maxRecDepth 100000
set_option pp.maxSteps 400
set_option maxHeartbeats 1000000

def hasE (g : Grid) (i : Int) : Int := bif errG g != 0 then errG g else bif there g i then 0 else 6
def cellE (g : Grid) (p : Pt) : Int × Int := bif errG g != 0 then (0, errG g) else bif decide (cellI g p < 0) then (0, 11) else (cellI g p, 0)
def centreE (g : Grid) (i : Int) : Pt × Int := bif hasE g i != 0 then (⟨0, 0⟩, hasE g i) else (centreG g i, 0)
def nearE (g : Grid) (i : Int) : List Int × Int := bif hasE g i != 0 then ([], hasE g i) else (nearL g i, 0)
def levelE (g : Grid) (p : Pt) : Int × Int := bif (cellE g p).2 != 0 then (0, (cellE g p).2) else bif !knownG g (cellE g p).1 then (0, 12) else (levelAt g (cellE g p).1, 0)
abbrev rII (r : Int × Int) : AV := .t [.s (.d (dI r.1)), .s (.d (dI r.2))]
theorem has_eq (g : Grid) (i : Int) : (bif errG g != 0 then errG g else bif within i 0 ((g.levels.length : Int) - 1) then 0 else 6) = hasE g i := rfl
theorem hasE_zero {g : Grid} {i : Int} (h : hasE g i = 0) : errG g = 0 ∧ there g i = true := by
  unfold hasE at h
  cases he : errG g != 0 with
  | true =>
    rw [he, cond_true] at h
    rw [h] at he; cases he
  | false =>
    rw [he, cond_false] at h
    refine ⟨by simpa using he, ?_⟩
    cases ht : there g i with
    | true => rfl
    | false => rw [ht] at h; cases h
end Go.Ch

namespace Go.Ch
open Go Go.Ax Go.Proofs Go.Proofs.Tryz
set_option maxRecDepth 100000
set_option pp.maxSteps 400
set_option maxHeartbeats 1000000

theorem tdmf {a b : Int} (hb : 0 < b) : a.tmod b + b * a.tdiv b = a ∧ -b < a.tmod b ∧ a.tmod b < b ∧ (0 ≤ a → 0 ≤ a.tmod b) ∧ (a ≤ 0 → a.tmod b ≤ 0) := by
  refine ⟨Int.tmod_add_mul_tdiv a b, ?_, Int.tmod_lt_of_pos a hb, fun h => Int.tmod_nonneg b h, fun h => ?_⟩
  · rcases Int.le_total 0 a with h | h
    · have := Int.tmod_nonneg b h; omega
    · have h1 : (-a).tmod b < b := Int.tmod_lt_of_pos _ hb
      rw [Int.neg_tmod] at h1; omega
  · have h1 : 0 ≤ (-a).tmod b := Int.tmod_nonneg b (by omega)
    rw [Int.neg_tmod] at h1; omega
theorem fl_prog {a b : Int} (hb : 0 < b) : (if a.tmod b < 0 then a.tdiv b - 1 else a.tdiv b) = a / b := by
  obtain ⟨h1, h2, h3, h4, h5⟩ := tdmf (a := a) hb
  symm
  rw [← div_range hb]
  have e : a.tdiv b * b = b * a.tdiv b := Int.mul_comm _ _
  split
  · rw [Int.sub_mul, Int.one_mul]; omega
  · omega
theorem fl_ref {a b : Int} (hb : 0 < b) : Int.tdiv (a - (if a.tmod b < 0 then a.tmod b + b else a.tmod b)) b = a / b := by
  have h0 := fl_prog (a := a) hb
  obtain ⟨h1, h2, h3, h4, h5⟩ := tdmf (a := a) hb
  have key : a - (if a.tmod b < 0 then a.tmod b + b else a.tmod b) = (a / b) * b := by
    rw [← h0]
    have e : a.tdiv b * b = b * a.tdiv b := Int.mul_comm _ _
    split
    · rw [Int.sub_mul, Int.one_mul]; omega
    · omega
  rw [key]
  exact Int.mul_tdiv_cancel _ (by omega)
def plK (a b : Pt) (n : Int) (k : Nat) : Pt := ⟨a.x + (b.x - a.x) * k / n, a.y + (b.y - a.y) * k / n⟩
def pvK (g : Grid) (a b : Pt) (n : Int) (k : Nat) : Int := bif decide (cellI g (plK a b n k) < 0) then 30000 else levelAt g (cellI g (plK a b n k))
def profL (g : Grid) (a b : Pt) (n : Int) (m : Nat) : List Int := (List.range m).map (pvK g a b n)
theorem profL_succ (g : Grid) (a b : Pt) (n : Int) (m : Nat) : profL g a b n (m + 1) = profL g a b n m ++ [pvK g a b n m] := by
  unfold profL; rw [List.range_succ, List.map_append]; rfl
theorem profL_len {g : Grid} {a b : Pt} {n : Int} {m : Nat} : (profL g a b n m).length = m := by simp [profL]
theorem plK_w {a b : Pt} {n : Int} {k : Nat} (ha : good a = true) (hb : good b = true) (hn : 1 ≤ n ∧ n ≤ 200) (hk : (k : Int) ≤ n) :
    w64 (b.x - a.x) = b.x - a.x ∧ w64 (b.y - a.y) = b.y - a.y ∧ w64 ((b.x - a.x) * k) = (b.x - a.x) * k ∧ w64 ((b.y - a.y) * k) = (b.y - a.y) * k ∧
    (-1000000000 ≤ (b.x - a.x) * k ∧ (b.x - a.x) * k ≤ 1000000000) ∧ (-1000000000 ≤ (b.y - a.y) * k ∧ (b.y - a.y) * k ≤ 1000000000) ∧
    w64 (a.x + (b.x - a.x) * k / n) = a.x + (b.x - a.x) * k / n ∧ w64 (a.y + (b.y - a.y) * k / n) = a.y + (b.y - a.y) * k / n := by
  rw [good_iff] at ha hb
  have mul : ∀ d : Int, -2000000 ≤ d → d ≤ 2000000 → -1000000000 ≤ d * k ∧ d * k ≤ 1000000000 := by
    intro d h1 h2
    have := mul_le_of (a := d) (b := (k : Int)) (A := 2000000) (B := 200) (by omega) (by omega) (by omega) (by omega)
    omega
  have dv : ∀ d : Int, -1000000000 ≤ d → d ≤ 1000000000 → -2000000000 ≤ d / n ∧ d / n ≤ 2000000000 := by
    intro d h1 h2
    have e1 : -1000000000 ≤ d / n := (Int.le_ediv_iff_mul_le (by omega)).2 (by
      have : (-1000000000 : Int) * n ≤ -1000000000 := by omega
      omega)
    have e2 : d / n ≤ 1000000000 := by
      refine Int.ediv_le_of_le_mul (by omega) ?_
      have : (1000000000 : Int) ≤ 1000000000 * n := by omega
      omega
    exact ⟨by omega, by omega⟩
  have m1 := mul (b.x - a.x) (by omega) (by omega)
  have m2 := mul (b.y - a.y) (by omega) (by omega)
  have d1 := dv _ m1.1 m1.2
  have d2 := dv _ m2.1 m2.2
  exact ⟨w64_of (by omega) (by omega), w64_of (by omega) (by omega), w64_of (by omega) (by omega), w64_of (by omega) (by omega), m1, m2, w64_of (by omega) (by omega), w64_of (by omega) (by omega)⟩
end Go.Ch

/- Meshes: places, areas, Check. -/
namespace Go.Ch
open Go Go.Ax Go.Proofs Go.Proofs.Tryz
set_option maxRecDepth 100000
set_option pp.maxSteps 400
set_option maxHeartbeats 1000000

structure Nd where
  x : Int
  y : Int
  lv : Int
deriving DecidableEq
instance : Inhabited Nd := ⟨⟨0, 0, 0⟩⟩
structure Tr where
  a : Int
  b : Int
  c : Int
deriving DecidableEq
instance : Inhabited Tr := ⟨⟨0, 0, 0⟩⟩
structure Mesh where
  nodes : List Nd
  tris : List Tr
def ndD (n : Nd) : Nat → DV
  | 0 => dI n.x
  | 1 => dI n.y
  | 2 => dI n.lv
  | _ => .junk
def trD (n : Tr) : Nat → DV
  | 0 => dI n.a
  | 1 => dI n.b
  | 2 => dI n.c
  | _ => .junk
def ndEl (l : List Nd) : Nat → Nat → DV := fun i => ndD (l.getD i default)
def trEl (l : List Tr) : Nat → Nat → DV := fun i => trD (l.getD i default)
def dNds (l : List Nd) : DV := .slc l.length 3 (ndEl l)
def dTrs (l : List Tr) : DV := .slc l.length 3 (trEl l)
abbrev nd (n : Nd) : AV := .g [.d (dI n.x), .d (dI n.y), .d (dI n.lv)]
abbrev trV (n : Tr) : AV := .g [.d (dI n.a), .d (dI n.b), .d (dI n.c)]
abbrev vNds (l : List Nd) : AV := .s (.d (dNds l))
abbrev mesh (m : Mesh) : AV := .g [.d (dNds m.nodes), .d (dTrs m.tris)]
abbrev meshB (m : Mesh) : Box := .cells [.d (dNds m.nodes), .d (dTrs m.tris)]
def Nd.pt (n : Nd) : Pt := ⟨n.x, n.y⟩
structure Mesh.ok (m : Mesh) : Prop where
  nodes : m.nodes.length ≤ 9223372036854775807
  tris : m.tris.length ≤ 9223372036854775807

theorem bplace (n : Nd) : CallP Tryz.prog 22 [nd n] (pt n.pt) := by
  refine callP_of_ex (rc := []) (N := 8) Tryz.func22 rfl rfl Tryz.call22 tab_ok mix rfl rfl (fun cx _ => ?_)
  exact SubR.refl _
theorem three_le (a b c : Pt) (f : Nat → Nat → DV) (h : ∀ j, j < 6 → f (j / 2) (j % 2) = ptD ([a, b, c].getD (j / 2) default) (j % 2)) : LeD (.slc 3 2 f) (dPts [a, b, c]) := by
  refine LeD.slc fun i j hi hj => LeD.of_eq ?_
  have := h (i * 2 + j) (by omega)
  rw [show (i * 2 + j) / 2 = i by omega, show (i * 2 + j) % 2 = j by omega] at this
  exact this
theorem bCross (a b c : Pt) (ha : good a = true) (hb : good b = true) (hc : good c = true) : CallP Tryz.prog 64 [pt a, pt b, pt c] (vI (cross a b c)) := by
  refine callP_of_ex (rc := []) (N := 16) Tryz.func64 rfl rfl Tryz.call64 tab_ok mix rfl rfl (fun cx _ => ?_)
  refine callN ((goutside [a, b, c] (by simp)).conv (args' := _) ⟨three_le a b c _ (fun j hj => ?_), trivial⟩) ?_
  · match j, hj with
    | 0, _ => rfl
    | 1, _ => rfl
    | 2, _ => rfl
    | 3, _ => rfl
    | 4, _ => rfl
    | 5, _ => rfl
  rw [show ([a, b, c].any fun p => !good p) = false by simp [ha, hb, hc]]
  refine And.intro (fun h => by cases h) (fun _ => ?_)
  refine callN (gcross a b c) ?_
  exact SubR.refl _
theorem inRange (p : Pt) : CallP Tryz.prog 32 [pt p] (vB (good p)) := by
  refine callP_of_ex (rc := []) (N := 9) Tryz.func32 rfl rfl Tryz.call32 tab_ok mix rfl rfl (fun cx _ => ?_)
  refine callN ((bbetween (-1000000) 1000000 [p.x, p.y] (by simp)).conv (args' := _) ⟨LeD.refl _, LeD.refl _, LeD.slc fun i j hi hj => ?_, trivial⟩) ?_
  · have hj : j < 1 := hj
    obtain rfl : j = 0 := by omega
    match i, (show i < 2 from hi) with
    | 0, _ => exact LeD.refl _
    | 1, _ => exact LeD.refl _
  exact SubR.of_eq (congrArg vB (by simp [outL, good]))
def badN (n : Nd) : Bool := !good n.pt || !within n.lv (-20000) 20000
theorem badN1 (n : Nd) : CallP Tryz.prog 31 [nd n] (vB (badN n)) := by
  refine callP_of_ex (rc := []) (N := 13) Tryz.func31 rfl rfl Tryz.call31 tab_ok mix rfl rfl (fun cx _ => ?_)
  refine callN (bplace n) ?_
  refine callN (inRange n.pt) ?_
  repeat first | refine sk ?_ | refine st ?_ | refine sg ?_ | refine sh ?_ | refine su ?_ | refine sn1 ?_ | refine sn0 ?_
  refine callG (isLevel n.lv) ?_
  repeat first | refine sk ?_ | refine st ?_ | refine sg ?_ | refine sh ?_ | refine su ?_ | refine sn1 ?_ | refine sn0 ?_
  exact SubR.refl _
theorem indexFuncN (l : List Nd) (hl : l.length ≤ 9223372036854775807) (f k : Nat) (c : Nat → DV) (p : Nd → Bool) (hp : ∀ x ∈ l, CallP Tryz.prog f (nd x :: capD c k 0) (vB (p x))) :
    CallP Tryz.prog 53 [vNds l, .s (.d (.clo f k c))] (vI (idxF p l 0)) := by
  refine callP_of_ex (rc := []) (N := 19) Tryz.func53 rfl rfl Tryz.call53 tab_ok mix rfl rfl (fun cx href => ?_)
  refine AW.loop (fun i : Nat => ⟨[(0, vNds l), (1, .s (.d (.clo f k c))), (7, vI l.length), (8, vI i), (4, vI 0)], []⟩) (fun i => i ≤ l.length ∧ idxF p l 0 = idxF p (l.drop i) i) (fun i => l.length - i) 0 ⟨Nat.zero_le _, rfl⟩ ?_ ?_
  · refine Sub.of0 href trivial ⟨⟨rfl, rfl⟩, ⟨rfl, rfl⟩, ⟨rfl, rfl⟩, ⟨rfl, rfl⟩, ⟨rfl, rfl⟩, trivial⟩
  · rintro i ⟨hi, he⟩
    refine ex.sound (rc := []) tab_ok mix href _ ?_
    refine And.intro (fun h => ?_) (fun h => ?_)
    · have h : (i : Int) < l.length := decT h
      have hi' : i < l.length := by omega
      have hd : l.drop i = l[i] :: l.drop (i + 1) := List.drop_eq_getElem_cons hi'
      have hg : l.getD i default = l[i] := getD_of hi'
      refine oi ⟨by omega, by omega⟩ ?_
      refine callN ((hp (l.getD i default) (by rw [hg]; simp)).conv (args' := _) ⟨⟨LeD.refl _, LeD.refl _, LeD.refl _, trivial⟩, LeAs.capD⟩) ?_
      rw [hd, idxF] at he
      rw [hg]
      refine And.intro (fun h => ?_) (fun h => ?_)
      · refine SubR.of_eq ?_
        rw [he, h]; rfl
      · refine ⟨i + 1, ⟨by omega, ?_⟩, by omega, ?_⟩
        · rw [he, h]; rfl
        · refine Sub.of0 href trivial ⟨⟨rfl, rfl⟩, ⟨rfl, rfl⟩, ⟨rfl, rfl⟩, ⟨rfl, ?_⟩, ⟨rfl, rfl⟩, trivial⟩
          exact congrArg vI (w64_of (by omega) (by omega))
    · have h : ¬ (i : Int) < l.length := decF h
      have hi' : i = l.length := by omega
      subst hi'
      refine SubR.of_eq ?_
      rw [he, List.drop_length]; rfl
theorem containsN (l : List Nd) (hl : l.length ≤ 9223372036854775807) (f k : Nat) (c : Nat → DV) (p : Nd → Bool) (hp : ∀ x ∈ l, CallP Tryz.prog f (nd x :: capD c k 0) (vB (p x))) :
    CallP Tryz.prog 19 [vNds l, .s (.d (.clo f k c))] (vB (l.any p)) := by
  refine callP_of_ex (rc := []) (N := 9) Tryz.func19 rfl rfl Tryz.call19 tab_ok mix rfl rfl (fun cx href => ?_)
  refine callN (indexFuncN l hl f k c p hp) ?_
  exact SubR.of_eq (congrArg vB (idxF_any p l 0))

abbrev ndA (m : Mesh) (i : Int) : Nd := m.nodes.getD i.toNat default
def dbl (m : Mesh) (t : Tr) : Int := cross (ndA m t.a).pt (ndA m t.b).pt (ndA m t.c).pt
def inM (m : Mesh) (t : Tr) : Prop := (0 ≤ t.a ∧ t.a < m.nodes.length) ∧ (0 ≤ t.b ∧ t.b < m.nodes.length) ∧ (0 ≤ t.c ∧ t.c < m.nodes.length)
theorem bdouble (m : Mesh) (t : Tr) (ht : inM m t) (hg : ∀ i, good (ndA m i).pt = true) : CallP Tryz.prog 34 [mesh m, trV t] (vI (dbl m t)) := by
  obtain ⟨ha, hb, hc⟩ := ht
  refine callP_of_ex (rc := []) (N := 27) Tryz.func34 rfl rfl Tryz.call34 tab_ok mix rfl rfl (fun cx _ => ?_)
  refine oi ha ?_
  refine callN (bplace (ndA m t.a)) ?_
  refine oi hb ?_
  refine callN (bplace (ndA m t.b)) ?_
  refine oi hc ?_
  refine callN (bplace (ndA m t.c)) ?_
  refine callN (bCross _ _ _ (hg _) (hg _) (hg _)) ?_
  refine And.intro (by kernel_rfl) ?_
  exact SubR.refl _
def inMB (n : Int) (t : Tr) : Bool := (within t.a 0 n && within t.b 0 n) && within t.c 0 n
def errT (m : Mesh) : List Tr → Int
  | [] => 0
  | t :: r => bif !inMB (w64 (m.nodes.length - 1)) t then 6 else bif decide (dbl m t ≤ 0) then 10 else bif decide (dbl m t > 800000000) then 8 else errT m r
def errM (m : Mesh) : Int := bif decide ((m.nodes.length : Int) > 1024) || decide ((m.tris.length : Int) > 2048) then 8 else bif m.nodes.any badN then 2 else errT m m.tris
theorem good_nodes {m : Mesh} (h : m.nodes.any badN = false) (i : Int) : good (ndA m i).pt = true ∧ within (ndA m i).lv (-20000) 20000 = true := by
  unfold ndA
  by_cases hi : i.toNat < m.nodes.length
  · have h2 : badN (m.nodes.getD i.toNat default) = false := by
      rw [List.any_eq_false] at h
      rw [getD_of hi]
      simpa using h _ (List.getElem_mem hi)
    unfold badN at h2
    simpa using h2
  · rw [List.getD_eq_getElem?_getD, List.getElem?_eq_none (by omega)]
    exact ⟨by decide, by decide⟩
theorem inMB_iff {m : Mesh} {t : Tr} (hn : m.nodes.length ≤ 1024) : inMB (w64 (m.nodes.length - 1)) t = true ↔ inM m t := by
  rw [w64_of (by omega) (by omega)]
  unfold inMB inM within
  simp
  omega
theorem bCheckMesh (m : Mesh) (hm : m.ok) : CallP Tryz.prog 11 [mesh m] (vI (errM m)) := by
  have h1 := hm.nodes
  have h2 := hm.tris
  refine callP_of_ex (rc := []) (N := 49) Tryz.func11 rfl rfl Tryz.call11 tab_ok mix rfl rfl (fun cx href => ?_)
  unfold errM
  repeat first | refine sk ?_ | refine st ?_ | refine sg ?_ | refine sh ?_ | refine su ?_ | refine sn1 ?_ | refine sn0 ?_
  refine And.intro (fun h => ?_) (fun h => ?_)
  · have h : (decide ((m.nodes.length : Int) > 1024) || decide ((m.tris.length : Int) > 2048)) = true := h
    rw [h]; exact SubR.refl _
  have h : (decide ((m.nodes.length : Int) > 1024) || decide ((m.tris.length : Int) > 2048)) = false := h
  rw [h, cond_false]
  rw [Bool.or_eq_false_iff, decide_eq_false_iff_not, decide_eq_false_iff_not] at h
  refine callN (containsN m.nodes h1 31 0 (fun _ => .junk) badN (fun x _ => badN1 x)) ?_
  refine And.intro (fun h3 => ?_) (fun h3 => ?_)
  · have h3 : m.nodes.any badN = true := h3
    rw [h3]; exact SubR.refl _
  have h3 : m.nodes.any badN = false := h3
  rw [h3, cond_false]
  have hg := good_nodes h3
  refine AW.loopI (fun i : Nat => ⟨[(1, .s (.ptr 1 0)), (20, .s (.d (dTrs m.tris))), (21, vI m.tris.length), (22, vI i)], [(1, some (meshB m))]⟩) (fun i => i ≤ m.tris.length ∧ errT m m.tris = errT m (m.tris.drop i)) (fun i => m.tris.length - i) 0 ⟨Nat.zero_le _, rfl⟩ ?_ ?_
  · exact SubI.of0 href [] rfl ⟨⟨rfl, LeBx.rfl⟩, trivial⟩ ⟨⟨rfl, LeQ.rfl⟩, ⟨rfl, LeQ.rfl⟩, ⟨rfl, LeQ.rfl⟩, ⟨rfl, LeQ.rfl⟩, trivial⟩
  · rintro i ⟨hi, he⟩
    refine ex.sound (rc := []) tab_ok mix href _ ?_
    refine And.intro (fun h4 => ?_) (fun h4 => ?_)
    · have h4 : (i : Int) < m.tris.length := decT h4
      have hi' : i < m.tris.length := by omega
      have hg0 : m.tris.getD i default = m.tris[i] := getD_of hi'
      rw [List.drop_eq_getElem_cons hi', errT, ← hg0] at he
      refine oi ⟨by omega, by omega⟩ ?_
      refine callN ((bbetween 0 (w64 (m.nodes.length - 1)) [(m.tris.getD i default).a, (m.tris.getD i default).b, (m.tris.getD i default).c] (by simp)).conv (args' := _) ⟨LeD.refl _, LeD.refl _, LeD.slc fun i j hi hj => ?_, trivial⟩) ?_
      · have hj : j < 1 := hj
        obtain rfl : j = 0 := by omega
        match i, (show i < 3 from hi) with
        | 0, _ => exact LeD.refl _
        | 1, _ => exact LeD.refl _
        | 2, _ => exact LeD.refl _
      rw [show outL 0 (w64 (m.nodes.length - 1)) [(m.tris.getD i default).a, (m.tris.getD i default).b, (m.tris.getD i default).c] = !inMB (w64 (m.nodes.length - 1)) (m.tris.getD i default) by simp [outL, inMB, Bool.or_assoc], Bool.not_not]
      refine And.intro (fun h5 => ?_) (fun h5 => ?_)
      · have h5 : (!inMB (w64 (m.nodes.length - 1)) (m.tris.getD i default)) = true := h5
        rw [he, h5]; exact SubR.refl _
      have h5 : (!inMB (w64 (m.nodes.length - 1)) (m.tris.getD i default)) = false := h5
      rw [h5, cond_false] at he
      have ht : inM m (m.tris.getD i default) := (inMB_iff (by omega)).1 (by simpa using h5)
      refine callN (bdouble m (m.tris.getD i default) ht (fun i => (hg i).1)) ?_
      refine And.intro (fun h6 => ?_) (fun h6 => ?_)
      · have h6 : decide (dbl m (m.tris.getD i default) ≤ 0) = true := h6
        rw [he, h6]; exact SubR.refl _
      have h6 : decide (dbl m (m.tris.getD i default) ≤ 0) = false := h6
      rw [h6, cond_false] at he
      refine And.intro (fun h7 => ?_) (fun h7 => ?_)
      · have h7 : decide (dbl m (m.tris.getD i default) > 800000000) = true := h7
        rw [he, h7]; exact SubR.refl _
      have h7 : decide (dbl m (m.tris.getD i default) > 800000000) = false := h7
      rw [h7, cond_false] at he
      refine ⟨i + 1, ⟨by omega, he⟩, by omega, ?_⟩
      exact SubI.of0 href [] rfl ⟨⟨rfl, LeBx.rfl⟩, trivial⟩ ⟨⟨rfl, LeQ.rfl⟩, ⟨rfl, LeQ.rfl⟩, ⟨rfl, LeQ.rfl⟩, ⟨rfl, LeQ.int (w64_of (by omega) (by omega))⟩, trivial⟩
    · have h4 : ¬ (i : Int) < m.tris.length := decF h4
      obtain rfl : i = m.tris.length := by omega
      rw [he, List.drop_length]
      exact SubR.refl _
end Go.Ch

/- The sorts of points and triangles. -/
namespace Go.Ch
open Go Go.Ax Go.Sort Go.Proofs Go.Proofs.Tryz Go.Hull
set_option maxRecDepth 100000
set_option pp.maxSteps 400
set_option maxHeartbeats 1000000

theorem sgn_neg (n : Int) : sgn n < 0 ↔ n < 0 := by
  unfold sgn; split
  · simp; omega
  · split
    · simp; omega
    · simp; omega
theorem sgn_zero (n : Int) : sgn n = 0 ↔ n = 0 := by
  unfold sgn; split
  · simp; omega
  · split
    · simp; omega
    · simp; omega
theorem ahdI_eq (a b : Pt) : ahdI a b = bif sgn (a.x - b.x) != 0 then sgn (a.x - b.x) else bif sgn (a.y - b.y) != 0 then sgn (a.y - b.y) else 0 := rfl
theorem ahdI_neg (a b : Pt) : ahdI a b < 0 ↔ bef a b = true := by
  rw [ahdI_eq]
  unfold bef
  simp only [Bool.or_eq_true, Bool.and_eq_true, decide_eq_true_eq, beq_iff_eq]
  have h1 := sgn_neg (a.x - b.x)
  have h2 := sgn_neg (a.y - b.y)
  have z1 := sgn_zero (a.x - b.x)
  have z2 := sgn_zero (a.y - b.y)
  cases q1 : sgn (a.x - b.x) != 0 with
  | true =>
    have : sgn (a.x - b.x) ≠ 0 := by simpa using q1
    simp only [cond_true]
    omega
  | false =>
    have : sgn (a.x - b.x) = 0 := by simpa using q1
    simp only [cond_false]
    cases q2 : sgn (a.y - b.y) != 0 with
    | true => simp only [cond_true]; omega
    | false =>
      have : sgn (a.y - b.y) = 0 := by simpa using q2
      simp only [cond_false]
      omega
theorem lt_ahd (a b : Pt) : ltOf ahdI a b = bef a b := by
  unfold ltOf
  rw [Bool.eq_iff_iff, decide_eq_true_eq]
  exact ahdI_neg a b
theorem swo_ahd : SWO (ltOf ahdI) where
  irrefl x := by rw [lt_ahd]; exact bef_irr x
  trans x y z h1 h2 := by rw [lt_ahd] at *; exact bef_trans h1 h2
  ntrans x y z h1 h2 := by
    rw [lt_ahd] at *
    unfold bef at *
    simp only [Bool.or_eq_false_iff, Bool.and_eq_false_iff, decide_eq_false_iff_not, beq_eq_false_iff_ne] at *
    omega
theorem sortP_ahd (l : List Pt) : (l.mergeSort fun x y => !(ltOf ahdI) y x) = sortP l := by
  unfold sortP
  congr 1
  funext x y
  rw [lt_ahd]
  congr 1
  rw [Bool.eq_iff_iff, decide_eq_true_eq]
  exact (aheadI_neg y x).symm
def encPt (p : Pt) : List Value := [.int .i64 p.x, .int .i64 p.y]
theorem SortPts (l : List Pt) (f0 : Nat → Nat → DV) (hf0 : ∀ i j, i < l.length → j < 2 → LeD (f0 i j) (ptD (l.getD i default) j)) (hl : l.length ≤ 1000000) :
    CallR Tryz.prog 93 [.s (.own 1001), .s (.clo 94 [])] [(1001, .row 39 l.length 2 f0)] (.t []) [(1001, .row 39 l.length 2 (ptEl (sortP l)))] := by
  have h := SortFK (P := Tryz.prog) (α := Pt) (ρ := Tryz.laysP_ren) Tryz.laysP (F := 93) (g := 94) (e := 39) (k := 2) rfl Tryz.call93 (by decide) Tryz.isAgg39 Tryz.sizeOf39 ptD encPt (fun _ => rfl)
    (fun x v hv => by
      simp only [encPt, List.mem_cons, List.not_mem_nil, or_false] at hv
      rcases hv with rfl | rfl <;> rfl)
    (fun x j hj => by
      match j, hj with
      | 0, _ => rfl
      | 1, _ => rfl) ahdI swo_ahd
    (fun x y h1 h2 => by
      rw [lt_ahd] at h1 h2
      refine Classical.byContradiction fun hne => ?_
      rw [bef_tot hne h1] at h2
      cases h2) Tryz.call94
    (fun blk off n w => CmpLays.of pt (fun x M β => ⟨[_, _], rfl, rfl, rfl, trivial⟩) gAhead blk off n w) l f0 hf0 hl
  rw [sortP_ahd] at h
  exact h
/-- Triangles with small numbers. -/
abbrev TB : Type := { t : Tri // t.A < 1024 ∧ t.B < 1024 ∧ t.C < 1024 }
instance : Inhabited TB := ⟨⟨⟨0, 0, 0⟩, by decide⟩⟩
def trOf (t : Tri) : Tr := ⟨t.A, t.B, t.C⟩
def tbD (t : TB) : Nat → DV := trD (trOf t.1)
def cfB (s t : TB) : Int := cfT s.1 t.1
theorem orF3 (x y z : Int) : orF [x, y, z] 3 0 = if x ≠ 0 then x else if y ≠ 0 then y else z := by
  show (bif x != 0 then x else bif y != 0 then y else bif z != 0 then z else 0) = _
  by_cases hx : x = 0
  · subst hx
    by_cases hy : y = 0
    · subst hy
      by_cases hz : z = 0
      · subst hz; rfl
      · rw [show (z != 0) = true by simpa using hz]; simp
    · rw [show (y != 0) = true by simpa using hy]; simp [hy]
  · rw [show (x != 0) = true by simpa using hx]; simp [hx]
theorem gCmpT (s t : TB) : CallP Tryz.prog 83 [trV (trOf s.1), trV (trOf t.1)] (vI (cfB s t)) := by
  obtain ⟨⟨A, B, C⟩, h1, h2, h3⟩ := s
  obtain ⟨⟨A', B', C'⟩, k1, k2, k3⟩ := t
  simp only at h1 h2 h3 k1 k2 k3
  refine callP_of_ex (rc := []) (N := 22) Tryz.func83 rfl rfl Tryz.call83 tab_ok mix rfl rfl (fun cx href => ?_)
  refine callN ((Or [w64 ((A : Int) - A'), w64 ((B : Int) - B'), w64 ((C : Int) - C')] (by simp)).conv (args' := _) ⟨LeD.slc fun i j hi hj => LeD.of_eq ?_, trivial⟩) ?_
  · obtain rfl : j = 0 := by have : j < 1 := hj; omega
    match i, hi with
    | 0, _ => rfl
    | 1, _ => rfl
    | 2, _ => rfl
  refine SubR.of_eq ?_
  show vI (orF [w64 ((A : Int) - A'), w64 ((B : Int) - B'), w64 ((C : Int) - C')] 3 0) = _
  rw [w64_of (by omega) (by omega), w64_of (by omega) (by omega), w64_of (by omega) (by omega), orF3]
  rfl
theorem cfB_lt (s t : TB) : ltOf cfB s t = true ↔ tLt s.1 t.1 := by
  unfold ltOf cfB
  rw [decide_eq_true_eq]
  exact cfT_lt s.1 t.1
theorem cfB_ge (s t : TB) : ltOf cfB s t = false ↔ ¬ tLt s.1 t.1 := by
  rw [← cfB_lt]
  simp
theorem swo_cfB : SWO (ltOf cfB) where
  irrefl x := by rw [cfB_ge]; unfold tLt; omega
  trans x y z h1 h2 := by rw [cfB_lt] at *; unfold tLt at *; omega
  ntrans x y z h1 h2 := by rw [cfB_ge] at *; unfold tLt at *; omega
def encTB (t : TB) : List Value := [.int .i64 t.1.A, .int .i64 t.1.B, .int .i64 t.1.C]
theorem SortTB (l : List TB) (f0 : Nat → Nat → DV) (hf0 : ∀ i j, i < l.length → j < 3 → LeD (f0 i j) (tbD (l.getD i default) j)) (hl : l.length ≤ 1000000) :
    CallR Tryz.prog 82 [.s (.own 1001), .s (.clo 83 [])] [(1001, .row 70 l.length 3 f0)] (.t []) [(1001, .row 70 l.length 3 (fun i => tbD ((l.mergeSort fun x y => !(ltOf cfB) y x).getD i default)))] :=
  SortFK (P := Tryz.prog) (α := TB) (ρ := Tryz.laysT_ren) Tryz.laysT (F := 82) (g := 83) (e := 70) (k := 3) rfl Tryz.call82 (by decide) Tryz.isAgg70 Tryz.sizeOf70 tbD encTB (fun _ => rfl)
    (fun x v hv => by
      simp only [encTB, List.mem_cons, List.not_mem_nil, or_false] at hv
      rcases hv with rfl | rfl | rfl <;> rfl)
    (fun x j hj => by
      match j, hj with
      | 0, _ => rfl
      | 1, _ => rfl
      | 2, _ => rfl) cfB swo_cfB
    (fun x y h1 h2 => by
      rw [cfB_ge] at h1 h2
      unfold tLt at h1 h2
      obtain ⟨⟨A, B, C⟩, _⟩ := x
      obtain ⟨⟨A', B', C'⟩, _⟩ := y
      simp only at h1 h2
      have : A = A' := by omega
      have : B = B' := by omega
      have : C = C' := by omega
      subst_vars
      rfl) Tryz.call83
    (fun blk off n w => CmpLays.of (fun t : TB => trV (trOf t.1)) (fun x M β => ⟨[_, _, _], rfl, rfl, rfl, rfl, trivial⟩) gCmpT blk off n w) l f0 hf0 hl
def trTs (l : List Tri) : List Tr := l.map trOf
theorem lift_tb : ∀ (l : List Tri), (∀ t ∈ l, t.A < 1024 ∧ t.B < 1024 ∧ t.C < 1024) → ∃ lb : List TB, lb.map (fun t : TB => t.1) = l
  | [], _ => ⟨[], rfl⟩
  | t :: l, h => by
    obtain ⟨lb, e⟩ := lift_tb l (fun x hx => h x (List.mem_cons_of_mem _ hx))
    exact ⟨⟨t, h t List.mem_cons_self⟩ :: lb, by rw [List.map_cons, e]⟩
/-- The sort of triangles, at lists of triples of numbers. -/
theorem SortTri (l : List Tri) (hb : ∀ t ∈ l, t.A < 1024 ∧ t.B < 1024 ∧ t.C < 1024) (f0 : Nat → Nat → DV) (hf0 : ∀ i j, i < l.length → j < 3 → LeD (f0 i j) (trD ((trTs l).getD i default) j)) (hl : l.length ≤ 1000000) :
    CallR Tryz.prog 82 [.s (.own 1001), .s (.clo 83 [])] [(1001, .row 70 l.length 3 f0)] (.t []) [(1001, .row 70 l.length 3 (trEl (trTs (l.mergeSort fun x y => !(decide (cfT y x < 0))))))] := by
  obtain ⟨lb, rfl⟩ : ∃ lb : List TB, lb.map (fun t : TB => t.1) = l := lift_tb l hb
  have hg : ∀ (m : List TB) (i : Nat), i < m.length → (trTs (m.map (fun t : TB => t.1))).getD i default = trOf (m.getD i default).1 := by
    intro m i hi
    unfold trTs
    simp [List.getD, hi]
  have hms : (lb.map (fun t : TB => t.1)).mergeSort (fun x y => !(decide (cfT y x < 0))) = (lb.mergeSort fun x y => !(ltOf cfB) y x).map (fun t : TB => t.1) := by
    rw [List.map_mergeSort (s := fun x y => !(decide (cfT y x < 0)))]
    intro a _ b _
    rfl
  have hlen : (lb.map (fun t : TB => t.1)).length = lb.length := by simp
  have h := SortTB lb f0 (fun i j hi hj => by
    have := hf0 i j (by rw [hlen]; exact hi) hj
    rw [hg lb i hi] at this
    exact this) (by rw [← hlen]; exact hl)
  rw [hms, hlen]
  have he : (fun i => tbD ((lb.mergeSort fun x y => !(ltOf cfB) y x).getD i default)) = trEl (trTs ((lb.mergeSort fun x y => !(ltOf cfB) y x).map (fun t : TB => t.1))) := by
    funext i
    unfold trEl tbD
    by_cases hi : i < (lb.mergeSort fun x y => !(ltOf cfB) y x).length
    · rw [hg _ i hi]
    · have e1 : (lb.mergeSort fun x y => !(ltOf cfB) y x).getD i default = default := by
        rw [List.getD_eq_getElem?_getD, List.getElem?_eq_none (by omega)]; rfl
      have e2 : (trTs ((lb.mergeSort fun x y => !(ltOf cfB) y x).map (fun t : TB => t.1))).getD i default = default := by
        rw [List.getD_eq_getElem?_getD, List.getElem?_eq_none (by unfold trTs; simp; simpa using hi)]; rfl
      rw [e1, e2]; rfl
  rw [← he]
  exact h
end Go.Ch

/- slices.Clone, Compact, Reverse of points; geometry's apart. -/
namespace Go.Ch
open Go Go.Ax Go.Proofs Go.Proofs.Tryz Go.Hull
set_option maxRecDepth 100000
set_option pp.maxSteps 400
set_option maxHeartbeats 1000000

theorem ptFit (l : List Pt) (k j : Nat) : j < 2 → (ptEl l k j).fit = true := fun h => by
  match j, h with
  | 0, _ => rfl
  | 1, _ => rfl
theorem ClonePO (l : List Pt) (h0 : l ≠ []) (hl : l.length ≤ 1000000) : CallR Tryz.prog 92 [pts l] [] (.s (.own 7)) [(7, .row 39 l.length 2 (ptEl l))] := by
  refine callO_of_ex (rc := []) (N := 8) Tryz.func92 rfl rfl Tryz.call92 tab_ok mix rfl rfl rfl rfl (fun cx href => ?_)
  intro b hb
  refine And.intro (fun h => ?_) (fun h => ?_)
  · exact absurd (List.length_eq_zero_iff.1 (hb h)) h0
  · refine ob (show (0 + l.length) * 16 ≤ 140737488355328 by omega) ?_
    refine ob (fun k j hk hj => ptFit l k j hj) ?_
    refine ⟨LeQ.rfl, ?_, trivial⟩
    show some (some (Box.row 39 (0 + l.length) 2 (catF 0 _ (ptEl l)))) = _
    rw [Nat.zero_add, catF0]
theorem ClonePNil : CallP Tryz.prog 92 [pts []] (pts []) := by
  refine callP_of_ex (rc := []) (N := 8) Tryz.func92 rfl rfl Tryz.call92 tab_ok mix rfl rfl (fun cx href => ?_)
  intro b hb
  refine And.intro (fun h => ?_) (fun h => ?_)
  · exact SubR.le (LeD.nil (s' := 2) (f := ptEl []))
  · refine ob (show (0 + 0) * 16 ≤ 140737488355328 by omega) ?_
    refine ob (fun k j hk hj => absurd hk (Nat.not_lt_zero k)) ?_
    exact SubR.le (LeD.slc' rfl fun i j hi hj => absurd hi (Nat.not_lt_zero i))
/-- No point equals the one before it. -/
def Adj (l : List Pt) : Prop := ∀ i, i + 1 < l.length → l.getD (i + 1) default ≠ l.getD i default
theorem CompactR (l : List Pt) (ha : Adj l) (hl : l.length ≤ 1000000) :
    CallR Tryz.prog 95 [.s (.own 1001)] [(1001, .row 39 l.length 2 (ptEl l))] (.s (.own 1001)) [(1001, .row 39 l.length 2 (ptEl l))] := by
  refine callO_of_ex (rc := []) (N := 61) Tryz.func95 rfl rfl Tryz.call95 tab_ok mix rfl rfl rfl rfl (fun cx href => ?_)
  refine And.intro (fun h => ?_) (fun h => ?_)
  · exact ⟨LeQ.rfl, rfl, trivial⟩
  have h0 : ¬ (l.length : Int) < 2 := decF h
  refine AW.loopI (fun k : Nat => ⟨[(0, .s (.own 1001)), (3, vI k)], [(1001, some (.row 39 l.length 2 (ptEl l)))]⟩)
    (fun k => 1 ≤ k ∧ k ≤ l.length) (fun k => l.length - k) 1 ⟨Nat.le_refl _, by omega⟩ ?_ ?_
  · exact SubI.of [] (by rw [href]; rfl) rfl ⟨⟨rfl, LeBx.rfl⟩, trivial⟩ ⟨⟨rfl, LeQ.rfl⟩, ⟨rfl, LeQ.rfl⟩, trivial⟩
  · rintro k ⟨k1, k2⟩
    refine ex.sound (rc := []) tab_ok mix href _ ?_
    refine And.intro (fun h => ?_) (fun h => ?_)
    · have h : (k : Int) < l.length := decT h
      have ew : w64 ((k : Int) - 1) = (k : Int) - 1 := w64_of (by omega) (by omega)
      refine oi ⟨by omega, by omega⟩ ?_
      refine oi (show ((k : Int)).toNat < l.length by omega) ?_
      refine oi (show 0 ≤ w64 ((k : Int) - 1) ∧ w64 ((k : Int) - 1) < (l.length : Int) by rw [ew]; omega) ?_
      refine oi (show (w64 ((k : Int) - 1)).toNat < l.length by rw [ew]; omega) ?_
      refine And.intro (by kernel_rfl) ?_
      refine And.intro (fun h2 => ?_) (fun h2 => ?_)
      · exfalso
        have h2 : (l.getD k default == l.getD (w64 ((k : Int) - 1)).toNat default) = true := by rw [← pt_beq]; exact h2
        rw [ew, show ((k : Int) - 1).toNat = k - 1 by omega, beq_iff_eq] at h2
        have := ha (k - 1) (by omega)
        rw [show k - 1 + 1 = k by omega] at this
        exact this h2
      · refine ⟨k + 1, ⟨by omega, by omega⟩, by omega, ?_⟩
        exact SubI.of [] (by rw [href]; rfl) rfl ⟨⟨rfl, LeBx.rfl⟩, trivial⟩ ⟨⟨rfl, LeQ.rfl⟩, ⟨rfl, LeQ.int (w64_of (by omega) (by omega))⟩, trivial⟩
    · exact ⟨LeQ.rfl, rfl, trivial⟩
end Go.Ch

/- slices.Reverse of points; geometry's apart. -/
namespace Go.Ch
open Go Go.Ax Go.Proofs Go.Proofs.Tryz Go.Hull
set_option maxRecDepth 100000
set_option pp.maxSteps 400
set_option maxHeartbeats 1000000

/-- k points from both ends exchanged. -/
def rvP (l : List Pt) (k i : Nat) : Pt := if i < k ∨ l.length - k ≤ i then l.getD (l.length - 1 - i) default else l.getD i default
def rvF (l : List Pt) (k : Nat) : Nat → Nat → DV := fun i => ptD (rvP l k i)
theorem rowSet_self2 {f : Nat → Nat → DV} {i j : Nat} {x y : DV} (hj : j < 2) : rowSet f i 0 [.d x, .d y] i j = match j with | 0 => x | _ => y := by
  unfold rowSet
  rw [if_pos rfl]
  match j, hj with
  | 0, _ => rfl
  | 1, _ => rfl
theorem rv_step {l : List Pt} {k : Nat} (hk : 2 * k + 1 < l.length) {i j : Nat} (hi : i < l.length) (hj : j < 2) :
    rowSet (rowSet (rvF l k) k 0 [.d (rvF l k (l.length - 1 - k) 0), .d (rvF l k (l.length - 1 - k) 1)]) (l.length - 1 - k) 0 [.d (rvF l k k 0), .d (rvF l k k 1)] i j = rvF l (k + 1) i j := by
  have e1 : rvP l k (l.length - 1 - k) = l.getD (l.length - 1 - k) default := by unfold rvP; rw [if_neg (by omega)]
  have e2 : rvP l k k = l.getD k default := by unfold rvP; rw [if_neg (by omega)]
  by_cases h1 : i = l.length - 1 - k
  · subst h1
    rw [rowSet_self2 hj]
    have e3 : rvP l (k + 1) (l.length - 1 - k) = l.getD k default := by
      unfold rvP; rw [if_pos (by omega)]; congr 1; omega
    unfold rvF
    rw [e2, e3]
    match j, hj with
    | 0, _ => rfl
    | 1, _ => rfl
  · rw [rowSet_ne h1]
    by_cases h2 : i = k
    · subst h2
      rw [rowSet_self2 hj]
      have e3 : rvP l (i + 1) i = l.getD (l.length - 1 - i) default := by
        unfold rvP; rw [if_pos (by omega)]
      unfold rvF
      rw [e1, e3]
      match j, hj with
      | 0, _ => rfl
      | 1, _ => rfl
    · rw [rowSet_ne h2]
      unfold rvF
      congr 1
      unfold rvP
      by_cases h3 : i < k ∨ l.length - k ≤ i
      · rw [if_pos h3, if_pos (by omega)]
      · rw [if_neg h3, if_neg (by omega)]
theorem rv_end (l : List Pt) {i : Nat} (hi : i < l.length) : rvP l (l.length / 2) i = l.reverse.getD i default := by
  unfold rvP
  rw [List.getD_eq_getElem?_getD (l := l.reverse), List.getElem?_reverse hi]
  by_cases h : i < l.length / 2 ∨ l.length - l.length / 2 ≤ i
  · rw [if_pos h, List.getD_eq_getElem?_getD]
  · rw [if_neg h, List.getD_eq_getElem?_getD]
    congr 2; omega
theorem ReverseP (l : List Pt) (h0 : 0 < l.length) (hl : l.length ≤ 1000000) :
    CallR Tryz.prog 96 [.s (.own 1001)] [(1001, .row 39 l.length 2 (ptEl l))] (.t []) [(1001, .row 39 l.length 2 (rvF l (l.length / 2)))] := by
  refine callQ_of_ex (rc := []) (N := 28) Tryz.func96 rfl rfl Tryz.call96 tab_ok mix rfl rfl rfl (fun cx href => ?_)
  refine AW.loopI (fun k : Nat => ⟨[(0, .s (.own 1001)), (2, vI k), (3, vI ((l.length : Int) - 1 - k))], [(1001, some (.row 39 l.length 2 (rvF l k)))]⟩)
    (fun k => 2 * k ≤ l.length) (fun k => l.length - k) 0 (Nat.zero_le _) ?_ ?_
  · refine SubI.of [] (by rw [href]; rfl) rfl ⟨⟨rfl, LeBx.row rfl fun i j hi hj => LeD.of_eq ?_⟩, trivial⟩ ⟨⟨rfl, LeQ.rfl⟩, ⟨rfl, LeQ.rfl⟩, ⟨rfl, LeQ.int ?_⟩, trivial⟩
    · unfold rvF rvP
      rw [if_neg (by omega)]; rfl
    · exact (w64_of (by omega) (by omega)).trans (by omega)
  · intro k hk
    refine ex.sound (rc := []) tab_ok mix href _ ?_
    refine And.intro (fun h => ?_) (fun h => ?_)
    · have h : (k : Int) < (l.length : Int) - 1 - k := decT h
      refine oi ⟨by omega, by omega⟩ ?_
      refine oi (show ((l.length : Int) - 1 - k).toNat < l.length by omega) ?_
      refine oi ⟨by omega, by omega⟩ ?_
      refine oi (show ((k : Int)).toNat < l.length by omega) ?_
      refine oi ⟨by omega, by omega⟩ ?_
      refine ob (show ((k : Int)).toNat < l.length by omega) ?_
      refine oi ⟨by omega, by omega⟩ ?_
      refine ob (show ((l.length : Int) - 1 - k).toNat < l.length by omega) ?_
      refine And.intro (by kernel_rfl) ?_
      refine ⟨k + 1, by omega, by omega, ?_⟩
      refine SubI.of [] (by rw [href]; rfl) rfl ⟨⟨rfl, LeBx.row rfl fun i j hi hj => LeD.of_eq ?_⟩, trivial⟩ ⟨⟨rfl, LeQ.rfl⟩, ⟨rfl, LeQ.int (w64_of (by omega) (by omega))⟩, ⟨rfl, LeQ.int ?_⟩, trivial⟩
      · rw [← rv_step (l := l) (k := k) (by omega) hi hj]
        show rowSet (rowSet (rvF l k) ((k : Int)).toNat 0 [.d (rvF l k ((l.length : Int) - 1 - k).toNat 0), .d (rvF l k ((l.length : Int) - 1 - k).toNat 1)]) ((l.length : Int) - 1 - k).toNat 0 [.d (rvF l k ((k : Int)).toNat 0), .d (rvF l k ((k : Int)).toNat 1)] i j = _
        rw [show ((l.length : Int) - 1 - k).toNat = l.length - 1 - k by omega, Int.toNat_natCast]
      · exact (w64_of (by omega) (by omega)).trans (by omega)
    · have h : ¬ (k : Int) < (l.length : Int) - 1 - k := decF h
      obtain rfl : k = l.length / 2 := by omega
      exact ⟨rfl, trivial⟩
theorem ReversePR (l : List Pt) (h0 : 0 < l.length) (hl : l.length ≤ 1000000) :
    CallR Tryz.prog 96 [.s (.own 1001)] [(1001, .row 39 l.length 2 (ptEl l))] (.t []) [(1001, .row 39 l.length 2 (rvF l (l.length / 2)))] := ReverseP l h0 hl
/-- geometry.apart -/
theorem gApart (l : List Pt) (hg : ∀ p ∈ l, okP p) (hl : l.length ≤ 1000000) : CallP Tryz.prog 78 [pts l] (vB (apartB l)) := by
  refine callP_of_ex (rc := []) (N := 35) Tryz.func78 rfl rfl Tryz.call78 tab_ok mix rfl rfl (fun cx href => ?_)
  have hat : ∀ i, i < l.length → okP (l.getD i default) := fun i hi => by rw [getD_at hi]; exact hg _ (List.getElem_mem hi)
  refine AW.loopI (fun i : Nat => ⟨[(0, pts l), (7, pts l), (8, vI l.length), (9, vI i)], []⟩)
    (fun i => i ≤ l.length ∧ apartB l = (l.drop i).any fun p => l.any fun q => far p q) (fun i => l.length - i) 0 ⟨Nat.zero_le _, rfl⟩ ?_ ?_
  · exact SubI.of0 href [] rfl trivial ⟨⟨rfl, LeQ.rfl⟩, ⟨rfl, LeQ.rfl⟩, ⟨rfl, LeQ.rfl⟩, ⟨rfl, LeQ.rfl⟩, trivial⟩
  · rintro i ⟨hi, hj⟩
    refine ex.sound (rc := []) tab_ok mix href _ ?_
    refine And.intro (fun h => ?_) (fun h => ?_)
    · have h : (i : Int) < l.length := decT h
      have hi' : i < l.length := by omega
      have hp := hat i hi'
      rw [List.drop_eq_getElem_cons hi', List.any_cons] at hj
      have e0 : l.getD i default = l[i] := getD_at hi'
      refine oi ⟨by omega, by omega⟩ ?_
      refine AW.loopI (fun k : Nat => ⟨[(0, pts l), (4, .s (.ptr 4 0)), (7, pts l), (8, vI l.length), (9, vI i), (13, pts l), (14, vI l.length), (15, vI k)], [(4, some (.cells [.d (dI (l.getD i default).x), .d (dI (l.getD i default).y)]))]⟩)
        (fun k => k ≤ l.length ∧ (l.any fun q => far l[i] q) = (l.drop k).any fun q => far l[i] q) (fun k => l.length - k) 0 ⟨Nat.zero_le _, rfl⟩ ?_ ?_
      · exact SubI.of0 href [] rfl ⟨⟨rfl, LeBx.rfl⟩, trivial⟩ ⟨⟨rfl, LeQ.rfl⟩, ⟨rfl, LeQ.rfl⟩, ⟨rfl, LeQ.rfl⟩, ⟨rfl, LeQ.rfl⟩, ⟨rfl, LeQ.rfl⟩, ⟨rfl, LeQ.rfl⟩, ⟨rfl, LeQ.rfl⟩, ⟨rfl, LeQ.rfl⟩, trivial⟩
      · rintro k ⟨hk, hm⟩
        refine ex.sound (rc := []) tab_ok mix href _ ?_
        refine And.intro (fun h2 => ?_) (fun h2 => ?_)
        · have h2 : (k : Int) < l.length := decT h2
          have hk' : k < l.length := by omega
          have hq := hat k hk'
          rw [List.drop_eq_getElem_cons hk', List.any_cons] at hm
          have e1 : l.getD k default = l[k] := getD_at hk'
          unfold okP at hp hq
          have w1 : w64 ((l.getD i default).x - (l.getD k default).x) = (l.getD i default).x - (l.getD k default).x := w64_of (by omega) (by omega)
          have w2 : w64 ((l.getD i default).y - (l.getD k default).y) = (l.getD i default).y - (l.getD k default).y := w64_of (by omega) (by omega)
          refine oi ⟨by omega, by omega⟩ ?_
          repeat first | refine sk ?_ | refine st ?_ | refine sg ?_ | refine sh ?_ | refine su ?_ | refine sn1 ?_ | refine sn0 ?_ | refine And.intro (show imp none (gimp _ none) from trivial) ?_
          have hf : ∀ b, (decide (w64 ((l.getD i default).x - (l.getD k default).x) > 20000) || decide (w64 ((l.getD i default).y - (l.getD k default).y) > 20000)) = b → far l[i] l[k] = b := by
            intro b h
            rw [w1, w2, e0, e1] at h
            exact h
          refine And.intro (fun h3 => ?_) (fun h3 => ?_)
          · have h3 := hf _ h3
            exact SubR.lit (by rw [hj, hm, h3]; rfl)
          · have h3 := hf _ h3
            refine ⟨k + 1, ⟨by omega, by rw [hm, h3]; rfl⟩, by omega, ?_⟩
            exact SubI.of0 href [] rfl ⟨⟨rfl, LeBx.rfl⟩, trivial⟩ ⟨⟨rfl, LeQ.rfl⟩, ⟨rfl, LeQ.rfl⟩, ⟨rfl, LeQ.rfl⟩, ⟨rfl, LeQ.rfl⟩, ⟨rfl, LeQ.rfl⟩, ⟨rfl, LeQ.rfl⟩, ⟨rfl, LeQ.rfl⟩, ⟨rfl, LeQ.int (w64_of (by omega) (by omega))⟩, trivial⟩
        · have h2 : ¬ (k : Int) < l.length := decF h2
          obtain rfl : k = l.length := by omega
          rw [List.drop_length] at hm
          refine ⟨i + 1, ⟨by omega, by rw [hj, hm]; rfl⟩, by omega, ?_⟩
          exact SubI.of0 href [] rfl trivial ⟨⟨rfl, LeQ.rfl⟩, ⟨rfl, LeQ.rfl⟩, ⟨rfl, LeQ.rfl⟩, ⟨rfl, LeQ.int (w64_of (by omega) (by omega))⟩, trivial⟩
    · have h : ¬ (i : Int) < l.length := decF h
      obtain rfl : i = l.length := by omega
      rw [List.drop_length] at hj
      exact SubR.lit (by rw [hj]; rfl)
end Go.Ch

/- geometry.hull: no points; the words for its rounds. -/
namespace Go.Ch
open Go Go.Ax Go.Proofs Go.Proofs.Tryz Go.Hull
set_option maxRecDepth 100000
set_option pp.maxSteps 400
set_option maxHeartbeats 1000000

theorem SortPNil (a : AV) : CallP Tryz.prog 93 [pts [], a] (.t []) := by
  refine ⟨Tryz.call93, fun M w vs hr hM => ?_⟩
  match vs, hr with
  | [v, v2], ⟨hv, hv2, _⟩ =>
    obtain ⟨ad, cap, rfl, _⟩ := hv
    refine (AnyF.slices_SortFunc_none (P := Tryz.prog) (ρ := Tryz.laysP_ren) { Tryz.laysP with } ad cap v2 w).mono ?_
    rintro e w' ⟨he, rfl⟩
    exact ⟨.tuple #[], M, he, ⟨[], rfl, trivial⟩, Grow.refl _ _, hM, ⟨⟨rfl, rfl, rfl, Nat.le_refl _, fun _ _ => rfl⟩, Nat.le_refl _⟩⟩
  | [], h => exact h.elim
  | [_], h => exact h.2.elim
  | _ :: _ :: _ :: _, h => exact h.2.2.elim
theorem CompactPNil : CallP Tryz.prog 95 [pts []] (pts []) := by
  refine callP_of_ex (rc := []) (N := 61) Tryz.func95 rfl rfl Tryz.call95 tab_ok mix rfl rfl (fun cx href => ?_)
  refine And.intro (fun h => ?_) (fun h => ?_)
  · exact SubR.refl _
  · exact absurd (decF h) (by decide)
theorem hullNil : CallP Tryz.prog 79 [pts []] (pts []) := by
  refine callP_of_ex (rc := []) (N := 68) Tryz.func79 rfl rfl Tryz.call79 tab_ok mix rfl rfl (fun cx href => ?_)
  refine callN ClonePNil ?_
  refine callN (SortPNil _) ?_
  refine callN CompactPNil ?_
  refine And.intro (fun h => ?_) (fun h => ?_)
  · exact SubR.refl _
  · exact absurd (decF h) (by decide)
end Go.Ch
