/- Part Ch21: lemmas that the proofs of this seat share; by itself it claims nothing. -/
import Derived.Shelf.Sort.Plain
import Derived.Test.YtbocnnfadfbmeaaGreatChecked
import Derived.Shelf.Slices.In.SortNone
import Derived.Test.YtbocnnfadfbmeaaGreatCh20
namespace Go.Ch
open Go Go.Shelf Go.Proofs
def renSort : Ren where
  f :=
    fun n => match n with
    | 189 => 98
    | 125 => 121
    | 257 => 120
    | 128 => 141
    | 129 => 142
    | 294 => 132
    | 295 => 133
    | 296 => 134
    | 297 => 135
    | 298 => 136
    | 299 => 137
    | 216 => 138
    | 300 => 139
    | 301 => 140
    | 328 => 152
    | 329 => 153
    | 330 => 154
    | 331 => 155
    | 332 => 156
    | 215 => 157
    | 343 => 162
    | n => n
  t :=
    fun n => match n with
    | 28 => 26
    | 3 => 3
    | 46 => 119
    | 0 => 0
    | 51 => 142
    | 53 => 145
    | 4 => 4
    | 183 => 169
    | 182 => 168
    | 131 => 45
    | 5 => 5
    | 9 => 9
    | 218 => 177
    | 222 => 181
    | 228 => 183
    | 229 => 148
    | n => n
  g :=
    fun n => n
set_option maxRecDepth 100000 in
theorem laysSort : Lays.n189 Tryz.prog renSort where
  mixed := by kernel_rfl
  f125 := Tryz.func121.trans (congrArg some (by kernel_rfl))
  f128 := Tryz.func141.trans (congrArg some (by kernel_rfl))
  f129 := Tryz.func142.trans (congrArg some (by kernel_rfl))
  f189 := Tryz.func98.trans (congrArg some (by kernel_rfl))
  f215 := Tryz.func157.trans (congrArg some (by kernel_rfl))
  f216 := Tryz.func138.trans (congrArg some (by kernel_rfl))
  f257 := Tryz.func120.trans (congrArg some (by kernel_rfl))
  f294 := Tryz.func132.trans (congrArg some (by kernel_rfl))
  f295 := Tryz.func133.trans (congrArg some (by kernel_rfl))
  f296 := Tryz.func134.trans (congrArg some (by kernel_rfl))
  f297 := Tryz.func135.trans (congrArg some (by kernel_rfl))
  f298 := Tryz.func136.trans (congrArg some (by kernel_rfl))
  f299 := Tryz.func137.trans (congrArg some (by kernel_rfl))
  f300 := Tryz.func139.trans (congrArg some (by kernel_rfl))
  f301 := Tryz.func140.trans (congrArg some (by kernel_rfl))
  f328 := Tryz.func152.trans (congrArg some (by kernel_rfl))
  f329 := Tryz.func153.trans (congrArg some (by kernel_rfl))
  f330 := Tryz.func154.trans (congrArg some (by kernel_rfl))
  f331 := Tryz.func155.trans (congrArg some (by kernel_rfl))
  f332 := Tryz.func156.trans (congrArg some (by kernel_rfl))
  f343 := Tryz.func162.trans (congrArg some (by kernel_rfl))
  t0 := Tryz.underlying0
  a0 := Tryz.isAgg0
  z0 := Tryz.sizeOf0
  v0 := Tryz.zeroValue0
  t3 := Tryz.underlying3
  a3 := Tryz.isAgg3
  z3 := Tryz.sizeOf3
  v3 := Tryz.zeroValue3
  t4 := Tryz.underlying4
  a4 := Tryz.isAgg4
  z4 := Tryz.sizeOf4
  v4 := Tryz.zeroValue4
  t5 := Tryz.underlying5
  a5 := Tryz.isAgg5
  z5 := Tryz.sizeOf5
  v5 := Tryz.zeroValue5
  t9 := Tryz.underlying9
  a9 := Tryz.isAgg9
  z9 := Tryz.sizeOf9
  v9 := Tryz.zeroValue9
  t28 := Tryz.underlying26
  a28 := Tryz.isAgg26
  z28 := Tryz.sizeOf26
  v28 := Tryz.zeroValue26
  t46 := Tryz.underlying119
  a46 := Tryz.isAgg119
  z46 := Tryz.sizeOf119
  v46 := Tryz.zeroValue119
  t51 := Tryz.underlying142
  a51 := Tryz.isAgg142
  z51 := Tryz.sizeOf142
  v51 := Tryz.zeroValue142
  t53 := Tryz.underlying145
  a53 := Tryz.isAgg145
  z53 := Tryz.sizeOf145
  v53 := Tryz.zeroValue145
  t131 := Tryz.underlying45
  a131 := Tryz.isAgg45
  z131 := Tryz.sizeOf45
  v131 := Tryz.zeroValue45
  t182 := Tryz.underlying168
  a182 := Tryz.isAgg168
  z182 := Tryz.sizeOf168
  v182 := Tryz.zeroValue168
  t183 := Tryz.underlying169
  a183 := Tryz.isAgg169
  z183 := Tryz.sizeOf169
  v183 := Tryz.zeroValue169
  t218 := Tryz.underlying177
  a218 := Tryz.isAgg177
  z218 := Tryz.sizeOf177
  v218 := Tryz.zeroValue177
  t222 := Tryz.underlying181
  a222 := Tryz.isAgg181
  z222 := Tryz.sizeOf181
  v222 := Tryz.zeroValue181
  t228 := Tryz.underlying183
  a228 := Tryz.isAgg183
  z228 := Tryz.sizeOf183
  v228 := Tryz.zeroValue183
  t229 := Tryz.underlying148
  a229 := Tryz.isAgg148
  z229 := Tryz.sizeOf148
  v229 := Tryz.zeroValue148
end Go.Ch

/- The different levels, ascending, as plain lists. -/
namespace Go.Ch
open Go.Ax

abbrev leI (x y : Int) : Bool := decide (x ≤ y)
abbrev sortI (l : List Int) : List Int := l.mergeSort fun x y => decide (x ≤ y)
theorem sortI_pw (l : List Int) : (sortI l).Pairwise (fun a b => a ≤ b) :=
  (List.pairwise_mergeSort (le := fun x y : Int => decide (x ≤ y)) (fun a b c h1 h2 => by simp at *; omega) (fun a b => by simp; omega) l).imp fun h => of_decide_eq_true h
theorem sortI_perm {l m : List Int} (h : l.Perm m) : sortI l = sortI m :=
  List.Perm.eq_of_pairwise (le := fun a b => a ≤ b) (fun a b _ _ h1 h2 => by omega) (sortI_pw l) (sortI_pw m)
    ((List.mergeSort_perm l _).trans (h.trans (List.mergeSort_perm m _).symm))
theorem sortI_mem {l : List Int} {x : Int} : x ∈ sortI l ↔ x ∈ l := (List.mergeSort_perm l _).mem_iff
theorem sortI_len {l : List Int} : (sortI l).length = l.length := (List.mergeSort_perm l _).length_eq
def keyAt (b : List (Int × Int)) (i : Nat) : Int := (b.getD i (0, 0)).1
theorem keyAt_range (b : List (Int × Int)) : (List.range b.length).map (keyAt b) = b.map (·.1) := by
  apply List.ext_getElem (by simp)
  intro i h1 h2
  have : i < b.length := by simpa using h1
  simp [keyAt, this]
theorem keys_sort {b : List (Int × Int)} {sn : List Nat} (hn : sn.Nodup) (hlt : ∀ i ∈ sn, i < b.length) (hall : ∀ i, i < b.length → i ∈ sn) : sortI (sn.reverse.map (keyAt b)) = sortI (b.map (·.1)) := by
  refine sortI_perm ?_
  rw [← keyAt_range]
  refine List.Perm.map _ ?_
  refine (List.reverse_perm sn).trans ?_
  exact (List.perm_ext_iff_of_nodup hn List.nodup_range).2 fun i => ⟨fun h => List.mem_range.2 (hlt i h), fun h => hall i (List.mem_range.1 h)⟩

def lvS (lv : List Int) (b : List (Int × Int)) (i : Nat) : List (Int × Int) := bif lv.getD i 0 != 30000 then setM b (lv.getD i 0) 1 else b
def lvF (lv : List Int) : Nat → List (Int × Int)
  | 0 => []
  | i + 1 => lvS lv (lvF lv i) i
theorem setM_len {b : List (Int × Int)} {k v : Int} : (setM b k v).length ≤ b.length + 1 := by
  induction b with
  | nil => simp [setM]
  | cons x r ih =>
    obtain ⟨a, u⟩ := x
    rw [setM]
    cases k == a with
    | true => simp
    | false => simpa using ih
theorem lvF_len (lv : List Int) : ∀ i, (lvF lv i).length ≤ i
  | 0 => Nat.le_refl _
  | i + 1 => by
    have ih := lvF_len lv i
    rw [lvF, lvS]
    cases lv.getD i 0 != 30000 with
    | true => have := setM_len (b := lvF lv i) (k := lv.getD i 0) (v := 1); rw [cond_true]; omega
    | false => rw [cond_false]; omega
theorem lvF_mem (lv : List Int) (x : Int) : ∀ i, i ≤ lv.length → (hasM (lvF lv i) x = true ↔ x ≠ 30000 ∧ ∃ k, k < i ∧ lv.getD k 0 = x)
  | 0, _ => by simp [lvF, hasM, findM]
  | i + 1, h => by
    have ih := lvF_mem lv x i (by omega)
    rw [lvF, lvS]
    cases hk : lv.getD i 0 != 30000 with
    | true =>
      have hk' : lv.getD i 0 ≠ 30000 := by simpa using hk
      rw [cond_true, hasM_set, Bool.or_eq_true, ih]
      constructor
      · rintro (e | ⟨e, k, h1, h2⟩)
        · have e : x = lv.getD i 0 := by simpa using e
          exact ⟨by rw [e]; exact hk', i, by omega, e.symm⟩
        · exact ⟨e, k, by omega, h2⟩
      · rintro ⟨e, k, h1, h2⟩
        by_cases hki : k = i
        · subst hki; left; rw [h2]; simp
        · exact .inr ⟨e, k, by omega, h2⟩
    | false =>
      have hk' : lv.getD i 0 = 30000 := by simpa using hk
      rw [cond_false, ih]
      constructor
      · rintro ⟨e, k, h1, h2⟩; exact ⟨e, k, by omega, h2⟩
      · rintro ⟨e, k, h1, h2⟩
        by_cases hki : k = i
        · subst hki; rw [hk'] at h2; exact absurd h2.symm e
        · exact ⟨e, k, by omega, h2⟩
def levelsL (lv : List Int) : List Int := sortI ((lvF lv lv.length).map (·.1))
theorem levelsL_mem {lv : List Int} {x : Int} : x ∈ levelsL lv ↔ x ≠ 30000 ∧ x ∈ lv := by
  unfold levelsL
  rw [sortI_mem, ← hasM_mem, lvF_mem lv x lv.length (Nat.le_refl _)]
  refine and_congr_right fun _ => ⟨fun ⟨k, h1, h2⟩ => ?_, fun h => ?_⟩
  · rw [List.getD_eq_getElem?_getD, List.getElem?_eq_getElem h1] at h2
    rw [← h2]; exact List.getElem_mem h1
  · obtain ⟨k, h1, h2⟩ := List.mem_iff_getElem.1 h
    exact ⟨k, h1, by rw [List.getD_eq_getElem?_getD, List.getElem?_eq_getElem h1]; exact h2⟩
theorem levelsL_len {lv : List Int} : (levelsL lv).length ≤ lv.length := by
  unfold levelsL
  rw [sortI_len, List.length_map]
  exact lvF_len lv lv.length
end Go.Ch

namespace Go.Ch
open Go Go.Ax Go.Proofs Go.Proofs.Tryz
set_option maxRecDepth 100000
set_option pp.maxSteps 400
set_option maxHeartbeats 1000000

def there (g : Grid) (i : Int) : Bool := within i 0 ((g.levels.length : Int) - 1)
def levelAt (g : Grid) (i : Int) : Int := g.levels.getD i.toNat 0
def knownG (g : Grid) (i : Int) : Bool := there g i && levelAt g i != 30000
theorem there_iff {g : Grid} {i : Int} : there g i = true ↔ 0 ≤ i ∧ i < g.levels.length := by
  unfold there within
  simp; omega
theorem knownI (g : Grid) (i : Int) (hl : g.levels.length ≤ 1000000) : CallP Tryz.prog 66 [grid g, vI i] (vB (knownG g i)) := by
  refine callP_of_ex (rc := []) (N := 20) Tryz.func66 rfl rfl Tryz.call66 tab_ok mix rfl rfl (fun cx _ => ?_)
  have e : outL 0 (w64 ((g.levels.length : Int) - 1)) [i] = !there g i := by
    rw [w64_of (by omega) (by omega)]
    simp [outL, there]
  refine callN ((bbetween 0 (w64 ((g.levels.length : Int) - 1)) [i] (by simp)).conv (args' := _) ⟨LeD.refl _, LeD.refl _, LeD.slc fun i j hi hj => ?_, trivial⟩) ?_
  · obtain rfl : i = 0 := by have : i < 1 := hi; omega
    obtain rfl : j = 0 := by have : j < 1 := hj; omega
    exact LeD.of_eq rfl
  repeat first | refine sk ?_ | refine st ?_ | refine sg ?_ | refine sh ?_ | refine su ?_ | refine sn1 ?_ | refine sn0 ?_
  refine og (fun h => ?_) ?_
  · rw [e, Bool.not_not] at h
    have := there_iff.1 h
    exact ⟨by omega, by omega⟩
  repeat first | refine sk ?_ | refine st ?_ | refine sg ?_ | refine sh ?_ | refine su ?_ | refine sn1 ?_ | refine sn0 ?_
  refine SubR.of_eq ?_
  show vB ((!outL 0 (w64 ((g.levels.length : Int) - 1)) [i]) && (g.levels.getD i.toNat 0 != 30000)) = _
  rw [e, Bool.not_not]; rfl

/-- The first error of the ends of a way. -/
def endsErr (g : Grid) (l : List Int) : Int := bif l.all (there g) then 0 else 6
def endsG (g : Grid) (fr to : List Int) : Int := bif errG g != 0 then errG g else bif fr.isEmpty || to.isEmpty then 10 else endsErr g (fr ++ to)
theorem len0 {α : Type} {l : List α} : ((l.length : Int) == 0) = l.isEmpty := by
  cases l with
  | nil => rfl
  | cons a r => simp; omega
theorem ends (g : Grid) (fr to : List Int) (hg : g.ok) (hf : fr.length ≤ 1000) (ht : to.length ≤ 1000) : CallP Tryz.prog 62 [grid g, vInts fr, vInts to] (vI (endsG g fr to)) := by
  have hl := hg.levels
  refine callP_of_ex (rc := [97]) (N := 40) Tryz.func62 rfl rfl Tryz.call62 tab_ok mix rfl rfl (fun cx href => ?_)
  refine callN (bcheck g hl) ?_
  refine And.intro (fun h => ?_) (fun h => ?_)
  · have h : (errG g != 0) = true := h
    exact SubR.of_eq (by unfold endsG; rw [h]; rfl)
  have h : (errG g != 0) = false := h
  repeat first | refine sk ?_ | refine st ?_ | refine sg ?_ | refine sh ?_ | refine su ?_ | refine sn1 ?_ | refine sn0 ?_
  refine And.intro (fun h2 => ?_) (fun h2 => ?_)
  · have h2 : (((fr.length : Int) == 0) || ((to.length : Int) == 0)) = true := h2
    rw [len0, len0] at h2
    exact SubR.of_eq (by unfold endsG; rw [h, h2]; rfl)
  have h2 : (((fr.length : Int) == 0) || ((to.length : Int) == 0)) = false := h2
  rw [len0, len0] at h2
  have hne : 0 < fr.length ∧ 0 < to.length := by
    rw [Bool.or_eq_false_iff] at h2
    constructor
    · cases fr with
      | nil => cases h2.1
      | cons => simp
    · cases to with
      | nil => cases h2.2
      | cons => simp
  have hj : [fr, to].flatten = fr ++ to := by simp
  refine ⟨[(1001, 26)], _, _, _, _, ConcatR [fr, to] _ (fun i j hi hj => ?_) (by show 0 < 0 + fr.length + to.length; have := hne.1; omega) (by show 0 + fr.length + to.length ≤ _; omega) (by simp), rfl, ⟨rfl, trivial⟩, rfl, ?_⟩
  · have hi : i < 2 := hi
    obtain rfl : j = 0 := by omega
    match i, hi with
    | 0, _ => exact LeD.of_eq rfl
    | 1, _ => exact LeD.of_eq rfl
  rw [hj]
  have hlen : (fr ++ to).length ≤ 2000 := by rw [List.length_append]; omega
  have hres : endsG g fr to = endsErr g (fr ++ to) := by unfold endsG; rw [h, h2]; rfl
  rw [hres]
  generalize fr ++ to = l at hlen ⊢
  refine AW.loopI (fun i : Nat => ⟨[(3, .s (.ptr 3 0)), (27, vInts l), (28, vI l.length), (29, vI i)], [(3, some (gridB g))]⟩)
    (fun i => i ≤ l.length ∧ endsErr g l = endsErr g (l.drop i)) (fun i => l.length - i) 0 ⟨Nat.zero_le _, rfl⟩ ?_ ?_
  · exact SubI.of0 href [] rfl ⟨⟨rfl, LeBx.rfl⟩, trivial⟩ ⟨⟨rfl, LeQ.rfl⟩, ⟨rfl, LeQ.rfl⟩, ⟨rfl, LeQ.rfl⟩, ⟨rfl, LeQ.rfl⟩, trivial⟩
  · rintro i ⟨hi, hj⟩
    refine ex.sound (rc := [97]) tab_ok mix href _ ?_
    refine And.intro (fun h3 => ?_) (fun h3 => ?_)
    · have h3 : (i : Int) < l.length := decT h3
      have hi' : i < l.length := by omega
      rw [List.drop_eq_getElem_cons hi'] at hj
      have hx : l.getD i 0 = l[i] := by simp [hi']
      refine oi ⟨by omega, by omega⟩ ?_
      refine callN (hasG g (l.getD i 0) hg) ?_
      rw [hx, h, cond_false]
      cases ht : within l[i] 0 ((g.levels.length : Int) - 1) with
      | true =>
        have ht' : there g l[i] = true := ht
        refine And.intro (fun h4 => by cases h4) (fun _ => ?_)
        refine ⟨i + 1, ⟨by omega, ?_⟩, by omega, ?_⟩
        · rw [hj]; unfold endsErr; rw [List.all_cons, ht']; rfl
        · exact SubI.of0 href [] rfl ⟨⟨rfl, LeBx.rfl⟩, trivial⟩ ⟨⟨rfl, LeQ.rfl⟩, ⟨rfl, LeQ.rfl⟩, ⟨rfl, LeQ.rfl⟩, ⟨rfl, LeQ.int (w64_of (by omega) (by omega))⟩, trivial⟩
      | false =>
        have ht' : there g l[i] = false := ht
        refine And.intro (fun _ => ?_) (fun h4 => by cases h4)
        refine SubR.of_eq ?_
        rw [hj]; unfold endsErr; rw [List.all_cons, ht']; rfl
    · have h3 : ¬ (i : Int) < l.length := decF h3
      obtain rfl : i = l.length := by omega
      refine SubR.of_eq ?_
      rw [hj, List.drop_length]; rfl
end Go.Ch

namespace Go.Ch
open Go Go.Ax Go.Proofs Go.Proofs.Tryz
set_option maxRecDepth 100000
set_option pp.maxSteps 400
set_option maxHeartbeats 1000000

/-- The row while it is turned round: the outer k cells on each side are done. -/
def revF (l : List Int) (k : Nat) : Nat → Nat → DV := fun i _ => dI (if i < k ∨ l.length - 1 - k < i then l.getD (l.length - 1 - i) 0 else l.getD i 0)
theorem revF_step {l : List Int} {k : Nat} (hk : 2 * k + 1 < l.length) (i : Nat) (hi : i < l.length) :
    rowSet (rowSet (revF l k) k 0 [.d (dI (l.getD (l.length - 1 - k) 0))]) (l.length - 1 - k) 0 [.d (dI (l.getD k 0))] i 0 = revF l (k + 1) i 0 := by
  by_cases h1 : i = l.length - 1 - k
  · subst h1
    rw [rowSet_self]
    unfold revF
    rw [if_pos (by omega)]
    congr 2; omega
  · rw [rowSet_ne h1]
    by_cases h2 : i = k
    · subst h2
      rw [rowSet_self]
      unfold revF
      rw [if_pos (by omega)]
    · rw [rowSet_ne h2]
      unfold revF
      by_cases h3 : i < k ∨ l.length - 1 - k < i
      · rw [if_pos h3, if_pos (by omega)]
      · rw [if_neg h3, if_neg (by omega)]
theorem revF_end {l : List Int} {i : Nat} (hi : i < l.length) : revF l (l.length / 2) i 0 = intEl l.reverse i 0 := by
  unfold revF
  show dI _ = dI (l.reverse.getD i 0)
  simp only [List.getD_eq_getElem?_getD]
  rw [List.getElem?_reverse hi]
  by_cases h : i < l.length / 2 ∨ l.length - 1 - l.length / 2 < i
  · rw [if_pos h]
  · rw [if_neg h, show l.length - 1 - i = i by omega]
theorem ReverseR (l : List Int) (f0 : Nat → Nat → DV) (hf0 : ∀ i j, i < l.length → j < 1 → LeD (f0 i j) (intEl l i j)) (h0 : 0 < l.length) (hl : l.length ≤ 1000000) :
    CallR Tryz.prog 101 [.s (.own 1001)] [(1001, .row 3 l.length 1 f0)] (.t []) [(1001, .row 3 l.length 1 (revF l (l.length / 2)))] := by
  refine callQ_of_ex (rc := []) (N := 28) Tryz.func101 rfl rfl Tryz.call101 tab_ok mix rfl rfl rfl (fun cx href => ?_)
  have el : w64 ((l.length : Int) - 1) = ((l.length - 1 - 0 : Nat) : Int) := by rw [w64_of (by omega) (by omega)]; omega
  refine AW.loopI (fun k : Nat => ⟨[(0, .s (.own 1001)), (2, vI k), (3, vI ((l.length : Int) - 1 - k))], [(1001, some (.row 3 l.length 1 (revF l k)))]⟩)
    (fun k => 2 * k ≤ l.length) (fun k => l.length - k) 0 (Nat.zero_le _) ?_ ?_
  · refine SubI.of [] (by rw [href]; rfl) rfl ⟨⟨rfl, LeBx.row rfl fun i j hi hj => ?_⟩, trivial⟩ ⟨⟨rfl, LeQ.rfl⟩, ⟨rfl, LeQ.rfl⟩, ⟨rfl, LeQ.int ?_⟩, trivial⟩
    · obtain rfl : j = 0 := by omega
      have e : revF l 0 i 0 = intEl l i 0 := by unfold revF; rw [if_neg (by omega)]; rfl
      rw [e]; exact hf0 i 0 hi hj
    · exact (w64_of (by omega) (by omega)).trans (by omega)
  · intro k hk
    refine ex.sound (rc := []) tab_ok mix href _ ?_
    refine And.intro (fun h => ?_) (fun h => ?_)
    · have h : (k : Int) < (l.length : Int) - 1 - k := decT h
      refine oi ⟨by omega, by omega⟩ ?_
      refine oi (show ((l.length : Int) - 1 - k).toNat < l.length by omega) ?_
      refine oi ⟨by omega, by omega⟩ ?_
      refine oi (show ((k : Int)).toNat < l.length by omega) ?_
      refine oi ⟨by omega, by omega⟩ ?_
      refine ob (show ((k : Int)).toNat < l.length by omega) ?_
      refine oi ⟨by omega, by omega⟩ ?_
      refine ob (show ((l.length : Int) - 1 - k).toNat < l.length by omega) ?_
      refine And.intro (by kernel_rfl) ?_
      refine ⟨k + 1, by omega, by omega, ?_⟩
      refine SubI.of [] (by rw [href]; rfl) rfl ⟨⟨rfl, ?_⟩, trivial⟩ ⟨⟨rfl, LeQ.rfl⟩, ⟨rfl, LeQ.int (w64_of (by omega) (by omega))⟩, ⟨rfl, LeQ.int ?_⟩, trivial⟩
      · refine LeBx.row rfl fun i j hi hj => LeD.of_eq ?_
        obtain rfl : j = 0 := by omega
        have := revF_step (l := l) (k := k) (by omega) i hi
        rw [← this]
        show rowSet (rowSet (revF l k) ((k : Int)).toNat 0 [.d (revF l k ((l.length : Int) - 1 - k).toNat 0)]) ((l.length : Int) - 1 - k).toNat 0 [.d (revF l k ((k : Int)).toNat 0)] i 0 = _
        have e1 : ((l.length : Int) - 1 - k).toNat = l.length - 1 - k := by omega
        have e2 : revF l k (l.length - 1 - k) 0 = dI (l.getD (l.length - 1 - k) 0) := by unfold revF; rw [if_neg (by omega)]
        have e3 : revF l k k 0 = dI (l.getD k 0) := by unfold revF; rw [if_neg (by omega)]
        rw [e1, natOf, e2, e3]
      · exact (w64_of (by omega) (by omega)).trans (by omega)
    · have h : ¬ (k : Int) < (l.length : Int) - 1 - k := decF h
      obtain rfl : k = l.length / 2 := by omega
      exact ⟨rfl, trivial⟩
end Go.Ch

namespace Go.Ch
open Go Go.Ax Go.Sort Go.Proofs Go.Proofs.Tryz

theorem heap_sorted {w : World} {g n : Nat} {os : Array Obj} {cur : Array Value} {e : TypeId} {fr : Nat × Nat} (d : Array Int) (hb : w.heap[g]? = some (.cells cur e fr)) :
    (grow (putRow (Value.int .i64) (Sort.ahead w n) g 0 d) os).heap[g]? = some (.cells (putCells (Value.int .i64) 0 d cur) e fr) := by
  have hg : g < w.heap.size := (Array.getElem?_eq_some_iff.1 hb).1
  rw [heap_grow_old _ _ (by simpa using hg)]
  simp [putRow, mapBlock, Sort.ahead, Array.getElem?_modify, hb, onCells]
theorem heap_sorted_other {w : World} {g n k : Nat} {os : Array Obj} (d : Array Int) (hk : k < w.heap.size) (h : k ≠ g) :
    (grow (putRow (Value.int .i64) (Sort.ahead w n) g 0 d) os).heap[k]? = w.heap[k]? := by
  rw [heap_grow_old _ _ (by simpa using hk)]
  simp [putRow, mapBlock, Sort.ahead, Array.getElem?_modify, Ne.symm h]
theorem putCells_get {cur : Array Value} {m : List Int} {i : Nat} (hi : i < m.length) (hc : i < cur.size) : (putCells (Value.int .i64) 0 m.toArray cur)[i]? = some (.int .i64 (m.getD i 0)) := by
  unfold putCells
  rw [Array.getElem?_mapIdx]
  simp [hc, hi]
theorem SortR (l : List Int) (f0 : Nat → Nat → DV) (hf0 : ∀ i j, i < l.length → j < 1 → LeD (f0 i j) (intEl l i j)) (hl : l.length ≤ 1000000) :
    CallR Tryz.prog 98 [.s (.own 1001)] [(1001, .row 3 l.length 1 f0)] (.t []) [(1001, .row 3 l.length 1 (intEl (sortI l)))] := by
  refine ⟨Tryz.call98, fun M β w vs hr hM hbx hβ => ?_⟩
  obtain ⟨b, c, cur, hx, h1, h2, h3, h4, h5, h6⟩ := hbx.rep 1001 _ (List.mem_singleton.2 rfl)
  match vs, hr with
  | [v], ⟨hv, _⟩ =>
    obtain ⟨b', c', hx', hv', hc'⟩ := hv
    rw [hx] at hx'
    cases hx'
    subst hv'
    have hsz : cur.size = c.1 := by rw [h3, Nat.mul_one]
    have hcell : ∀ j, j < l.length → cur[j]? = some (.int .i64 (l.getD j 0)) := by
      intro j hj
      obtain ⟨u, e1, e2⟩ := h6 j 0 hj (by decide)
      rw [Nat.mul_one, Nat.add_zero] at e1
      have : u = .int .i64 (l.getD j 0) := hf0 j 0 hj (by decide) M u e2
      rw [e1, this]
    have hH : Holds (Value.int .i64) w b 0 l.toArray := by
      intro j hj
      have hj : j < l.length := by simpa using hj
      refine ⟨?_, by simp [World.frozen?, h1]⟩
      simp only [World.cell?, h1, Nat.zero_add, Option.isSome_none, Bool.false_eq_true, if_false]
      rw [hcell j hj]
      simp [hj]
    have hb : b < w.heap.size := (Array.getElem?_eq_some_iff.1 h1).1
    rw [h2]
    refine (Any.slices_Sort_int laysSort b 0 c.1 l w hH hb (by omega)).mono ?_
    rintro e w' ⟨he, n, os, hw⟩
    have hlen : (sortI l).length = l.length := sortI_len
    have hrow := heap_sorted (w := w) (n := n) (os := os) (sortI l).toArray h1
    have hoth : ∀ k, k < w.heap.size → k ≠ b → w'.heap[k]? = w.heap[k]? := fun k hk hne => by rw [hw]; exact heap_sorted_other _ hk hne
    rw [← hw] at hrow
    have hs : w.heap.size ≤ w'.heap.size := by rw [hw]; simp [putRow, mapBlock, Sort.ahead]
    have hin : ∀ x, x ∈ names [(1001, Box.row 3 l.length 1 (intEl (sortI l)))] → x = 1001 := fun x hx => List.mem_singleton.1 hx
    refine ⟨.tuple #[], M, β, he, Nm.le_refl β, ⟨[], rfl, trivial⟩, Grow.refl _ _, ?_, ⟨?_, ?_, ?_, ?_⟩, ?_, ?_, ?_, ?_, hs, ?_⟩
    · intro b2 o u hu
      have hne : b2 ≠ b := fun h => by
        subst h
        have := hbx.apart 1001 b2 c (List.mem_singleton.2 rfl) hx o
        rw [this] at hu; cases hu
      have hold := hM b2 o u hu
      have hb2 : b2 < w.heap.size := by
        cases h : w.heap[b2]? with
        | none => simp [World.cell?, h] at hold
        | some _ => exact (Array.getElem?_eq_some_iff.1 h).1
      simp only [World.cell?] at hold ⊢
      rw [hoth b2 hb2 hne]
      exact hold
    · intro x h
      rw [hin x h]; exact ⟨b, c, hx⟩
    · intro x bx h
      obtain ⟨rfl, rfl⟩ := Prod.mk.inj (List.mem_singleton.1 h)
      refine ⟨b, c, _, hx, hrow, h2, by simp [putCells, h3], h4, h5, fun i j hi hj => ?_⟩
      obtain rfl : j = 0 := by omega
      refine ⟨.int .i64 ((sortI l).getD i 0), ?_, rfl⟩
      rw [Nat.mul_one, Nat.add_zero]
      exact putCells_get (by omega) (by omega)
    · intro x y b1 c1 c2 hx1 hy1 _ _
      rw [hin x hx1, hin y hy1]
    · intro x b1 c1 h e o
      rw [hin x h] at e
      rw [hx] at e
      cases e
      exact hbx.apart 1001 b c (List.mem_singleton.2 rfl) hx o
    · intro x b1 c1 h e
      rw [hin x h] at e
      exact .inr ⟨1001, c1, e⟩
    · rw [hw]; rfl
    · rw [hw]; rfl
    · rw [hw]; rfl
    · intro k hk hne
      exact hoth k hk (fun h => hne 1001 c (by rw [h]; exact hx))
  | [], h => exact h.elim
  | _ :: _ :: _, h => exact h.2.elim
theorem SortNil : CallP Tryz.prog 98 [.s (.d (.val (.slice none 0 0)))] (.t []) := by
  refine ⟨Tryz.call98, fun M w vs hr hM => ?_⟩
  match vs, hr with
  | [v], ⟨hv, _⟩ =>
    have hv : v = .slice none 0 0 := hv
    subst hv
    refine (Any.slices_Sort_int_none laysSort none 0 w).mono ?_
    rintro e w' ⟨he, rfl⟩
    exact ⟨.tuple #[], M, he, ⟨[], rfl, trivial⟩, Grow.refl _ _, hM, ⟨rfl, rfl, rfl, Nat.le_refl _, fun _ _ => rfl⟩⟩
  | [], h => exact h.elim
  | _ :: _ :: _, h => exact h.2.elim
end Go.Ch

namespace Go.Ch
open Go Go.Ax Go.Proofs Go.Proofs.Tryz
set_option maxRecDepth 100000
set_option pp.maxSteps 400
set_option maxHeartbeats 1000000

theorem countP_notin {n i : Nat} {sn : List Nat} (hi : i < n) (h : i ∉ sn) : ((List.range n).countP fun k => !(i :: sn).contains k) + 1 ≤ (List.range n).countP fun k => !sn.contains k := by
  refine countP_drop (fun k _ hk => ?_) ⟨i, List.mem_range.2 hi, by simpa using h, by simp⟩
  simp at hk ⊢
  exact hk.2
theorem nodup_len {n : Nat} {sn : List Nat} (h : sn.Nodup) (hlt : ∀ i ∈ sn, i < n) : sn.length ≤ n := by
  have hp : sn.Perm ((List.range n).filter fun i => sn.contains i) := (List.perm_ext_iff_of_nodup h (List.Pairwise.filter _ List.nodup_range)).2 fun i => by
    simp only [List.mem_filter, List.mem_range, List.contains_iff_mem]
    exact ⟨fun hi => ⟨hlt i hi, hi⟩, fun hi => hi.2⟩
  have := hp.length_eq
  have h2 := List.length_filter_le (fun i => sn.contains i) (List.range n)
  rw [List.length_range] at h2
  omega
def outK (b : List (Int × Int)) (sn : List Nat) : List Int := sn.reverse.map (keyAt b)
theorem outK_cons {b : List (Int × Int)} {i : Nat} {sn : List Nat} : outK b (i :: sn) = outK b sn ++ [keyAt b i] := by simp [outK]
abbrev lvS1 (g : Grid) (i : Nat) : St := ⟨[(1, .s (.ptr 1 0)), (3, .s (.mp 8)), (10, vInts g.levels), (11, vI g.levels.length), (12, vI i)], [(1, some (gridB g)), (8, some (.map .bool (lvF g.levels i)))]⟩
abbrev lvS2 (b : List (Int × Int)) (sn : List Nat) : St := ⟨[(24, .s (.ptr 24 0)), (6, .s (.mo (outK b sn).isEmpty 100))], [(8, some (.map .bool b)), (24, some (.iter 8 b.length sn)), (100, some (.mrow 3 (outK b sn).length 1 (intEl (outK b sn))))]⟩
theorem levels (g : Grid) (hn : g.levels.length ≤ 1024) : CallP Tryz.prog 63 [grid g] (vInts (levelsL g.levels)) := by
  refine callP_of_aw Tryz.func63 rfl rfl Tryz.call63 tab_ok rfl rfl (fun cx href => ?_)
  refine AW.seq (ex.sound (rc := []) tab_ok mix href _ ?_)
  refine AW.seq (ex.sound (rc := []) tab_ok mix href _ ?_)
  refine AW.cut (σ' := lvS1 g g.levels.length) (ex.sound (rc := []) tab_ok mix href _ ?_) ?_
  · refine AW.loopI (lvS1 g) (fun i => i ≤ g.levels.length) (fun i => g.levels.length - i) 0 (Nat.zero_le _) ?_ ?_
    · exact SubI.of0 href [] rfl ⟨⟨rfl, LeBx.rfl⟩, ⟨rfl, LeBx.rfl⟩, trivial⟩ ⟨⟨rfl, LeQ.rfl⟩, ⟨rfl, LeQ.rfl⟩, ⟨rfl, LeQ.rfl⟩, ⟨rfl, LeQ.rfl⟩, ⟨rfl, LeQ.rfl⟩, trivial⟩
    · intro i hi
      refine ex.sound (rc := []) tab_ok mix href _ ?_
      refine And.intro (fun h => ?_) (fun h => ?_)
      · have h : (i : Int) < g.levels.length := decT h
        refine oi ⟨by omega, by omega⟩ ?_
        refine callN (bknown g i (by omega) (by omega)) ?_
        refine And.intro (fun h2 => ?_) (fun h2 => ?_)
        · have h2 : (g.levels.getD i 0 != 30000) = true := h2
          refine ⟨i + 1, by omega, by omega, ?_⟩
          refine SubI.of0 href [] rfl ⟨⟨rfl, LeBx.rfl⟩, ⟨rfl, LeBx.of_eq ?_⟩, trivial⟩ ⟨⟨rfl, LeQ.rfl⟩, ⟨rfl, LeQ.rfl⟩, ⟨rfl, LeQ.rfl⟩, ⟨rfl, LeQ.rfl⟩, ⟨rfl, LeQ.int (w64_of (by omega) (by omega))⟩, trivial⟩
          rw [lvF, lvS, h2]; rfl
        · have h2 : (g.levels.getD i 0 != 30000) = false := h2
          refine ⟨i + 1, by omega, by omega, ?_⟩
          refine SubI.of0 href [] rfl ⟨⟨rfl, LeBx.rfl⟩, ⟨rfl, LeBx.of_eq ?_⟩, trivial⟩ ⟨⟨rfl, LeQ.rfl⟩, ⟨rfl, LeQ.rfl⟩, ⟨rfl, LeQ.rfl⟩, ⟨rfl, LeQ.rfl⟩, ⟨rfl, LeQ.int (w64_of (by omega) (by omega))⟩, trivial⟩
          rw [lvF, lvS, h2]; rfl
      · have h : ¬ (i : Int) < g.levels.length := decF h
        obtain rfl : i = g.levels.length := by omega
        exact ⟨rfl, SubI.of0 href [] rfl ⟨⟨rfl, LeBx.rfl⟩, ⟨rfl, LeBx.rfl⟩, trivial⟩ ⟨⟨rfl, LeQ.rfl⟩, ⟨rfl, LeQ.rfl⟩, ⟨rfl, LeQ.rfl⟩, ⟨rfl, LeQ.rfl⟩, ⟨rfl, LeQ.rfl⟩, trivial⟩⟩
  have hbl := lvF_len g.levels g.levels.length
  unfold levelsL
  generalize hb : lvF g.levels g.levels.length = b at hbl
  refine AW.seq (ex.sound (rc := []) tab_ok mix href _ ?_)
  refine AW.cutE (lvS2 b) (fun sn => sortI (outK b sn) = sortI (b.map (·.1)) ∧ (outK b sn).length ≤ 1024) (ex.sound (rc := []) tab_ok mix href _ ?_) ?_
  · refine AW.loopI (lvS2 b) (fun sn => sn.Nodup ∧ ∀ i ∈ sn, i < b.length) (fun sn => (List.range b.length).countP fun k => !sn.contains k) [] ⟨List.nodup_nil, fun i h => by cases h⟩ ?_ ?_
    · exact SubI.of0 href [(100, 1000)] rfl ⟨⟨rfl, LeBx.of_eq (by rw [hb]; rfl)⟩, ⟨rfl, LeBx.of_eq (by rw [hb]; rfl)⟩, ⟨rfl, rfl⟩, trivial⟩ ⟨⟨rfl, LeQ.rfl⟩, ⟨rfl, LeQ.nil rfl⟩, trivial⟩
    · rintro sn ⟨hnd, hlt⟩
      refine ex.sound (rc := []) tab_ok mix href _ ?_
      have hlen : sn.length ≤ b.length := nodup_len hnd hlt
      have hol : (outK b sn).length ≤ 1024 := by unfold outK; rw [List.length_map, List.length_reverse]; omega
      refine ⟨rfl, fun hall => ?_, fun i hi hni => ?_⟩
      · refine ⟨rfl, sn, ⟨?_, hol⟩, ?_⟩
        · exact keys_sort hnd hlt hall
        · exact SubI.of0 href [] rfl ⟨⟨rfl, LeBx.rfl⟩, ⟨rfl, LeBx.rfl⟩, ⟨rfl, LeBx.rfl⟩, trivial⟩ ⟨⟨rfl, LeQ.rfl⟩, ⟨rfl, LeQ.rfl⟩, trivial⟩
      · refine ⟨rfl, hi, ?_⟩
        refine ob (by decide) ?_
        refine ob (by rw [bif_len]; show _ * 8 ≤ _; omega) ?_
        refine ob (fit1 (lt1 rfl)) ?_
        refine ⟨i :: sn, ⟨List.nodup_cons.2 ⟨hni, hnd⟩, fun k hk => ?_⟩, ?_, ?_⟩
        · rcases List.mem_cons.1 hk with rfl | hk
          · exact hi
          · exact hlt k hk
        · have := countP_notin hi hni
          omega
        · refine SubI.of0 href [(100, 32)] rfl ⟨⟨rfl, LeBx.rfl⟩, ⟨rfl, LeBx.rfl⟩, ⟨rfl, ?_⟩, trivial⟩ ⟨⟨rfl, LeQ.rfl⟩, ⟨rfl, LeQ.mo ?_⟩, trivial⟩
          · rw [outK_cons]; exact nearRow intRow rfl
          · rw [outK_cons]; exact isEmpty_snoc _ _
  · rintro sn ⟨hso, hsl⟩
    rw [← hso]
    generalize hl : outK b sn = l at hsl
    cases hz : l.isEmpty with
    | true =>
      obtain rfl : l = [] := List.isEmpty_iff.1 hz
      refine AW.subI (σ' := ⟨[(6, .s (.d (.val (.slice none 0 0))))], []⟩) (SubI.of0 href [] rfl trivial ⟨⟨rfl, LeQ.toNil (by rw [hl]; rfl)⟩, trivial⟩) ?_
      refine ex.sound (rc := []) tab_ok mix href _ ?_
      refine callN SortNil ?_
      have e : sortI [] = [] := List.eq_nil_of_length_eq_zero sortI_len
      rw [e]
      exact SubR.le LeD.nil
    | false =>
      refine AW.subI (SubI.own (e := 3) (n := l.length) (s := 1) (f := intEl l) (z := false) 6 100 ?_ rfl ?_) ?_
      · show AV.s (.mo (outK b sn).isEmpty 100) = _
        rw [hl, hz]
      · show some (some (Box.mrow 3 (outK b sn).length 1 (intEl (outK b sn)))) = _
        rw [hl]
      refine ex.sound (rc := [98]) tab_ok mix href _ ?_
      refine ⟨[(1001, 100)], _, _, _, _, SortR l (intEl l) (fun i j _ hj => ?_) (by omega), rfl, ?_, rfl, ?_⟩
      · obtain rfl : j = 0 := by omega
        exact LeD.refl _
      · exact ⟨rfl, trivial⟩
      · refine SubR.le (LeD.slc' sortI_len.symm fun i j _ hj => ?_)
        obtain rfl : j = 0 := by omega
        exact LeD.refl _
end Go.Ch

namespace Go.Ch
open Go Go.Ax Go.Proofs Go.Proofs.Tryz
set_option maxRecDepth 100000
set_option pp.maxSteps 400
set_option maxHeartbeats 1000000

abbrev intF (h : Nat → Int) : Nat → Nat → DV := fun i _ => dI (h i)
def snocF (h : Nat → Int) (n : Nat) (x : Int) : Nat → Int := fun i => if i < n then h i else x
theorem LeBx.snocI {n m : Nat} {h : Nat → Int} {g : Nat → Nat → DV} {x : Int} (hg : g 0 0 = dI x) (hm : n + 1 = m) : LeBx (.row 3 (n + 1) 1 (catF n (intF h) g)) (.row 3 m 1 (intF (snocF h n x))) := by
  refine LeBx.row hm fun i j hi hj => LeD.of_eq ?_
  obtain rfl : j = 0 := by omega
  unfold catF
  show _ = dI (if i < n then h i else x)
  by_cases e : i < n
  · rw [if_pos e, if_pos e]
  · rw [if_neg e, if_neg e, show i - n = 0 by omega]; exact hg
theorem and_right {a b : Bool} (h : gpol true (a && b) = true) : b = true := by
  have h : (a && b) = true := h
  simp only [Bool.and_eq_true] at h
  exact h.2
theorem or_right {a b : Bool} (h : gpol false (a || !b) = true) : b = true := by
  have h : (!(a || !b)) = true := h
  cases b with
  | true => rfl
  | false => simp at h
theorem wayL_eq {n : Nat} {ok : Int → Bool} {nr : Int → List Int} {fr to : List Int} {s : BS} (h : searchL ok nr to n (fr.foldl (seedS ok) ([], [])) = s) : wayL n ok nr fr to = match s.2 with | [] => [] | i :: _ => (backL s.1 s.1.length i [i]).reverse := by
  subst h; rfl
theorem searchL_nil {ok : Int → Bool} {nr : Int → List Int} {to : List Int} {b : List (Int × Int)} : ∀ {m : Nat}, searchL ok nr to m (b, []) = (b, [])
  | 0 => rfl
  | _ + 1 => rfl
theorem nearL_len {g : Grid} {i : Int} : (nearL g i).length ≤ 4 := by
  have l1 := len1 (b := decide (i ≥ g.cols)) (x := i - g.cols)
  have l2 := len1 (b := decide (i % g.cols > 0)) (x := i - 1)
  have l3 := len1 (b := decide (i % g.cols < g.cols - 1)) (x := i + 1)
  have l4 := len1 (b := decide (i + g.cols < g.levels.length)) (x := i + g.cols)
  unfold nearL
  simp only [List.length_append]
  omega
theorem intRow1 {l : List Int} : RowIs 1 l.length (intEl l) (fun x _ => dI x) l := ⟨rfl, fun _ _ _ _ => rfl⟩
def okMost (g : Grid) (most : Int) (i : Int) : Bool := knownG g i && decide (levelAt g i ≤ most)
theorem okMost_known {g : Grid} {most i : Int} (h : okMost g most i = true) : there g i = true := by
  unfold okMost knownG at h
  simp only [Bool.and_eq_true] at h
  exact h.1.1
theorem clear1 (g : Grid) (most i : Int) (hi : knownG g i = true) (f h : Nat → DV) (hf : f 5 = dInts g.levels) (hh : h 0 = dI most) : CallP Tryz.prog 65 [vI i, .s (.d (.rp 6 f)), .s (.d (.rp 1 h))] (vB (decide (levelAt g i ≤ most))) := by
  have ht : there g i = true := by
    unfold knownG at hi
    simp only [Bool.and_eq_true] at hi
    exact hi.1
  have ht := there_iff.1 ht
  have h1 : LeAs [vI i, .s (.d (.rp 6 f)), .s (.d (.rp 1 h))] [vI i, .s (.d (.rp 6 fun j => if j = 5 then dInts g.levels else .junk)), .s (.d (.rp 1 fun _ => dI most))] :=
    ⟨LeD.refl _, LeD.rp fun j hj => ?_, LeD.rp fun j hj => LeD.of_eq (by rw [show j = 0 by omega]; exact hh), trivial⟩
  · refine CallP.conv ?_ h1
    refine callP_of_ex (rc := []) (N := 12) Tryz.func65 rfl rfl Tryz.call65 tab_ok mix rfl rfl (fun cx _ => ?_)
    refine oi ⟨by omega, by omega⟩ ?_
    refine And.intro (by kernel_rfl) ?_
    exact SubR.refl _
  · by_cases e : j = 5
    · rw [if_pos e, e]; exact LeD.of_eq hf
    · rw [if_neg e]; exact fun _ _ _ => trivial
end Go.Ch

namespace Go.Ch
open Go Go.Ax Go.Proofs Go.Proofs.Tryz
set_option maxRecDepth 100000
set_option pp.maxSteps 400
set_option maxHeartbeats 1000000
set_option linter.unusedVariables false

abbrev wayClear1 (g : Grid) (most : Int) (fr to : List Int) (s : BS) (i : Nat) : St := ⟨[(4, .s (.ptr 4 0)), (2, vInts to), (3, .s (.clo 65 [.ptr 1001 0, .ptr 1002 0])), (9, .s (.mp 22)), (10, .s (.mo s.2.isEmpty 100)), (23, vInts fr), (24, vI fr.length), (25, vI i)], [(1001, some (gridB g)), (1002, some (.cells [.d (dI most)])), (4, some (gridB g)), (22, some (.map .int s.1)), (100, some (.mrow 3 s.2.length 1 (intEl s.2)))]⟩
abbrev wayClear0 (g : Grid) (most : Int) : St := ⟨[(10, .s (.d (.val (.slice none 0 0))))], [(1001, some (gridB g)), (1002, some (.cells [.d (dI most)]))]⟩
abbrev wayClear2 (g : Grid) (most : Int) (to : List Int) (lo : Nat) (h : Nat → Int) (s : BS) : St := ⟨[(4, .s (.ptr 4 0)), (2, vInts to), (3, .s (.clo 65 [.ptr 1001 0, .ptr 1002 0])), (9, .s (.mp 22)), (10, .s (.osl 100 1 lo s.2.length))], [(1001, some (gridB g)), (1002, some (.cells [.d (dI most)])), (4, some (gridB g)), (22, some (.map .int s.1)), (100, some (.row 3 (lo + s.2.length) 1 (intF h)))]⟩
abbrev wayClear4 (g : Grid) (most : Int) (to : List Int) (x : Int) (nr : List Int) (lo : Nat) (h : Nat → Int) (s : BS) (j : Nat) : St := ⟨[(4, .s (.ptr 4 0)), (2, vInts to), (3, .s (.clo 65 [.ptr 1001 0, .ptr 1002 0])), (9, .s (.mp 22)), (10, .s (.osl 100 1 lo s.2.length)), (15, vI x), (68, vInts nr), (69, vI nr.length), (70, vI j)], [(1001, some (gridB g)), (1002, some (.cells [.d (dI most)])), (4, some (gridB g)), (22, some (.map .int s.1)), (100, some (.row 3 (lo + s.2.length) 1 (intF h)))]⟩
abbrev wayClear5 (g : Grid) (most : Int) (b : List (Int × Int)) (i : Int) (out : List Int) : St := ⟨[(9, .s (.mp 22)), (20, .s (.own 200)), (21, vI i)], [(1001, some (gridB g)), (1002, some (.cells [.d (dI most)])), (22, some (.map .int b)), (200, some (.row 3 out.length 1 (intEl out)))]⟩
theorem wayClear (g : Grid) (most : Int) (fr to : List Int) (hg : GVal g) (hf : fr.length ≤ 1000) (ht : to.length ≤ 1000) :
    CallR Tryz.prog 64 [grid g, vInts fr, vInts to, .s (.clo 65 [.ptr 1001 0, .ptr 1002 0])] [(1001, gridB g), (1002, .cells [.d (dI most)])] (vInts (wayL g.levels.length (okMost g most) (nearL g) fr to)) [(1001, gridB g), (1002, .cells [.d (dI most)])] := by
  have hn := hg.n
  have hok : ∀ i, (okMost g most) i = true → 0 ≤ i ∧ i < g.levels.length := fun i h => there_iff.1 (okMost_known h)
  refine callR_of_aw Tryz.func64 rfl rfl Tryz.call64 tab_ok rfl rfl rfl rfl (fun cx href => ?_)
  refine AW.seq (ex.sound (rc := [101]) tab_ok mix href _ ?_)
  refine AW.scope ?_
  refine AW.seq (ex.sound (rc := [101]) tab_ok mix href _ ?_)
  refine AW.seq (ex.sound (rc := [101]) tab_ok mix href _ ?_)
  refine AW.cut (σ' := wayClear1 g most fr to ((fr.take fr.length).foldl (seedS (okMost g most)) ([], [])) fr.length) (ex.sound (rc := [101]) tab_ok mix href _ ?_) ?_
  · refine AW.loopI (fun i => wayClear1 g most fr to ((fr.take i).foldl (seedS (okMost g most)) ([], [])) i) (fun i => i ≤ fr.length) (fun i => fr.length - i) 0 (Nat.zero_le _) ?_ ?_
    · exact SubI.of [(100, 1000)] (by rw [href]; rfl) rfl ⟨⟨rfl, LeBx.rfl⟩, ⟨rfl, LeBx.rfl⟩, ⟨rfl, LeBx.rfl⟩, ⟨rfl, LeBx.rfl⟩, ⟨rfl, rfl⟩, trivial⟩ ⟨⟨rfl, LeQ.rfl⟩, ⟨rfl, LeQ.rfl⟩, ⟨rfl, LeQ.rfl⟩, ⟨rfl, LeQ.rfl⟩, ⟨rfl, LeQ.nil rfl⟩, ⟨rfl, LeQ.rfl⟩, ⟨rfl, LeQ.rfl⟩, ⟨rfl, LeQ.rfl⟩, trivial⟩
    · intro i hi
      have hw := Bw.seeds hok (l := fr) i hi
      refine ex.sound (rc := [101]) tab_ok mix href _ ?_
      refine And.intro (fun h => ?_) (fun h => ?_)
      · have h : (i : Int) < fr.length := decT h
        have hi' : i < fr.length := by omega
        have hs := foldl_take (f := seedS (okMost g most)) (b := ([], [])) hi'
        have hx : fr[i] = fr.getD i 0 := by simp [hi']
        rw [hx] at hs
        generalize (fr.take i).foldl (seedS (okMost g most)) ([], []) = s at hw hs
        have hl : s.2.length ≤ 1024 := by have := hw.2; unfold muS at this; omega
        refine oi ⟨by omega, by omega⟩ ?_
        repeat first | refine sk ?_ | refine st ?_ | refine sg ?_ | refine sh ?_ | refine su ?_ | refine sn1 ?_ | refine sn0 ?_
        refine callG (knownI g (fr.getD i 0) (by omega)) ?_
        repeat first | refine sk ?_ | refine st ?_ | refine sg ?_ | refine sh ?_ | refine su ?_ | refine sn1 ?_ | refine sn0 ?_
        refine callGo (fun hk => clear1 g most _ (and_right hk) _ _ rfl rfl) ?_
        repeat first | refine sk ?_ | refine st ?_ | refine sg ?_ | refine sh ?_ | refine su ?_ | refine sn1 ?_ | refine sn0 ?_
        refine And.intro (fun h2 => ?_) (fun h2 => ?_)
        · have h2 : ((!hasM s.1 (fr.getD i 0) && knownG g (fr.getD i 0)) && decide (levelAt g (fr.getD i 0) ≤ most)) = true := h2
          rw [Bool.and_assoc] at h2
          have hs : (fr.take (i + 1)).foldl (seedS (okMost g most)) ([], []) = (setM s.1 (fr.getD i 0) (fr.getD i 0), s.2 ++ [fr.getD i 0]) := by
            rw [hs]
            show (bif !hasM s.1 (fr.getD i 0) && (knownG g (fr.getD i 0) && decide (levelAt g (fr.getD i 0) ≤ most)) then _ else _) = _
            rw [h2]; rfl
          refine ob (by decide) ?_
          refine ob (by rw [bif_len]; show _ * 8 ≤ _; omega) ?_
          refine ob (fit1 (lt1 rfl)) ?_
          refine ⟨i + 1, by omega, by omega, ?_⟩
          show SubI cx _ _ (wayClear1 g most fr to ((fr.take (i + 1)).foldl (seedS (okMost g most)) ([], [])) (i + 1))
          rw [hs]
          exact SubI.of [(100, 53)] (by rw [href]; rfl) rfl ⟨⟨rfl, LeBx.rfl⟩, ⟨rfl, LeBx.rfl⟩, ⟨rfl, LeBx.rfl⟩, ⟨rfl, LeBx.rfl⟩, ⟨rfl, nearRow intRow rfl⟩, trivial⟩ ⟨⟨rfl, LeQ.rfl⟩, ⟨rfl, LeQ.rfl⟩, ⟨rfl, LeQ.rfl⟩, ⟨rfl, LeQ.rfl⟩, ⟨rfl, LeQ.mo (isEmpty_snoc _ _)⟩, ⟨rfl, LeQ.rfl⟩, ⟨rfl, LeQ.rfl⟩, ⟨rfl, LeQ.int (w64_of (by omega) (by omega))⟩, trivial⟩
        · have h2 : ((!hasM s.1 (fr.getD i 0) && knownG g (fr.getD i 0)) && decide (levelAt g (fr.getD i 0) ≤ most)) = false := h2
          rw [Bool.and_assoc] at h2
          have hs : (fr.take (i + 1)).foldl (seedS (okMost g most)) ([], []) = s := by
            rw [hs]
            show (bif !hasM s.1 (fr.getD i 0) && (knownG g (fr.getD i 0) && decide (levelAt g (fr.getD i 0) ≤ most)) then _ else _) = _
            rw [h2]; rfl
          refine ⟨i + 1, by omega, by omega, ?_⟩
          show SubI cx _ _ (wayClear1 g most fr to ((fr.take (i + 1)).foldl (seedS (okMost g most)) ([], [])) (i + 1))
          rw [hs]
          exact SubI.of [] (by rw [href]; rfl) rfl ⟨⟨rfl, LeBx.rfl⟩, ⟨rfl, LeBx.rfl⟩, ⟨rfl, LeBx.rfl⟩, ⟨rfl, LeBx.rfl⟩, ⟨rfl, LeBx.rfl⟩, trivial⟩ ⟨⟨rfl, LeQ.rfl⟩, ⟨rfl, LeQ.rfl⟩, ⟨rfl, LeQ.rfl⟩, ⟨rfl, LeQ.rfl⟩, ⟨rfl, LeQ.rfl⟩, ⟨rfl, LeQ.rfl⟩, ⟨rfl, LeQ.rfl⟩, ⟨rfl, LeQ.int (w64_of (by omega) (by omega))⟩, trivial⟩
      · have h : ¬ (i : Int) < fr.length := decF h
        obtain rfl : i = fr.length := by omega
        exact ⟨rfl, SubI.of [] (by rw [href]; rfl) rfl ⟨⟨rfl, LeBx.rfl⟩, ⟨rfl, LeBx.rfl⟩, ⟨rfl, LeBx.rfl⟩, ⟨rfl, LeBx.rfl⟩, ⟨rfl, LeBx.rfl⟩, trivial⟩ ⟨⟨rfl, LeQ.rfl⟩, ⟨rfl, LeQ.rfl⟩, ⟨rfl, LeQ.rfl⟩, ⟨rfl, LeQ.rfl⟩, ⟨rfl, LeQ.rfl⟩, ⟨rfl, LeQ.rfl⟩, ⟨rfl, LeQ.rfl⟩, ⟨rfl, LeQ.rfl⟩, trivial⟩⟩
  rw [List.take_length]
  have h0 := Bw.seeds hok (l := fr) fr.length (Nat.le_refl _)
  rw [List.take_length] at h0
  have hwl := wayL_eq (n := g.levels.length) (ok := (okMost g most)) (nr := nearL g) (fr := fr) (to := to) (s := searchL (okMost g most) (nearL g) to g.levels.length (fr.foldl (seedS (okMost g most)) ([], []))) rfl
  rw [hwl]
  clear hwl
  generalize fr.foldl (seedS (okMost g most)) ([], []) = s0 at h0 ⊢
  refine AW.seq (AW.label ?_)
  cases hz : s0.2.isEmpty with
  | true =>
    have hs0 : s0 = (s0.1, []) := Prod.ext rfl (List.isEmpty_iff.1 hz)
    rw [hs0, searchL_nil]
    refine AW.subI (σ' := wayClear0 g most) (SubI.of [] (by rw [href]; rfl) rfl ⟨⟨rfl, LeBx.rfl⟩, ⟨rfl, LeBx.rfl⟩, trivial⟩ ⟨⟨rfl, LeQ.toNil rfl⟩, trivial⟩) ?_
    refine AW.cut (σ' := wayClear0 g most) (ex.sound (rc := [101]) tab_ok mix href _ ?_) ?_
    · refine AW.loopI (fun _ : Unit => wayClear0 g most) (fun _ => True) (fun _ => 0) () trivial ?_ ?_
      · exact SubI.of [] (by rw [href]; rfl) rfl ⟨⟨rfl, LeBx.rfl⟩, ⟨rfl, LeBx.rfl⟩, trivial⟩ ⟨⟨rfl, LeQ.rfl⟩, trivial⟩
      · intro _ _
        refine ex.sound (rc := [101]) tab_ok mix href _ ?_
        refine And.intro (fun h => by cases h) (fun _ => ?_)
        exact ⟨rfl, SubI.of [] (by rw [href]; rfl) rfl ⟨⟨rfl, LeBx.rfl⟩, ⟨rfl, LeBx.rfl⟩, trivial⟩ ⟨⟨rfl, LeQ.rfl⟩, trivial⟩⟩
    · refine ex.sound (rc := [101]) tab_ok mix href _ ?_
      refine And.intro (fun _ => ?_) (fun h => by cases h)
      exact ⟨SubR.le LeD.nil, ⟨rfl, rfl, trivial⟩⟩
  | false =>
    have hrow : SubI cx Tryz.f64.ntmps (wayClear1 g most fr to s0 fr.length) (wayClear2 g most to 0 (fun j => s0.2.getD j 0) s0) := by
      refine SubI.trans (SubI.osl (e := 3) (n := s0.2.length) (s := 1) (f := intEl s0.2) (z := s0.2.isEmpty) 10 100 rfl hz rfl) ?_
      exact SubI.of [] (by rw [href]; rfl) rfl ⟨⟨rfl, LeBx.rfl⟩, ⟨rfl, LeBx.rfl⟩, ⟨rfl, LeBx.rfl⟩, ⟨rfl, LeBx.rfl⟩, ⟨rfl, LeBx.row (Nat.zero_add _).symm fun i j _ _ => LeD.refl _⟩, trivial⟩ ⟨⟨rfl, LeQ.rfl⟩, ⟨rfl, LeQ.rfl⟩, ⟨rfl, LeQ.rfl⟩, ⟨rfl, LeQ.rfl⟩, ⟨rfl, LeQ.rfl⟩, trivial⟩
    refine AW.subI hrow ?_
    clear hrow hz
    refine AW.cutE (fun q : Nat × (Nat → Int) => wayClear2 g most to q.1 q.2 (searchL (okMost g most) (nearL g) to g.levels.length s0)) (fun q => Bw g.levels.length (okMost g most) (searchL (okMost g most) (nearL g) to g.levels.length s0) ∧ ∀ j, j < (searchL (okMost g most) (nearL g) to g.levels.length s0).2.length → q.2 (q.1 + j) = (searchL (okMost g most) (nearL g) to g.levels.length s0).2.getD j 0) (ex.sound (rc := [101]) tab_ok mix href _ ?_) ?_
    · refine AW.loopI (fun q : Nat × (Nat → Int) × BS × Nat => wayClear2 g most to q.1 q.2.1 q.2.2.1)
        (fun q => searchL (okMost g most) (nearL g) to g.levels.length s0 = searchL (okMost g most) (nearL g) to q.2.2.2 q.2.2.1 ∧ muS g.levels.length q.2.2.1 ≤ q.2.2.2 ∧ Bw g.levels.length (okMost g most) q.2.2.1 ∧ q.1 + muS g.levels.length q.2.2.1 ≤ g.levels.length ∧ ∀ j, j < q.2.2.1.2.length → q.2.1 (q.1 + j) = q.2.2.1.2.getD j 0)
        (fun q => q.2.2.2) (0, (fun j => s0.2.getD j 0), s0, g.levels.length) ⟨rfl, h0.2, h0.1, by simp only; have := h0.2; omega, fun j _ => by simp only [Nat.zero_add]⟩ ?_ ?_
      · exact SubI.of [] (by rw [href]; rfl) rfl ⟨⟨rfl, LeBx.rfl⟩, ⟨rfl, LeBx.rfl⟩, ⟨rfl, LeBx.rfl⟩, ⟨rfl, LeBx.rfl⟩, ⟨rfl, LeBx.rfl⟩, trivial⟩ ⟨⟨rfl, LeQ.rfl⟩, ⟨rfl, LeQ.rfl⟩, ⟨rfl, LeQ.rfl⟩, ⟨rfl, LeQ.rfl⟩, ⟨rfl, LeQ.rfl⟩, trivial⟩
      · rintro ⟨lo, h, ⟨b, t⟩, m⟩ ⟨he, hm, hw, hlo, hh⟩
        simp only at he hm hw hlo hh ⊢
        refine ex.sound (rc := [101]) tab_ok mix href _ ?_
        refine And.intro (fun h1 => ?_) (fun h1 => ?_)
        · have h1 : (t.length : Int) > 0 := decT h1
          match t, m with
          | [], _ => simp at h1
          | i :: r, 0 => exfalso; unfold muS at hm; simp at hm
          | i :: r, m + 1 =>
            have hi0 : h (lo + 0) = i := hh 0 (by simp)
            subst hi0
            have hlen : (h (lo + 0) :: r).length ≤ 1024 := by unfold muS at hlo; simp only at hlo; omega
            have hix := hw.mem (h (lo + 0)) (List.mem_cons_self ..)
            have hxr := hok _ (hw.key _ hix)
            refine oi ⟨by omega, by omega⟩ ?_
            refine oi (show lo + 0 < lo + (h (lo + 0) :: r).length by simp) ?_
            refine callN (ContainsI to (h (lo + 0)) (by omega)) ?_
            refine And.intro (fun h2 => ?_) (fun h2 => ?_)
            · have h2 : to.contains (h (lo + 0)) = true := h2
              rw [searchL, h2, cond_true] at he
              rw [he]
              refine ⟨rfl, (lo, h), ⟨hw, hh⟩, ?_⟩
              exact SubI.of [] (by rw [href]; rfl) rfl ⟨⟨rfl, LeBx.rfl⟩, ⟨rfl, LeBx.rfl⟩, ⟨rfl, LeBx.rfl⟩, ⟨rfl, LeBx.rfl⟩, ⟨rfl, LeBx.rfl⟩, trivial⟩ ⟨⟨rfl, LeQ.rfl⟩, ⟨rfl, LeQ.rfl⟩, ⟨rfl, LeQ.rfl⟩, ⟨rfl, LeQ.rfl⟩, ⟨rfl, LeQ.rfl⟩, trivial⟩
            · have h2 : to.contains (h (lo + 0)) = false := h2
              rw [searchL, h2, cond_false] at he
              refine callN (near g (h (lo + 0)) hg hxr.1 hxr.2) ?_
              have hnl : (nearL g (h (lo + 0))).length ≤ 1000000 := Nat.le_trans nearL_len (by decide)
              have hpw : ∀ j, j ≤ (nearL g (h (lo + 0))).length → _ := fun j hj => hw.pushes hok hix (l := nearL g (h (lo + 0))) j hj
              have hph : ∀ j, _ := fun j => pushes_head (ok := (okMost g most)) (c := h (lo + 0)) (s := (b, h (lo + 0) :: r)) rfl ((nearL g (h (lo + 0))).take j)
              have hpl : pushL (okMost g most) (h (lo + 0)) (nearL g (h (lo + 0))) (b, h (lo + 0) :: r) = ((nearL g (h (lo + 0))).take (nearL g (h (lo + 0))).length).foldl (pushS (okMost g most) (h (lo + 0))) (b, h (lo + 0) :: r) := by rw [List.take_length]; rfl
              rw [hpl] at he
              generalize hx : h (lo + 0) = x at *
              generalize nearL g x = nr at *
              refine AW.loopI (fun q : Nat × (Nat → Int) × Nat => wayClear4 g most to x nr q.1 q.2.1 ((nr.take q.2.2).foldl (pushS (okMost g most) x) (b, x :: r)) q.2.2)
                (fun q => q.2.2 ≤ nr.length ∧ q.1 + muS g.levels.length ((nr.take q.2.2).foldl (pushS (okMost g most) x) (b, x :: r)) ≤ g.levels.length ∧ ∀ j, j < ((nr.take q.2.2).foldl (pushS (okMost g most) x) (b, x :: r)).2.length → q.2.1 (q.1 + j) = ((nr.take q.2.2).foldl (pushS (okMost g most) x) (b, x :: r)).2.getD j 0)
                (fun q => nr.length - q.2.2) (lo, h, 0) ⟨Nat.zero_le _, hlo, hh⟩ ?_ ?_
              · exact SubI.of [] (by rw [href]; rfl) rfl ⟨⟨rfl, LeBx.rfl⟩, ⟨rfl, LeBx.rfl⟩, ⟨rfl, LeBx.rfl⟩, ⟨rfl, LeBx.rfl⟩, ⟨rfl, LeBx.rfl⟩, trivial⟩ ⟨⟨rfl, LeQ.rfl⟩, ⟨rfl, LeQ.rfl⟩, ⟨rfl, LeQ.rfl⟩, ⟨rfl, LeQ.rfl⟩, ⟨rfl, LeQ.rfl⟩, ⟨rfl, LeQ.int hx⟩, ⟨rfl, LeQ.rfl⟩, ⟨rfl, LeQ.rfl⟩, ⟨rfl, LeQ.rfl⟩, trivial⟩
              · rintro ⟨lo, h, j⟩ ⟨hj, hlo, hh⟩
                simp only at hj hlo hh ⊢
                have hpj := hpw j hj
                obtain ⟨r', hr'⟩ := hph j
                refine ex.sound (rc := [101]) tab_ok mix href _ ?_
                refine And.intro (fun h3 => ?_) (fun h3 => ?_)
                · have h3 : (j : Int) < nr.length := decT h3
                  have hj' : j < nr.length := by omega
                  have hs := foldl_take (f := pushS (okMost g most) x) (b := (b, x :: r)) hj'
                  have hk : nr[j] = nr.getD j 0 := by simp [hj']
                  rw [hk] at hs
                  generalize (nr.take j).foldl (pushS (okMost g most) x) (b, x :: r) = s at hlo hh hpj hr' hs
                  have hsl : s.2.length ≤ g.levels.length - lo := by unfold muS at hlo; omega
                  refine oi ⟨by omega, by omega⟩ ?_
                  repeat first | refine sk ?_ | refine st ?_ | refine sg ?_ | refine sh ?_ | refine su ?_ | refine sn1 ?_ | refine sn0 ?_
                  refine callG (knownI g (nr.getD j 0) (by omega)) ?_
                  repeat first | refine sk ?_ | refine st ?_ | refine sg ?_ | refine sh ?_ | refine su ?_ | refine sn1 ?_ | refine sn0 ?_
                  refine callGo (fun hk => clear1 g most _ (or_right hk) _ _ rfl rfl) ?_
                  repeat first | refine sk ?_ | refine st ?_ | refine sg ?_ | refine sh ?_ | refine su ?_ | refine sn1 ?_ | refine sn0 ?_
                  refine And.intro (fun h4 => ?_) (fun h4 => ?_)
                  · have h4 : ((hasM s.1 (nr.getD j 0) || !knownG g (nr.getD j 0)) || !decide (levelAt g (nr.getD j 0) ≤ most)) = true := h4
                    rw [Bool.or_assoc, ← Bool.not_and] at h4
                    have hs : (nr.take (j + 1)).foldl (pushS (okMost g most) x) (b, x :: r) = s := by
                      rw [hs]
                      show (bif hasM s.1 (nr.getD j 0) || !(knownG g (nr.getD j 0) && decide (levelAt g (nr.getD j 0) ≤ most)) then _ else _) = _
                      rw [h4]; rfl
                    refine ⟨(lo, h, j + 1), ⟨by simp only; omega, by simp only; rw [hs]; exact hlo, by simp only; rw [hs]; exact hh⟩, by simp only; omega, ?_⟩
                    show SubI cx _ _ (wayClear4 g most to x nr lo h ((nr.take (j + 1)).foldl (pushS (okMost g most) x) (b, x :: r)) (j + 1))
                    rw [hs]
                    exact SubI.of [] (by rw [href]; rfl) rfl ⟨⟨rfl, LeBx.rfl⟩, ⟨rfl, LeBx.rfl⟩, ⟨rfl, LeBx.rfl⟩, ⟨rfl, LeBx.rfl⟩, ⟨rfl, LeBx.rfl⟩, trivial⟩ ⟨⟨rfl, LeQ.rfl⟩, ⟨rfl, LeQ.rfl⟩, ⟨rfl, LeQ.rfl⟩, ⟨rfl, LeQ.rfl⟩, ⟨rfl, LeQ.rfl⟩, ⟨rfl, LeQ.rfl⟩, ⟨rfl, LeQ.rfl⟩, ⟨rfl, LeQ.rfl⟩, ⟨rfl, LeQ.int (w64_of (by omega) (by omega))⟩, trivial⟩
                  · have h4 : ((hasM s.1 (nr.getD j 0) || !knownG g (nr.getD j 0)) || !decide (levelAt g (nr.getD j 0) ≤ most)) = false := h4
                    rw [Bool.or_assoc, ← Bool.not_and] at h4
                    have hs : (nr.take (j + 1)).foldl (pushS (okMost g most) x) (b, x :: r) = (setM s.1 (nr.getD j 0) x, s.2 ++ [nr.getD j 0]) := by
                      rw [hs]
                      show (bif hasM s.1 (nr.getD j 0) || !(knownG g (nr.getD j 0) && decide (levelAt g (nr.getD j 0) ≤ most)) then _ else _) = _
                      rw [h4]; rfl
                    have hmu : muS g.levels.length ((nr.take (j + 1)).foldl (pushS (okMost g most) x) (b, x :: r)) ≤ muS g.levels.length s := by
                      have hh1 : ((hasM s.1 (nr.getD j 0)) || !((okMost g most) (nr.getD j 0))) = false := h4
                      rw [Bool.or_eq_false_iff] at hh1
                      rw [hs]
                      exact (hpj.1.put hok (by simpa using hh1.2) hh1.1 (.inr hpj.2.2)).2
                    rw [hs] at hmu
                    refine ob (by decide) ?_
                    refine ob (show (lo + s.2.length + 1) * 8 ≤ _ by omega) ?_
                    refine ob (fit1 (lt1 rfl)) ?_
                    refine And.intro ?_ ?_
                    · refine ⟨(lo, snocF h (lo + s.2.length) (nr.getD j 0), j + 1), ⟨by simp only; omega, by simp only; rw [hs]; omega, ?_⟩, by simp only; omega, ?_⟩
                      · simp only
                        rw [hs]
                        intro k hk
                        rw [List.length_append, List.length_singleton] at hk
                        show (if lo + k < lo + s.2.length then h (lo + k) else nr.getD j 0) = (s.2 ++ [nr.getD j 0]).getD k 0
                        rw [getD_app]
                        by_cases e : k < s.2.length
                        · rw [if_pos (by omega), if_pos e]; exact hh k e
                        · rw [if_neg (by omega), if_neg e, if_pos (by omega)]
                      · show SubI cx _ _ (wayClear4 g most to x nr lo (snocF h (lo + s.2.length) (nr.getD j 0)) ((nr.take (j + 1)).foldl (pushS (okMost g most) x) (b, x :: r)) (j + 1))
                        rw [hs]
                        exact SubI.of [(100, 99)] (by rw [href]; rfl) rfl ⟨⟨rfl, LeBx.rfl⟩, ⟨rfl, LeBx.rfl⟩, ⟨rfl, LeBx.rfl⟩, ⟨rfl, LeBx.rfl⟩, ⟨rfl, LeBx.snocI rfl (by rw [List.length_append, List.length_singleton]; omega)⟩, trivial⟩ ⟨⟨rfl, LeQ.rfl⟩, ⟨rfl, LeQ.rfl⟩, ⟨rfl, LeQ.rfl⟩, ⟨rfl, LeQ.rfl⟩, ⟨rfl, LeQ.of_eq (by rw [List.length_append, List.length_singleton]; rfl)⟩, ⟨rfl, LeQ.rfl⟩, ⟨rfl, LeQ.rfl⟩, ⟨rfl, LeQ.rfl⟩, ⟨rfl, LeQ.int (w64_of (by omega) (by omega))⟩, trivial⟩
                    · refine ⟨(0, snocF (fun i => h (lo + i)) s.2.length (nr.getD j 0), j + 1), ⟨by simp only; omega, by simp only; rw [hs]; omega, ?_⟩, by simp only; omega, ?_⟩
                      · simp only
                        rw [hs]
                        intro k hk
                        rw [List.length_append, List.length_singleton] at hk
                        show (if 0 + k < s.2.length then h (lo + (0 + k)) else nr.getD j 0) = (s.2 ++ [nr.getD j 0]).getD k 0
                        rw [getD_app, Nat.zero_add]
                        by_cases e : k < s.2.length
                        · rw [if_pos e, if_pos e]; exact hh k e
                        · rw [if_neg e, if_neg e, if_pos (by omega)]
                      · show SubI cx _ _ (wayClear4 g most to x nr 0 (snocF (fun i => h (lo + i)) s.2.length (nr.getD j 0)) ((nr.take (j + 1)).foldl (pushS (okMost g most) x) (b, x :: r)) (j + 1))
                        rw [hs]
                        exact SubI.of [(100, 99)] (by rw [href]; rfl) rfl ⟨⟨rfl, LeBx.rfl⟩, ⟨rfl, LeBx.rfl⟩, ⟨rfl, LeBx.rfl⟩, ⟨rfl, LeBx.rfl⟩, ⟨rfl, LeBx.snocI rfl (by rw [List.length_append, List.length_singleton]; omega)⟩, trivial⟩ ⟨⟨rfl, LeQ.rfl⟩, ⟨rfl, LeQ.rfl⟩, ⟨rfl, LeQ.rfl⟩, ⟨rfl, LeQ.rfl⟩, ⟨rfl, LeQ.of_eq (by rw [List.length_append, List.length_singleton]; rfl)⟩, ⟨rfl, LeQ.rfl⟩, ⟨rfl, LeQ.rfl⟩, ⟨rfl, LeQ.rfl⟩, ⟨rfl, LeQ.int (w64_of (by omega) (by omega))⟩, trivial⟩
                · have h3 : ¬ (j : Int) < nr.length := decF h3
                  obtain rfl : j = nr.length := by omega
                  generalize (nr.take nr.length).foldl (pushS (okMost g most) x) (b, x :: r) = s at hlo hh hpj hr' he
                  obtain ⟨b', t'⟩ := s
                  simp only at hr'
                  subst hr'
                  have hmt : muS g.levels.length (b', x :: r') = muS g.levels.length (b', r') + 1 := by unfold muS; simp only [List.length_cons]; omega
                  have hmp := hpj.2.1
                  refine oi ⟨by decide, by show (1 : Int) ≤ ((x :: r').length : Int); simp only [List.length_cons]; omega, Int.le_refl _⟩ ?_
                  refine ⟨(lo + 1, h, (b', r'), m), ⟨he, by simp only; omega, hpj.1.tail, by simp only; omega, fun k hk => ?_⟩, by simp only; omega, ?_⟩
                  · have := hh (k + 1) (by simp only [List.length_cons]; simp only at hk; omega)
                    show h (lo + 1 + k) = r'.getD k 0
                    rw [show lo + 1 + k = lo + (k + 1) by omega, this]; rfl
                  · exact SubI.of [] (by rw [href]; rfl) rfl ⟨⟨rfl, LeBx.rfl⟩, ⟨rfl, LeBx.rfl⟩, ⟨rfl, LeBx.rfl⟩, ⟨rfl, LeBx.rfl⟩, ⟨rfl, LeBx.row (by simp only [List.length_cons]; omega) fun _ _ _ _ => LeD.refl _⟩, trivial⟩ ⟨⟨rfl, LeQ.rfl⟩, ⟨rfl, LeQ.rfl⟩, ⟨rfl, LeQ.rfl⟩, ⟨rfl, LeQ.rfl⟩, ⟨rfl, LeQ.rfl⟩, trivial⟩
        · have h1 : ¬ (t.length : Int) > 0 := decF h1
          obtain rfl : t = [] := List.eq_nil_of_length_eq_zero (by omega)
          rw [searchL_nil] at he
          rw [he]
          refine ⟨rfl, (lo, h), ⟨hw, hh⟩, ?_⟩
          exact SubI.of [] (by rw [href]; rfl) rfl ⟨⟨rfl, LeBx.rfl⟩, ⟨rfl, LeBx.rfl⟩, ⟨rfl, LeBx.rfl⟩, ⟨rfl, LeBx.rfl⟩, ⟨rfl, LeBx.rfl⟩, trivial⟩ ⟨⟨rfl, LeQ.rfl⟩, ⟨rfl, LeQ.rfl⟩, ⟨rfl, LeQ.rfl⟩, ⟨rfl, LeQ.rfl⟩, ⟨rfl, LeQ.rfl⟩, trivial⟩
    · generalize searchL (okMost g most) (nearL g) to g.levels.length s0 = s
      rintro ⟨lo, h⟩ ⟨hw, hh⟩
      simp only at hw hh ⊢
      refine ex.sound (rc := [101]) tab_ok mix href _ ?_
      obtain ⟨b, t⟩ := s
      match t with
      | [] =>
        refine And.intro (fun _ => ?_) (fun h => by cases h)
        exact ⟨SubR.le LeD.nil, ⟨rfl, rfl, trivial⟩⟩
      | i :: r =>
        have hi0 : h (lo + 0) = i := hh 0 (by simp)
        refine And.intro (fun h => ?_) (fun _ => ?_)
        · exfalso
          have h : (((i :: r).length : Int) == 0) = true := h
          rw [len0] at h; cases h
        have hm := hw.mem i (List.mem_cons_self ..)
        have hpl := posM_lt hm
        have hcn := hw.cnt
        simp only at hm hpl hcn
        refine oi ⟨Int.le_refl _, by show (0 : Int) < ((i :: r).length : Int); simp only [List.length_cons]; omega⟩ ?_
        refine oi (show lo + 0 < lo + (i :: r).length by simp) ?_
        refine oi ⟨Int.le_refl _, by show (0 : Int) < ((i :: r).length : Int); simp only [List.length_cons]; omega⟩ ?_
        refine oi (show lo + 0 < lo + (i :: r).length by simp) ?_
        refine AW.loopI (fun q : Int × List Int × Nat => wayClear5 g most b q.1 q.2.1)
          (fun q => backL b b.length i [i] = backL b q.2.2 q.1 q.2.1 ∧ hasM b q.1 = true ∧ posM b q.1 ≤ q.2.2 ∧ 0 < q.2.1.length ∧ q.2.1.length + posM b q.1 ≤ 1025)
          (fun q => posM b q.1) (i, [i], b.length) ⟨rfl, hm, Nat.le_of_lt hpl, by simp, by simp only [List.length_singleton]; omega⟩ ?_ ?_
        · refine SubI.of [(200, 107)] (by rw [href]; rfl) rfl ⟨⟨rfl, LeBx.rfl⟩, ⟨rfl, LeBx.rfl⟩, ⟨rfl, LeBx.rfl⟩, ⟨rfl, LeBx.row rfl fun k j hk hj => LeD.of_eq ?_⟩, trivial⟩ ⟨⟨rfl, LeQ.rfl⟩, ⟨rfl, LeQ.rfl⟩, ⟨rfl, LeQ.int hi0⟩, trivial⟩
          have hk : k < 1 := hk
          obtain rfl : k = 0 := by omega
          have hj : j < 1 := hj
          obtain rfl : j = 0 := by omega
          exact congrArg dI hi0
        · generalize hi00 : i = i0
          rintro ⟨i, out, m⟩ ⟨he, hm, hpos, ho0, hol⟩
          simp only at he hm hpos ho0 hol ⊢
          refine ex.sound (rc := [101]) tab_ok mix href _ ?_
          refine oi hm ?_
          refine And.intro (fun h => ?_) (fun h => ?_)
          · have h : (getM b i != i) = true := h
            have hne : getM b i ≠ i := by simpa using h
            have hp := (hw.par i hm).resolve_left hne
            simp only at hp
            match m with
            | 0 => omega
            | m + 1 =>
              rw [backL, beq_eq_false_iff_ne.2 hne, cond_false] at he
              refine oi hm ?_
              refine ob (show (out.length + 1) * 8 ≤ _ by omega) ?_
              refine ob (fit1 (lt1 rfl)) ?_
              refine oi hm ?_
              refine ⟨(getM b i, out ++ [getM b i], m), ⟨he, hp.1, by simp only; omega, by simp, by simp only [List.length_append, List.length_singleton]; omega⟩, hp.2, ?_⟩
              exact SubI.of [(200, 124)] (by rw [href]; rfl) rfl ⟨⟨rfl, LeBx.rfl⟩, ⟨rfl, LeBx.rfl⟩, ⟨rfl, LeBx.rfl⟩, ⟨rfl, RowIs.row (el := fun x _ => dI x) (RowIs.snoc intRow1 (lt1 rfl))⟩, trivial⟩ ⟨⟨rfl, LeQ.rfl⟩, ⟨rfl, LeQ.rfl⟩, ⟨rfl, LeQ.rfl⟩, trivial⟩
          · have h : (getM b i != i) = false := h
            have heq : (getM b i == i) = true := by simpa using h
            have hres : backL b b.length i0 [i0] = out := by
              rw [he]
              cases m with
              | zero => rfl
              | succ m => rw [backL, heq, cond_true]
            simp only
            rw [hres]
            refine ⟨[(1001, 200)], _, _, _, _, ReverseR out (intEl out) (fun i j _ hj => ?_) ho0 (by omega), rfl, ⟨rfl, trivial⟩, rfl, ?_⟩
            · obtain rfl : j = 0 := by omega
              exact LeD.refl _
            · refine ⟨SubR.le (LeD.slc' (by simp) fun i j hi hj => LeD.of_eq ?_), ⟨rfl, rfl, trivial⟩⟩
              obtain rfl : j = 0 := by omega
              exact revF_end hi
end Go.Ch

namespace Go.Ch
open Go Go.Ax Go.Proofs Go.Proofs.Tryz
set_option maxRecDepth 100000
set_option pp.maxSteps 400
set_option maxHeartbeats 1000000

structure WayV where
  fr : List Int
  to : List Int
  level : Int
  path : List Int
  bar : List Int
  deriving Inhabited
abbrev wayB (q : WayV) : Box := .cells [.d (dInts q.fr), .d (dInts q.to), .d (dI q.level), .d (dInts q.path), .d (dInts q.bar)]
abbrev wayA (q : WayV) : AV := .g [.d (dInts q.fr), .d (dInts q.to), .d (dI q.level), .d (dInts q.path), .d (dInts q.bar)]
def okFree (g : Grid) (bar : List Int) (i : Int) : Bool := knownG g i && !bar.contains i
theorem okFree_known {g : Grid} {bar : List Int} {i : Int} (h : okFree g bar i = true) : there g i = true := by
  unfold okFree knownG at h
  simp only [Bool.and_eq_true] at h
  exact h.1.1
end Go.Ch

namespace Go.Ch
open Go Go.Ax Go.Proofs Go.Proofs.Tryz
set_option maxRecDepth 100000
set_option pp.maxSteps 400
set_option maxHeartbeats 1000000
set_option linter.unusedVariables false

abbrev wayCheck0 (g : Grid) (v : WayV) : St := ⟨[(10, .s (.d (.val (.slice none 0 0))))], [(1001, some (wayB v))]⟩
abbrev wayCheck5 (g : Grid) (v : WayV) (b : List (Int × Int)) (i : Int) (out : List Int) : St := ⟨[(9, .s (.mp 22)), (20, .s (.own 200)), (21, vI i)], [(1001, some (wayB v)), (22, some (.map .int b)), (200, some (.row 3 out.length 1 (intEl out)))]⟩
end Go.Ch
