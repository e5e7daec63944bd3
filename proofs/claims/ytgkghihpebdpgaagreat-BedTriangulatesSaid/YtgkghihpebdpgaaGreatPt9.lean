/- Part 9: lemmas that the proofs of this seat share; by itself it claims nothing. -/
import Derived.Test.YtgkghihpebdpgaaGreatPt8
/- Squares: the plain function; the reference's numbers. -/
namespace Go.Ch
open Go Go.Ax Go.Proofs Go.Proofs.Tryz Go.Hull
set_option maxRecDepth 100000
set_option pp.maxSteps 400
set_option maxHeartbeats 1000000

def kn (g : Grid) (k : Nat) : Bool := g.levels.getD k 0 != 30000
def ndAt (g : Grid) (k : Nat) : Nd := ⟨(centreG g k).x, (centreG g k).y, g.levels.getD k 0⟩
def nds (g : Grid) (i : Nat) : List Nd := (List.range i).filterMap fun k => bif kn g k then some (ndAt g k) else none
def numI (g : Grid) (k : Nat) : Int := bif kn g k then ((nds g k).length : Int) else -1
theorem nds_succ (g : Grid) (i : Nat) : nds g (i + 1) = bif kn g i then nds g i ++ [ndAt g i] else nds g i := by
  unfold nds
  rw [List.range_succ, List.filterMap_append]
  cases h : kn g i <;> simp [h]
theorem nds_len (g : Grid) (i : Nat) : (nds g i).length ≤ i := by
  have := List.length_filterMap_le (fun k => bif kn g k then some (ndAt g k) else none) (List.range i)
  rw [List.length_range] at this
  exact this
theorem knownF_kn {g : Grid} {i : Nat} (h : i < g.levels.length) : knownF g i = kn g i := by
  unfold knownF kn lv
  rw [decide_eq_true (show (i : Int) ≥ 0 by omega), decide_eq_true (show (i : Int) < g.levels.length by omega)]
  simp
theorem LeBx.snocN {o : List Nd} {n : Nd} {g : Nat → Nat → DV} (hg : ∀ j, j < 3 → g 0 j = ndD n j) :
    LeBx (.row 37 ((bif o.isEmpty then 0 else o.length) + 1) 3 (catF (bif o.isEmpty then 0 else o.length) (ndEl o) g)) (.mrow 37 (o ++ [n]).length 3 (ndEl (o ++ [n]))) := LeBx.snoc (el := ndD) hg
abbrev qS1 (g : Grid) (i : Nat) (o : List Nd) (f : Nat → Int) : St := ⟨[(1, .s (.ptr 1 0)), (2, .s (.ptr 2 0)), (3, .s (.ptr 3 0)), (4, .s (.own 15)), (5, vI i)],
  [(1, some (gridB g)), (2, some (.cells (zvs ty30.zero))), (3, some (.cells [.mo o.isEmpty 100, .d (.val (.slice none 0 0))])), (15, some (.row 3 g.levels.length 1 (fun k _ => dI (f k)))), (100, some (.mrow 37 o.length 3 (ndEl o)))]⟩
def numF (g : Grid) (i : Nat) : Nat → Int := fun k => if k < i then numI g k else 0
abbrev qS2 (g : Grid) (i : Nat) (o : List Tr) : St := ⟨[(1, .s (.ptr 1 0)), (2, .s (.ptr 2 0)), (3, .s (.ptr 3 0)), (4, .s (.own 15)), (7, vI i)],
  [(1, some (gridB g)), (2, some (.cells (zvs ty30.zero))), (3, some (.cells [.mo (nds g g.levels.length).isEmpty 100, .mo o.isEmpty 101])), (15, some (.row 3 g.levels.length 1 (fun k _ => dI (numF g g.levels.length k)))), (100, some (.mrow 37 (nds g g.levels.length).length 3 (ndEl (nds g g.levels.length)))), (101, some (.mrow 70 o.length 3 (trEl o)))]⟩
abbrev qS3 (g : Grid) (i : Nat) (o : List Tr) (p q s t : Int) : St := ⟨[(1, .s (.ptr 1 0)), (2, .s (.ptr 2 0)), (3, .s (.ptr 3 0)), (4, .s (.own 15)), (7, vI i), (8, vI p), (9, vI q), (10, vI s), (11, vI t)],
  [(1, some (gridB g)), (2, some (.cells (zvs ty30.zero))), (3, some (.cells [.mo (nds g g.levels.length).isEmpty 100, .mo o.isEmpty 101])), (15, some (.row 3 g.levels.length 1 (fun k _ => dI (numF g g.levels.length k)))), (100, some (.mrow 37 (nds g g.levels.length).length 3 (ndEl (nds g g.levels.length)))), (101, some (.mrow 70 o.length 3 (trEl o)))]⟩
theorem numF_at {g : Grid} {k : Nat} (h : k < g.levels.length) {n : Int} (e : n = (k : Int)) : numF g g.levels.length n.toNat = numI g k := by
  subst e; unfold numF; rw [Int.toNat_natCast, if_pos h]
theorem LeBx.snoc2 {o : List Tr} {x y : Tr} {g : Nat → Nat → DV} (h0 : ∀ j, j < 3 → g 0 j = trD x j) (h1 : ∀ j, j < 3 → g 1 j = trD y j) :
    LeBx (.row 70 ((bif o.isEmpty then 0 else o.length) + 2) 3 (catF (bif o.isEmpty then 0 else o.length) (trEl o) g)) (.mrow 70 (o ++ [x, y]).length 3 (trEl (o ++ [x, y]))) := by
  rw [bif_len]
  refine LeBx.mrow (by simp) fun i j hi hj => LeD.of_eq ?_
  show (if i < o.length then trD (o.getD i default) j else g (i - o.length) j) = trD ((o ++ [x, y]).getD i default) j
  rw [List.getD_eq_getElem?_getD, List.getD_eq_getElem?_getD]
  split
  · rename_i h
    rw [List.getElem?_append_left (by omega)]
  · rename_i h
    rw [List.getElem?_append_right (by omega)]
    have : i - o.length = 0 ∨ i - o.length = 1 := by omega
    rcases this with e | e
    · rw [e, h0 j hj]; rfl
    · rw [e, h1 j hj]; rfl
theorem numF_ne {g : Grid} {i k : Nat} (h : k ≠ i) : dI (numF g i k) = dI (numF g (i + 1) k) := by
  unfold numF
  by_cases hk : k < i
  · rw [if_pos hk, if_pos (by omega)]
  · rw [if_neg hk, if_neg (by omega)]
def lvN (g : Grid) (p : Int) : Int := ((nds g g.levels.length).getD p.toNat default).lv
def sqQ (g : Grid) (p q s t : Int) : List Tr := bif decide (absI (lvN g p - lvN g s) ≤ absI (lvN g q - lvN g t)) then [⟨p, q, s⟩, ⟨p, s, t⟩] else [⟨p, q, t⟩, ⟨q, s, t⟩]
def lastC (g : Grid) (k : Nat) : Bool := (k : Int).tmod g.cols == g.cols - 1
def lastR (g : Grid) (k : Nat) : Bool := (k : Int).tdiv g.cols == g.rows - 1
def none4 (p q s t : Int) : Bool := ((decide (p < 0) || decide (q < 0)) || decide (s < 0)) || decide (t < 0)
def sqT (g : Grid) (k : Nat) : List Tr := bif lastC g k || lastR g k then [] else bif none4 (numI g k) (numI g (k + 1)) (numI g (k + 1 + g.cols.toNat)) (numI g (k + g.cols.toNat)) then [] else sqQ g (numI g k) (numI g (k + 1)) (numI g (k + 1 + g.cols.toNat)) (numI g (k + g.cols.toNat))
def sqs (g : Grid) (i : Nat) : List Tr := (List.range i).flatMap (sqT g)
theorem sqs_succ (g : Grid) (i : Nat) : sqs g (i + 1) = sqs g i ++ sqT g i := by
  unfold sqs
  rw [List.range_succ, List.flatMap_append, List.flatMap_cons, List.flatMap_nil, List.append_nil]
theorem sqT_len (g : Grid) (k : Nat) : (sqT g k).length ≤ 2 := by
  unfold sqT sqQ
  cases lastC g k || lastR g k <;> simp only [cond_true, cond_false, List.length_nil, Nat.zero_le]
  cases none4 (numI g k) (numI g (k + 1)) (numI g (k + 1 + g.cols.toNat)) (numI g (k + g.cols.toNat)) <;> simp only [cond_true, cond_false, List.length_nil, Nat.zero_le]
  cases decide (absI (lvN g (numI g k) - lvN g (numI g (k + 1 + g.cols.toNat))) ≤ absI (lvN g (numI g (k + 1)) - lvN g (numI g (k + g.cols.toNat)))) <;> exact Nat.le_refl 2
theorem sqs_len (g : Grid) : ∀ i, (sqs g i).length ≤ 2 * i
  | 0 => by simp [sqs]
  | i + 1 => by
    rw [sqs_succ, List.length_append]
    have := sqs_len g i
    have := sqT_len g i
    omega
theorem nds_mono (g : Grid) : ∀ {i j : Nat}, i ≤ j → (nds g i).length ≤ (nds g j).length
  | i, 0, h => by obtain rfl : i = 0 := by omega
                  exact Nat.le_refl _
  | i, j + 1, h => by
    by_cases e : i = j + 1
    · rw [e]; exact Nat.le_refl _
    · have := nds_mono g (i := i) (j := j) (by omega)
      rw [nds_succ]
      cases kn g j <;> simp <;> omega
theorem numI_lt {g : Grid} {k n : Nat} (h : k < n) : -1 ≤ numI g k ∧ (0 ≤ numI g k → numI g k < (nds g n).length) := by
  unfold numI
  cases hk : kn g k with
  | false =>
    show -1 ≤ (-1 : Int) ∧ (0 ≤ (-1 : Int) → (-1 : Int) < _)
    exact ⟨by decide, fun h => absurd h (by decide)⟩
  | true =>
    have h1 := nds_succ g k
    rw [hk] at h1
    have h2 := congrArg List.length h1
    simp only [cond_true, List.length_append, List.length_cons, List.length_nil] at h2
    have h3 := nds_mono g (i := k + 1) (j := n) h
    simp only [cond_true]
    omega
theorem cell_in {g : Grid} (hv : GVal g) {k : Nat} (hk : k < g.levels.length) (h1 : lastC g k = false) (h2 : lastR g k = false) : k + 1 + g.cols.toNat < g.levels.length := by
  have hl := hv.len
  have hc := hv.cols
  have hr := hv.rows
  unfold lastC at h1
  unfold lastR at h2
  have h1 : ¬ (k : Int).tmod g.cols = g.cols - 1 := by simpa using h1
  have h2 : ¬ (k : Int).tdiv g.cols = g.rows - 1 := by simpa using h2
  rw [Int.tmod_eq_emod_of_nonneg (by omega)] at h1
  rw [Int.tdiv_eq_ediv_of_nonneg (by omega)] at h2
  have e := Int.emod_add_mul_ediv (k : Int) g.cols
  have m0 := Int.emod_nonneg (k : Int) (show g.cols ≠ 0 by omega)
  have m1 := Int.emod_lt_of_pos (k : Int) (show 0 < g.cols by omega)
  have d0 : 0 ≤ (k : Int) / g.cols := Int.ediv_nonneg (by omega) (by omega)
  have d1 : (k : Int) / g.cols < g.rows := Int.ediv_lt_of_lt_mul (by omega) (by rw [Int.mul_comm]; omega)
  have hm : g.cols * ((k : Int) / g.cols) ≤ g.cols * (g.rows - 2) := Int.mul_le_mul_of_nonneg_left (by omega) (by omega)
  have hx : g.cols * (g.rows - 2) = g.cols * g.rows - 2 * g.cols := by rw [Int.mul_sub]; omega
  omega
theorem lvN_le {g : Grid} (hv : GVal g) (p : Int) : -30000 ≤ lvN g p ∧ lvN g p ≤ 30000 := by
  unfold lvN
  rw [List.getD_eq_getElem?_getD]
  cases h : (nds g g.levels.length)[p.toNat]? with
  | none => exact ⟨by decide, by decide⟩
  | some x =>
    have hx := List.mem_of_getElem? h
    unfold nds at hx
    rw [List.mem_filterMap] at hx
    obtain ⟨k, hk, e⟩ := hx
    rw [List.mem_range] at hk
    cases hkn : kn g k with
    | false => rw [hkn] at e; cases e
    | true =>
      rw [hkn] at e
      have e : some (ndAt g k) = some x := e
      cases e
      have hm : g.levels.getD k 0 ∈ g.levels := by
        rw [List.getD_eq_getElem?_getD, List.getElem?_eq_getElem hk]
        exact List.getElem_mem hk
      have := hv.lev _ hm
      show -30000 ≤ g.levels.getD k 0 ∧ g.levels.getD k 0 ≤ 30000
      omega
theorem _root_.Go.Ax.SubM.trans {cx : Cx} {N : Nat} {a b c : St} (h : SubM cx N a b) (k : SubM cx N b c) : SubM cx N a c := fun M β x w i => let ⟨M1, β1, i1, g1⟩ := h M β x w i; let ⟨M2, β2, i2, g2⟩ := k M1 β1 x w i1; ⟨M2, β2, i2, g1.trans g2⟩
def sqM (g : Grid) : Mesh := ⟨nds g g.levels.length, sqs g g.levels.length⟩
theorem rSquares (g : Grid) (hv : GVal g) (hl : g.levels.length ≤ 1024) : CallP Tryz.prog 14 [grid g] (mesh (sqM g)) := by
  refine callP_of_aw Tryz.func14 rfl rfl Tryz.call14 tab_ok rfl rfl (fun cx href => ?_)
  refine AW.seq (ex.sound (rc := []) tab_ok mix href _ ?_)
  refine AW.seq (ex.sound (rc := []) tab_ok mix href _ ?_)
  refine AW.seq (ex.sound (rc := []) tab_ok mix href _ ?_)
  refine ob (by omega) ?_
  refine ob (Int.le_refl _) ?_
  refine ob (show (8 : Int) * (g.levels.length : Int) ≤ 281474976710656 by omega) ?_
  refine AW.cut (σ' := qS1 g g.levels.length (nds g g.levels.length) (numF g g.levels.length)) (ex.sound (rc := []) tab_ok mix href _ ?_) ?_
  · refine AW.loopI (fun i => qS1 g i (nds g i) (numF g i)) (fun i => i ≤ g.levels.length) (fun i => g.levels.length - i) 0 (Nat.zero_le _) ?_ ?_
    · refine SubI.of0 href [(100, 1000)] rfl ⟨⟨rfl, LeBx.rfl⟩, ⟨rfl, LeBx.rfl⟩, ⟨rfl, LeBx.cells ⟨LeQ.nil rfl, LeQ.rfl, trivial⟩⟩, ⟨rfl, LeBx.row rfl fun k j hk hj => LeD.of_eq ?_⟩, ⟨rfl, rfl⟩, trivial⟩ ⟨⟨rfl, LeQ.rfl⟩, ⟨rfl, LeQ.rfl⟩, ⟨rfl, LeQ.rfl⟩, ⟨rfl, LeQ.rfl⟩, ⟨rfl, LeQ.rfl⟩, trivial⟩
      obtain rfl : j = 0 := by have : j < 1 := hj; omega
      show dI 0 = dI (numF g 0 k)
      unfold numF; rw [if_neg (Nat.not_lt_zero k)]
    · intro i hi
      have hnl := nds_len g i
      refine ex.sound (rc := []) tab_ok mix href _ ?_
      refine And.intro (fun h => ?_) (fun h => ?_)
      · have h : (i : Int) < g.levels.length := decT h
        have hi' : i < g.levels.length := by omega
        refine oi ⟨by omega, by omega⟩ ?_
        refine ob (show ((i : Int)).toNat < g.levels.length by omega) ?_
        refine callN (rKnown g i) ?_
        rw [knownF_kn hi']
        have hsu := nds_succ g i
        refine And.intro (fun h2 => ?_) (fun h2 => ?_)
        · have h2 : kn g i = true := h2
          have hni : numI g i = ((nds g i).length : Int) := by unfold numI; rw [h2]; rfl
          rw [h2] at hsu
          have hsu : nds g (i + 1) = nds g i ++ [ndAt g i] := hsu
          refine oi ⟨by omega, by omega⟩ ?_
          refine ob (show ((i : Int)).toNat < g.levels.length by omega) ?_
          refine callN (Centre g i (by have := hv.cols; omega)) ?_
          repeat first | refine sk ?_ | refine st ?_ | refine sg ?_ | refine sh ?_ | refine su ?_ | refine sn1 ?_ | refine sn0 ?_ | refine And.intro (show imp none (gimp _ none) from trivial) ?_
          refine oi ⟨by omega, by omega⟩ ?_
          repeat first | refine sk ?_ | refine st ?_ | refine sg ?_ | refine sh ?_ | refine su ?_ | refine sn1 ?_ | refine sn0 ?_ | refine And.intro (show imp none (gimp _ none) from trivial) ?_
          refine ob (by decide) ?_
          refine ob (by rw [bif_len]; show ((nds g i).length + 1) * 24 ≤ 140737488355328; omega) ?_
          refine ob (fun k j hk hj => ?_) ?_
          · obtain rfl : k = 0 := by omega
            match j, hj with
            | 0, _ => rfl
            | 1, _ => rfl
            | 2, _ => rfl
          refine And.intro (by kernel_rfl) ?_
          refine ⟨i + 1, by omega, by omega, ?_⟩
          show SubI cx _ _ (qS1 g (i + 1) (nds g (i + 1)) (numF g (i + 1)))
          rw [hsu]
          refine SubI.of0 href [(100, 51)] rfl ⟨⟨rfl, LeBx.rfl⟩, ⟨rfl, LeBx.rfl⟩, ⟨rfl, LeBx.cells ⟨LeQ.mo (isEmpty_snoc _ _), LeQ.rfl, trivial⟩⟩, ⟨rfl, LeBx.row rfl fun k j hk hj => LeD.of_eq ?_⟩, ⟨rfl, LeBx.snocN fun j hj => match j, hj with | 0, _ => rfl | 1, _ => rfl | 2, _ => rfl⟩, trivial⟩ ⟨⟨rfl, LeQ.rfl⟩, ⟨rfl, LeQ.rfl⟩, ⟨rfl, LeQ.rfl⟩, ⟨rfl, LeQ.rfl⟩, ⟨rfl, LeQ.int (w64_of (by omega) (by omega))⟩, trivial⟩
          obtain rfl : j = 0 := by omega
          show rowSet (rowSet (fun k _ => dI (numF g i k)) i 0 [.d (dI (-1))]) i 0 [.d (dI ((bif (nds g i).isEmpty then 0 else (nds g i).length : Nat) : Int))] k 0 = dI (numF g (i + 1) k)
          rw [bif_len, ← hni]
          by_cases hki : k = i
          · subst hki; rw [rowSet_self]; unfold numF; rw [if_pos (by omega)]
          · rw [rowSet_ne hki, rowSet_ne hki]; exact numF_ne hki
        · have h2 : kn g i = false := h2
          have hni : numI g i = -1 := by unfold numI; rw [h2]; rfl
          rw [h2] at hsu
          have hsu : nds g (i + 1) = nds g i := hsu
          refine ⟨i + 1, by omega, by omega, ?_⟩
          show SubI cx _ _ (qS1 g (i + 1) (nds g (i + 1)) (numF g (i + 1)))
          rw [hsu]
          refine SubI.of0 href [] rfl ⟨⟨rfl, LeBx.rfl⟩, ⟨rfl, LeBx.rfl⟩, ⟨rfl, LeBx.cells ⟨LeQ.rfl, LeQ.rfl, trivial⟩⟩, ⟨rfl, LeBx.row rfl fun k j hk hj => LeD.of_eq ?_⟩, ⟨rfl, LeBx.rfl⟩, trivial⟩ ⟨⟨rfl, LeQ.rfl⟩, ⟨rfl, LeQ.rfl⟩, ⟨rfl, LeQ.rfl⟩, ⟨rfl, LeQ.rfl⟩, ⟨rfl, LeQ.int (w64_of (by omega) (by omega))⟩, trivial⟩
          obtain rfl : j = 0 := by omega
          show rowSet (fun k _ => dI (numF g i k)) i 0 [.d (dI (-1))] k 0 = dI (numF g (i + 1) k)
          rw [← hni]
          by_cases hki : k = i
          · subst hki; rw [rowSet_self]; unfold numF; rw [if_pos (by omega)]
          · rw [rowSet_ne hki]; exact numF_ne hki
      · have h : ¬ (i : Int) < g.levels.length := decF h
        obtain rfl : i = g.levels.length := by omega
        refine ⟨rfl, SubI.of0 href [] rfl ⟨⟨rfl, LeBx.rfl⟩, ⟨rfl, LeBx.rfl⟩, ⟨rfl, LeBx.cells ⟨LeQ.rfl, LeQ.rfl, trivial⟩⟩, ⟨rfl, LeBx.row rfl fun k j hk hj => LeD.of_eq ?_⟩, ⟨rfl, LeBx.rfl⟩, trivial⟩ ⟨⟨rfl, LeQ.rfl⟩, ⟨rfl, LeQ.rfl⟩, ⟨rfl, LeQ.rfl⟩, ⟨rfl, LeQ.rfl⟩, ⟨rfl, LeQ.rfl⟩, trivial⟩⟩
        rfl
  · refine AW.cut (σ' := qS2 g g.levels.length (sqs g g.levels.length)) (ex.sound (rc := []) tab_ok mix href _ ?_) ?_
    · refine AW.loopI (fun i => qS2 g i (sqs g i)) (fun i => i ≤ g.levels.length) (fun i => g.levels.length - i) 0 (Nat.zero_le _) ?_ ?_
      · exact SubI.of0 href [(101, 1000)] rfl ⟨⟨rfl, LeBx.rfl⟩, ⟨rfl, LeBx.rfl⟩, ⟨rfl, LeBx.cells ⟨LeQ.rfl, LeQ.nil rfl, trivial⟩⟩, ⟨rfl, LeBx.rfl⟩, ⟨rfl, LeBx.rfl⟩, ⟨rfl, rfl⟩, trivial⟩ ⟨⟨rfl, LeQ.rfl⟩, ⟨rfl, LeQ.rfl⟩, ⟨rfl, LeQ.rfl⟩, ⟨rfl, LeQ.rfl⟩, ⟨rfl, LeQ.rfl⟩, trivial⟩
      · intro i hi
        have hol := sqs_len g i
        have hsu := sqs_succ g i
        have hend : ∀ k, i = k → sqs g k = sqs g i := fun k h => h ▸ rfl
        generalize sqs g i = o at hol hsu hend ⊢
        refine AW.seq (ex.sound (rc := []) tab_ok mix href _ ?_)
        refine And.intro (fun h => ?_) (fun h => ?_)
        · have h : (i : Int) < g.levels.length := decT h
          have hi' : i < g.levels.length := by omega
          have hc := hv.cols
          have hr := hv.rows
          have hc0 : g.cols ≠ 0 := by omega
          refine AW.seq (AW.block (AW.seq (ex.sound (rc := []) tab_ok mix href _ ?_)))
          repeat first | refine sk ?_ | refine st ?_ | refine sg ?_ | refine sh ?_ | refine su ?_ | refine sn1 ?_ | refine sn0 ?_ | refine And.intro (show imp none (gimp _ none) from trivial) ?_
          refine oi hc0 ?_
          repeat first | refine sk ?_ | refine st ?_ | refine sg ?_ | refine sh ?_ | refine su ?_ | refine sn1 ?_ | refine sn0 ?_ | refine And.intro (show imp none (gimp _ none) from trivial) ?_
          refine og (fun _ => hc0) ?_
          repeat first | refine sk ?_ | refine st ?_ | refine sg ?_ | refine sh ?_ | refine su ?_ | refine sn1 ?_ | refine sn0 ?_ | refine And.intro (show imp none (gimp _ none) from trivial) ?_
          refine And.intro (by kernel_rfl) ?_
          have hlast : ∀ {b : Bool}, (((i : Int).tmod g.cols == w64 (g.cols - 1)) || (w64 ((i : Int).tdiv g.cols) == w64 (g.rows - 1))) = b → (lastC g i || lastR g i) = b := by
            rintro b rfl
            have hq : 0 ≤ (i : Int).tdiv g.cols ∧ (i : Int).tdiv g.cols ≤ i := by
              rw [Int.tdiv_eq_ediv_of_nonneg (by omega)]
              exact ⟨Int.ediv_nonneg (by omega) (by omega), Int.ediv_le_self _ (by omega)⟩
            rw [w64_of (n := g.cols - 1) (by omega) (by omega), w64_of (n := g.rows - 1) (by omega) (by omega), w64_of (by omega) (by omega)]
            rfl
          refine And.intro (fun h2 => ?_) (fun h2 => ?_)
          · have h2 := hlast h2
            refine ex.sound (rc := []) tab_ok mix href _ ?_
            have hT : sqT g i = [] := by unfold sqT; rw [h2]; rfl
            refine ⟨i + 1, by omega, by omega, ?_⟩
            show SubI cx _ _ (qS2 g (i + 1) (sqs g (i + 1)))
            rw [hsu, hT, List.append_nil]
            exact SubI.of0 href [] rfl ⟨⟨rfl, LeBx.rfl⟩, ⟨rfl, LeBx.rfl⟩, ⟨rfl, LeBx.cells ⟨LeQ.rfl, LeQ.rfl, trivial⟩⟩, ⟨rfl, LeBx.rfl⟩, ⟨rfl, LeBx.rfl⟩, ⟨rfl, LeBx.rfl⟩, trivial⟩ ⟨⟨rfl, LeQ.rfl⟩, ⟨rfl, LeQ.rfl⟩, ⟨rfl, LeQ.rfl⟩, ⟨rfl, LeQ.rfl⟩, ⟨rfl, LeQ.int (w64_of (by omega) (by omega))⟩, trivial⟩
          · have h2 := hlast h2
            have hin := cell_in hv hi' ((Bool.or_eq_false_iff.1 h2).1) ((Bool.or_eq_false_iff.1 h2).2)
            have hcn : ((g.cols.toNat : Nat) : Int) = g.cols := by omega
            have hn1 := numI_lt (g := g) (k := i) (n := g.levels.length) (by omega)
            have hn2 := numI_lt (g := g) (k := i + 1) (n := g.levels.length) (by omega)
            have hn3 := numI_lt (g := g) (k := i + 1 + g.cols.toNat) (n := g.levels.length) (by omega)
            have hn4 := numI_lt (g := g) (k := i + g.cols.toNat) (n := g.levels.length) (by omega)
            have w1 : w64 ((i : Int) + 1) = ((i + 1 : Nat) : Int) := (w64_of (by omega) (by omega)).trans (by omega)
            have w2 : w64 (w64 ((i : Int) + 1) + g.cols) = ((i + 1 + g.cols.toNat : Nat) : Int) := by rw [w1]; exact (w64_of (by omega) (by omega)).trans (by omega)
            have w3 : w64 ((i : Int) + g.cols) = ((i + g.cols.toNat : Nat) : Int) := (w64_of (by omega) (by omega)).trans (by omega)
            refine AW.cut (σ' := qS3 g i o (numI g i) (numI g (i + 1)) (numI g (i + 1 + g.cols.toNat)) (numI g (i + g.cols.toNat))) (ex.sound (rc := []) tab_ok mix href _ ?_) ?_
            · repeat first | refine sk ?_ | refine st ?_ | refine sg ?_ | refine sh ?_ | refine su ?_ | refine sn1 ?_ | refine sn0 ?_ | refine And.intro (show imp none (gimp _ none) from trivial) ?_
              refine oi (show 0 ≤ (i : Int) ∧ (i : Int) < (g.levels.length : Int) by omega) ?_
              repeat first | refine sk ?_ | refine st ?_ | refine sg ?_ | refine sh ?_ | refine su ?_ | refine sn1 ?_ | refine sn0 ?_ | refine And.intro (show imp none (gimp _ none) from trivial) ?_
              refine oi (show ((i : Int)).toNat < g.levels.length by omega) ?_
              repeat first | refine sk ?_ | refine st ?_ | refine sg ?_ | refine sh ?_ | refine su ?_ | refine sn1 ?_ | refine sn0 ?_ | refine And.intro (show imp none (gimp _ none) from trivial) ?_
              refine oi (show 0 ≤ w64 ((i : Int) + 1) ∧ w64 ((i : Int) + 1) < (g.levels.length : Int) by omega) ?_
              repeat first | refine sk ?_ | refine st ?_ | refine sg ?_ | refine sh ?_ | refine su ?_ | refine sn1 ?_ | refine sn0 ?_ | refine And.intro (show imp none (gimp _ none) from trivial) ?_
              refine oi (show (w64 ((i : Int) + 1)).toNat < g.levels.length by omega) ?_
              repeat first | refine sk ?_ | refine st ?_ | refine sg ?_ | refine sh ?_ | refine su ?_ | refine sn1 ?_ | refine sn0 ?_ | refine And.intro (show imp none (gimp _ none) from trivial) ?_
              refine oi (show 0 ≤ w64 (w64 ((i : Int) + 1) + g.cols) ∧ w64 (w64 ((i : Int) + 1) + g.cols) < (g.levels.length : Int) by omega) ?_
              repeat first | refine sk ?_ | refine st ?_ | refine sg ?_ | refine sh ?_ | refine su ?_ | refine sn1 ?_ | refine sn0 ?_ | refine And.intro (show imp none (gimp _ none) from trivial) ?_
              refine oi (show (w64 (w64 ((i : Int) + 1) + g.cols)).toNat < g.levels.length by omega) ?_
              repeat first | refine sk ?_ | refine st ?_ | refine sg ?_ | refine sh ?_ | refine su ?_ | refine sn1 ?_ | refine sn0 ?_ | refine And.intro (show imp none (gimp _ none) from trivial) ?_
              refine oi (show 0 ≤ w64 ((i : Int) + g.cols) ∧ w64 ((i : Int) + g.cols) < (g.levels.length : Int) by omega) ?_
              repeat first | refine sk ?_ | refine st ?_ | refine sg ?_ | refine sh ?_ | refine su ?_ | refine sn1 ?_ | refine sn0 ?_ | refine And.intro (show imp none (gimp _ none) from trivial) ?_
              refine oi (show (w64 ((i : Int) + g.cols)).toNat < g.levels.length by omega) ?_
              repeat first | refine sk ?_ | refine st ?_ | refine sg ?_ | refine sh ?_ | refine su ?_ | refine sn1 ?_ | refine sn0 ?_ | refine And.intro (show imp none (gimp _ none) from trivial) ?_
              refine And.intro (by kernel_rfl) ?_
              refine ⟨rfl, SubI.of0 href [] rfl ⟨⟨rfl, LeBx.rfl⟩, ⟨rfl, LeBx.rfl⟩, ⟨rfl, LeBx.cells ⟨LeQ.rfl, LeQ.rfl, trivial⟩⟩, ⟨rfl, LeBx.rfl⟩, ⟨rfl, LeBx.rfl⟩, ⟨rfl, LeBx.rfl⟩, trivial⟩ ⟨⟨rfl, LeQ.rfl⟩, ⟨rfl, LeQ.rfl⟩, ⟨rfl, LeQ.rfl⟩, ⟨rfl, LeQ.rfl⟩, ⟨rfl, LeQ.rfl⟩, ⟨rfl, LeQ.int ?_⟩, ⟨rfl, LeQ.int ?_⟩, ⟨rfl, LeQ.int ?_⟩, ⟨rfl, LeQ.int ?_⟩, trivial⟩⟩
              · exact numF_at hi' rfl
              · exact numF_at (by omega) w1
              · exact numF_at hin w2
              · exact numF_at (by omega) w3
            · have hT0 : sqT g i = bif none4 (numI g i) (numI g (i + 1)) (numI g (i + 1 + g.cols.toNat)) (numI g (i + g.cols.toNat)) then [] else sqQ g (numI g i) (numI g (i + 1)) (numI g (i + 1 + g.cols.toNat)) (numI g (i + g.cols.toNat)) := by unfold sqT; rw [h2]; rfl
              generalize numI g i = p at *
              generalize numI g (i + 1) = q at *
              generalize numI g (i + 1 + g.cols.toNat) = s at *
              generalize numI g (i + g.cols.toNat) = t at *
              refine AW.seq (ex.sound (rc := []) tab_ok mix href _ ?_)
              repeat first | refine sk ?_ | refine st ?_ | refine sg ?_ | refine sh ?_ | refine su ?_ | refine sn1 ?_ | refine sn0 ?_ | refine And.intro (show imp none (gimp _ none) from trivial) ?_
              refine And.intro (fun h3 => ?_) (fun h3 => ?_)
              · have h3 : none4 p q s t = true := h3
                have hT : sqT g i = [] := by rw [hT0, h3]; rfl
                refine ex.sound (rc := []) tab_ok mix href _ ?_
                refine ⟨i + 1, by omega, by omega, ?_⟩
                show SubI cx _ _ (qS2 g (i + 1) (sqs g (i + 1)))
                rw [hsu, hT, List.append_nil]
                exact SubI.of0 href [] rfl ⟨⟨rfl, LeBx.rfl⟩, ⟨rfl, LeBx.rfl⟩, ⟨rfl, LeBx.cells ⟨LeQ.rfl, LeQ.rfl, trivial⟩⟩, ⟨rfl, LeBx.rfl⟩, ⟨rfl, LeBx.rfl⟩, ⟨rfl, LeBx.rfl⟩, trivial⟩ ⟨⟨rfl, LeQ.rfl⟩, ⟨rfl, LeQ.rfl⟩, ⟨rfl, LeQ.rfl⟩, ⟨rfl, LeQ.rfl⟩, ⟨rfl, LeQ.int (w64_of (by omega) (by omega))⟩, trivial⟩
              · have h3 : none4 p q s t = false := h3
                have hT1 : sqT g i = sqQ g p q s t := by rw [hT0, h3]; rfl
                have hp : 0 ≤ p ∧ 0 ≤ q ∧ 0 ≤ s ∧ 0 ≤ t := by
                  unfold none4 at h3
                  simp only [Bool.or_eq_false_iff, decide_eq_false_iff_not] at h3
                  omega
                obtain ⟨p0, q0, s0, t0⟩ := hp
                have p1 := hn1.2 p0
                have q1 := hn2.2 q0
                have s1 := hn3.2 s0
                have t1 := hn4.2 t0
                have bl := bif_len (nds g g.levels.length)
                refine ex.sound (rc := []) tab_ok mix href _ ?_
                repeat first | refine sk ?_ | refine st ?_ | refine sg ?_ | refine sh ?_ | refine su ?_ | refine sn1 ?_ | refine sn0 ?_ | refine And.intro (show imp none (gimp _ none) from trivial) ?_
                refine oi (show 0 ≤ p ∧ p < ((bif (nds g g.levels.length).isEmpty then 0 else (nds g g.levels.length).length : Nat) : Int) by omega) ?_
                repeat first | refine sk ?_ | refine st ?_ | refine sg ?_ | refine sh ?_ | refine su ?_ | refine sn1 ?_ | refine sn0 ?_ | refine And.intro (show imp none (gimp _ none) from trivial) ?_
                refine oi (show p.toNat < (nds g g.levels.length).length by omega) ?_
                repeat first | refine sk ?_ | refine st ?_ | refine sg ?_ | refine sh ?_ | refine su ?_ | refine sn1 ?_ | refine sn0 ?_ | refine And.intro (show imp none (gimp _ none) from trivial) ?_
                refine oi (show 0 ≤ s ∧ s < ((bif (nds g g.levels.length).isEmpty then 0 else (nds g g.levels.length).length : Nat) : Int) by omega) ?_
                repeat first | refine sk ?_ | refine st ?_ | refine sg ?_ | refine sh ?_ | refine su ?_ | refine sn1 ?_ | refine sn0 ?_ | refine And.intro (show imp none (gimp _ none) from trivial) ?_
                refine oi (show s.toNat < (nds g g.levels.length).length by omega) ?_
                repeat first | refine sk ?_ | refine st ?_ | refine sg ?_ | refine sh ?_ | refine su ?_ | refine sn1 ?_ | refine sn0 ?_ | refine And.intro (show imp none (gimp _ none) from trivial) ?_
                refine callN (Abs (w64 (lvN g p - lvN g s))) ?_
                repeat first | refine sk ?_ | refine st ?_ | refine sg ?_ | refine sh ?_ | refine su ?_ | refine sn1 ?_ | refine sn0 ?_ | refine And.intro (show imp none (gimp _ none) from trivial) ?_
                refine oi (show 0 ≤ q ∧ q < ((bif (nds g g.levels.length).isEmpty then 0 else (nds g g.levels.length).length : Nat) : Int) by omega) ?_
                repeat first | refine sk ?_ | refine st ?_ | refine sg ?_ | refine sh ?_ | refine su ?_ | refine sn1 ?_ | refine sn0 ?_ | refine And.intro (show imp none (gimp _ none) from trivial) ?_
                refine oi (show q.toNat < (nds g g.levels.length).length by omega) ?_
                repeat first | refine sk ?_ | refine st ?_ | refine sg ?_ | refine sh ?_ | refine su ?_ | refine sn1 ?_ | refine sn0 ?_ | refine And.intro (show imp none (gimp _ none) from trivial) ?_
                refine oi (show 0 ≤ t ∧ t < ((bif (nds g g.levels.length).isEmpty then 0 else (nds g g.levels.length).length : Nat) : Int) by omega) ?_
                repeat first | refine sk ?_ | refine st ?_ | refine sg ?_ | refine sh ?_ | refine su ?_ | refine sn1 ?_ | refine sn0 ?_ | refine And.intro (show imp none (gimp _ none) from trivial) ?_
                refine oi (show t.toNat < (nds g g.levels.length).length by omega) ?_
                repeat first | refine sk ?_ | refine st ?_ | refine sg ?_ | refine sh ?_ | refine su ?_ | refine sn1 ?_ | refine sn0 ?_ | refine And.intro (show imp none (gimp _ none) from trivial) ?_
                refine callN (Abs (w64 (lvN g q - lvN g t))) ?_
                repeat first | refine sk ?_ | refine st ?_ | refine sg ?_ | refine sh ?_ | refine su ?_ | refine sn1 ?_ | refine sn0 ?_ | refine And.intro (show imp none (gimp _ none) from trivial) ?_
                refine And.intro (by kernel_rfl) ?_
                have lp := lvN_le hv p
                have lq := lvN_le hv q
                have ls := lvN_le hv s
                have lt := lvN_le hv t
                have habs : ∀ {b : Bool}, decide ((if w64 (lvN g p - lvN g s) < 0 then w64 (0 - w64 (lvN g p - lvN g s)) else w64 (lvN g p - lvN g s)) ≤ (if w64 (lvN g q - lvN g t) < 0 then w64 (0 - w64 (lvN g q - lvN g t)) else w64 (lvN g q - lvN g t))) = b → decide (absI (lvN g p - lvN g s) ≤ absI (lvN g q - lvN g t)) = b := by
                  intro b h
                  rw [w64_of (n := lvN g p - lvN g s) (by omega) (by omega), w64_of (n := lvN g q - lvN g t) (by omega) (by omega), abs_of (by omega), abs_of (by omega)] at h
                  exact h
                refine And.intro (fun h4 => ?_) (fun h4 => ?_)
                · have h4 := habs h4
                  have hT : sqT g i = [⟨p, q, s⟩, ⟨p, s, t⟩] := by rw [hT1]; unfold sqQ; rw [h4]; rfl
                  refine ob (by decide) ?_
                  refine ob (by rw [bif_len]; show (o.length + 2) * 24 ≤ 140737488355328; omega) ?_
                  refine ob (fun k j hk hj => ?_) ?_
                  · have hk : k = 0 ∨ k = 1 := by omega
                    rcases hk with rfl | rfl
                    · match j, hj with
                      | 0, _ => rfl
                      | 1, _ => rfl
                      | 2, _ => rfl
                    · match j, hj with
                      | 0, _ => rfl
                      | 1, _ => rfl
                      | 2, _ => rfl
                  refine ex.sound (rc := []) tab_ok mix href _ ?_
                  refine ⟨i + 1, by omega, by omega, ?_⟩
                  show SubI cx _ _ (qS2 g (i + 1) (sqs g (i + 1)))
                  rw [hsu, hT]
                  exact SubI.of0 href [(101, 156)] rfl ⟨⟨rfl, LeBx.rfl⟩, ⟨rfl, LeBx.rfl⟩, ⟨rfl, LeBx.cells ⟨LeQ.rfl, LeQ.mo (by cases o <;> rfl), trivial⟩⟩, ⟨rfl, LeBx.rfl⟩, ⟨rfl, LeBx.rfl⟩, ⟨rfl, LeBx.snoc2 (fun j hj => match j, hj with | 0, _ => rfl | 1, _ => rfl | 2, _ => rfl) (fun j hj => match j, hj with | 0, _ => rfl | 1, _ => rfl | 2, _ => rfl)⟩, trivial⟩ ⟨⟨rfl, LeQ.rfl⟩, ⟨rfl, LeQ.rfl⟩, ⟨rfl, LeQ.rfl⟩, ⟨rfl, LeQ.rfl⟩, ⟨rfl, LeQ.int (w64_of (by omega) (by omega))⟩, trivial⟩
                · have h4 := habs h4
                  have hT : sqT g i = [⟨p, q, t⟩, ⟨q, s, t⟩] := by rw [hT1]; unfold sqQ; rw [h4]; rfl
                  refine ob (by decide) ?_
                  refine ob (by rw [bif_len]; show (o.length + 2) * 24 ≤ 140737488355328; omega) ?_
                  refine ob (fun k j hk hj => ?_) ?_
                  · have hk : k = 0 ∨ k = 1 := by omega
                    rcases hk with rfl | rfl
                    · match j, hj with
                      | 0, _ => rfl
                      | 1, _ => rfl
                      | 2, _ => rfl
                    · match j, hj with
                      | 0, _ => rfl
                      | 1, _ => rfl
                      | 2, _ => rfl
                  refine ex.sound (rc := []) tab_ok mix href _ ?_
                  refine ⟨i + 1, by omega, by omega, ?_⟩
                  show SubI cx _ _ (qS2 g (i + 1) (sqs g (i + 1)))
                  rw [hsu, hT]
                  exact SubI.of0 href [(101, 169)] rfl ⟨⟨rfl, LeBx.rfl⟩, ⟨rfl, LeBx.rfl⟩, ⟨rfl, LeBx.cells ⟨LeQ.rfl, LeQ.mo (by cases o <;> rfl), trivial⟩⟩, ⟨rfl, LeBx.rfl⟩, ⟨rfl, LeBx.rfl⟩, ⟨rfl, LeBx.snoc2 (fun j hj => match j, hj with | 0, _ => rfl | 1, _ => rfl | 2, _ => rfl) (fun j hj => match j, hj with | 0, _ => rfl | 1, _ => rfl | 2, _ => rfl)⟩, trivial⟩ ⟨⟨rfl, LeQ.rfl⟩, ⟨rfl, LeQ.rfl⟩, ⟨rfl, LeQ.rfl⟩, ⟨rfl, LeQ.rfl⟩, ⟨rfl, LeQ.int (w64_of (by omega) (by omega))⟩, trivial⟩
        · have h : ¬ (i : Int) < g.levels.length := decF h
          obtain rfl : i = g.levels.length := by omega
          refine ⟨rfl, ?_⟩
          rw [hend _ rfl]
          exact SubI.of0 href [] rfl ⟨⟨rfl, LeBx.rfl⟩, ⟨rfl, LeBx.rfl⟩, ⟨rfl, LeBx.cells ⟨LeQ.rfl, LeQ.rfl, trivial⟩⟩, ⟨rfl, LeBx.rfl⟩, ⟨rfl, LeBx.rfl⟩, ⟨rfl, LeBx.rfl⟩, trivial⟩ ⟨⟨rfl, LeQ.rfl⟩, ⟨rfl, LeQ.rfl⟩, ⟨rfl, LeQ.rfl⟩, ⟨rfl, LeQ.rfl⟩, ⟨rfl, LeQ.rfl⟩, trivial⟩
    · have hz0 : ∀ z : Bool, (nds g g.levels.length).isEmpty = z → SubM cx 172 (qS2 g g.levels.length (sqs g g.levels.length)) ⟨[(2, .s (.ptr 2 0)), (3, .s (.ptr 3 0))], [(2, some (.cells (zvs ty30.zero))), (3, some (.cells [.d (dNds (nds g g.levels.length)), .mo (sqs g g.levels.length).isEmpty 101])), (101, some (.mrow 70 (sqs g g.levels.length).length 3 (trEl (sqs g g.levels.length))))]⟩ := by
        intro z hz
        cases z with
        | true =>
          have e0 : nds g g.levels.length = [] := List.isEmpty_iff.1 hz
          refine SubM.of_subI (SubI.of0 href [] rfl ⟨⟨rfl, LeBx.rfl⟩, ⟨rfl, LeBx.cells ⟨?_, LeQ.rfl, trivial⟩⟩, ⟨rfl, LeBx.rfl⟩, trivial⟩ ⟨⟨rfl, LeQ.rfl⟩, ⟨rfl, LeQ.rfl⟩, trivial⟩)
          show LeQ (.s (.mo (nds g g.levels.length).isEmpty 100)) (.s (.d (dNds (nds g g.levels.length))))
          rw [e0]
          exact fun M β v r => LeQ.d LeD.nil M β v (LeQ.toNil (z := true) rfl M β v r)
        | false =>
          refine SubM.trans (SubM.of_subI (SubI.ownC (e := 37) (n := (nds g g.levels.length).length) (s := 3) (f := ndEl (nds g g.levels.length)) (z := (nds g g.levels.length).isEmpty) (cs := [.mo (nds g g.levels.length).isEmpty 100, .mo (sqs g g.levels.length).isEmpty 101]) 3 0 100 rfl rfl hz rfl)) ?_
          exact SubM.of href [] [100] rfl rfl rfl ⟨⟨rfl, LeBxf.rfl⟩, ⟨rfl, LeBxf.cells ⟨fun M β v hf r => LeQf.own (by simp) rfl M β v hf (r.2 hz), LeQf.rfl, trivial⟩⟩, ⟨rfl, LeBxf.rfl⟩, trivial⟩ ⟨⟨rfl, LeQf.rfl⟩, ⟨rfl, LeQf.rfl⟩, trivial⟩
      refine AW.subM (hz0 _ rfl) ?_
      clear hz0
      have hz1 : ∀ z : Bool, (sqs g g.levels.length).isEmpty = z → SubM cx 172 ⟨[(2, .s (.ptr 2 0)), (3, .s (.ptr 3 0))], [(2, some (.cells (zvs ty30.zero))), (3, some (.cells [.d (dNds (nds g g.levels.length)), .mo (sqs g g.levels.length).isEmpty 101])), (101, some (.mrow 70 (sqs g g.levels.length).length 3 (trEl (sqs g g.levels.length))))]⟩ ⟨[(2, .s (.ptr 2 0)), (3, .s (.ptr 3 0))], [(2, some (.cells (zvs ty30.zero))), (3, some (.cells [.d (dNds (nds g g.levels.length)), .d (dTrs (sqs g g.levels.length))]))]⟩ := by
        intro z hz
        cases z with
        | true =>
          have e0 : sqs g g.levels.length = [] := List.isEmpty_iff.1 hz
          refine SubM.of_subI (SubI.of0 href [] rfl ⟨⟨rfl, LeBx.rfl⟩, ⟨rfl, LeBx.cells ⟨LeQ.rfl, ?_, trivial⟩⟩, trivial⟩ ⟨⟨rfl, LeQ.rfl⟩, ⟨rfl, LeQ.rfl⟩, trivial⟩)
          show LeQ (.s (.mo (sqs g g.levels.length).isEmpty 101)) (.s (.d (dTrs (sqs g g.levels.length))))
          rw [e0]
          exact fun M β v r => LeQ.d LeD.nil M β v (LeQ.toNil (z := true) rfl M β v r)
        | false =>
          refine SubM.trans (SubM.of_subI (SubI.ownC (e := 70) (n := (sqs g g.levels.length).length) (s := 3) (f := trEl (sqs g g.levels.length)) (z := (sqs g g.levels.length).isEmpty) (cs := [.d (dNds (nds g g.levels.length)), .mo (sqs g g.levels.length).isEmpty 101]) 3 1 101 rfl rfl hz rfl)) ?_
          exact SubM.of href [] [101] rfl rfl rfl ⟨⟨rfl, LeBxf.rfl⟩, ⟨rfl, LeBxf.cells ⟨LeQf.rfl, fun M β v hf r => LeQf.own (by simp) rfl M β v hf (r.2 hz), trivial⟩⟩, trivial⟩ ⟨⟨rfl, LeQf.rfl⟩, ⟨rfl, LeQf.rfl⟩, trivial⟩
      refine AW.subM (hz1 _ rfl) ?_
      refine ex.sound (rc := []) tab_ok mix href _ ?_
      exact SubR.refl _
end Go.Ch

/- A triangulation passes the check of meshes. -/
namespace Go.Ch
open Go Go.Ax Go.Proofs Go.Proofs.Tryz Go.Hull
set_option maxRecDepth 100000
set_option pp.maxSteps 400
set_option maxHeartbeats 1000000

theorem errT_zero {m : Mesh} : ∀ {l : List Tr}, (∀ t ∈ l, inMB (w64 (m.nodes.length - 1)) t = true ∧ 0 < dbl m t ∧ dbl m t ≤ 800000000) → errT m l = 0
  | [], _ => rfl
  | t :: r, h => by
    obtain ⟨h1, h2, h3⟩ := h t (by simp)
    rw [errT, h1, decide_eq_false (show ¬ dbl m t ≤ 0 by omega), decide_eq_false (show ¬ dbl m t > 800000000 by omega)]
    exact errT_zero (l := r) fun x hx => h x (by simp [hx])
theorem ptsN_at {l : List Nd} {i : Nat} (h : i < l.length) : (ptsN l).getD i default = (l.getD i default).pt := by
  unfold ptsN
  rw [List.getD_eq_getElem?_getD, List.getD_eq_getElem?_getD, List.getElem?_map, List.getElem?_eq_getElem h]
  rfl
theorem crs_near {a b c : Pt} (hb : Near b a) (hc : Near c a) : crs a b c ≤ 800000000 := by
  have := (oc_eq hb hc).2.2
  exact this
theorem errM_tri {l : List Nd} (hb : l.any badLv = false) (h0 : patchE (ptsN l) = 0) (hl : (triR (ptsN l)).length ≤ 2048) : errM ⟨l, trTs (triR (ptsN l))⟩ = 0 := by
  obtain ⟨h64, ho, hd, hap⟩ := patch_ok h0
  have hlen : (ptsN l).length = l.length := by unfold ptsN; rw [List.length_map]
  have hpt : ∀ i, i < l.length → (ptsN l).getD i default ∈ ptsN l := fun i hi => by rw [getD_at (by omega)]; exact List.getElem_mem (by omega)
  have hbn : l.any badN = false := by
    rw [List.any_eq_false] at hb ⊢
    intro n hn
    have h1 := hb n hn
    have h2 : good n.pt = true := good_of (ho _ (by unfold ptsN; exact List.mem_map.2 ⟨n, hn, rfl⟩))
    unfold badN
    unfold badLv at h1
    rw [h2]
    simpa using h1
  unfold errM
  have e1 : (decide ((l.length : Int) > 1024) || decide (((trTs (triR (ptsN l))).length : Int) > 2048)) = false := by
    unfold trTs
    rw [List.length_map, decide_eq_false (by omega), decide_eq_false (by omega)]; rfl
  show (bif (decide ((l.length : Int) > 1024) || decide (((trTs (triR (ptsN l))).length : Int) > 2048)) then 8 else bif l.any badN then 2 else errT _ (trTs (triR (ptsN l)))) = (0 : Int)
  rw [e1, hbn]
  refine errT_zero fun t ht => ?_
  unfold trTs at ht
  rw [List.mem_map] at ht
  obtain ⟨T, hT, rfl⟩ := ht
  obtain ⟨k1, k2, k3, k4, k5, _⟩ := mem_triR.1 hT
  rw [hlen] at k3 k4
  have eA : (ndA ⟨l, trTs (triR (ptsN l))⟩ (trOf T).a).pt = (ptsN l).getD T.A default := (ptsN_at (l := l) (i := T.A) (by omega)).symm
  have eB : (ndA ⟨l, trTs (triR (ptsN l))⟩ (trOf T).b).pt = (ptsN l).getD T.B default := (ptsN_at (l := l) (i := T.B) (by omega)).symm
  have eC : (ndA ⟨l, trTs (triR (ptsN l))⟩ (trOf T).c).pt = (ptsN l).getD T.C default := (ptsN_at (l := l) (i := T.C) (by omega)).symm
  have mA := hpt T.A (by omega)
  have mB := hpt T.B (by omega)
  have mC := hpt T.C (by omega)
  refine ⟨(inMB_iff (by show l.length ≤ 1024; omega)).2 ⟨⟨by show 0 ≤ (T.A : Int); omega, by show (T.A : Int) < (l.length : Int); omega⟩, ⟨by show 0 ≤ (T.B : Int); omega, by show (T.B : Int) < (l.length : Int); omega⟩, ⟨by show 0 ≤ (T.C : Int); omega, by show (T.C : Int) < (l.length : Int); omega⟩⟩, ?_⟩
  unfold dbl
  rw [eA, eB, eC, cross_crs (ho _ mA) (ho _ mB) (ho _ mC)]
  exact ⟨k5, crs_near (near_of hap mB mA) (near_of hap mC mA)⟩
end Go.Ch

/- Squares: the node of a number. -/
namespace Go.Ch
open Go Go.Ax Go.Proofs Go.Proofs.Tryz Go.Hull
set_option maxRecDepth 100000
set_option pp.maxSteps 400
set_option maxHeartbeats 1000000

theorem nds_pre (g : Grid) {i : Nat} : ∀ {j n : Nat}, j ≤ n → i < (nds g j).length → (nds g n)[i]? = (nds g j)[i]?
  | j, 0, h, _ => by obtain rfl : j = 0 := by omega
                     rfl
  | j, n + 1, h, hi => by
    by_cases e : j = n + 1
    · rw [e]
    · have ih := nds_pre g (i := i) (j := j) (n := n) (by omega) hi
      have hm := nds_mono g (i := j) (j := n) (by omega)
      rw [nds_succ]
      cases kn g n with
      | false => exact ih
      | true =>
        show (nds g n ++ [ndAt g n])[i]? = _
        rw [List.getElem?_append_left (by omega)]
        exact ih
theorem nds_at {g : Grid} {k n : Nat} (h : k < n) (hk : kn g k = true) : (nds g n).getD (numI g k).toNat default = ndAt g k := by
  have h1 := nds_succ g k
  rw [hk] at h1
  have h1 : nds g (k + 1) = nds g k ++ [ndAt g k] := h1
  have hn : (numI g k).toNat = (nds g k).length := by unfold numI; rw [hk]; simp
  rw [hn, List.getD_eq_getElem?_getD, nds_pre g (j := k + 1) (n := n) h (by rw [h1]; simp), h1, List.getElem?_append_right (Nat.le_refl _)]
  simp
end Go.Ch

/- bed.Squares: the map from place to number. -/
namespace Go.Ch
open Go Go.Ax Go.Proofs Go.Proofs.Tryz Go.Hull
set_option maxRecDepth 100000
set_option pp.maxSteps 400
set_option maxHeartbeats 1000000

/-- The entries of the map, oldest first. -/
def mapI (g : Grid) (i : Nat) : List (Int × Int) := (List.range i).filterMap fun k => bif kn g k then some ((k : Int), numI g k) else none
theorem mapI_succ (g : Grid) (i : Nat) : mapI g (i + 1) = bif kn g i then mapI g i ++ [((i : Int), numI g i)] else mapI g i := by
  unfold mapI
  rw [List.range_succ, List.filterMap_append]
  cases h : kn g i <;> simp [h]
end Go.Ch

/- bed.Squares: the map; the closure; the numbers. -/
namespace Go.Ch
open Go Go.Ax Go.Proofs Go.Proofs.Tryz Go.Hull
set_option maxRecDepth 100000
set_option pp.maxSteps 400
set_option maxHeartbeats 1000000

theorem findM_append {a v k : Int} : ∀ {l : List (Int × Int)}, findM (l ++ [(a, v)]) k = match findM l k with | some x => some x | none => bif k == a then some v else none
  | [] => by simp only [List.nil_append, findM]
  | (b, u) :: r => by
    simp only [List.cons_append, findM]
    cases h : k == b with
    | true => rfl
    | false => exact findM_append (l := r)
theorem setM_fresh {k v : Int} : ∀ {l : List (Int × Int)}, findM l k = none → setM l k v = l ++ [(k, v)]
  | [], _ => rfl
  | (b, u) :: r, h => by
    simp only [findM] at h
    simp only [setM, List.cons_append]
    cases hb : k == b with
    | true => rw [hb] at h; cases h
    | false =>
      rw [hb] at h
      simp only [cond_false]
      rw [setM_fresh (l := r) h]
theorem findM_mapI (g : Grid) (k : Nat) : ∀ n, findM (mapI g n) (k : Int) = bif decide (k < n) && kn g k then some (numI g k) else none
  | 0 => by
    rw [decide_eq_false (by omega)]; rfl
  | n + 1 => by
    have ih := findM_mapI g k n
    rw [mapI_succ]
    cases hn : kn g n with
    | false =>
      show findM (mapI g n) (k : Int) = _
      rw [ih]
      by_cases e : k = n
      · subst e
        rw [hn, decide_eq_false (by omega)]
        simp
      · by_cases h : k < n
        · rw [decide_eq_true h, decide_eq_true (by omega)]
        · rw [decide_eq_false h, decide_eq_false (by omega)]
    | true =>
      show findM (mapI g n ++ [((n : Int), numI g n)]) (k : Int) = _
      rw [findM_append, ih]
      by_cases e : k = n
      · subst e
        rw [hn, decide_eq_false (by omega), decide_eq_true (by omega)]
        simp
      · have hne : ((k : Int) == (n : Int)) = false := by simp; omega
        rw [hne]
        by_cases h : k < n
        · rw [decide_eq_true h, decide_eq_true (show k < n + 1 by omega)]
          cases kn g k <;> rfl
        · rw [decide_eq_false h, decide_eq_false (show ¬ k < n + 1 by omega)]
          rfl
def hsI (g : Grid) (k : Nat) : Bool := decide (k < g.levels.length) && kn g k
theorem hasM_mapI (g : Grid) (k : Nat) : hasM (mapI g g.levels.length) (k : Int) = hsI g k := by
  unfold hasM hsI
  rw [findM_mapI]
  cases decide (k < g.levels.length) && kn g k <;> rfl
theorem lookM_mapI (g : Grid) (k : Nat) (d : DV) : (bif hasM (mapI g g.levels.length) (k : Int) then VK.int.dv (getM (mapI g g.levels.length) (k : Int)) else d) = (bif hsI g k then dI (numI g k) else d) := by
  rw [hasM_mapI]
  cases h : hsI g k with
  | false => rfl
  | true =>
    unfold hsI at h
    unfold getM
    rw [findM_mapI, h]
    rfl
theorem setM_mapI (g : Grid) {i : Nat} (hk : kn g i = true) : setM (mapI g i) (i : Int) ((nds g i).length : Int) = mapI g (i + 1) := by
  rw [mapI_succ, hk, setM_fresh (by rw [findM_mapI, decide_eq_false (by omega)]; rfl)]
  have : numI g i = ((nds g i).length : Int) := by unfold numI; rw [hk]; rfl
  rw [this]; rfl
theorem LeBx.map {vk : VK} {l m : List (Int × Int)} (h : l = m) : LeBx (.map vk l) (.map vk m) := h ▸ LeBx.rfl
/-- What the program adds at a cell. -/
def all4 (g : Grid) (k : Nat) : Bool := ((hsI g k && hsI g (k + 1)) && hsI g (k + g.cols.toNat + 1)) && hsI g (k + g.cols.toNat)
theorem sqT_prog {g : Grid} (hv : GVal g) {k : Nat} (hk : k < g.levels.length) : sqT g k = bif lastC g k then [] else bif all4 g k then sqQ g (numI g k) (numI g (k + 1)) (numI g (k + 1 + g.cols.toNat)) (numI g (k + g.cols.toNat)) else [] := by
  unfold sqT
  cases h1 : lastC g k with
  | true => rfl
  | false =>
    rw [Bool.false_or, cond_false]
    cases h2 : lastR g k with
    | true =>
      have hl := hv.len
      have hc := hv.cols
      have hr := hv.rows
      have : ¬ k + g.cols.toNat < g.levels.length := by
        unfold lastR at h2
        have h2 : (k : Int).tdiv g.cols = g.rows - 1 := by simpa using h2
        rw [Int.tdiv_eq_ediv_of_nonneg (by omega)] at h2
        have e := Int.emod_add_mul_ediv (k : Int) g.cols
        have m0 := Int.emod_nonneg (k : Int) (show g.cols ≠ 0 by omega)
        rw [h2, Int.mul_sub] at e
        omega
      have : all4 g k = false := by
        unfold all4
        have h : hsI g (k + g.cols.toNat) = false := by unfold hsI; rw [decide_eq_false this]; rfl
        rw [h, Bool.and_false]
      rw [this]; rfl
    | false =>
      rw [cond_false]
      have hin := cell_in hv hk h1 h2
      have key : ∀ j, j < g.levels.length → hsI g j = !decide (numI g j < 0) := by
        intro j hj
        unfold hsI numI
        rw [decide_eq_true hj]
        cases kn g j with
        | false => rfl
        | true =>
          rw [cond_true, decide_eq_false (by omega)]; rfl
      have : all4 g k = !none4 (numI g k) (numI g (k + 1)) (numI g (k + 1 + g.cols.toNat)) (numI g (k + g.cols.toNat)) := by
        unfold all4 none4
        rw [show k + g.cols.toNat + 1 = k + 1 + g.cols.toNat by omega, key _ hk, key _ (by omega), key _ (by omega), key _ (by omega)]
        simp [Bool.not_or]
      rw [this]
      cases none4 (numI g k) (numI g (k + 1)) (numI g (k + 1 + g.cols.toNat)) (numI g (k + g.cols.toNat)) <;> rfl
/-- The difference of two levels. -/
theorem apart1 (l : List Nd) (a b : Int) (ha : 0 ≤ a ∧ a < l.length) (hb : 0 ≤ b ∧ b < l.length) (hlv : ∀ p : Int, -30000 ≤ (l.getD p.toNat default).lv ∧ (l.getD p.toNat default).lv ≤ 30000) (f : Nat → DV) (hf : f 0 = dNds l) :
    CallP Tryz.prog 38 [vI a, vI b, .s (.d (.rp 2 f))] (vI (absI ((l.getD a.toNat default).lv - (l.getD b.toNat default).lv))) := by
  have h1 : LeAs [vI a, vI b, .s (.d (.rp 2 f))] [vI a, vI b, .s (.d (.rp 2 fun j => if j = 0 then dNds l else .junk))] := ⟨LeD.refl _, LeD.refl _, LeD.rp fun j hj => ?_, trivial⟩
  · refine CallP.conv ?_ h1
    have la := hlv a
    have lb := hlv b
    refine callP_of_ex (rc := []) (N := 24) Tryz.func38 rfl rfl Tryz.call38 tab_ok mix rfl rfl (fun cx href => ?_)
    repeat first | refine sk ?_ | refine st ?_ | refine sg ?_ | refine sh ?_ | refine su ?_ | refine sn1 ?_ | refine sn0 ?_ | refine And.intro (show imp none (gimp _ none) from trivial) ?_
    refine oi ha ?_
    repeat first | refine sk ?_ | refine st ?_ | refine sg ?_ | refine sh ?_ | refine su ?_ | refine sn1 ?_ | refine sn0 ?_ | refine And.intro (show imp none (gimp _ none) from trivial) ?_
    refine oi hb ?_
    repeat first | refine sk ?_ | refine st ?_ | refine sg ?_ | refine sh ?_ | refine su ?_ | refine sn1 ?_ | refine sn0 ?_ | refine And.intro (show imp none (gimp _ none) from trivial) ?_
    refine And.intro (by kernel_rfl) ?_
    generalize hx : (l.getD a.toNat default).lv = x at *
    generalize hy : (l.getD b.toNat default).lv = y at *
    have e := w64_of (n := x - y) (by omega) (by omega)
    have e2 := w64_of (n := 0 - (x - y)) (by omega) (by omega)
    have key : mm true (w64 (x - y)) (w64 (0 - w64 (x - y))) = absI (x - y) := by
      rw [e, e2]
      simp only [mm, absI]
      split <;> split <;> omega
    refine SubR.of_eq ?_
    show vI (mm true (w64 (x - y)) (w64 (0 - w64 (x - y)))) = _
    rw [key]
  · by_cases e : j = 0
    · rw [if_pos e, e]; exact LeD.of_eq hf
    · rw [if_neg e]; exact fun _ _ _ => trivial
end Go.Ch

/- bed.Squares. -/
namespace Go.Ch
open Go Go.Ax Go.Proofs Go.Proofs.Tryz Go.Hull
set_option maxRecDepth 100000
set_option pp.maxSteps 400
set_option maxHeartbeats 1000000

abbrev qB1 (g : Grid) (i : Nat) (o : List Nd) : St := ⟨[(1, .s (.ptr 1 0)), (2, .s (.ptr 2 0)), (5, .s (.ptr 5 0)), (6, .s (.mp 26)), (28, vInts g.levels), (29, vI g.levels.length), (30, vI i)],
  [(1, some (gridB g)), (2, some (.cells (zvs ty30.zero))), (5, some (.cells [.mo o.isEmpty 100, .d (.val (.slice none 0 0))])), (26, some (.map .int (mapI g i))), (100, some (.mrow 37 o.length 3 (ndEl o)))]⟩
abbrev qB2 (g : Grid) (i : Nat) (o : List Tr) : St := ⟨[(1, .s (.ptr 1 0)), (2, .s (.ptr 2 0)), (5, .s (.ptr 5 0)), (6, .s (.mp 26)), (60, vI g.levels.length), (61, vI i)],
  [(1, some (gridB g)), (2, some (.cells (zvs ty30.zero))), (5, some (.cells [.mo (nds g g.levels.length).isEmpty 100, .mo o.isEmpty 101])), (26, some (.map .int (mapI g g.levels.length))), (100, some (.mrow 37 (nds g g.levels.length).length 3 (ndEl (nds g g.levels.length)))), (101, some (.mrow 70 o.length 3 (trEl o)))]⟩
abbrev qB3 (g : Grid) (i : Nat) (o : List Tr) (p q s t : DV) (a b c d : Bool) : St := ⟨[(1, .s (.ptr 1 0)), (2, .s (.ptr 2 0)), (5, .s (.ptr 5 0)), (6, .s (.mp 26)), (60, vI g.levels.length), (61, vI i), (11, .s (.d p)), (12, vB a), (13, .s (.d q)), (14, vB b), (15, .s (.d s)), (16, vB c), (17, .s (.d t)), (18, vB d)],
  [(1, some (gridB g)), (2, some (.cells (zvs ty30.zero))), (5, some (.cells [.mo (nds g g.levels.length).isEmpty 100, .mo o.isEmpty 101])), (26, some (.map .int (mapI g g.levels.length))), (100, some (.mrow 37 (nds g g.levels.length).length 3 (ndEl (nds g g.levels.length)))), (101, some (.mrow 70 o.length 3 (trEl o)))]⟩
def d4 (g : Grid) (k : Nat) : DV := bif hsI g k then dI (numI g k) else .junk
theorem LeQ.d_eq {x y : DV} (h : x = y) : LeQ (.s (.d x)) (.s (.d y)) := h ▸ LeQ.rfl
def sqB (g : Grid) : Mesh × Int := if errG g = 0 then (sqM g, 0) else (⟨[], []⟩, errG g)
theorem bSquares (g : Grid) (hl0 : g.levels.length ≤ 9223372036854775807) : CallP Tryz.prog 12 [grid g] (rME (sqB g).1 (sqB g).2) := by
  refine callP_of_aw Tryz.func12 rfl rfl Tryz.call12 tab_ok rfl rfl (fun cx href => ?_)
  refine AW.seq (ex.sound (rc := []) tab_ok mix href _ ?_)
  refine AW.seq (ex.sound (rc := []) tab_ok mix href _ ?_)
  refine callN (bcheck g hl0) ?_
  unfold sqB
  refine And.intro (fun h => ?_) (fun h => ?_)
  · have h : (errG g != 0) = true := h
    rw [if_neg (by simpa using h)]
    exact SubR.t ⟨⟨LeD.nil, LeD.nil, trivial⟩, LeD.refl _, trivial⟩
  have h : (errG g != 0) = false := h
  have h0 : errG g = 0 := by simpa using h
  rw [if_pos h0]
  have hv := GVal.of h0
  have hl : g.levels.length ≤ 1024 := hv.n
  have hc := hv.cols
  have hr := hv.rows
  refine AW.seq (ex.sound (rc := []) tab_ok mix href _ ?_)
  refine AW.seq (ex.sound (rc := []) tab_ok mix href _ ?_)
  refine AW.cut (σ' := qB1 g g.levels.length (nds g g.levels.length)) (ex.sound (rc := []) tab_ok mix href _ ?_) ?_
  · refine AW.loopI (fun i => qB1 g i (nds g i)) (fun i => i ≤ g.levels.length) (fun i => g.levels.length - i) 0 (Nat.zero_le _) ?_ ?_
    · exact SubI.of0 href [(100, 1000)] rfl ⟨⟨rfl, LeBx.rfl⟩, ⟨rfl, LeBx.rfl⟩, ⟨rfl, LeBx.cells ⟨LeQ.nil rfl, LeQ.rfl, trivial⟩⟩, ⟨rfl, LeBx.rfl⟩, ⟨rfl, rfl⟩, trivial⟩ ⟨⟨rfl, LeQ.rfl⟩, ⟨rfl, LeQ.rfl⟩, ⟨rfl, LeQ.rfl⟩, ⟨rfl, LeQ.rfl⟩, ⟨rfl, LeQ.rfl⟩, ⟨rfl, LeQ.rfl⟩, ⟨rfl, LeQ.rfl⟩, trivial⟩
    · intro i hi
      have hnl := nds_len g i
      refine ex.sound (rc := []) tab_ok mix href _ ?_
      refine And.intro (fun h => ?_) (fun h => ?_)
      · have h : (i : Int) < g.levels.length := decT h
        have hi' : i < g.levels.length := by omega
        refine oi ⟨by omega, by omega⟩ ?_
        refine callN (bknown g i hi' (by omega)) ?_
        have hsu := nds_succ g i
        refine And.intro (fun h2 => ?_) (fun h2 => ?_)
        · have h2 : kn g i = true := h2
          have hni : numI g i = ((nds g i).length : Int) := by unfold numI; rw [h2]; rfl
          have hmu := setM_mapI g h2
          rw [h2] at hsu
          have hsu : nds g (i + 1) = nds g i ++ [ndAt g i] := hsu
          refine callN (bcentre g i (by omega)) ?_
          repeat first | refine sk ?_ | refine st ?_ | refine sg ?_ | refine sh ?_ | refine su ?_ | refine sn1 ?_ | refine sn0 ?_ | refine And.intro (show imp none (gimp _ none) from trivial) ?_
          refine ob (by decide) ?_
          refine ob (by rw [bif_len]; show ((nds g i).length + 1) * 24 ≤ 140737488355328; omega) ?_
          refine ob (fun k j hk hj => ?_) ?_
          · obtain rfl : k = 0 := by omega
            match j, hj with
            | 0, _ => rfl
            | 1, _ => rfl
            | 2, _ => rfl
          refine ⟨i + 1, by omega, by omega, ?_⟩
          show SubI cx _ _ (qB1 g (i + 1) (nds g (i + 1)))
          rw [hsu]
          refine SubI.of0 href [(100, 55)] rfl ⟨⟨rfl, LeBx.rfl⟩, ⟨rfl, LeBx.rfl⟩, ⟨rfl, LeBx.cells ⟨LeQ.mo (isEmpty_snoc _ _), LeQ.rfl, trivial⟩⟩, ⟨rfl, LeBx.map ?_⟩, ⟨rfl, LeBx.snocN fun j hj => match j, hj with | 0, _ => rfl | 1, _ => rfl | 2, _ => rfl⟩, trivial⟩ ⟨⟨rfl, LeQ.rfl⟩, ⟨rfl, LeQ.rfl⟩, ⟨rfl, LeQ.rfl⟩, ⟨rfl, LeQ.rfl⟩, ⟨rfl, LeQ.rfl⟩, ⟨rfl, LeQ.rfl⟩, ⟨rfl, LeQ.int (w64_of (by omega) (by omega))⟩, trivial⟩
          rw [bif_len]; exact hmu
        · have h2 : kn g i = false := h2
          have hmu := mapI_succ g i
          rw [h2] at hsu hmu
          have hsu : nds g (i + 1) = nds g i := hsu
          have hmu : mapI g (i + 1) = mapI g i := hmu
          refine ⟨i + 1, by omega, by omega, ?_⟩
          show SubI cx _ _ (qB1 g (i + 1) (nds g (i + 1)))
          rw [hsu]
          exact SubI.of0 href [] rfl ⟨⟨rfl, LeBx.rfl⟩, ⟨rfl, LeBx.rfl⟩, ⟨rfl, LeBx.cells ⟨LeQ.rfl, LeQ.rfl, trivial⟩⟩, ⟨rfl, LeBx.map hmu.symm⟩, ⟨rfl, LeBx.rfl⟩, trivial⟩ ⟨⟨rfl, LeQ.rfl⟩, ⟨rfl, LeQ.rfl⟩, ⟨rfl, LeQ.rfl⟩, ⟨rfl, LeQ.rfl⟩, ⟨rfl, LeQ.rfl⟩, ⟨rfl, LeQ.rfl⟩, ⟨rfl, LeQ.int (w64_of (by omega) (by omega))⟩, trivial⟩
      · have h : ¬ (i : Int) < g.levels.length := decF h
        obtain rfl : i = g.levels.length := by omega
        exact ⟨rfl, SubI.of0 href [] rfl ⟨⟨rfl, LeBx.rfl⟩, ⟨rfl, LeBx.rfl⟩, ⟨rfl, LeBx.cells ⟨LeQ.rfl, LeQ.rfl, trivial⟩⟩, ⟨rfl, LeBx.rfl⟩, ⟨rfl, LeBx.rfl⟩, trivial⟩ ⟨⟨rfl, LeQ.rfl⟩, ⟨rfl, LeQ.rfl⟩, ⟨rfl, LeQ.rfl⟩, ⟨rfl, LeQ.rfl⟩, ⟨rfl, LeQ.rfl⟩, ⟨rfl, LeQ.rfl⟩, ⟨rfl, LeQ.rfl⟩, trivial⟩⟩
  · refine AW.cut (σ' := qB2 g g.levels.length (sqs g g.levels.length)) (ex.sound (rc := []) tab_ok mix href _ ?_) ?_
    · refine AW.loopI (fun i => qB2 g i (sqs g i)) (fun i => i ≤ g.levels.length) (fun i => g.levels.length - i) 0 (Nat.zero_le _) ?_ ?_
      · exact SubI.of0 href [(101, 1000)] rfl ⟨⟨rfl, LeBx.rfl⟩, ⟨rfl, LeBx.rfl⟩, ⟨rfl, LeBx.cells ⟨LeQ.rfl, LeQ.nil rfl, trivial⟩⟩, ⟨rfl, LeBx.rfl⟩, ⟨rfl, LeBx.rfl⟩, ⟨rfl, rfl⟩, trivial⟩ ⟨⟨rfl, LeQ.rfl⟩, ⟨rfl, LeQ.rfl⟩, ⟨rfl, LeQ.rfl⟩, ⟨rfl, LeQ.rfl⟩, ⟨rfl, LeQ.rfl⟩, ⟨rfl, LeQ.rfl⟩, trivial⟩
      · intro i hi
        have hol := sqs_len g i
        have hsu := sqs_succ g i
        have hend : ∀ k, i = k → sqs g k = sqs g i := fun k h => h ▸ rfl
        generalize sqs g i = o at hol hsu hend ⊢
        refine AW.seq (ex.sound (rc := []) tab_ok mix href _ ?_)
        refine AW.seq (ex.sound (rc := []) tab_ok mix href _ ?_)
        refine And.intro (fun h => ?_) (fun h => ?_)
        · have h : (i : Int) < g.levels.length := decT h
          have hi' : i < g.levels.length := by omega
          have hc0 : g.cols ≠ 0 := by omega
          have hTp := sqT_prog hv hi'
          refine AW.seq (AW.block (AW.seq (ex.sound (rc := []) tab_ok mix href _ ?_)))
          refine AW.seq (ex.sound (rc := []) tab_ok mix href _ ?_)
          repeat first | refine sk ?_ | refine st ?_ | refine sg ?_ | refine sh ?_ | refine su ?_ | refine sn1 ?_ | refine sn0 ?_ | refine And.intro (show imp none (gimp _ none) from trivial) ?_
          refine oi hc0 ?_
          repeat first | refine sk ?_ | refine st ?_ | refine sg ?_ | refine sh ?_ | refine su ?_ | refine sn1 ?_ | refine sn0 ?_ | refine And.intro (show imp none (gimp _ none) from trivial) ?_
          refine And.intro (by kernel_rfl) ?_
          have hlast : ∀ {b : Bool}, ((i : Int).tmod g.cols == w64 (g.cols - 1)) = b → lastC g i = b := by
            rintro b rfl
            rw [w64_of (n := g.cols - 1) (by omega) (by omega)]
            rfl
          refine And.intro (fun h2 => ?_) (fun h2 => ?_)
          · have h2 := hlast h2
            refine ex.sound (rc := []) tab_ok mix href _ ?_
            have hT : sqT g i = [] := by rw [hTp, h2]; rfl
            refine ⟨i + 1, by omega, by omega, ?_⟩
            show SubI cx _ _ (qB2 g (i + 1) (sqs g (i + 1)))
            rw [hsu, hT, List.append_nil]
            exact SubI.of0 href [] rfl ⟨⟨rfl, LeBx.rfl⟩, ⟨rfl, LeBx.rfl⟩, ⟨rfl, LeBx.cells ⟨LeQ.rfl, LeQ.rfl, trivial⟩⟩, ⟨rfl, LeBx.rfl⟩, ⟨rfl, LeBx.rfl⟩, ⟨rfl, LeBx.rfl⟩, trivial⟩ ⟨⟨rfl, LeQ.rfl⟩, ⟨rfl, LeQ.rfl⟩, ⟨rfl, LeQ.rfl⟩, ⟨rfl, LeQ.rfl⟩, ⟨rfl, LeQ.rfl⟩, ⟨rfl, LeQ.int (w64_of (by omega) (by omega))⟩, trivial⟩
          · have h2 := hlast h2
            have hTp : sqT g i = bif all4 g i then sqQ g (numI g i) (numI g (i + 1)) (numI g (i + 1 + g.cols.toNat)) (numI g (i + g.cols.toNat)) else [] := by rw [hTp, h2]; rfl
            have hcn : ((g.cols.toNat : Nat) : Int) = g.cols := by omega
            have w1 : w64 ((i : Int) + 1) = ((i + 1 : Nat) : Int) := (w64_of (by omega) (by omega)).trans (by omega)
            have w3 : w64 ((i : Int) + g.cols) = ((i + g.cols.toNat : Nat) : Int) := (w64_of (by omega) (by omega)).trans (by omega)
            have w2 : w64 (w64 ((i : Int) + g.cols) + 1) = ((i + g.cols.toNat + 1 : Nat) : Int) := by rw [w3]; exact (w64_of (by omega) (by omega)).trans (by omega)
            refine AW.seq (ex.sound (rc := []) tab_ok mix href _ ?_)
            repeat first | refine sk ?_ | refine st ?_ | refine sg ?_ | refine sh ?_ | refine su ?_ | refine sn1 ?_ | refine sn0 ?_ | refine And.intro (show imp none (gimp _ none) from trivial) ?_
            refine AW.seq (ex.sound (rc := []) tab_ok mix href _ ?_)
            repeat first | refine sk ?_ | refine st ?_ | refine sg ?_ | refine sh ?_ | refine su ?_ | refine sn1 ?_ | refine sn0 ?_ | refine And.intro (show imp none (gimp _ none) from trivial) ?_
            refine AW.seq (ex.sound (rc := []) tab_ok mix href _ ?_)
            repeat first | refine sk ?_ | refine st ?_ | refine sg ?_ | refine sh ?_ | refine su ?_ | refine sn1 ?_ | refine sn0 ?_ | refine And.intro (show imp none (gimp _ none) from trivial) ?_
            refine AW.cut (σ' := qB3 g i o (d4 g i) (d4 g (i + 1)) (d4 g (i + g.cols.toNat + 1)) (d4 g (i + g.cols.toNat)) (hsI g i) (hsI g (i + 1)) (hsI g (i + g.cols.toNat + 1)) (hsI g (i + g.cols.toNat))) (ex.sound (rc := []) tab_ok mix href _ ?_) ?_
            · repeat first | refine sk ?_ | refine st ?_ | refine sg ?_ | refine sh ?_ | refine su ?_ | refine sn1 ?_ | refine sn0 ?_ | refine And.intro (show imp none (gimp _ none) from trivial) ?_
              refine ⟨rfl, SubI.of0 href [] rfl ⟨⟨rfl, LeBx.rfl⟩, ⟨rfl, LeBx.rfl⟩, ⟨rfl, LeBx.cells ⟨LeQ.rfl, LeQ.rfl, trivial⟩⟩, ⟨rfl, LeBx.rfl⟩, ⟨rfl, LeBx.rfl⟩, ⟨rfl, LeBx.rfl⟩, trivial⟩ ⟨⟨rfl, LeQ.rfl⟩, ⟨rfl, LeQ.rfl⟩, ⟨rfl, LeQ.rfl⟩, ⟨rfl, LeQ.rfl⟩, ⟨rfl, LeQ.rfl⟩, ⟨rfl, LeQ.rfl⟩, ⟨rfl, LeQ.d_eq ?_⟩, ⟨rfl, LeQ.bool ?_⟩, ⟨rfl, LeQ.d_eq ?_⟩, ⟨rfl, LeQ.bool ?_⟩, ⟨rfl, LeQ.d_eq ?_⟩, ⟨rfl, LeQ.bool ?_⟩, ⟨rfl, LeQ.d_eq ?_⟩, ⟨rfl, LeQ.bool ?_⟩, trivial⟩⟩
              · exact lookM_mapI g i _
              · exact hasM_mapI g i
              · show (bif hasM (mapI g g.levels.length) (w64 ((i : Int) + 1)) then VK.int.dv (getM (mapI g g.levels.length) (w64 ((i : Int) + 1))) else .junk) = _
                rw [w1]; exact lookM_mapI g (i + 1) _
              · show hasM (mapI g g.levels.length) (w64 ((i : Int) + 1)) = _
                rw [w1]; exact hasM_mapI g (i + 1)
              · show (bif hasM (mapI g g.levels.length) (w64 (w64 ((i : Int) + g.cols) + 1)) then VK.int.dv (getM (mapI g g.levels.length) (w64 (w64 ((i : Int) + g.cols) + 1))) else .junk) = _
                rw [w2]; exact lookM_mapI g (i + g.cols.toNat + 1) _
              · show hasM (mapI g g.levels.length) (w64 (w64 ((i : Int) + g.cols) + 1)) = _
                rw [w2]; exact hasM_mapI g (i + g.cols.toNat + 1)
              · show (bif hasM (mapI g g.levels.length) (w64 ((i : Int) + g.cols)) then VK.int.dv (getM (mapI g g.levels.length) (w64 ((i : Int) + g.cols))) else .junk) = _
                rw [w3]; exact lookM_mapI g (i + g.cols.toNat) _
              · show hasM (mapI g g.levels.length) (w64 ((i : Int) + g.cols)) = _
                rw [w3]; exact hasM_mapI g (i + g.cols.toNat)
            · cases h4 : all4 g i with
              | false =>
                have hT : sqT g i = [] := by rw [hTp, h4]; rfl
                unfold all4 at h4
                generalize hsI g i = ba at *
                generalize hsI g (i + 1) = bb at *
                generalize hsI g (i + g.cols.toNat + 1) = bc at *
                generalize hsI g (i + g.cols.toNat) = bd at *
                refine AW.seq (ex.sound (rc := []) tab_ok mix href _ ?_)
                repeat first | refine sk ?_ | refine st ?_ | refine sg ?_ | refine sh ?_ | refine su ?_ | refine sn1 ?_ | refine sn0 ?_ | refine And.intro (show imp none (gimp _ none) from trivial) ?_
                refine And.intro (fun h3 => ?_) (fun h3 => ?_)
                · refine ex.sound (rc := []) tab_ok mix href _ ?_
                  refine ⟨i + 1, by omega, by omega, ?_⟩
                  show SubI cx _ _ (qB2 g (i + 1) (sqs g (i + 1)))
                  rw [hsu, hT, List.append_nil]
                  exact SubI.of0 href [] rfl ⟨⟨rfl, LeBx.rfl⟩, ⟨rfl, LeBx.rfl⟩, ⟨rfl, LeBx.cells ⟨LeQ.rfl, LeQ.rfl, trivial⟩⟩, ⟨rfl, LeBx.rfl⟩, ⟨rfl, LeBx.rfl⟩, ⟨rfl, LeBx.rfl⟩, trivial⟩ ⟨⟨rfl, LeQ.rfl⟩, ⟨rfl, LeQ.rfl⟩, ⟨rfl, LeQ.rfl⟩, ⟨rfl, LeQ.rfl⟩, ⟨rfl, LeQ.rfl⟩, ⟨rfl, LeQ.int (w64_of (by omega) (by omega))⟩, trivial⟩
                · have h3 : (((!ba || !bb) || !bc) || !bd) = false := h3
                  simp at h3 h4
                  simp [h3] at h4
              | true =>
                have hT1 : sqT g i = sqQ g (numI g i) (numI g (i + 1)) (numI g (i + 1 + g.cols.toNat)) (numI g (i + g.cols.toNat)) := by rw [hTp, h4]; rfl
                have h4' := h4
                unfold all4 at h4'
                simp only [Bool.and_eq_true] at h4'
                obtain ⟨⟨⟨s0, s1⟩, s2⟩, s3⟩ := h4'
                have lt : ∀ {j}, hsI g j = true → -1 ≤ numI g j ∧ 0 ≤ numI g j ∧ numI g j < (nds g g.levels.length).length := fun {j} h => by
                  unfold hsI at h
                  simp only [Bool.and_eq_true, decide_eq_true_eq] at h
                  have h0 : 0 ≤ numI g j := by unfold numI; rw [h.2]; simp
                  exact ⟨by omega, h0, (numI_lt h.1).2 h0⟩
                obtain ⟨_, p0, p1⟩ := lt s0
                obtain ⟨_, q0, q1⟩ := lt s1
                obtain ⟨_, u0, u1⟩ := lt s2
                obtain ⟨_, t0, t1⟩ := lt s3
                have d0 : d4 g i = dI (numI g i) := by unfold d4; rw [s0]; rfl
                have d1 : d4 g (i + 1) = dI (numI g (i + 1)) := by unfold d4; rw [s1]; rfl
                have d2 : d4 g (i + g.cols.toNat + 1) = dI (numI g (i + g.cols.toNat + 1)) := by unfold d4; rw [s2]; rfl
                have d3 : d4 g (i + g.cols.toNat) = dI (numI g (i + g.cols.toNat)) := by unfold d4; rw [s3]; rfl
                rw [d0, d1, d2, d3, s0, s1, s2, s3]
                rw [show i + 1 + g.cols.toNat = i + g.cols.toNat + 1 by omega] at hT1
                generalize numI g i = p at *
                generalize numI g (i + 1) = q at *
                generalize numI g (i + g.cols.toNat + 1) = s at *
                generalize numI g (i + g.cols.toNat) = t at *
                have bl := bif_len (nds g g.levels.length)
                refine AW.seq (ex.sound (rc := []) tab_ok mix href _ ?_)
                repeat first | refine sk ?_ | refine st ?_ | refine sg ?_ | refine sh ?_ | refine su ?_ | refine sn1 ?_ | refine sn0 ?_ | refine And.intro (show imp none (gimp _ none) from trivial) ?_
                refine And.intro (fun h3 => ?_) (fun h3 => ?_)
                · have h3 : (false : Bool) = true := h3
                  cases h3
                refine ex.sound (rc := []) tab_ok mix href _ ?_
                repeat first | refine sk ?_ | refine st ?_ | refine sg ?_ | refine sh ?_ | refine su ?_ | refine sn1 ?_ | refine sn0 ?_ | refine And.intro (show imp none (gimp _ none) from trivial) ?_
                refine callN (apart1 (nds g g.levels.length) p s ⟨p0, p1⟩ ⟨u0, u1⟩ (lvN_le hv) _ ?_) ?_
                · exact congrArg (fun n => DV.slc n 3 (ndEl (nds g g.levels.length))) bl
                refine callN (apart1 (nds g g.levels.length) q t ⟨q0, q1⟩ ⟨t0, t1⟩ (lvN_le hv) _ ?_) ?_
                · exact congrArg (fun n => DV.slc n 3 (ndEl (nds g g.levels.length))) bl
                repeat first | refine sk ?_ | refine st ?_ | refine sg ?_ | refine sh ?_ | refine su ?_ | refine sn1 ?_ | refine sn0 ?_ | refine And.intro (show imp none (gimp _ none) from trivial) ?_
                refine And.intro (fun h5 => ?_) (fun h5 => ?_)
                · have h5 : decide (absI (lvN g p - lvN g s) ≤ absI (lvN g q - lvN g t)) = true := h5
                  have hT : sqT g i = [⟨p, q, s⟩, ⟨p, s, t⟩] := by rw [hT1]; unfold sqQ; rw [h5]; rfl
                  refine ob (by decide) ?_
                  refine ob (by rw [bif_len]; show (o.length + 2) * 24 ≤ 140737488355328; omega) ?_
                  refine ob (fun k j hk hj => ?_) ?_
                  · have hk : k = 0 ∨ k = 1 := by omega
                    rcases hk with rfl | rfl
                    · match j, hj with
                      | 0, _ => rfl
                      | 1, _ => rfl
                      | 2, _ => rfl
                    · match j, hj with
                      | 0, _ => rfl
                      | 1, _ => rfl
                      | 2, _ => rfl
                  refine ex.sound (rc := []) tab_ok mix href _ ?_
                  refine ⟨i + 1, by omega, by omega, ?_⟩
                  show SubI cx _ _ (qB2 g (i + 1) (sqs g (i + 1)))
                  rw [hsu, hT]
                  exact SubI.of0 href [(101, 139)] rfl ⟨⟨rfl, LeBx.rfl⟩, ⟨rfl, LeBx.rfl⟩, ⟨rfl, LeBx.cells ⟨LeQ.rfl, LeQ.mo (by cases o <;> rfl), trivial⟩⟩, ⟨rfl, LeBx.rfl⟩, ⟨rfl, LeBx.rfl⟩, ⟨rfl, LeBx.snoc2 (fun j hj => match j, hj with | 0, _ => rfl | 1, _ => rfl | 2, _ => rfl) (fun j hj => match j, hj with | 0, _ => rfl | 1, _ => rfl | 2, _ => rfl)⟩, trivial⟩ ⟨⟨rfl, LeQ.rfl⟩, ⟨rfl, LeQ.rfl⟩, ⟨rfl, LeQ.rfl⟩, ⟨rfl, LeQ.rfl⟩, ⟨rfl, LeQ.rfl⟩, ⟨rfl, LeQ.int (w64_of (by omega) (by omega))⟩, trivial⟩
                · have h5 : decide (absI (lvN g p - lvN g s) ≤ absI (lvN g q - lvN g t)) = false := h5
                  have hT : sqT g i = [⟨p, q, t⟩, ⟨q, s, t⟩] := by rw [hT1]; unfold sqQ; rw [h5]; rfl
                  refine ob (by decide) ?_
                  refine ob (by rw [bif_len]; show (o.length + 2) * 24 ≤ 140737488355328; omega) ?_
                  refine ob (fun k j hk hj => ?_) ?_
                  · have hk : k = 0 ∨ k = 1 := by omega
                    rcases hk with rfl | rfl
                    · match j, hj with
                      | 0, _ => rfl
                      | 1, _ => rfl
                      | 2, _ => rfl
                    · match j, hj with
                      | 0, _ => rfl
                      | 1, _ => rfl
                      | 2, _ => rfl
                  refine ex.sound (rc := []) tab_ok mix href _ ?_
                  refine ⟨i + 1, by omega, by omega, ?_⟩
                  show SubI cx _ _ (qB2 g (i + 1) (sqs g (i + 1)))
                  rw [hsu, hT]
                  exact SubI.of0 href [(101, 152)] rfl ⟨⟨rfl, LeBx.rfl⟩, ⟨rfl, LeBx.rfl⟩, ⟨rfl, LeBx.cells ⟨LeQ.rfl, LeQ.mo (by cases o <;> rfl), trivial⟩⟩, ⟨rfl, LeBx.rfl⟩, ⟨rfl, LeBx.rfl⟩, ⟨rfl, LeBx.snoc2 (fun j hj => match j, hj with | 0, _ => rfl | 1, _ => rfl | 2, _ => rfl) (fun j hj => match j, hj with | 0, _ => rfl | 1, _ => rfl | 2, _ => rfl)⟩, trivial⟩ ⟨⟨rfl, LeQ.rfl⟩, ⟨rfl, LeQ.rfl⟩, ⟨rfl, LeQ.rfl⟩, ⟨rfl, LeQ.rfl⟩, ⟨rfl, LeQ.rfl⟩, ⟨rfl, LeQ.int (w64_of (by omega) (by omega))⟩, trivial⟩
        · have h : ¬ (i : Int) < g.levels.length := decF h
          obtain rfl : i = g.levels.length := by omega
          refine ⟨rfl, ?_⟩
          rw [hend _ rfl]
          exact SubI.of0 href [] rfl ⟨⟨rfl, LeBx.rfl⟩, ⟨rfl, LeBx.rfl⟩, ⟨rfl, LeBx.cells ⟨LeQ.rfl, LeQ.rfl, trivial⟩⟩, ⟨rfl, LeBx.rfl⟩, ⟨rfl, LeBx.rfl⟩, ⟨rfl, LeBx.rfl⟩, trivial⟩ ⟨⟨rfl, LeQ.rfl⟩, ⟨rfl, LeQ.rfl⟩, ⟨rfl, LeQ.rfl⟩, ⟨rfl, LeQ.rfl⟩, ⟨rfl, LeQ.rfl⟩, ⟨rfl, LeQ.rfl⟩, trivial⟩
    · have hz0 : ∀ z : Bool, (nds g g.levels.length).isEmpty = z → SubM cx 156 (qB2 g g.levels.length (sqs g g.levels.length)) ⟨[(2, .s (.ptr 2 0)), (5, .s (.ptr 5 0))], [(2, some (.cells (zvs ty30.zero))), (5, some (.cells [.d (dNds (nds g g.levels.length)), .mo (sqs g g.levels.length).isEmpty 101])), (101, some (.mrow 70 (sqs g g.levels.length).length 3 (trEl (sqs g g.levels.length))))]⟩ := by
        intro z hz
        cases z with
        | true =>
          have e0 : nds g g.levels.length = [] := List.isEmpty_iff.1 hz
          refine SubM.of_subI (SubI.of0 href [] rfl ⟨⟨rfl, LeBx.rfl⟩, ⟨rfl, LeBx.cells ⟨?_, LeQ.rfl, trivial⟩⟩, ⟨rfl, LeBx.rfl⟩, trivial⟩ ⟨⟨rfl, LeQ.rfl⟩, ⟨rfl, LeQ.rfl⟩, trivial⟩)
          show LeQ (.s (.mo (nds g g.levels.length).isEmpty 100)) (.s (.d (dNds (nds g g.levels.length))))
          rw [e0]
          exact fun M β v r => LeQ.d LeD.nil M β v (LeQ.toNil (z := true) rfl M β v r)
        | false =>
          refine SubM.trans (SubM.of_subI (SubI.ownC (e := 37) (n := (nds g g.levels.length).length) (s := 3) (f := ndEl (nds g g.levels.length)) (z := (nds g g.levels.length).isEmpty) (cs := [.mo (nds g g.levels.length).isEmpty 100, .mo (sqs g g.levels.length).isEmpty 101]) 5 0 100 rfl rfl hz rfl)) ?_
          exact SubM.of href [] [100] rfl rfl rfl ⟨⟨rfl, LeBxf.rfl⟩, ⟨rfl, LeBxf.cells ⟨fun M β v hf r => LeQf.own (by simp) rfl M β v hf (r.2 hz), LeQf.rfl, trivial⟩⟩, ⟨rfl, LeBxf.rfl⟩, trivial⟩ ⟨⟨rfl, LeQf.rfl⟩, ⟨rfl, LeQf.rfl⟩, trivial⟩
      refine AW.subM (hz0 _ rfl) ?_
      clear hz0
      have hz1 : ∀ z : Bool, (sqs g g.levels.length).isEmpty = z → SubM cx 156 ⟨[(2, .s (.ptr 2 0)), (5, .s (.ptr 5 0))], [(2, some (.cells (zvs ty30.zero))), (5, some (.cells [.d (dNds (nds g g.levels.length)), .mo (sqs g g.levels.length).isEmpty 101])), (101, some (.mrow 70 (sqs g g.levels.length).length 3 (trEl (sqs g g.levels.length))))]⟩ ⟨[(2, .s (.ptr 2 0)), (5, .s (.ptr 5 0))], [(2, some (.cells (zvs ty30.zero))), (5, some (.cells [.d (dNds (nds g g.levels.length)), .d (dTrs (sqs g g.levels.length))]))]⟩ := by
        intro z hz
        cases z with
        | true =>
          have e0 : sqs g g.levels.length = [] := List.isEmpty_iff.1 hz
          refine SubM.of_subI (SubI.of0 href [] rfl ⟨⟨rfl, LeBx.rfl⟩, ⟨rfl, LeBx.cells ⟨LeQ.rfl, ?_, trivial⟩⟩, trivial⟩ ⟨⟨rfl, LeQ.rfl⟩, ⟨rfl, LeQ.rfl⟩, trivial⟩)
          show LeQ (.s (.mo (sqs g g.levels.length).isEmpty 101)) (.s (.d (dTrs (sqs g g.levels.length))))
          rw [e0]
          exact fun M β v r => LeQ.d LeD.nil M β v (LeQ.toNil (z := true) rfl M β v r)
        | false =>
          refine SubM.trans (SubM.of_subI (SubI.ownC (e := 70) (n := (sqs g g.levels.length).length) (s := 3) (f := trEl (sqs g g.levels.length)) (z := (sqs g g.levels.length).isEmpty) (cs := [.d (dNds (nds g g.levels.length)), .mo (sqs g g.levels.length).isEmpty 101]) 5 1 101 rfl rfl hz rfl)) ?_
          exact SubM.of href [] [101] rfl rfl rfl ⟨⟨rfl, LeBxf.rfl⟩, ⟨rfl, LeBxf.cells ⟨LeQf.rfl, fun M β v hf r => LeQf.own (by simp) rfl M β v hf (r.2 hz), trivial⟩⟩, trivial⟩ ⟨⟨rfl, LeQf.rfl⟩, ⟨rfl, LeQf.rfl⟩, trivial⟩
      refine AW.subM (hz1 _ rfl) ?_
      refine ex.sound (rc := []) tab_ok mix href _ ?_
      exact SubR.refl _
end Go.Ch

/- The mesh of the squares passes the check of meshes. -/
namespace Go.Ch
open Go Go.Ax Go.Proofs Go.Proofs.Tryz Go.Hull
set_option maxRecDepth 100000
set_option pp.maxSteps 400
set_option maxHeartbeats 1000000

theorem divmod_of {k c q r : Int} (hr : 0 ≤ r) (hrc : r < c) (h : k = r + c * q) : k % c = r ∧ k / c = q := by
  subst h
  constructor
  · rw [Int.add_mul_emod_self_left, Int.emod_eq_of_lt hr hrc]
  · rw [Int.add_mul_ediv_left _ _ (by omega), Int.ediv_eq_zero_of_lt hr hrc]; omega
theorem sq_pts {g : Grid} (hv : GVal g) {k : Nat} (h1 : lastC g k = false) (h4 : all4 g k = true) : ∃ x y : Int, centreG g k = ⟨x, y⟩ ∧ centreG g (k + 1 : Nat) = ⟨x + g.side, y⟩ ∧ centreG g (k + 1 + g.cols.toNat : Nat) = ⟨x + g.side, y + g.side⟩ ∧ centreG g (k + g.cols.toNat : Nat) = ⟨x, y + g.side⟩ := by
  have hc := hv.cols
  unfold all4 hsI at h4
  simp only [Bool.and_eq_true, decide_eq_true_eq] at h4
  obtain ⟨⟨⟨⟨k0, _⟩, ⟨k1, _⟩⟩, ⟨k2, _⟩⟩, ⟨k3, _⟩⟩ := h4
  have e := Int.emod_add_mul_ediv (k : Int) g.cols
  have m0 := Int.emod_nonneg (k : Int) (show g.cols ≠ 0 by omega)
  have m1 := Int.emod_lt_of_pos (k : Int) (show 0 < g.cols by omega)
  have m2 : (k : Int) % g.cols ≠ g.cols - 1 := by
    unfold lastC at h1
    rw [Int.tmod_eq_emod_of_nonneg (by omega)] at h1
    simpa using h1
  generalize (k : Int) % g.cols = r at *
  generalize hq : (k : Int) / g.cols = q at *
  have mq : g.cols * (q + 1) = g.cols * q + g.cols := by rw [Int.mul_add, Int.mul_one]
  obtain ⟨a0, b0⟩ := divmod_of (k := (k : Int)) (c := g.cols) (q := q) (r := r) m0 m1 (by omega)
  obtain ⟨a1, b1⟩ := divmod_of (k := ((k + 1 : Nat) : Int)) (c := g.cols) (q := q) (r := r + 1) (by omega) (by omega) (by omega)
  obtain ⟨a2, b2⟩ := divmod_of (k := ((k + 1 + g.cols.toNat : Nat) : Int)) (c := g.cols) (q := q + 1) (r := r + 1) (by omega) (by omega) (by omega)
  obtain ⟨a3, b3⟩ := divmod_of (k := ((k + g.cols.toNat : Nat) : Int)) (c := g.cols) (q := q + 1) (r := r) (by omega) (by omega) (by omega)
  refine ⟨g.x + r * g.side + g.side / 2, g.y + q * g.side + g.side / 2, ?_, ?_, ?_, ?_⟩
  · rw [(centre_good hv k0).2, a0, b0]
  · rw [(centre_good hv k1).2, a1, b1, Int.add_mul, Int.one_mul]; congr 1; omega
  · rw [(centre_good hv (show k + 1 + g.cols.toNat < g.levels.length by omega)).2, a2, b2, Int.add_mul, Int.add_mul, Int.one_mul]; congr 1 <;> omega
  · rw [(centre_good hv k3).2, a3, b3, Int.add_mul, Int.one_mul]; congr 1; omega
theorem okP_centre {g : Grid} (hv : GVal g) {k : Nat} (hk : k < g.levels.length) : okP (centreG g k) := by
  have := good_iff.1 (centre_good hv hk).1
  exact ⟨this.1.1, this.1.2, this.2⟩
theorem sqM_pt {g : Grid} {k : Nat} (h : hsI g k = true) : (ndA (sqM g) (numI g k)).pt = centreG g k ∧ 0 ≤ numI g k ∧ numI g k < (nds g g.levels.length).length := by
  unfold hsI at h
  simp only [Bool.and_eq_true, decide_eq_true_eq] at h
  have h0 : 0 ≤ numI g k := by unfold numI; rw [h.2]; simp
  refine ⟨?_, h0, (numI_lt h.1).2 h0⟩
  unfold ndA
  show ((nds g g.levels.length).getD (numI g k).toNat default).pt = _
  rw [nds_at h.1 h.2]
  rfl
theorem crs4 (x y d : Int) : crs ⟨x, y⟩ ⟨x + d, y⟩ ⟨x + d, y + d⟩ = d * d ∧ crs ⟨x, y⟩ ⟨x + d, y + d⟩ ⟨x, y + d⟩ = d * d ∧ crs ⟨x, y⟩ ⟨x + d, y⟩ ⟨x, y + d⟩ = d * d ∧ crs ⟨x + d, y⟩ ⟨x + d, y + d⟩ ⟨x, y + d⟩ = d * d := by
  unfold crs
  refine ⟨?_, ?_, ?_, ?_⟩ <;> grind
theorem nds_bad {g : Grid} (hv : GVal g) : (nds g g.levels.length).any badN = false := by
  rw [List.any_eq_false]
  intro n hn
  unfold nds at hn
  rw [List.mem_filterMap] at hn
  obtain ⟨k, hk, e⟩ := hn
  rw [List.mem_range] at hk
  cases hkn : kn g k with
  | false => rw [hkn] at e; cases e
  | true =>
    rw [hkn] at e
    have e : some (ndAt g k) = some n := e
    cases e
    have hm : g.levels.getD k 0 ∈ g.levels := by
      rw [List.getD_eq_getElem?_getD, List.getElem?_eq_getElem hk]
      exact List.getElem_mem hk
    have hlv := hv.lev _ hm
    have h3 : g.levels.getD k 0 ≠ 30000 := by unfold kn at hkn; simpa using hkn
    have hg : good (ndAt g k).pt = true := (centre_good hv hk).1
    unfold badN
    rw [hg]
    have : within (ndAt g k).lv (-20000) 20000 = true := by
      show within (g.levels.getD k 0) (-20000) 20000 = true
      unfold within
      simp only [Bool.and_eq_true, decide_eq_true_eq]
      omega
    rw [this]
    decide
theorem errM_sq {g : Grid} (hv : GVal g) : errM (sqM g) = 0 := by
  have hn := hv.n
  have h1 := nds_len g g.levels.length
  have h2 := sqs_len g g.levels.length
  unfold errM
  have e1 : (decide (((sqM g).nodes.length : Int) > 1024) || decide (((sqM g).tris.length : Int) > 2048)) = false := by
    rw [decide_eq_false (show ¬ ((sqM g).nodes.length : Int) > 1024 by show ¬ ((nds g g.levels.length).length : Int) > 1024; omega), decide_eq_false (show ¬ ((sqM g).tris.length : Int) > 2048 by show ¬ ((sqs g g.levels.length).length : Int) > 2048; omega)]; rfl
  rw [e1, show (sqM g).nodes.any badN = false from nds_bad hv]
  refine errT_zero fun t ht => ?_
  have ht : t ∈ sqs g g.levels.length := ht
  unfold sqs at ht
  rw [List.mem_flatMap] at ht
  obtain ⟨k, hk, ht⟩ := ht
  rw [List.mem_range] at hk
  rw [sqT_prog hv hk] at ht
  cases hc : lastC g k with
  | true => rw [hc] at ht; cases ht
  | false =>
    rw [hc, cond_false] at ht
    cases h4 : all4 g k with
    | false => rw [h4] at ht; cases ht
    | true =>
      rw [h4, cond_true] at ht
      obtain ⟨x, y, p0, p1, p2, p3⟩ := sq_pts hv hc h4
      have h4' := h4
      unfold all4 at h4'
      simp only [Bool.and_eq_true] at h4'
      obtain ⟨⟨⟨s0, s1⟩, s2⟩, s3⟩ := h4'
      rw [show k + g.cols.toNat + 1 = k + 1 + g.cols.toNat by omega] at s2
      have lt : ∀ {j}, hsI g j = true → j < g.levels.length := fun h => by unfold hsI at h; simp only [Bool.and_eq_true, decide_eq_true_eq] at h; exact h.1
      have o0 := okP_centre hv (lt s0)
      have o1 := okP_centre hv (lt s1)
      have o2 := okP_centre hv (lt s2)
      have o3 := okP_centre hv (lt s3)
      obtain ⟨q0, a0, b0⟩ := sqM_pt s0
      obtain ⟨q1, a1, b1⟩ := sqM_pt s1
      obtain ⟨q2, a2, b2⟩ := sqM_pt s2
      obtain ⟨q3, a3, b3⟩ := sqM_pt s3
      rw [p0] at q0 o0
      rw [p1] at q1 o1
      rw [p2] at q2 o2
      rw [p3] at q3 o3
      obtain ⟨c1, c2, c3, c4⟩ := crs4 x y g.side
      have hd : 0 < g.side * g.side ∧ g.side * g.side ≤ 800000000 := by
        have hs := hv.side
        have u1 : g.side * g.side ≤ 10000 * g.side := Int.mul_le_mul_of_nonneg_right (by omega) (by omega)
        have u2 : 0 < g.side * g.side := Int.mul_pos (by omega) (by omega)
        omega
      have inm : ∀ {a b c : Int}, (0 ≤ a ∧ a < (nds g g.levels.length).length) → (0 ≤ b ∧ b < (nds g g.levels.length).length) → (0 ≤ c ∧ c < (nds g g.levels.length).length) → inMB (w64 ((sqM g).nodes.length - 1)) ⟨a, b, c⟩ = true := fun ha hb hc => (inMB_iff (m := sqM g) (by show (nds g g.levels.length).length ≤ 1024; omega)).2 ⟨ha, hb, hc⟩
      generalize numI g k = n0 at *
      generalize numI g (k + 1) = n1 at *
      generalize numI g (k + 1 + g.cols.toNat) = n2 at *
      generalize numI g (k + g.cols.toNat) = n3 at *
      have cases4 : t = ⟨n0, n1, n2⟩ ∨ t = ⟨n0, n2, n3⟩ ∨ t = ⟨n0, n1, n3⟩ ∨ t = ⟨n1, n2, n3⟩ := by
        unfold sqQ at ht
        cases hb : decide (absI (lvN g n0 - lvN g n2) ≤ absI (lvN g n1 - lvN g n3)) with
        | true => rw [hb] at ht; simp only [cond_true, List.mem_cons, List.not_mem_nil, or_false] at ht; rcases ht with h | h <;> simp [h]
        | false => rw [hb] at ht; simp only [cond_false, List.mem_cons, List.not_mem_nil, or_false] at ht; rcases ht with h | h <;> simp [h]
      unfold dbl
      rcases cases4 with rfl | rfl | rfl | rfl
      · exact ⟨inm ⟨a0, b0⟩ ⟨a1, b1⟩ ⟨a2, b2⟩, by rw [q0, q1, q2, cross_crs o0 o1 o2, c1]; exact hd⟩
      · exact ⟨inm ⟨a0, b0⟩ ⟨a2, b2⟩ ⟨a3, b3⟩, by rw [q0, q2, q3, cross_crs o0 o2 o3, c2]; exact hd⟩
      · exact ⟨inm ⟨a0, b0⟩ ⟨a1, b1⟩ ⟨a3, b3⟩, by rw [q0, q1, q3, cross_crs o0 o1 o3, c3]; exact hd⟩
      · exact ⟨inm ⟨a1, b1⟩ ⟨a2, b2⟩ ⟨a3, b3⟩, by rw [q1, q2, q3, cross_crs o1 o2 o3, c4]; exact hd⟩
/-- A triangulation of at most seven points has few triangles. -/
theorem flatMap_len {α β : Type} {f : α → List β} {n : Nat} : ∀ {l : List α}, (∀ a ∈ l, (f a).length ≤ n) → (l.flatMap f).length ≤ l.length * n
  | [], _ => by simp
  | a :: r, h => by
    rw [List.flatMap_cons, List.length_append, List.length_cons, Nat.add_mul]
    have := h a (by simp)
    have := flatMap_len (l := r) fun b hb => h b (by simp [hb])
    omega
theorem triR_len (l : List Pt) : (triR l).length ≤ l.length * (l.length * l.length) := by
  unfold triR rA
  have := flatMap_len (l := List.range l.length) (f := fun a => rB l a (l.length - (a + 1))) (n := l.length * l.length) fun a ha => by
    unfold rB
    have h1 := flatMap_len (l := List.range (l.length - (a + 1))) (f := fun j => rC l a (a + 1 + j) (l.length - (a + 1))) (n := l.length) fun j _ => by
      unfold rC
      have := List.length_filterMap_le (fun i => refC l a (a + 1 + j) (a + 1 + i)) (List.range (l.length - (a + 1)))
      rw [List.length_range] at this
      omega
    rw [List.length_range] at h1
    exact Nat.le_trans h1 (Nat.mul_le_mul_right _ (by omega))
  rwa [List.length_range] at this
end Go.Ch

/- BedTriangulates: the function of the law. -/
namespace Go.Ch
open Go Go.Ax Go.Proofs Go.Proofs.Tryz Go.Hull
set_option maxRecDepth 100000
set_option pp.maxSteps 400
set_option maxHeartbeats 1000000

def badT (l : List Nd) (i : Nat) : Int := bif (l.take i).any badLv then 2 else 0
theorem badT_succ {l : List Nd} {i : Nat} (h : i < l.length) : badT l (i + 1) = bif badLv (l.getD i default) then 2 else badT l i := by
  unfold badT
  rw [List.take_add_one, List.getElem?_eq_getElem h, List.any_append, List.getD_eq_getElem?_getD, List.getElem?_eq_getElem h]
  simp only [Option.toList_some, List.any_cons, List.any_nil, Option.getD_some]
  cases badLv l[i] <;> cases (List.take i l).any badLv <;> rfl
abbrev lwS (l : List Nd) (g : Grid) (m : Mesh) (e : Int) (i : Nat) (d : Int) (o : List Pt) : St := ⟨[(0, vNds l), (3, .s (.ptr 3 0)), (5, .s (.ptr 5 0)), (6, vI e), (7, vI d), (8, .s (.mo o.isEmpty 100)), (9, vI i)], [(3, some (gridB g)), (5, some (meshB m)), (100, some (.mrow 39 o.length 2 (ptEl o)))]⟩
abbrev lwF (l : List Nd) (g : Grid) (m : Mesh) (e : Int) (d : Int) (o : List Pt) : St := ⟨[(0, vNds l), (3, .s (.ptr 3 0)), (5, .s (.ptr 5 0)), (6, vI e), (7, vI d), (8, pts o)], [(3, some (gridB g)), (5, some (meshB m))]⟩
theorem triB_cases (l : List Nd) : (l.any badLv = true ∧ triB l = (⟨[], []⟩, 2)) ∨ (l.any badLv = false ∧ patchE (ptsN l) = 0 ∧ triB l = (⟨l, trTs (triR (ptsN l))⟩, 0)) ∨ (l.any badLv = false ∧ patchE (ptsN l) ≠ 0 ∧ triB l = (⟨[], []⟩, patchE (ptsN l))) := by
  unfold triB
  cases h : l.any badLv with
  | true => exact .inl ⟨rfl, rfl⟩
  | false =>
    by_cases h0 : patchE (ptsN l) = 0
    · exact .inr (.inl ⟨rfl, h0, by rw [cond_false, if_pos h0]⟩)
    · exact .inr (.inr ⟨rfl, h0, by rw [cond_false, if_neg h0]⟩)
theorem ndRow1 {l : List Nd} : RowIs 3 (0 + l.length) (catF 0 (rowF 3 []) fun i => ndD (l.getD i default)) ndD l := by
  rw [Nat.zero_add, catF0]; exact RowIs.refl
theorem Triangulates (l : List Nd) (g : Grid) (hl : l.length ≤ 9223372036854775807) (hg : g.levels.length ≤ 9223372036854775807) : CallP Tryz.prog 3 [vNds l, grid g] (vB true) := by
  refine callP_of_aw Tryz.func3 rfl rfl Tryz.call3 tab_ok rfl rfl (fun cx href => ?_)
  refine AW.seq (ex.sound (rc := []) tab_ok mix href _ ?_)
  refine AW.seq (ex.sound (rc := []) tab_ok mix href _ ?_)
  refine callN bawake ?_
  refine And.intro (fun h => by cases (show (!true) = true from h)) (fun _ => ?_)
  refine AW.seq (ex.sound (rc := []) tab_ok mix href _ ?_)
  refine callN (Few g hg) ?_
  repeat first | refine sk ?_ | refine st ?_ | refine sg ?_ | refine sh ?_ | refine su ?_ | refine sn1 ?_ | refine sn0 ?_ | refine And.intro (show imp none (gimp _ none) from trivial) ?_
  refine And.intro (fun h => ?_) (fun h => ?_)
  · exact SubR.lit rfl
  have hsz : l.length ≤ 7 ∨ (64 < l.length ∧ l.length ≤ 70) := by
    have h : ((!few g || (decide ((l.length : Int) > 7) && decide ((l.length : Int) ≤ 64))) || decide ((l.length : Int) > 70)) = false := h
    simp at h
    omega
  refine AW.seq (ex.sound (rc := [2000006]) tab_ok mix href _ ?_)
  refine ob (show (0 + l.length) * 24 ≤ 140737488355328 by omega) ?_
  refine ob (fun i j _ _ => ?_) ?_
  · match j, (show j < 3 from ‹_›) with
    | 0, _ => rfl
    | 1, _ => rfl
    | 2, _ => rfl
  refine ⟨[36], _, (bTriangulate l (by omega)).conv (args' := _) ⟨RowIs.slc (el := ndD) ndRow1, trivial⟩, ?_⟩
  have hcs := triB_cases l
  generalize triB l = T at hcs ⊢
  obtain ⟨m, D⟩ := T
  refine AW.seq (ex.sound (rc := []) tab_ok mix href _ ?_)
  refine AW.seq (ex.sound (rc := []) tab_ok mix href _ ?_)
  refine AW.cut (σ' := lwS l g m D l.length (badT l l.length) (ptsN l)) (ex.sound (rc := []) tab_ok mix href _ ?_) ?_
  · refine AW.loopI (fun i : Nat => lwS l g m D i (badT l i) (ptsN (l.take i))) (fun i => i ≤ l.length) (fun i => l.length - i) 0 (Nat.zero_le _) ?_ ?_
    · exact SubI.of0 href [(100, 1000)] rfl ⟨⟨rfl, LeBx.rfl⟩, ⟨rfl, LeBx.rfl⟩, ⟨rfl, rfl⟩, trivial⟩ ⟨⟨rfl, LeQ.rfl⟩, ⟨rfl, LeQ.rfl⟩, ⟨rfl, LeQ.rfl⟩, ⟨rfl, LeQ.rfl⟩, ⟨rfl, LeQ.rfl⟩, ⟨rfl, LeQ.nil rfl⟩, ⟨rfl, LeQ.rfl⟩, trivial⟩
    · intro i hi
      have hlen := ptsN_len hi
      refine ex.sound (rc := []) tab_ok mix href _ ?_
      refine And.intro (fun h => ?_) (fun h => ?_)
      · have h : (i : Int) < l.length := decT h
        have hi' : i < l.length := by omega
        have hbs := badT_succ hi'
        refine oi ⟨by omega, by omega⟩ ?_
        refine callN (Leveled (l.getD i default).lv) ?_
        refine And.intro (fun h2 => ?_) (fun h2 => ?_)
        · have h2 : badLv (l.getD i default) = true := h2
          rw [h2] at hbs
          have hbs : badT l (i + 1) = 2 := hbs
          refine oi ⟨by omega, by omega⟩ ?_
          repeat first | refine sk ?_ | refine st ?_ | refine sg ?_ | refine sh ?_ | refine su ?_ | refine sn1 ?_ | refine sn0 ?_ | refine And.intro (show imp none (gimp _ none) from trivial) ?_
          refine oi ⟨by omega, by omega⟩ ?_
          repeat first | refine sk ?_ | refine st ?_ | refine sg ?_ | refine sh ?_ | refine su ?_ | refine sn1 ?_ | refine sn0 ?_ | refine And.intro (show imp none (gimp _ none) from trivial) ?_
          refine ob (by decide) ?_
          refine ob (by rw [bif_len]; show ((ptsN (l.take i)).length + 1) * 16 ≤ 140737488355328; omega) ?_
          refine ob (fun k j hk hj => ?_) ?_
          · obtain rfl : k = 0 := by omega
            match j, hj with
            | 0, _ => rfl
            | 1, _ => rfl
          refine And.intro (by kernel_rfl) ?_
          refine ⟨i + 1, by omega, by omega, ?_⟩
          show SubI cx _ _ (lwS l g m D (i + 1) (badT l (i + 1)) (ptsN (l.take (i + 1))))
          rw [ptsN_take hi', hbs]
          exact SubI.of0 href [(100, 66)] rfl ⟨⟨rfl, LeBx.rfl⟩, ⟨rfl, LeBx.rfl⟩, ⟨rfl, LeBx.snoc (el := ptD) fun j hj => match j, hj with
            | 0, _ => rfl
            | 1, _ => rfl⟩, trivial⟩ ⟨⟨rfl, LeQ.rfl⟩, ⟨rfl, LeQ.rfl⟩, ⟨rfl, LeQ.rfl⟩, ⟨rfl, LeQ.rfl⟩, ⟨rfl, LeQ.rfl⟩, ⟨rfl, LeQ.mo (isEmpty_snoc _ _)⟩, ⟨rfl, LeQ.int (w64_of (by omega) (by omega))⟩, trivial⟩
        · have h2 : badLv (l.getD i default) = false := h2
          rw [h2] at hbs
          have hbs : badT l (i + 1) = badT l i := hbs
          refine oi ⟨by omega, by omega⟩ ?_
          repeat first | refine sk ?_ | refine st ?_ | refine sg ?_ | refine sh ?_ | refine su ?_ | refine sn1 ?_ | refine sn0 ?_ | refine And.intro (show imp none (gimp _ none) from trivial) ?_
          refine oi ⟨by omega, by omega⟩ ?_
          repeat first | refine sk ?_ | refine st ?_ | refine sg ?_ | refine sh ?_ | refine su ?_ | refine sn1 ?_ | refine sn0 ?_ | refine And.intro (show imp none (gimp _ none) from trivial) ?_
          refine ob (by decide) ?_
          refine ob (by rw [bif_len]; show ((ptsN (l.take i)).length + 1) * 16 ≤ 140737488355328; omega) ?_
          refine ob (fun k j hk hj => ?_) ?_
          · obtain rfl : k = 0 := by omega
            match j, hj with
            | 0, _ => rfl
            | 1, _ => rfl
          refine And.intro (by kernel_rfl) ?_
          refine ⟨i + 1, by omega, by omega, ?_⟩
          show SubI cx _ _ (lwS l g m D (i + 1) (badT l (i + 1)) (ptsN (l.take (i + 1))))
          rw [ptsN_take hi', hbs]
          exact SubI.of0 href [(100, 66)] rfl ⟨⟨rfl, LeBx.rfl⟩, ⟨rfl, LeBx.rfl⟩, ⟨rfl, LeBx.snoc (el := ptD) fun j hj => match j, hj with
            | 0, _ => rfl
            | 1, _ => rfl⟩, trivial⟩ ⟨⟨rfl, LeQ.rfl⟩, ⟨rfl, LeQ.rfl⟩, ⟨rfl, LeQ.rfl⟩, ⟨rfl, LeQ.rfl⟩, ⟨rfl, LeQ.rfl⟩, ⟨rfl, LeQ.mo (isEmpty_snoc _ _)⟩, ⟨rfl, LeQ.int (w64_of (by omega) (by omega))⟩, trivial⟩
      · have h : ¬ (i : Int) < l.length := decF h
        obtain rfl : i = l.length := by omega
        rw [List.take_length]
        exact ⟨rfl, SubI.of0 href [] rfl ⟨⟨rfl, LeBx.rfl⟩, ⟨rfl, LeBx.rfl⟩, ⟨rfl, LeBx.rfl⟩, trivial⟩ ⟨⟨rfl, LeQ.rfl⟩, ⟨rfl, LeQ.rfl⟩, ⟨rfl, LeQ.rfl⟩, ⟨rfl, LeQ.rfl⟩, ⟨rfl, LeQ.rfl⟩, ⟨rfl, LeQ.rfl⟩, ⟨rfl, LeQ.rfl⟩, trivial⟩⟩
  · have hlen : (ptsN l).length = l.length := by unfold ptsN; rw [List.length_map]
    have hbl : badT l l.length = bif l.any badLv then 2 else 0 := by unfold badT; rw [List.take_length]
    have hz0 : ∀ z : Bool, (ptsN l).isEmpty = z → SubM cx 128 (lwS l g m D l.length (badT l l.length) (ptsN l)) (lwF l g m D (badT l l.length) (ptsN l)) := by
      intro z hz
      cases z with
      | true =>
        have e0 : ptsN l = [] := List.isEmpty_iff.1 hz
        refine SubM.of_subI (SubI.of0 href [] rfl ⟨⟨rfl, LeBx.rfl⟩, ⟨rfl, LeBx.rfl⟩, trivial⟩ ⟨⟨rfl, LeQ.rfl⟩, ⟨rfl, LeQ.rfl⟩, ⟨rfl, LeQ.rfl⟩, ⟨rfl, LeQ.rfl⟩, ⟨rfl, LeQ.rfl⟩, ⟨rfl, ?_⟩, trivial⟩)
        show LeQ (.s (.mo (ptsN l).isEmpty 100)) (pts (ptsN l))
        rw [e0]
        exact fun M β v r => LeQ.d LeD.nil M β v (LeQ.toNil (z := true) rfl M β v r)
      | false =>
        refine SubM.trans (SubM.of_subI (SubI.own (e := 39) (n := (ptsN l).length) (s := 2) (f := ptEl (ptsN l)) (z := false) 8 100 ?_ rfl ?_)) ?_
        · show AV.s (.mo (ptsN l).isEmpty 100) = _
          rw [hz]
        · rfl
        exact SubM.of href [] [100] rfl rfl rfl ⟨⟨rfl, LeBxf.rfl⟩, ⟨rfl, LeBxf.rfl⟩, trivial⟩ ⟨⟨rfl, LeQf.rfl⟩, ⟨rfl, LeQf.rfl⟩, ⟨rfl, LeQf.rfl⟩, ⟨rfl, LeQf.rfl⟩, ⟨rfl, LeQf.rfl⟩, ⟨rfl, LeQf.own (by simp) rfl⟩, trivial⟩
    refine AW.subM (hz0 _ rfl) ?_
    clear hz0
    refine AW.cut (σ' := lwF l g m D D (ptsN l)) (ex.sound (rc := []) tab_ok mix href _ ?_) ?_
    · rcases hcs with ⟨h1, h2⟩ | ⟨h1, h0, h2⟩ | ⟨h1, h0, h2⟩
      · rw [h1] at hbl
        have hbl : badT l l.length = 2 := hbl
        rw [hbl]
        obtain ⟨rfl, rfl⟩ := Prod.mk.inj h2
        refine And.intro (fun h => by cases (show ((2 : Int) == 0) = true from h)) (fun _ => ?_)
        exact ⟨rfl, SubI.of0 href [] rfl ⟨⟨rfl, LeBx.rfl⟩, ⟨rfl, LeBx.rfl⟩, trivial⟩ ⟨⟨rfl, LeQ.rfl⟩, ⟨rfl, LeQ.rfl⟩, ⟨rfl, LeQ.rfl⟩, ⟨rfl, LeQ.rfl⟩, ⟨rfl, LeQ.rfl⟩, ⟨rfl, LeQ.rfl⟩, trivial⟩⟩
      · rw [h1] at hbl
        have hbl : badT l l.length = 0 := hbl
        rw [hbl]
        obtain ⟨rfl, rfl⟩ := Prod.mk.inj h2
        refine And.intro (fun h => ?_) (fun h => by cases (show ((0 : Int) == 0) = false from h))
        refine callN (rCheckPatch (ptsN l) (by omega)) ?_
        rw [h0]
        exact ⟨rfl, SubI.of0 href [] rfl ⟨⟨rfl, LeBx.rfl⟩, ⟨rfl, LeBx.rfl⟩, trivial⟩ ⟨⟨rfl, LeQ.rfl⟩, ⟨rfl, LeQ.rfl⟩, ⟨rfl, LeQ.rfl⟩, ⟨rfl, LeQ.rfl⟩, ⟨rfl, LeQ.rfl⟩, ⟨rfl, LeQ.rfl⟩, trivial⟩⟩
      · rw [h1] at hbl
        have hbl : badT l l.length = 0 := hbl
        rw [hbl]
        obtain ⟨rfl, rfl⟩ := Prod.mk.inj h2
        refine And.intro (fun h => ?_) (fun h => by cases (show ((0 : Int) == 0) = false from h))
        refine callN (rCheckPatch (ptsN l) (by omega)) ?_
        exact ⟨rfl, SubI.of0 href [] rfl ⟨⟨rfl, LeBx.rfl⟩, ⟨rfl, LeBx.rfl⟩, trivial⟩ ⟨⟨rfl, LeQ.rfl⟩, ⟨rfl, LeQ.rfl⟩, ⟨rfl, LeQ.rfl⟩, ⟨rfl, LeQ.rfl⟩, ⟨rfl, LeQ.rfl⟩, ⟨rfl, LeQ.rfl⟩, trivial⟩⟩
    · clear hbl
      have hcs : (D ≠ 0 ∧ m = ⟨[], []⟩) ∨ (D = 0 ∧ l.any badLv = false ∧ patchE (ptsN l) = 0 ∧ m = ⟨l, trTs (triR (ptsN l))⟩) := by
        rcases hcs with ⟨h1, h2⟩ | ⟨h1, h0, h2⟩ | ⟨h1, h0, h2⟩
        · obtain ⟨rfl, rfl⟩ := Prod.mk.inj h2
          exact .inl ⟨by decide, rfl⟩
        · obtain ⟨rfl, rfl⟩ := Prod.mk.inj h2
          exact .inr ⟨rfl, h1, h0, rfl⟩
        · obtain ⟨rfl, rfl⟩ := Prod.mk.inj h2
          exact .inl ⟨h0, rfl⟩
      refine AW.cut (σ' := lwF l g m D D (ptsN l)) (ex.sound (rc := []) tab_ok mix href _ ?_) ?_
      · rcases hcs with ⟨h0, rfl⟩ | ⟨rfl, hb, h0, rfl⟩
        · refine And.intro (fun _ => ?_) (fun h => absurd (show (D != 0) = false from h) (by simp [h0]))
          repeat first | refine sk ?_ | refine st ?_ | refine sg ?_ | refine sh ?_ | refine su ?_ | refine sn1 ?_ | refine sn0 ?_ | refine And.intro (show imp none (gimp _ none) from trivial) ?_
          refine callG ((sameM ⟨[], []⟩ (by decide) (by decide)).conv (args' := _) ⟨⟨LeD.refl _, LeD.refl _, trivial⟩, ⟨LeD.nil, LeD.nil, trivial⟩, trivial⟩) ?_
          repeat first | refine sk ?_ | refine st ?_ | refine sg ?_ | refine sh ?_ | refine su ?_ | refine sn1 ?_ | refine sn0 ?_ | refine And.intro (show imp none (gimp _ none) from trivial) ?_
          refine And.intro (fun h => ?_) (fun _ => ?_)
          · have h : ((D != D) || !true) = true := h
            simp at h
          exact ⟨rfl, SubI.of0 href [] rfl ⟨⟨rfl, LeBx.rfl⟩, ⟨rfl, LeBx.rfl⟩, trivial⟩ ⟨⟨rfl, LeQ.rfl⟩, ⟨rfl, LeQ.rfl⟩, ⟨rfl, LeQ.rfl⟩, ⟨rfl, LeQ.rfl⟩, ⟨rfl, LeQ.rfl⟩, ⟨rfl, LeQ.rfl⟩, trivial⟩⟩
        · refine And.intro (fun h => absurd (show ((0 : Int) != 0) = true from h) (by decide)) (fun _ => ?_)
          obtain ⟨h64, ho, hd, hap⟩ := patch_ok h0
          have h7 : l.length ≤ 7 := by omega
          have htl : (triR (ptsN l)).length ≤ 2048 := by
            have h1 := triR_len (ptsN l)
            rw [hlen] at h1
            have h2 : l.length * l.length ≤ 7 * 7 := Nat.mul_le_mul h7 h7
            have h3 : l.length * (l.length * l.length) ≤ 7 * 49 := Nat.mul_le_mul h7 h2
            omega
          have htl' : (trTs (triR (ptsN l))).length ≤ 2048 := by unfold trTs; rw [List.length_map]; exact htl
          have hcm := bCheckMesh ⟨l, trTs (triR (ptsN l))⟩ ⟨by show l.length ≤ _; omega, by show (trTs (triR (ptsN l))).length ≤ _; omega⟩
          rw [errM_tri hb h0 htl] at hcm
          repeat first | refine sk ?_ | refine st ?_ | refine sg ?_ | refine sh ?_ | refine su ?_ | refine sn1 ?_ | refine sn0 ?_ | refine And.intro (show imp none (gimp _ none) from trivial) ?_
          refine callG (rTriangulate (ptsN l) hap ho (by omega)) ?_
          repeat first | refine sk ?_ | refine st ?_ | refine sg ?_ | refine sh ?_ | refine su ?_ | refine sn1 ?_ | refine sn0 ?_ | refine And.intro (show imp none (gimp _ none) from trivial) ?_
          refine callG (sameM ⟨l, trTs (triR (ptsN l))⟩ (by show l.length ≤ _; omega) (by show (trTs (triR (ptsN l))).length ≤ _; omega)) ?_
          repeat first | refine sk ?_ | refine st ?_ | refine sg ?_ | refine sh ?_ | refine su ?_ | refine sn1 ?_ | refine sn0 ?_ | refine And.intro (show imp none (gimp _ none) from trivial) ?_
          refine callG hcm ?_
          repeat first | refine sk ?_ | refine st ?_ | refine sg ?_ | refine sh ?_ | refine su ?_ | refine sn1 ?_ | refine sn0 ?_ | refine And.intro (show imp none (gimp _ none) from trivial) ?_
          refine And.intro (by kernel_rfl) ?_
          refine And.intro (fun h => ?_) (fun _ => ?_)
          · have h : ((((0 : Int) != 0) || !true) || ((0 : Int) != 0)) = true := h
            simp at h
          exact ⟨rfl, SubI.of0 href [] rfl ⟨⟨rfl, LeBx.rfl⟩, ⟨rfl, LeBx.rfl⟩, trivial⟩ ⟨⟨rfl, LeQ.rfl⟩, ⟨rfl, LeQ.rfl⟩, ⟨rfl, LeQ.rfl⟩, ⟨rfl, LeQ.rfl⟩, ⟨rfl, LeQ.rfl⟩, ⟨rfl, LeQ.rfl⟩, trivial⟩⟩
      · refine ex.sound (rc := []) tab_ok mix href _ ?_
        refine callN (bSquares g hg) ?_
        refine callN (RCheck g hg) ?_
        unfold sqB
        refine And.intro (fun h => ?_) (fun h => ?_)
        · have h : (errG g != 0) = true := h
          rw [if_neg (show ¬ errG g = 0 by simpa using h)]
          repeat first | refine sk ?_ | refine st ?_ | refine sg ?_ | refine sh ?_ | refine su ?_ | refine sn1 ?_ | refine sn0 ?_ | refine And.intro (show imp none (gimp _ none) from trivial) ?_
          refine callG ((sameM ⟨[], []⟩ (by decide) (by decide)).conv (args' := _) ⟨⟨LeD.refl _, LeD.refl _, trivial⟩, ⟨LeD.nil, LeD.nil, trivial⟩, trivial⟩) ?_
          repeat first | refine sk ?_ | refine st ?_ | refine sg ?_ | refine sh ?_ | refine su ?_ | refine sn1 ?_ | refine sn0 ?_ | refine And.intro (show imp none (gimp _ none) from trivial) ?_
          refine SubR.of_eq ?_
          show vB ((errG g == errG g) && true) = vB true
          simp
        · have h : (errG g != 0) = false := h
          have h0 : errG g = 0 := by simpa using h
          have hv := GVal.of h0
          have hn := hv.n
          have hk1 := nds_len g g.levels.length
          have hk2 := sqs_len g g.levels.length
          rw [if_pos h0]
          have hcm := bCheckMesh (sqM g) ⟨by show (nds g g.levels.length).length ≤ _; omega, by show (sqs g g.levels.length).length ≤ _; omega⟩
          rw [errM_sq hv] at hcm
          repeat first | refine sk ?_ | refine st ?_ | refine sg ?_ | refine sh ?_ | refine su ?_ | refine sn1 ?_ | refine sn0 ?_ | refine And.intro (show imp none (gimp _ none) from trivial) ?_
          refine callG (rSquares g hv hn) ?_
          repeat first | refine sk ?_ | refine st ?_ | refine sg ?_ | refine sh ?_ | refine su ?_ | refine sn1 ?_ | refine sn0 ?_ | refine And.intro (show imp none (gimp _ none) from trivial) ?_
          refine callG (sameM (sqM g) (by show (nds g g.levels.length).length ≤ _; omega) (by show (sqs g g.levels.length).length ≤ _; omega)) ?_
          repeat first | refine sk ?_ | refine st ?_ | refine sg ?_ | refine sh ?_ | refine su ?_ | refine sn1 ?_ | refine sn0 ?_ | refine And.intro (show imp none (gimp _ none) from trivial) ?_
          refine callG hcm ?_
          repeat first | refine sk ?_ | refine st ?_ | refine sg ?_ | refine sh ?_ | refine su ?_ | refine sn1 ?_ | refine sn0 ?_ | refine And.intro (show imp none (gimp _ none) from trivial) ?_
          refine And.intro (by kernel_rfl) ?_
          refine SubR.of_eq ?_
          show vB (((0 : Int) == 0) && true && ((0 : Int) == 0)) = vB true
          rfl
end Go.Ch

/- Reading the nodes of the law's argument. -/
namespace Go.Ch
open Go Go.Ax Go.Proofs Go.Proofs.Tryz
def okI3 (a b c : Int) : Prop := i64ok a ∧ i64ok b ∧ i64ok c
theorem rNd : Rd Tryz.prog 37 3 (fun p : Nd => [.d (dI p.x), .d (dI p.y), .d (dI p.lv)]) (fun p => okI3 p.x p.y p.lv) :=
  (rd_struct Tryz.underlying37 rfl (by kernel_rfl) (rdf_cons rfl rI (rdf_cons rfl rI (rdf_cons rfl rI rdf_nil)))).to (fun a => ⟨a.1, a.2.1, a.2.2.1⟩) (fun _ => rfl) (fun _ h => ⟨h.1, h.2.1, h.2.2.1⟩)
theorem rNds : Rd Tryz.prog 22 1 (fun l : List Nd => [.d (dNds l)]) (fun l => l.length ≤ 9223372036854775807 ∧ ∀ a ∈ l, okI3 a.x a.y a.lv) :=
  rd_slice Tryz.underlying22 (by kernel_rfl) rNd (by decide) ndD (fun _ => rfl) (fun a j hj => by match j, hj with | 0, _ => rfl | 1, _ => rfl | 2, _ => rfl)
theorem Triangs (l : List Nd) (g : Grid) (hl : l.length ≤ 9223372036854775807 ∧ ∀ a ∈ l, okI3 a.x a.y a.lv) (hg : g.ok) : CallP Tryz.prog 3 [vNds l, grid g] (vB true) := Triangulates l g hl.1 hg.levels
end Go.Ch
