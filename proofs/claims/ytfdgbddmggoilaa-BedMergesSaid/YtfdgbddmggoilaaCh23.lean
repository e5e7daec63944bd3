/- Part Ch23: lemmas that the proofs of this seat share; by itself it claims nothing. -/
import Derived.Test.YtfdgbddmggoilaaCh22
namespace Go.Ch
open Go Go.Ax Go.Proofs Go.Proofs.Try
set_option maxRecDepth 100000
set_option pp.maxSteps 400
set_option maxHeartbeats 1000000

def laQ (a b : Grid) (i : Nat) : Int := bif b.levels.getD i 0 == 30000 then a.levels.getD i 0 else b.levels.getD i 0
def laH (a b : Grid) (k : Nat) : Nat → Int := fun j => if j < k then laQ a b j else b.levels.getD j 0
theorem laH_zero {a b : Grid} {j : Nat} : laH a b 0 j = b.levels.getD j 0 := if_neg (Nat.not_lt_zero j)
theorem laH_done {a b : Grid} {k j : Nat} (h : j < k) : laH a b k j = laQ a b j := if_pos h
theorem laH_new {a b : Grid} {k : Nat} (h : b.levels.getD k 0 = 30000) : laH a b (k + 1) k = a.levels.getD k 0 := by
  rw [laH_done (Nat.lt_succ_self k)]; unfold laQ; rw [h]; rfl
theorem laH_keep {a b : Grid} {k : Nat} (h : b.levels.getD k 0 ≠ 30000) : laH a b (k + 1) k = laH a b k k := by
  rw [laH_done (Nat.lt_succ_self k)]; unfold laQ laH
  rw [if_neg (Nat.lt_irrefl k), beq_eq_false_iff_ne.2 h]; rfl
theorem laH_old {a b : Grid} {k j : Nat} (h : j ≠ k) : laH a b (k + 1) j = laH a b k j := by
  unfold laH
  by_cases e : j < k
  · rw [if_pos e, if_pos (by omega)]
  · rw [if_neg e, if_neg (by omega)]
theorem rLatestO (a b : Grid) (ha : a.levels.length = b.levels.length) (hn : b.levels.length ≤ 1024) : CallR Try.prog 50 [grid a, grid b] [] (.g [.d (dI b.x), .d (dI b.y), .d (dI b.side), .d (dI b.cols), .d (dI b.rows), .own 601]) [(601, .row 3 b.levels.length 1 (intF (laH a b b.levels.length)))] := by
  refine callO_of_ex (rc := [30]) (N := 32) Try.func50 rfl rfl Try.call50 tab_ok mix rfl rfl rfl rfl (fun cx href => ?_)
  refine ⟨[(501, 601)], _, _, _, _, CopyGridO b (by omega), rfl, trivial, rfl, ?_⟩
  refine AW.loopI (fun i : Nat => ⟨[(2, .s (.ptr 2 0)), (3, .s (.ptr 3 0)), (4, .s (.ptr 4 0)), (5, .s (.ptr 5 0)), (6, vI i)],
      [(2, some (gridB a)), (3, some (gridB b)), (4, some (.cells [.d (dI 0), .d (dI 0), .d (dI 0), .d (dI 0), .d (dI 0), nilS])), (5, some (.cells [.d (dI b.x), .d (dI b.y), .d (dI b.side), .d (dI b.cols), .d (dI b.rows), .own 601])), (601, some (.row 3 b.levels.length 1 (intF (laH a b i))))]⟩)
    (fun i => i ≤ b.levels.length) (fun i => b.levels.length - i) 0 (Nat.zero_le _) ?_ ?_
  · refine SubI.of0 href [] rfl ⟨⟨rfl, LeBx.rfl⟩, ⟨rfl, LeBx.rfl⟩, ⟨rfl, LeBx.rfl⟩, ⟨rfl, LeBx.rfl⟩, ⟨rfl, LeBx.row rfl fun k j _ _ => LeD.of_eq ?_⟩, trivial⟩ ⟨⟨rfl, LeQ.rfl⟩, ⟨rfl, LeQ.rfl⟩, ⟨rfl, LeQ.rfl⟩, ⟨rfl, LeQ.rfl⟩, ⟨rfl, LeQ.rfl⟩, trivial⟩
    exact congrArg dI laH_zero.symm
  · intro i hi
    refine ex.sound (rc := [30]) tab_ok mix href _ ?_
    refine And.intro (fun h => ?_) (fun h => ?_)
    · have h : (i : Int) < b.levels.length := decT h
      have hi' : i < b.levels.length := by omega
      refine oi ⟨by omega, by omega⟩ ?_
      refine And.intro (fun h2 => ?_) (fun h2 => ?_)
      · have h2 : (b.levels.getD i 0 == 30000) = true := h2
        refine oi ⟨by omega, by omega⟩ ?_
        refine oi ⟨by omega, by omega⟩ ?_
        refine ob hi' ?_
        refine And.intro (by kernel_rfl) ?_
        refine ⟨i + 1, by omega, by omega, ?_⟩
        refine SubI.of0 href [] rfl ⟨⟨rfl, LeBx.rfl⟩, ⟨rfl, LeBx.rfl⟩, ⟨rfl, LeBx.rfl⟩, ⟨rfl, LeBx.rfl⟩, ⟨rfl, LeBx.row rfl fun k j hk hj => LeD.of_eq ?_⟩, trivial⟩ ⟨⟨rfl, LeQ.rfl⟩, ⟨rfl, LeQ.rfl⟩, ⟨rfl, LeQ.rfl⟩, ⟨rfl, LeQ.rfl⟩, ⟨rfl, LeQ.int (w64_of (by omega) (by omega))⟩, trivial⟩
        obtain rfl : j = 0 := by omega
        by_cases hki : k = i
        · subst hki
          refine rowSet_self.trans ?_
          exact congrArg dI (laH_new (by simpa using h2)).symm
        · refine (rowSet_ne hki).trans ?_
          exact congrArg dI (laH_old hki).symm
      · have h2 : (b.levels.getD i 0 == 30000) = false := h2
        refine ⟨i + 1, by omega, by omega, ?_⟩
        refine SubI.of0 href [] rfl ⟨⟨rfl, LeBx.rfl⟩, ⟨rfl, LeBx.rfl⟩, ⟨rfl, LeBx.rfl⟩, ⟨rfl, LeBx.rfl⟩, ⟨rfl, LeBx.row rfl fun k j hk hj => LeD.of_eq ?_⟩, trivial⟩ ⟨⟨rfl, LeQ.rfl⟩, ⟨rfl, LeQ.rfl⟩, ⟨rfl, LeQ.rfl⟩, ⟨rfl, LeQ.rfl⟩, ⟨rfl, LeQ.int (w64_of (by omega) (by omega))⟩, trivial⟩
        by_cases hki : k = i
        · subst hki
          exact congrArg dI (laH_keep (by simpa using h2)).symm
        · exact congrArg dI (laH_old hki).symm
    · have h : ¬ (i : Int) < b.levels.length := decF h
      obtain rfl : i = b.levels.length := by omega
      exact ⟨LeQ.rfl, rfl, trivial⟩
theorem rLatest (a b : Grid) (ha : a.levels.length = b.levels.length) (hn : b.levels.length ≤ 1024) : CallP Try.prog 50 [grid a, grid b] (grid (withG b (laQ a b))) := by
  refine callP_of_ex (rc := [30]) (N := 32) Try.func50 rfl rfl Try.call50 tab_ok mix rfl rfl (fun cx href => ?_)
  refine ⟨[(501, 601)], _, _, _, _, CopyGridO b (by omega), rfl, trivial, rfl, ?_⟩
  refine AW.loopI (fun i : Nat => ⟨[(2, .s (.ptr 2 0)), (3, .s (.ptr 3 0)), (4, .s (.ptr 4 0)), (5, .s (.ptr 5 0)), (6, vI i)],
      [(2, some (gridB a)), (3, some (gridB b)), (4, some (.cells [.d (dI 0), .d (dI 0), .d (dI 0), .d (dI 0), .d (dI 0), nilS])), (5, some (.cells [.d (dI b.x), .d (dI b.y), .d (dI b.side), .d (dI b.cols), .d (dI b.rows), .own 601])), (601, some (.row 3 b.levels.length 1 (intF (laH a b i))))]⟩)
    (fun i => i ≤ b.levels.length) (fun i => b.levels.length - i) 0 (Nat.zero_le _) ?_ ?_
  · refine SubI.of0 href [] rfl ⟨⟨rfl, LeBx.rfl⟩, ⟨rfl, LeBx.rfl⟩, ⟨rfl, LeBx.rfl⟩, ⟨rfl, LeBx.rfl⟩, ⟨rfl, LeBx.row rfl fun k j _ _ => LeD.of_eq ?_⟩, trivial⟩ ⟨⟨rfl, LeQ.rfl⟩, ⟨rfl, LeQ.rfl⟩, ⟨rfl, LeQ.rfl⟩, ⟨rfl, LeQ.rfl⟩, ⟨rfl, LeQ.rfl⟩, trivial⟩
    exact congrArg dI laH_zero.symm
  · intro i hi
    refine ex.sound (rc := [30]) tab_ok mix href _ ?_
    refine And.intro (fun h => ?_) (fun h => ?_)
    · have h : (i : Int) < b.levels.length := decT h
      have hi' : i < b.levels.length := by omega
      refine oi ⟨by omega, by omega⟩ ?_
      refine And.intro (fun h2 => ?_) (fun h2 => ?_)
      · have h2 : (b.levels.getD i 0 == 30000) = true := h2
        refine oi ⟨by omega, by omega⟩ ?_
        refine oi ⟨by omega, by omega⟩ ?_
        refine ob hi' ?_
        refine And.intro (by kernel_rfl) ?_
        refine ⟨i + 1, by omega, by omega, ?_⟩
        refine SubI.of0 href [] rfl ⟨⟨rfl, LeBx.rfl⟩, ⟨rfl, LeBx.rfl⟩, ⟨rfl, LeBx.rfl⟩, ⟨rfl, LeBx.rfl⟩, ⟨rfl, LeBx.row rfl fun k j hk hj => LeD.of_eq ?_⟩, trivial⟩ ⟨⟨rfl, LeQ.rfl⟩, ⟨rfl, LeQ.rfl⟩, ⟨rfl, LeQ.rfl⟩, ⟨rfl, LeQ.rfl⟩, ⟨rfl, LeQ.int (w64_of (by omega) (by omega))⟩, trivial⟩
        obtain rfl : j = 0 := by omega
        by_cases hki : k = i
        · subst hki
          refine rowSet_self.trans ?_
          exact congrArg dI (laH_new (by simpa using h2)).symm
        · refine (rowSet_ne hki).trans ?_
          exact congrArg dI (laH_old hki).symm
      · have h2 : (b.levels.getD i 0 == 30000) = false := h2
        refine ⟨i + 1, by omega, by omega, ?_⟩
        refine SubI.of0 href [] rfl ⟨⟨rfl, LeBx.rfl⟩, ⟨rfl, LeBx.rfl⟩, ⟨rfl, LeBx.rfl⟩, ⟨rfl, LeBx.rfl⟩, ⟨rfl, LeBx.row rfl fun k j hk hj => LeD.of_eq ?_⟩, trivial⟩ ⟨⟨rfl, LeQ.rfl⟩, ⟨rfl, LeQ.rfl⟩, ⟨rfl, LeQ.rfl⟩, ⟨rfl, LeQ.rfl⟩, ⟨rfl, LeQ.int (w64_of (by omega) (by omega))⟩, trivial⟩
        by_cases hki : k = i
        · subst hki
          exact congrArg dI (laH_keep (by simpa using h2)).symm
        · exact congrArg dI (laH_old hki).symm
    · have h : ¬ (i : Int) < b.levels.length := decF h
      obtain rfl : i = b.levels.length := by omega
      refine SubR.le ⟨LeD.refl _, LeD.refl _, LeD.refl _, LeD.refl _, LeD.refl _, LeD.slc' (by simp [withG]) fun k j hk hj => LeD.of_eq ?_, trivial⟩
      unfold intEl
      refine congrArg dI ?_
      rw [laH_done hk]
      simp [withG, hk]

def shQ (a b : Grid) (i : Nat) : Int := bif a.levels.getD i 0 != 30000 && decide (a.levels.getD i 0 > laQ a b i) then a.levels.getD i 0 else laQ a b i
def shH (a b : Grid) (k : Nat) : Nat → Int := fun j => if j < k then shQ a b j else laH a b b.levels.length j
theorem shH_old {a b : Grid} {k j : Nat} (h : j ≠ k) : shH a b (k + 1) j = shH a b k j := by
  unfold shH
  by_cases e : j < k
  · rw [if_pos e, if_pos (by omega)]
  · rw [if_neg e, if_neg (by omega)]
theorem rShoalest (a b : Grid) (ha : a.levels.length = b.levels.length) (hn : b.levels.length ≤ 1024) : CallP Try.prog 51 [grid a, grid b] (grid (withG b (shQ a b))) := by
  refine callP_of_ex (rc := [50]) (N := 46) Try.func51 rfl rfl Try.call51 tab_ok mix rfl rfl (fun cx href => ?_)
  refine ⟨[(601, 701)], _, _, _, _, rLatestO a b ha hn, rfl, trivial, rfl, ?_⟩
  refine AW.loopI (fun i : Nat => ⟨[(2, .s (.ptr 2 0)), (3, .s (.ptr 3 0)), (4, .s (.ptr 4 0)), (5, .s (.ptr 5 0)), (6, vI i)],
      [(2, some (gridB a)), (3, some (gridB b)), (4, some (.cells [.d (dI 0), .d (dI 0), .d (dI 0), .d (dI 0), .d (dI 0), nilS])), (5, some (.cells [.d (dI b.x), .d (dI b.y), .d (dI b.side), .d (dI b.cols), .d (dI b.rows), .own 701])), (701, some (.row 3 b.levels.length 1 (intF (shH a b i))))]⟩)
    (fun i => i ≤ b.levels.length) (fun i => b.levels.length - i) 0 (Nat.zero_le _) ?_ ?_
  · refine SubI.of0 href [] rfl ⟨⟨rfl, LeBx.rfl⟩, ⟨rfl, LeBx.rfl⟩, ⟨rfl, LeBx.rfl⟩, ⟨rfl, LeBx.rfl⟩, ⟨rfl, LeBx.row rfl fun k j _ _ => LeD.of_eq ?_⟩, trivial⟩ ⟨⟨rfl, LeQ.rfl⟩, ⟨rfl, LeQ.rfl⟩, ⟨rfl, LeQ.rfl⟩, ⟨rfl, LeQ.rfl⟩, ⟨rfl, LeQ.rfl⟩, trivial⟩
    exact congrArg dI (if_neg (Nat.not_lt_zero k)).symm
  · intro i hi
    refine ex.sound (rc := [50]) tab_ok mix href _ ?_
    refine And.intro (fun h => ?_) (fun h => ?_)
    · have h : (i : Int) < b.levels.length := decT h
      have hi' : i < b.levels.length := by omega
      have hcur : shH a b i i = laQ a b i := by unfold shH; rw [if_neg (Nat.lt_irrefl i), laH_done hi']
      refine oi ⟨by omega, by omega⟩ ?_
      repeat first | refine sk ?_ | refine st ?_ | refine sg ?_ | refine sh ?_ | refine su ?_ | refine sn1 ?_ | refine sn0 ?_
      refine og (fun _ => ⟨by omega, by omega⟩) ?_
      repeat first | refine sk ?_ | refine st ?_ | refine sg ?_ | refine sh ?_ | refine su ?_ | refine sn1 ?_ | refine sn0 ?_
      refine og (fun _ => ⟨by omega, by omega⟩) ?_
      repeat first | refine sk ?_ | refine st ?_ | refine sg ?_ | refine sh ?_ | refine su ?_ | refine sn1 ?_ | refine sn0 ?_
      refine og (fun _ => hi') ?_
      repeat first | refine sk ?_ | refine st ?_ | refine sg ?_ | refine sh ?_ | refine su ?_ | refine sn1 ?_ | refine sn0 ?_
      refine And.intro (by kernel_rfl) ?_
      refine And.intro (fun h2 => ?_) (fun h2 => ?_)
      · have h2 : (a.levels.getD i 0 != 30000 && decide (a.levels.getD i 0 > shH a b i i)) = true := h2
        rw [hcur] at h2
        refine oi ⟨by omega, by omega⟩ ?_
        refine oi ⟨by omega, by omega⟩ ?_
        refine ob hi' ?_
        refine And.intro (by kernel_rfl) ?_
        refine ⟨i + 1, by omega, by omega, ?_⟩
        refine SubI.of0 href [] rfl ⟨⟨rfl, LeBx.rfl⟩, ⟨rfl, LeBx.rfl⟩, ⟨rfl, LeBx.rfl⟩, ⟨rfl, LeBx.rfl⟩, ⟨rfl, LeBx.row rfl fun k j hk hj => LeD.of_eq ?_⟩, trivial⟩ ⟨⟨rfl, LeQ.rfl⟩, ⟨rfl, LeQ.rfl⟩, ⟨rfl, LeQ.rfl⟩, ⟨rfl, LeQ.rfl⟩, ⟨rfl, LeQ.int (w64_of (by omega) (by omega))⟩, trivial⟩
        obtain rfl : j = 0 := by omega
        by_cases hki : k = i
        · subst hki
          refine rowSet_self.trans ?_
          refine congrArg dI ?_
          show a.levels.getD k 0 = shH a b (k + 1) k
          unfold shH
          rw [if_pos (Nat.lt_succ_self k)]
          unfold shQ
          rw [h2]; rfl
        · refine (rowSet_ne hki).trans ?_
          exact congrArg dI (shH_old hki).symm
      · have h2 : (a.levels.getD i 0 != 30000 && decide (a.levels.getD i 0 > shH a b i i)) = false := h2
        rw [hcur] at h2
        refine ⟨i + 1, by omega, by omega, ?_⟩
        refine SubI.of0 href [] rfl ⟨⟨rfl, LeBx.rfl⟩, ⟨rfl, LeBx.rfl⟩, ⟨rfl, LeBx.rfl⟩, ⟨rfl, LeBx.rfl⟩, ⟨rfl, LeBx.row rfl fun k j hk hj => LeD.of_eq ?_⟩, trivial⟩ ⟨⟨rfl, LeQ.rfl⟩, ⟨rfl, LeQ.rfl⟩, ⟨rfl, LeQ.rfl⟩, ⟨rfl, LeQ.rfl⟩, ⟨rfl, LeQ.int (w64_of (by omega) (by omega))⟩, trivial⟩
        by_cases hki : k = i
        · subst hki
          refine congrArg dI ?_
          rw [hcur]
          unfold shH
          rw [if_pos (Nat.lt_succ_self k)]
          unfold shQ
          rw [h2]; rfl
        · exact congrArg dI (shH_old hki).symm
    · have h : ¬ (i : Int) < b.levels.length := decF h
      obtain rfl : i = b.levels.length := by omega
      refine SubR.le ⟨LeD.refl _, LeD.refl _, LeD.refl _, LeD.refl _, LeD.refl _, LeD.slc' (by simp [withG]) fun k j hk hj => LeD.of_eq ?_, trivial⟩
      unfold intEl
      refine congrArg dI ?_
      show shH a b b.levels.length k = _
      unfold shH
      rw [if_pos hk]
      simp [withG, hk]
end Go.Ch

namespace Go.Ch
open Go Go.Ax Go.Proofs Go.Proofs.Try
set_option maxRecDepth 100000
set_option pp.maxSteps 400
set_option maxHeartbeats 1000000

theorem sameC_eq {a b : Grid} (h : sameC a b = true) : a.x = b.x ∧ a.y = b.y ∧ a.side = b.side ∧ a.cols = b.cols ∧ a.rows = b.rows := by
  unfold sameC at h
  simpa using h
theorem withG_eq {a b : Grid} {f h : Nat → Int} (hs : sameC a b = true) (hl : b.levels.length = a.levels.length) (hf : ∀ i, i < a.levels.length → f i = h i) : withG a f = withG b h := by
  obtain ⟨h1, h2, h3, h4, h5⟩ := sameC_eq hs
  unfold withG
  rw [h1, h2, h3, h4, h5, hl]
  congr 1
  exact List.map_congr_left fun i hi => hf i (List.mem_range.1 hi)
set_option linter.unusedSimpArgs false
theorem lat_eq {a b : Grid} (i : Nat) : latP a b i = laQ a b i := by
  unfold latP laQ
  generalize a.levels.getD i 0 = x
  generalize b.levels.getD i 0 = y
  by_cases hb : y = 30000
  · have hb1 : (y == 30000) = true := beq_iff_eq.2 hb
    have hb2 : (y != 30000) = false := by rw [bne, hb1]; rfl
    by_cases ha : x = 30000
    · have ha1 : (x == 30000) = true := beq_iff_eq.2 ha
      have ha2 : (x != 30000) = false := by rw [bne, ha1]; rfl
      simp only [ha1, ha2, hb1, hb2, cond_true, cond_false, Bool.not_true, Bool.not_false, Bool.true_and, Bool.false_and, Bool.false_or, Bool.or_false]
      try (first | rfl | omega | (simp; done) | (simp; omega))
    · have ha1 : (x == 30000) = false := beq_eq_false_iff_ne.2 ha
      have ha2 : (x != 30000) = true := by rw [bne, ha1]; rfl
      simp only [ha1, ha2, hb1, hb2, cond_true, cond_false, Bool.not_true, Bool.not_false, Bool.true_and, Bool.false_and, Bool.false_or, Bool.or_false]
      try (first | rfl | omega | (simp; done) | (simp; omega))
  · have hb1 : (y == 30000) = false := beq_eq_false_iff_ne.2 hb
    have hb2 : (y != 30000) = true := by rw [bne, hb1]; rfl
    by_cases ha : x = 30000
    · have ha1 : (x == 30000) = true := beq_iff_eq.2 ha
      have ha2 : (x != 30000) = false := by rw [bne, ha1]; rfl
      simp only [ha1, ha2, hb1, hb2, cond_true, cond_false, Bool.not_true, Bool.not_false, Bool.true_and, Bool.false_and, Bool.false_or, Bool.or_false]
      try (first | rfl | omega | (simp; done) | (simp; omega))
    · have ha1 : (x == 30000) = false := beq_eq_false_iff_ne.2 ha
      have ha2 : (x != 30000) = true := by rw [bne, ha1]; rfl
      simp only [ha1, ha2, hb1, hb2, cond_true, cond_false, Bool.not_true, Bool.not_false, Bool.true_and, Bool.false_and, Bool.false_or, Bool.or_false]
      try (first | rfl | omega | (simp; done) | (simp; omega))
theorem sho_eq {a b : Grid} (i : Nat) : shoP a b i = shQ a b i := by
  unfold shoP shQ laQ mm
  generalize a.levels.getD i 0 = x
  generalize b.levels.getD i 0 = y
  by_cases hb : y = 30000
  · have hb1 : (y == 30000) = true := beq_iff_eq.2 hb
    have hb2 : (y != 30000) = false := by rw [bne, hb1]; rfl
    by_cases ha : x = 30000
    · have ha1 : (x == 30000) = true := beq_iff_eq.2 ha
      have ha2 : (x != 30000) = false := by rw [bne, ha1]; rfl
      simp only [ha1, ha2, hb1, hb2, cond_true, cond_false, Bool.not_true, Bool.not_false, Bool.true_and, Bool.false_and, Bool.false_or, Bool.or_false]
      try (first | rfl | omega | (simp; done) | (simp; omega))
    · have ha1 : (x == 30000) = false := beq_eq_false_iff_ne.2 ha
      have ha2 : (x != 30000) = true := by rw [bne, ha1]; rfl
      simp only [ha1, ha2, hb1, hb2, cond_true, cond_false, Bool.not_true, Bool.not_false, Bool.true_and, Bool.false_and, Bool.false_or, Bool.or_false]
      try (first | rfl | omega | (simp; done) | (simp; omega))
  · have hb1 : (y == 30000) = false := beq_eq_false_iff_ne.2 hb
    have hb2 : (y != 30000) = true := by rw [bne, hb1]; rfl
    by_cases ha : x = 30000
    · have ha1 : (x == 30000) = true := beq_iff_eq.2 ha
      have ha2 : (x != 30000) = false := by rw [bne, ha1]; rfl
      simp only [ha1, ha2, hb1, hb2, cond_true, cond_false, Bool.not_true, Bool.not_false, Bool.true_and, Bool.false_and, Bool.false_or, Bool.or_false]
      try (first | rfl | omega | (simp; done) | (simp; omega))
    · have ha1 : (x == 30000) = false := beq_eq_false_iff_ne.2 ha
      have ha2 : (x != 30000) = true := by rw [bne, ha1]; rfl
      simp only [ha1, ha2, hb1, hb2, cond_true, cond_false, Bool.not_true, Bool.not_false, Bool.true_and, Bool.false_and, Bool.false_or, Bool.or_false]
      by_cases h : x > y
      · rw [decide_eq_true h, cond_true, if_neg (by omega)]
      · rw [decide_eq_false h, cond_false]
        split <;> omega
theorem sho_comm {a b : Grid} (i : Nat) : shoP a b i = shoP b a i := by
  unfold shoP mm
  generalize a.levels.getD i 0 = x
  generalize b.levels.getD i 0 = y
  by_cases hb : y = 30000
  · have hb1 : (y == 30000) = true := beq_iff_eq.2 hb
    have hb2 : (y != 30000) = false := by rw [bne, hb1]; rfl
    by_cases ha : x = 30000
    · have ha1 : (x == 30000) = true := beq_iff_eq.2 ha
      have ha2 : (x != 30000) = false := by rw [bne, ha1]; rfl
      simp only [ha1, ha2, hb1, hb2, cond_true, cond_false, Bool.not_true, Bool.not_false, Bool.true_and, Bool.false_and, Bool.false_or, Bool.or_false]
      try (first | rfl | omega | (simp; done) | (simp; omega))
    · have ha1 : (x == 30000) = false := beq_eq_false_iff_ne.2 ha
      have ha2 : (x != 30000) = true := by rw [bne, ha1]; rfl
      simp only [ha1, ha2, hb1, hb2, cond_true, cond_false, Bool.not_true, Bool.not_false, Bool.true_and, Bool.false_and, Bool.false_or, Bool.or_false]
      try (first | rfl | omega | (simp; done) | (simp; omega))
  · have hb1 : (y == 30000) = false := beq_eq_false_iff_ne.2 hb
    have hb2 : (y != 30000) = true := by rw [bne, hb1]; rfl
    by_cases ha : x = 30000
    · have ha1 : (x == 30000) = true := beq_iff_eq.2 ha
      have ha2 : (x != 30000) = false := by rw [bne, ha1]; rfl
      simp only [ha1, ha2, hb1, hb2, cond_true, cond_false, Bool.not_true, Bool.not_false, Bool.true_and, Bool.false_and, Bool.false_or, Bool.or_false]
      try (first | rfl | omega | (simp; done) | (simp; omega))
    · have ha1 : (x == 30000) = false := beq_eq_false_iff_ne.2 ha
      have ha2 : (x != 30000) = true := by rw [bne, ha1]; rfl
      simp only [ha1, ha2, hb1, hb2, cond_true, cond_false, Bool.not_true, Bool.not_false, Bool.true_and, Bool.false_and, Bool.false_or, Bool.or_false]
      split <;> split <;> omega
theorem sho_ge {a b : Grid} (i : Nat) : ((a.levels.getD i 0 != 30000 && decide (shoP a b i < a.levels.getD i 0)) || (b.levels.getD i 0 != 30000 && decide (shoP a b i < b.levels.getD i 0))) = false := by
  unfold shoP mm
  generalize a.levels.getD i 0 = x
  generalize b.levels.getD i 0 = y
  by_cases hb : y = 30000
  · have hb1 : (y == 30000) = true := beq_iff_eq.2 hb
    have hb2 : (y != 30000) = false := by rw [bne, hb1]; rfl
    by_cases ha : x = 30000
    · have ha1 : (x == 30000) = true := beq_iff_eq.2 ha
      have ha2 : (x != 30000) = false := by rw [bne, ha1]; rfl
      simp only [ha1, ha2, hb1, hb2, cond_true, cond_false, Bool.not_true, Bool.not_false, Bool.true_and, Bool.false_and, Bool.false_or, Bool.or_false]
      try (first | rfl | omega | (simp; done) | (simp; omega))
    · have ha1 : (x == 30000) = false := beq_eq_false_iff_ne.2 ha
      have ha2 : (x != 30000) = true := by rw [bne, ha1]; rfl
      simp only [ha1, ha2, hb1, hb2, cond_true, cond_false, Bool.not_true, Bool.not_false, Bool.true_and, Bool.false_and, Bool.false_or, Bool.or_false]
      try (first | rfl | omega | (simp; done) | (simp; omega))
  · have hb1 : (y == 30000) = false := beq_eq_false_iff_ne.2 hb
    have hb2 : (y != 30000) = true := by rw [bne, hb1]; rfl
    by_cases ha : x = 30000
    · have ha1 : (x == 30000) = true := beq_iff_eq.2 ha
      have ha2 : (x != 30000) = false := by rw [bne, ha1]; rfl
      simp only [ha1, ha2, hb1, hb2, cond_true, cond_false, Bool.not_true, Bool.not_false, Bool.true_and, Bool.false_and, Bool.false_or, Bool.or_false]
      try (first | rfl | omega | (simp; done) | (simp; omega))
    · have ha1 : (x == 30000) = false := beq_eq_false_iff_ne.2 ha
      have ha2 : (x != 30000) = true := by rw [bne, ha1]; rfl
      simp only [ha1, ha2, hb1, hb2, cond_true, cond_false, Bool.not_true, Bool.not_false, Bool.true_and, Bool.false_and, Bool.false_or, Bool.or_false]
      rw [Bool.or_eq_false_iff, decide_eq_false_iff_not, decide_eq_false_iff_not]
      split <;> omega
theorem sameC_symm {a b : Grid} (h : sameC a b = true) : sameC b a = true := by
  obtain ⟨h1, h2, h3, h4, h5⟩ := sameC_eq h
  unfold sameC
  simp [h1, h2, h3, h4, h5]
theorem withG_len {g : Grid} {f : Nat → Int} : (withG g f).levels.length = g.levels.length := by simp [withG]
attribute [local irreducible] errG few err2 in
theorem Merges (a b : Grid) (ha : a.ok) (hb : b.ok) : CallP Try.prog 9 [grid a, grid b] (vB true) := by
  refine callP_of_ex (rc := []) (N := 143) Try.func9 rfl rfl Try.call9 tab_ok mix rfl rfl (fun cx href => ?_)
  refine callN bawake ?_
  refine And.intro (fun h => by cases h) (fun _ => ?_)
  refine callN (Few a ha.levels) ?_
  repeat first | refine sk ?_ | refine st ?_ | refine sg ?_ | refine sh ?_ | refine su ?_ | refine sn1 ?_ | refine sn0 ?_
  refine callG (Few b hb.levels) ?_
  repeat first | refine sk ?_ | refine st ?_ | refine sg ?_ | refine sh ?_ | refine su ?_ | refine sn1 ?_ | refine sn0 ?_
  refine And.intro (fun _ => SubR.lit rfl) (fun h1 => ?_)
  have h1 : (!few a || !few b) = false := h1
  rw [Bool.or_eq_false_iff] at h1
  have hla := few_len (g := a) (by simpa using h1.1)
  have hlb := few_len (g := b) (by simpa using h1.2)
  refine callN (CopyGrid a (by omega)) ?_
  refine callN (CopyGrid b (by omega)) ?_
  refine callN (gLatest a b ha hb) ?_
  refine And.intro (by kernel_rfl) ?_
  refine callN (gShoalest a b ha hb) ?_
  refine callN (rBoth a b ha hb) ?_
  refine And.intro (fun h2 => ?_) (fun h2 => ?_)
  · have h2 : (err2 a b != 0) = true := h2
    have e1 : latestG a b = (zeroG, err2 a b) := by unfold latestG; rw [h2]; rfl
    have e2 : shoalG a b = (zeroG, err2 a b) := by unfold shoalG; rw [h2]; rfl
    rw [e1, e2]
    repeat first | refine sk ?_ | refine st ?_ | refine sg ?_ | refine sh ?_ | refine su ?_ | refine sn1 ?_ | refine sn0 ?_
    refine callG bzero ?_
    repeat first | refine sk ?_ | refine st ?_ | refine sg ?_ | refine sh ?_ | refine su ?_ | refine sn1 ?_ | refine sn0 ?_
    refine callG bzero ?_
    repeat first | refine sk ?_ | refine st ?_ | refine sg ?_ | refine sh ?_ | refine su ?_ | refine sn1 ?_ | refine sn0 ?_
    refine SubR.of_eq ?_
    show vB ((((err2 a b == err2 a b) && (err2 a b == err2 a b)) && true) && true) = vB true
    simp
  have h2 : (err2 a b != 0) = false := h2
  have h0 : err2 a b = 0 := by simpa using h2
  obtain ⟨q1, q2, q3⟩ := err2_zero h0
  have ga := GVal.of q1
  have gb := GVal.of q2
  have hl := sameC_len ga gb q3
  have hna := ga.n
  have e1 : latestG a b = (withG a (latP a b), 0) := by unfold latestG; rw [h2]; rfl
  have e2 : shoalG a b = (withG a (shoP a b), 0) := by unfold shoalG; rw [h2]; rfl
  have h0' : err2 b a = 0 := by
    unfold err2
    rw [q1, q2, sameC_symm q3]; rfl
  have e3 : shoalG b a = (withG a (shoP a b), 0) := by
    unfold shoalG
    rw [h0']
    show (withG b (shoP b a), (0 : Int)) = _
    rw [withG_eq (sameC_symm q3) hl.symm (fun i _ => (sho_comm (a := b) (b := a) i))]
  have e4 : withG b (laQ a b) = withG a (latP a b) := (withG_eq q3 hl (fun i _ => lat_eq i)).symm
  have e5 : withG b (shQ a b) = withG a (shoP a b) := (withG_eq q3 hl (fun i _ => sho_eq i)).symm
  rw [e1, e2]
  refine callN (gShoalest b a hb ha) ?_
  rw [e3]
  generalize hL : withG a (latP a b) = L at e4 ⊢
  have hLl : L.levels.length ≤ 1000000 := by rw [← hL, withG_len]; omega
  generalize hS : withG a (shoP a b) = S at e5 ⊢
  have hSl : S.levels.length = a.levels.length := by rw [← hS, withG_len]
  repeat first | refine sk ?_ | refine st ?_ | refine sg ?_ | refine sh ?_ | refine su ?_ | refine sn1 ?_ | refine sn0 ?_
  refine callG (rLatest a b hl.symm (by omega)) ?_
  rw [e4]
  repeat first | refine sk ?_ | refine st ?_ | refine sg ?_ | refine sh ?_ | refine su ?_ | refine sn1 ?_ | refine sn0 ?_
  refine callG (rSame L hLl) ?_
  repeat first | refine sk ?_ | refine st ?_ | refine sg ?_ | refine sh ?_ | refine su ?_ | refine sn1 ?_ | refine sn0 ?_
  refine callG (rShoalest a b hl.symm (by omega)) ?_
  rw [e5]
  repeat first | refine sk ?_ | refine st ?_ | refine sg ?_ | refine sh ?_ | refine su ?_ | refine sn1 ?_ | refine sn0 ?_
  refine callG (rSame S (by omega)) ?_
  repeat first | refine sk ?_ | refine st ?_ | refine sg ?_ | refine sh ?_ | refine su ?_ | refine sn1 ?_ | refine sn0 ?_
  refine callG (rSame S (by omega)) ?_
  repeat first | refine sk ?_ | refine st ?_ | refine sg ?_ | refine sh ?_ | refine su ?_ | refine sn1 ?_ | refine sn0 ?_
  refine And.intro (by kernel_rfl) ?_
  refine And.intro (fun h => by cases h) (fun _ => ?_)
  refine AW.loopI (fun i : Nat => ⟨[(2, .s (.ptr 2 0)), (3, .s (.ptr 3 0)), (7, .s (.ptr 7 0)), (12, vI i)], [(2, some (gridB a)), (3, some (gridB b)), (7, some (gridB S))]⟩)
    (fun i => i ≤ S.levels.length) (fun i => S.levels.length - i) 0 (Nat.zero_le _) ?_ ?_
  · exact SubI.of0 href [] rfl ⟨⟨rfl, LeBx.rfl⟩, ⟨rfl, LeBx.rfl⟩, ⟨rfl, LeBx.rfl⟩, trivial⟩ ⟨⟨rfl, LeQ.rfl⟩, ⟨rfl, LeQ.rfl⟩, ⟨rfl, LeQ.rfl⟩, ⟨rfl, LeQ.rfl⟩, trivial⟩
  · intro i hi
    refine ex.sound (rc := []) tab_ok mix href _ ?_
    refine And.intro (fun h => ?_) (fun h => SubR.lit rfl)
    have h : (i : Int) < S.levels.length := decT h
    have hSi : S.levels.getD i 0 = shoP a b i := by
      rw [← hS]
      have : i < a.levels.length := by omega
      simp [withG, this]
    have hge := sho_ge (a := a) (b := b) i
    rw [← hSi] at hge
    refine oi ⟨by omega, by omega⟩ ?_
    repeat first | refine sk ?_ | refine st ?_ | refine sg ?_ | refine sh ?_ | refine su ?_ | refine sn1 ?_ | refine sn0 ?_
    refine og (fun _ => ⟨by omega, by omega⟩) ?_
    repeat first | refine sk ?_ | refine st ?_ | refine sg ?_ | refine sh ?_ | refine su ?_ | refine sn1 ?_ | refine sn0 ?_
    refine og (fun _ => ⟨by omega, by omega⟩) ?_
    repeat first | refine sk ?_ | refine st ?_ | refine sg ?_ | refine sh ?_ | refine su ?_ | refine sn1 ?_ | refine sn0 ?_
    refine og (fun _ => ⟨by omega, by omega⟩) ?_
    repeat first | refine sk ?_ | refine st ?_ | refine sg ?_ | refine sh ?_ | refine su ?_ | refine sn1 ?_ | refine sn0 ?_
    refine og (fun _ => ⟨by omega, by omega⟩) ?_
    repeat first | refine sk ?_ | refine st ?_ | refine sg ?_ | refine sh ?_ | refine su ?_ | refine sn1 ?_ | refine sn0 ?_
    refine og (fun _ => ⟨by omega, by omega⟩) ?_
    repeat first | refine sk ?_ | refine st ?_ | refine sg ?_ | refine sh ?_ | refine su ?_ | refine sn1 ?_ | refine sn0 ?_
    refine And.intro (by kernel_rfl) ?_
    refine And.intro (fun h3 => ?_) (fun _ => ?_)
    · exfalso
      have h3 : ((a.levels.getD i 0 != 30000 && decide (S.levels.getD i 0 < a.levels.getD i 0)) || (b.levels.getD i 0 != 30000 && decide (S.levels.getD i 0 < b.levels.getD i 0))) = true := h3
      rw [hge] at h3; cases h3
    · refine ⟨i + 1, by omega, by omega, ?_⟩
      exact SubI.of0 href [] rfl ⟨⟨rfl, LeBx.rfl⟩, ⟨rfl, LeBx.rfl⟩, ⟨rfl, LeBx.rfl⟩, trivial⟩ ⟨⟨rfl, LeQ.rfl⟩, ⟨rfl, LeQ.rfl⟩, ⟨rfl, LeQ.rfl⟩, ⟨rfl, LeQ.int (w64_of (by omega) (by omega))⟩, trivial⟩
end Go.Ch
