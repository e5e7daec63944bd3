/- Part Ch25: lemmas that the proofs of this seat share; by itself it claims nothing. -/
import Derived.Test.YtfdgbddmggoilaaCh24
namespace Go.Ch
open Go Go.Ax Go.Proofs Go.Proofs.Try
set_option maxRecDepth 100000
set_option pp.maxSteps 400
set_option maxHeartbeats 1000000

theorem w64_in (n : Int) : -9223372036854775808 ≤ w64 n ∧ w64 n ≤ 9223372036854775807 := by
  show -9223372036854775808 ≤ IntKind.i64.wrap n ∧ IntKind.i64.wrap n ≤ 9223372036854775807
  rw [IntKind.wrap_i64]
  omega
instance : Inhabited Chg := ⟨⟨0, 0, 0⟩⟩
def Chg.inR (s : Chg) : Prop := w64 s.cut = s.cut ∧ w64 s.fill = s.fill ∧ w64 s.unk = s.unk
def plusC (s t : Chg) : Chg := ⟨w64 (s.cut + t.cut), w64 (s.fill + t.fill), w64 (s.unk + t.unk)⟩
def oneC (a b : Grid) (lo hi : Int) (i : Nat) : Chg :=
  bif (a.levels.getD i 0 == 30000) || (b.levels.getD i 0 == 30000) then ⟨0, 0, 1⟩
  else ⟨w64 (w64 (a.side * a.side) * partV lo hi (b.levels.getD i 0) (a.levels.getD i 0)), w64 (w64 (a.side * a.side) * partV lo hi (a.levels.getD i 0) (b.levels.getD i 0)), 0⟩
/-- The change of the cells that count. -/
def chK (a b : Grid) (lo hi : Int) (cnt : Nat → Bool) : Nat → Chg
  | 0 => ⟨0, 0, 0⟩
  | i + 1 => bif cnt i then chS a b lo hi (chK a b lo hi cnt i) i else chK a b lo hi cnt i
theorem chS_plus {a b : Grid} {lo hi : Int} {s : Chg} (h : s.inR) (i : Nat) : chS a b lo hi s i = plusC s (oneC a b lo hi i) := by
  obtain ⟨h1, h2, h3⟩ := h
  have hb : (!(a.levels.getD i 0 != 30000) || !(b.levels.getD i 0 != 30000)) = ((a.levels.getD i 0 == 30000) || (b.levels.getD i 0 == 30000)) := by
    simp only [bne, Bool.not_not]
  unfold chS plusC oneC
  rw [hb]
  cases (a.levels.getD i 0 == 30000) || (b.levels.getD i 0 == 30000) with
  | true => simp only [cond_true, Int.add_zero, h1, h2]
  | false => simp only [cond_false, Int.add_zero, h3]
theorem w64_w64 (n : Int) : w64 (w64 n) = w64 n := w64_of (w64_in n).1 (w64_in n).2
theorem plusC_in (s t : Chg) : (plusC s t).inR := ⟨w64_w64 _, w64_w64 _, w64_w64 _⟩
theorem zero_in : (⟨0, 0, 0⟩ : Chg).inR := ⟨w64_of (by decide) (by decide), w64_of (by decide) (by decide), w64_of (by decide) (by decide)⟩
theorem chK_in (a b : Grid) (lo hi : Int) (cnt : Nat → Bool) : ∀ i, (chK a b lo hi cnt i).inR
  | 0 => zero_in
  | i + 1 => by
    rw [chK]
    cases cnt i with
    | true => rw [cond_true, chS_plus (chK_in a b lo hi cnt i)]; exact plusC_in _ _
    | false => exact chK_in a b lo hi cnt i
theorem chK_plus (a b : Grid) (lo hi : Int) (cnt : Nat → Bool) (i : Nat) : chK a b lo hi cnt (i + 1) = bif cnt i then plusC (chK a b lo hi cnt i) (oneC a b lo hi i) else chK a b lo hi cnt i := by
  rw [chK, chS_plus (chK_in a b lo hi cnt i)]
theorem chF_K (a b : Grid) (lo hi : Int) : ∀ i, chF a b lo hi i = chK a b lo hi (fun _ => true) i
  | 0 => rfl
  | i + 1 => by rw [chF, chK, chF_K a b lo hi i]; rfl
theorem chK_congr {a b : Grid} {lo hi : Int} {c c' : Nat → Bool} : ∀ {n : Nat}, (∀ i, i < n → c i = c' i) → chK a b lo hi c n = chK a b lo hi c' n
  | 0, _ => rfl
  | n + 1, h => by rw [chK, chK, h n (by omega), chK_congr (fun i hi => h i (by omega))]

theorem bchangeK (a b : Grid) (lo hi : Int) (f k : Nat) (c : Nat → DV) (cnt : Nat → Bool) (ha : a.levels.length ≤ 1000000) (hb : b.levels.length = a.levels.length) (hp : ∀ i, i < a.levels.length → CallP Try.prog f (vI i :: capD c k 0) (vB (cnt i))) :
    CallP Try.prog 89 [grid a, grid b, .g [.d (dI lo), .d (dI hi)], .s (.d (.clo f k c))] (chg (chK a b lo hi cnt a.levels.length)) := by
  refine callP_of_ex (rc := []) (N := 77) Try.func89 rfl rfl Try.call89 tab_ok mix rfl rfl (fun cx href => ?_)
  refine AW.loopI (fun i : Nat => ⟨[(3, .s (.d (.clo f k c))), (4, .s (.ptr 4 0)), (5, .s (.ptr 5 0)), (6, .s (.ptr 6 0)), (8, .s (.ptr 8 0)), (9, .s (.ptr 9 0)), (10, vI (w64 (a.side * a.side))), (21, vI a.levels.length), (22, vI i)],
      [(4, some (gridB a)), (5, some (gridB b)), (6, some (.cells [.d (dI lo), .d (dI hi)])), (8, some (chgB ⟨0, 0, 0⟩)), (9, some (chgB (chK a b lo hi cnt i)))]⟩)
    (fun i => i ≤ a.levels.length) (fun i => a.levels.length - i) 0 (Nat.zero_le _) ?_ ?_
  · exact SubI.of0 href [] rfl ⟨⟨rfl, LeBx.rfl⟩, ⟨rfl, LeBx.rfl⟩, ⟨rfl, LeBx.rfl⟩, ⟨rfl, LeBx.rfl⟩, ⟨rfl, LeBx.rfl⟩, trivial⟩ ⟨⟨rfl, LeQ.rfl⟩, ⟨rfl, LeQ.rfl⟩, ⟨rfl, LeQ.rfl⟩, ⟨rfl, LeQ.rfl⟩, ⟨rfl, LeQ.rfl⟩, ⟨rfl, LeQ.rfl⟩, ⟨rfl, LeQ.rfl⟩, ⟨rfl, LeQ.rfl⟩, ⟨rfl, LeQ.rfl⟩, trivial⟩
  · intro i hi'
    refine ex.sound (rc := []) tab_ok mix href _ ?_
    refine And.intro (fun h => ?_) (fun h => ?_)
    · have h : (i : Int) < a.levels.length := decT h
      refine oi ⟨by omega, by omega⟩ ?_
      refine oi ⟨by omega, by omega⟩ ?_
      refine And.intro (by kernel_rfl) ?_
      refine callN ((hp i (by omega)).conv (args' := _) ⟨LeD.refl _, LeAs.capD⟩) ?_
      refine And.intro (fun h2 => ?_) (fun h2 => ?_)
      · have h2 : (!cnt i) = true := h2
        have hc : cnt i = false := by simpa using h2
        have e : chK a b lo hi cnt (i + 1) = chK a b lo hi cnt i := by rw [chK, hc]; rfl
        refine ⟨i + 1, by omega, by omega, ?_⟩
        exact SubI.of0 href [] rfl ⟨⟨rfl, LeBx.rfl⟩, ⟨rfl, LeBx.rfl⟩, ⟨rfl, LeBx.rfl⟩, ⟨rfl, LeBx.rfl⟩, ⟨rfl, LeBx.of_eq (by rw [e]; rfl)⟩, trivial⟩ ⟨⟨rfl, LeQ.rfl⟩, ⟨rfl, LeQ.rfl⟩, ⟨rfl, LeQ.rfl⟩, ⟨rfl, LeQ.rfl⟩, ⟨rfl, LeQ.rfl⟩, ⟨rfl, LeQ.rfl⟩, ⟨rfl, LeQ.rfl⟩, ⟨rfl, LeQ.rfl⟩, ⟨rfl, LeQ.int (w64_of (by omega) (by omega))⟩, trivial⟩
      have h2 : (!cnt i) = false := h2
      have hc : cnt i = true := by simpa using h2
      refine callN (bknown a i (by omega) ha) ?_
      repeat first | refine sk ?_ | refine st ?_ | refine sg ?_ | refine sh ?_ | refine su ?_ | refine sn1 ?_ | refine sn0 ?_
      refine callG (bknown b i (by omega) (by omega)) ?_
      repeat first | refine sk ?_ | refine st ?_ | refine sg ?_ | refine sh ?_ | refine su ?_ | refine sn1 ?_ | refine sn0 ?_
      refine And.intro (fun h2 => ?_) (fun h2 => ?_)
      · have h2 : (!(a.levels.getD i 0 != 30000) || !(b.levels.getD i 0 != 30000)) = true := h2
        have e : chK a b lo hi cnt (i + 1) = ⟨(chK a b lo hi cnt i).cut, (chK a b lo hi cnt i).fill, w64 ((chK a b lo hi cnt i).unk + 1)⟩ := by rw [chK, hc, chS, h2]; rfl
        refine ⟨i + 1, by omega, by omega, ?_⟩
        exact SubI.of0 href [] rfl ⟨⟨rfl, LeBx.rfl⟩, ⟨rfl, LeBx.rfl⟩, ⟨rfl, LeBx.rfl⟩, ⟨rfl, LeBx.rfl⟩, ⟨rfl, LeBx.of_eq (by rw [e]; rfl)⟩, trivial⟩ ⟨⟨rfl, LeQ.rfl⟩, ⟨rfl, LeQ.rfl⟩, ⟨rfl, LeQ.rfl⟩, ⟨rfl, LeQ.rfl⟩, ⟨rfl, LeQ.rfl⟩, ⟨rfl, LeQ.rfl⟩, ⟨rfl, LeQ.rfl⟩, ⟨rfl, LeQ.rfl⟩, ⟨rfl, LeQ.int (w64_of (by omega) (by omega))⟩, trivial⟩
      · have h2 : (!(a.levels.getD i 0 != 30000) || !(b.levels.getD i 0 != 30000)) = false := h2
        have e : chK a b lo hi cnt (i + 1) = ⟨w64 ((chK a b lo hi cnt i).cut + w64 (w64 (a.side * a.side) * partV lo hi (b.levels.getD i 0) (a.levels.getD i 0))), w64 ((chK a b lo hi cnt i).fill + w64 (w64 (a.side * a.side) * partV lo hi (a.levels.getD i 0) (b.levels.getD i 0))), (chK a b lo hi cnt i).unk⟩ := by rw [chK, hc, chS, h2]; rfl
        refine callN (bpart lo hi _ _) ?_
        refine And.intro (by kernel_rfl) ?_
        refine callN (bpart lo hi _ _) ?_
        refine And.intro (by kernel_rfl) ?_
        refine ⟨i + 1, by omega, by omega, ?_⟩
        exact SubI.of0 href [] rfl ⟨⟨rfl, LeBx.rfl⟩, ⟨rfl, LeBx.rfl⟩, ⟨rfl, LeBx.rfl⟩, ⟨rfl, LeBx.rfl⟩, ⟨rfl, LeBx.of_eq (by rw [e]; rfl)⟩, trivial⟩ ⟨⟨rfl, LeQ.rfl⟩, ⟨rfl, LeQ.rfl⟩, ⟨rfl, LeQ.rfl⟩, ⟨rfl, LeQ.rfl⟩, ⟨rfl, LeQ.rfl⟩, ⟨rfl, LeQ.rfl⟩, ⟨rfl, LeQ.rfl⟩, ⟨rfl, LeQ.rfl⟩, ⟨rfl, LeQ.int (w64_of (by omega) (by omega))⟩, trivial⟩
    · have h : ¬ (i : Int) < a.levels.length := decF h
      obtain rfl : i = a.levels.length := by omega
      exact SubR.refl _

/-! Lists of changes. -/
def chgD (s : Chg) : Nat → DV
  | 0 => dI s.cut
  | 1 => dI s.fill
  | 2 => dI s.unk
  | _ => .junk
def chgEl (l : List Chg) : Nat → Nat → DV := fun i => chgD (l.getD i default)
def dChgs (l : List Chg) : DV := .slc l.length 3 (chgEl l)
abbrev vChgs (l : List Chg) : AV := .s (.d (dChgs l))
def stripC (a b : Grid) (c : Nat) : Chg := chK a b (-20000) 20000 (fun i => (i : Int).tmod a.cols == (c : Int)) a.levels.length
def stripsL (a b : Grid) (m : Nat) : List Chg := (List.range m).map (stripC a b)
theorem stripsL_succ (a b : Grid) (m : Nat) : stripsL a b (m + 1) = stripsL a b m ++ [stripC a b m] := by
  unfold stripsL; rw [List.range_succ, List.map_append]; rfl
theorem stripsL_len {a b : Grid} {m : Nat} : (stripsL a b m).length = m := by simp [stripsL]
theorem strip1 (a : Grid) (c : Int) (i : Nat) (hc : a.cols ≠ 0) (f h : Nat → DV) (hf : f 3 = dI a.cols) (hh : h 0 = dI c) : CallP Try.prog 92 [vI i, .s (.d (.rp 6 f)), .s (.d (.rp 1 h))] (vB ((i : Int).tmod a.cols == c)) := by
  have h1 : LeAs [vI i, .s (.d (.rp 6 f)), .s (.d (.rp 1 h))] [vI i, .s (.d (.rp 6 fun j => if j = 3 then dI a.cols else .junk)), .s (.d (.rp 1 fun _ => dI c))] :=
    ⟨LeD.refl _, LeD.rp fun j hj => ?_, LeD.rp fun j hj => LeD.of_eq (by rw [show j = 0 by omega]; exact hh), trivial⟩
  · refine CallP.conv ?_ h1
    refine callP_of_ex (rc := []) (N := 11) Try.func92 rfl rfl Try.call92 tab_ok mix rfl rfl (fun cx _ => ?_)
    refine oi hc ?_
    refine And.intro (by kernel_rfl) ?_
    exact SubR.refl _
  · by_cases e : j = 3
    · rw [if_pos e, e]; exact LeD.of_eq hf
    · rw [if_neg e]; exact fun _ _ _ => trivial
def stripsE (a b : Grid) : List Chg × Int := bif err2 a b != 0 then ([], err2 a b) else (stripsL a b a.cols.toNat, 0)
abbrev chgR (l : List Chg) : Box := .mrow 49 l.length 3 (chgEl l)
theorem chgRow {l : List Chg} : RowIs 3 (bif l.isEmpty then 0 else l.length) (chgEl l) chgD l := ⟨bif_len l, fun _ _ _ _ => rfl⟩
theorem gStrips (a b : Grid) (ha : a.ok) (hb : b.ok) : CallP Try.prog 35 [grid a, grid b] (.t [.s (.d (dChgs (stripsE a b).1)), .s (.d (dI (stripsE a b).2))]) := by
  refine callP_of_ex (rc := []) (N := 30) Try.func35 rfl rfl Try.call35 tab_ok mix rfl rfl (fun cx href => ?_)
  refine callN (bboth a b ha hb) ?_
  unfold stripsE
  refine And.intro (fun h => ?_) (fun h => ?_)
  · have h : (err2 a b != 0) = true := h
    rw [h, cond_true]
    exact SubR.t ⟨LeD.nil, LeD.refl _, trivial⟩
  have h : (err2 a b != 0) = false := h
  rw [h, cond_false]
  obtain ⟨e1, e2, e3⟩ := err2_zero (a := a) (b := b) (by simpa using h)
  have ga := GVal.of e1
  have gb := GVal.of e2
  have hl := sameC_len ga gb e3
  have hna := ga.n
  have hc := ga.cols
  refine AW.loopI (fun c : Nat => ⟨[(2, .s (.ptr 2 0)), (3, .s (.ptr 3 0)), (7, .s (.mo (stripsL a b c).isEmpty 100)), (16, vI a.cols), (17, vI c)], [(2, some (gridB a)), (3, some (gridB b)), (100, some (chgR (stripsL a b c)))]⟩)
    (fun c => c ≤ a.cols.toNat) (fun c => a.cols.toNat - c) 0 (Nat.zero_le _) ?_ ?_
  · exact SubI.of0 href [(100, 1000)] rfl ⟨⟨rfl, LeBx.rfl⟩, ⟨rfl, LeBx.rfl⟩, ⟨rfl, rfl⟩, trivial⟩ ⟨⟨rfl, LeQ.rfl⟩, ⟨rfl, LeQ.rfl⟩, ⟨rfl, LeQ.nil rfl⟩, ⟨rfl, LeQ.rfl⟩, ⟨rfl, LeQ.rfl⟩, trivial⟩
  · intro c hcc
    have hs := stripsL_succ a b c
    have hlen := stripsL_len (a := a) (b := b) (m := c)
    refine ex.sound (rc := []) tab_ok mix href _ ?_
    refine And.intro (fun h => ?_) (fun h => ?_)
    · have h : (c : Int) < a.cols := decT h
      refine callN ball ?_
      refine callN (bchangeK a b (-20000) 20000 92 2 _ (fun i => (i : Int).tmod a.cols == (c : Int)) (by omega) hl (fun i hi => strip1 a c i (by omega) _ _ rfl rfl)) ?_
      refine ob (by decide) ?_
      refine ob (by rw [bif_len]; show _ * 24 ≤ _; omega) ?_
      refine ob (fit1 (lt3 rfl rfl rfl)) ?_
      refine And.intro (by kernel_rfl) ?_
      refine ⟨c + 1, by omega, by omega, ?_⟩
      rw [hs]
      refine SubI.of0 href [(100, 27)] rfl ⟨⟨rfl, LeBx.rfl⟩, ⟨rfl, LeBx.rfl⟩, ⟨rfl, ?_⟩, trivial⟩ ⟨⟨rfl, LeQ.rfl⟩, ⟨rfl, LeQ.rfl⟩, ⟨rfl, LeQ.mo (isEmpty_snoc _ _)⟩, ⟨rfl, LeQ.rfl⟩, ⟨rfl, LeQ.int (w64_of (by omega) (by omega))⟩, trivial⟩
      exact RowIs.mrow (el := chgD) (RowIs.snoc chgRow (lt3 rfl rfl rfl))
    · have h : ¬ (c : Int) < a.cols := decF h
      obtain rfl : c = a.cols.toNat := by omega
      exact SubR.t ⟨LeD.slc' (bif_len _) fun _ _ _ _ => LeD.refl _, LeD.refl _, trivial⟩
end Go.Ch

namespace Go.Ch
open Go Go.Ax Go.Proofs Go.Proofs.Try
set_option maxRecDepth 100000
set_option pp.maxSteps 400
set_option maxHeartbeats 1000000

theorem rPart (a b lo hi : Int) : CallP Try.prog 138 [vI a, vI b, vI lo, vI hi] (vI (partV lo hi a b)) := by
  refine callP_of_ex (rc := []) (N := 17) Try.func138 rfl rfl Try.call138 tab_ok mix rfl rfl (fun cx _ => ?_)
  exact SubR.refl _
theorem rPlus (s t : Chg) : CallP Try.prog 43 [chg s, chg t] (chg (plusC s t)) := by
  refine callP_of_ex (rc := []) (N := 21) Try.func43 rfl rfl Try.call43 tab_ok mix rfl rfl (fun cx _ => ?_)
  exact SubR.refl _
theorem rChange (a b : Grid) (i : Nat) (lo hi : Int) (hi' : i < a.levels.length) (hb : b.levels.length = a.levels.length) :
    CallP Try.prog 93 [grid a, grid b, vI i, vI lo, vI hi] (chg (oneC a b lo hi i)) := by
  refine callP_of_ex (rc := []) (N := 51) Try.func93 rfl rfl Try.call93 tab_ok mix rfl rfl (fun cx href => ?_)
  refine oi ⟨by omega, by omega⟩ ?_
  refine oi ⟨by omega, by omega⟩ ?_
  refine And.intro (by kernel_rfl) ?_
  unfold oneC
  repeat first | refine sk ?_ | refine st ?_ | refine sg ?_ | refine sh ?_ | refine su ?_ | refine sn1 ?_ | refine sn0 ?_
  refine And.intro (fun h => ?_) (fun h => ?_)
  · have h : ((a.levels.getD i 0 == 30000) || (b.levels.getD i 0 == 30000)) = true := h
    rw [h]
    exact SubR.refl _
  · have h : ((a.levels.getD i 0 == 30000) || (b.levels.getD i 0 == 30000)) = false := h
    rw [h]
    refine callN (rPart _ _ lo hi) ?_
    refine callN (rPart _ _ lo hi) ?_
    exact SubR.refl _
def cntS (a : Grid) (c : Int) (i : Nat) : Bool := decide (c < 0) || ((i : Int).tmod a.cols == c)
theorem rStrip (a b : Grid) (c : Int) (ha : a.levels.length ≤ 1000000) (hc : a.cols ≠ 0) (hb : b.levels.length = a.levels.length) :
    CallP Try.prog 37 [grid a, grid b, vI c] (chg (chK a b (-20000) 20000 (cntS a c) a.levels.length)) := by
  refine callP_of_ex (rc := []) (N := 33) Try.func37 rfl rfl Try.call37 tab_ok mix rfl rfl (fun cx href => ?_)
  refine AW.loopI (fun i : Nat => ⟨[(2, vI c), (3, .s (.ptr 3 0)), (4, .s (.ptr 4 0)), (6, .s (.ptr 6 0)), (7, .s (.ptr 7 0)), (8, vI i)], [(3, some (gridB a)), (4, some (gridB b)), (6, some (chgB ⟨0, 0, 0⟩)), (7, some (chgB (chK a b (-20000) 20000 (cntS a c) i)))]⟩)
    (fun i => i ≤ a.levels.length) (fun i => a.levels.length - i) 0 (Nat.zero_le _) ?_ ?_
  · exact SubI.of0 href [] rfl ⟨⟨rfl, LeBx.rfl⟩, ⟨rfl, LeBx.rfl⟩, ⟨rfl, LeBx.rfl⟩, ⟨rfl, LeBx.rfl⟩, trivial⟩ ⟨⟨rfl, LeQ.rfl⟩, ⟨rfl, LeQ.rfl⟩, ⟨rfl, LeQ.rfl⟩, ⟨rfl, LeQ.rfl⟩, ⟨rfl, LeQ.rfl⟩, ⟨rfl, LeQ.rfl⟩, trivial⟩
  · intro i hi'
    have ep := chK_plus a b (-20000) 20000 (cntS a c) i
    refine ex.sound (rc := []) tab_ok mix href _ ?_
    refine And.intro (fun h => ?_) (fun h => ?_)
    · have h : (i : Int) < a.levels.length := decT h
      repeat first | refine sk ?_ | refine st ?_ | refine sg ?_ | refine sh ?_ | refine su ?_ | refine sn1 ?_ | refine sn0 ?_
      refine og (fun _ => hc) ?_
      repeat first | refine sk ?_ | refine st ?_ | refine sg ?_ | refine sh ?_ | refine su ?_ | refine sn1 ?_ | refine sn0 ?_
      refine And.intro (fun h2 => ?_) (fun h2 => ?_)
      · have h2 : cntS a c i = true := h2
        rw [h2, cond_true] at ep
        refine callN (rChange a b i (-20000) 20000 (by omega) hb) ?_
        refine callN (rPlus _ _) ?_
        refine And.intro (by kernel_rfl) ?_
        refine ⟨i + 1, by omega, by omega, ?_⟩
        exact SubI.of0 href [] rfl ⟨⟨rfl, LeBx.rfl⟩, ⟨rfl, LeBx.rfl⟩, ⟨rfl, LeBx.rfl⟩, ⟨rfl, LeBx.of_eq (by rw [ep]; rfl)⟩, trivial⟩ ⟨⟨rfl, LeQ.rfl⟩, ⟨rfl, LeQ.rfl⟩, ⟨rfl, LeQ.rfl⟩, ⟨rfl, LeQ.rfl⟩, ⟨rfl, LeQ.rfl⟩, ⟨rfl, LeQ.int (w64_of (by omega) (by omega))⟩, trivial⟩
      · have h2 : cntS a c i = false := h2
        rw [h2, cond_false] at ep
        refine ⟨i + 1, by omega, by omega, ?_⟩
        exact SubI.of0 href [] rfl ⟨⟨rfl, LeBx.rfl⟩, ⟨rfl, LeBx.rfl⟩, ⟨rfl, LeBx.rfl⟩, ⟨rfl, LeBx.of_eq (by rw [ep]; rfl)⟩, trivial⟩ ⟨⟨rfl, LeQ.rfl⟩, ⟨rfl, LeQ.rfl⟩, ⟨rfl, LeQ.rfl⟩, ⟨rfl, LeQ.rfl⟩, ⟨rfl, LeQ.rfl⟩, ⟨rfl, LeQ.int (w64_of (by omega) (by omega))⟩, trivial⟩
    · have h : ¬ (i : Int) < a.levels.length := decF h
      obtain rfl : i = a.levels.length := by omega
      exact SubR.refl _
/-- The two lists are alike. -/
theorem dChanges (l : List Chg) (hl : l.length ≤ 1000000) : CallP Try.prog 38 [vChgs l, vChgs l] (vB true) := by
  refine callP_of_ex (rc := []) (N := 26) Try.func38 rfl rfl Try.call38 tab_ok mix rfl rfl (fun cx href => ?_)
  refine And.intro (fun h => ?_) (fun _ => ?_)
  · have h : ((l.length : Int) != l.length) = true := h
    simp at h
  refine AW.loopI (fun i : Nat => ⟨[(0, vChgs l), (1, vChgs l), (5, vI i)], []⟩)
    (fun i => i ≤ l.length) (fun i => l.length - i) 0 (Nat.zero_le _) ?_ ?_
  · exact SubI.of0 href [] rfl trivial ⟨⟨rfl, LeQ.rfl⟩, ⟨rfl, LeQ.rfl⟩, ⟨rfl, LeQ.rfl⟩, trivial⟩
  · intro i hi'
    refine ex.sound (rc := []) tab_ok mix href _ ?_
    refine And.intro (fun h => ?_) (fun h => ?_)
    · have h : (i : Int) < l.length := decT h
      refine oi ⟨by omega, by omega⟩ ?_
      refine oi ⟨by omega, by omega⟩ ?_
      refine And.intro (by kernel_rfl) ?_
      refine And.intro (fun h2 => ?_) (fun _ => ?_)
      · have h2 : (!(((l.getD i default).cut == (l.getD i default).cut) && (((l.getD i default).fill == (l.getD i default).fill) && (((l.getD i default).unk == (l.getD i default).unk) && true)))) = true := h2
        simp at h2
      refine ⟨i + 1, by omega, by omega, ?_⟩
      exact SubI.of0 href [] rfl trivial ⟨⟨rfl, LeQ.rfl⟩, ⟨rfl, LeQ.rfl⟩, ⟨rfl, LeQ.int (w64_of (by omega) (by omega))⟩, trivial⟩
    · exact SubR.lit rfl
end Go.Ch

namespace Go.Ch
open Go Go.Ax Go.Proofs Go.Proofs.Try
set_option maxRecDepth 100000
set_option pp.maxSteps 400
set_option maxHeartbeats 1000000

theorem chk_len {a : Grid} {c : Nat} {i : Nat} : cntS a c i = ((i : Int).tmod a.cols == (c : Int)) := by
  unfold cntS
  rw [decide_eq_false (by omega)]
  rfl
theorem chk_all {a : Grid} {i : Nat} : cntS a (-1) i = true := rfl
theorem eqChg (s : Chg) : ((s.cut == s.cut) && ((s.fill == s.fill) && ((s.unk == s.unk) && true))) = true := by simp
attribute [local irreducible] err2 few in
theorem Compares (a b : Grid) (ha : a.ok) (hb : b.ok) : CallP Try.prog 5 [grid a, grid b] (vB true) := by
  refine callP_of_ex (rc := []) (N := 88) Try.func5 rfl rfl Try.call5 tab_ok mix rfl rfl (fun cx href => ?_)
  refine callN bawake ?_
  refine And.intro (fun h => by cases h) (fun _ => ?_)
  refine callN (Few a ha.levels) ?_
  repeat first | refine sk ?_ | refine st ?_ | refine sg ?_ | refine sh ?_ | refine su ?_ | refine sn1 ?_ | refine sn0 ?_
  refine callG (Few b hb.levels) ?_
  repeat first | refine sk ?_ | refine st ?_ | refine sg ?_ | refine sh ?_ | refine su ?_ | refine sn1 ?_ | refine sn0 ?_
  refine And.intro (fun _ => SubR.lit rfl) (fun h1 => ?_)
  refine callN (gCompare a b ha hb) ?_
  refine callN (gStrips a b ha hb) ?_
  refine callN (rBoth a b ha hb) ?_
  refine And.intro (fun h => ?_) (fun h => ?_)
  · have h : (err2 a b != 0) = true := h
    have e1 : cmpR a b = (⟨0, 0, 0⟩, err2 a b) := by unfold cmpR; rw [h]; rfl
    have e2 : stripsE a b = ([], err2 a b) := by unfold stripsE; rw [h]; rfl
    rw [e1, e2]
    repeat first | refine sk ?_ | refine st ?_ | refine sg ?_ | refine sh ?_ | refine su ?_ | refine sn1 ?_ | refine sn0 ?_
    refine SubR.of_eq ?_
    show vB ((((err2 a b == err2 a b) && (err2 a b == err2 a b)) && (((0 : Int) == 0) && (((0 : Int) == 0) && (((0 : Int) == 0) && true)))) && ((0 : Int) == 0)) = vB true
    simp
  have h : (err2 a b != 0) = false := h
  have e1 : cmpR a b = (chF a b (-20000) 20000 a.levels.length, 0) := by unfold cmpR; rw [h]; rfl
  have e2 : stripsE a b = (stripsL a b a.cols.toNat, 0) := by unfold stripsE; rw [h]; rfl
  rw [e1, e2]
  obtain ⟨z1, z2, z3⟩ := err2_zero (a := a) (b := b) (by simpa using h)
  have ga := GVal.of z1
  have gb := GVal.of z2
  have hl := sameC_len ga gb z3
  have hna := ga.n
  have hc := ga.cols
  refine AW.loopI (fun c : Nat => ⟨[(2, .s (.ptr 2 0)), (3, .s (.ptr 3 0)), (5, .s (.ptr 5 0)), (6, vI 0), (7, vChgs (stripsL a b a.cols.toNat)), (8, vI 0), (10, .s (.mo (stripsL a b c).isEmpty 100)), (11, vI c)], [(2, some (gridB a)), (3, some (gridB b)), (5, some (chgB (chF a b (-20000) 20000 a.levels.length))), (100, some (chgR (stripsL a b c)))]⟩)
    (fun c => c ≤ a.cols.toNat) (fun c => a.cols.toNat - c) 0 (Nat.zero_le _) ?_ ?_
  · exact SubI.of0 href [(100, 1000)] rfl ⟨⟨rfl, LeBx.rfl⟩, ⟨rfl, LeBx.rfl⟩, ⟨rfl, LeBx.rfl⟩, ⟨rfl, rfl⟩, trivial⟩ ⟨⟨rfl, LeQ.rfl⟩, ⟨rfl, LeQ.rfl⟩, ⟨rfl, LeQ.rfl⟩, ⟨rfl, LeQ.rfl⟩, ⟨rfl, LeQ.rfl⟩, ⟨rfl, LeQ.rfl⟩, ⟨rfl, LeQ.nil rfl⟩, ⟨rfl, LeQ.rfl⟩, trivial⟩
  · intro c hcc
    have hs := stripsL_succ a b c
    have hlen := stripsL_len (a := a) (b := b) (m := c)
    refine ex.sound (rc := []) tab_ok mix href _ ?_
    refine And.intro (fun h => ?_) (fun h => ?_)
    · have h : (c : Int) < a.cols := decT h
      refine callN (rStrip a b c (by omega) (by omega) hl) ?_
      rw [chK_congr (c' := fun i => (i : Int).tmod a.cols == (c : Int)) (fun i _ => chk_len)]
      refine ob (by decide) ?_
      refine ob (by rw [bif_len]; show _ * 24 ≤ _; omega) ?_
      refine ob (fit1 (lt3 rfl rfl rfl)) ?_
      refine ⟨c + 1, by omega, by omega, ?_⟩
      rw [hs]
      refine SubI.of0 href [(100, 69)] rfl ⟨⟨rfl, LeBx.rfl⟩, ⟨rfl, LeBx.rfl⟩, ⟨rfl, LeBx.rfl⟩, ⟨rfl, ?_⟩, trivial⟩ ⟨⟨rfl, LeQ.rfl⟩, ⟨rfl, LeQ.rfl⟩, ⟨rfl, LeQ.rfl⟩, ⟨rfl, LeQ.rfl⟩, ⟨rfl, LeQ.rfl⟩, ⟨rfl, LeQ.rfl⟩, ⟨rfl, LeQ.mo (isEmpty_snoc _ _)⟩, ⟨rfl, LeQ.int (w64_of (by omega) (by omega))⟩, trivial⟩
      exact RowIs.mrow (el := chgD) (RowIs.snoc chgRow (lt3 rfl rfl rfl))
    · have h : ¬ (c : Int) < a.cols := decF h
      obtain rfl : c = a.cols.toNat := by omega
      rw [chF_K]
      repeat first | refine sk ?_ | refine st ?_ | refine sg ?_ | refine sh ?_ | refine su ?_ | refine sn1 ?_ | refine sn0 ?_
      refine callG (rStrip a b (-1) (by omega) (by omega) hl) ?_
      rw [chK_congr (c' := fun _ => true) (fun i _ => chk_all)]
      repeat first | refine sk ?_ | refine st ?_ | refine sg ?_ | refine sh ?_ | refine su ?_ | refine sn1 ?_ | refine sn0 ?_
      refine callG (CallP.conv (args' := _) (dChanges (stripsL a b a.cols.toNat) (by rw [stripsL_len]; omega)) ⟨LeD.refl _, LeD.slc' (bif_len _) fun _ _ _ _ => LeD.refl _, trivial⟩) ?_
      repeat first | refine sk ?_ | refine st ?_ | refine sg ?_ | refine sh ?_ | refine su ?_ | refine sn1 ?_ | refine sn0 ?_
      refine And.intro (by kernel_rfl) ?_
      refine SubR.of_eq ?_
      show vB ((((0 : Int) == 0) && ((0 : Int) == 0)) && (((chK a b (-20000) 20000 (fun _ => true) a.levels.length).cut == (chK a b (-20000) 20000 (fun _ => true) a.levels.length).cut) && (((chK a b (-20000) 20000 (fun _ => true) a.levels.length).fill == (chK a b (-20000) 20000 (fun _ => true) a.levels.length).fill) && (((chK a b (-20000) 20000 (fun _ => true) a.levels.length).unk == (chK a b (-20000) 20000 (fun _ => true) a.levels.length).unk) && true))) && true) = vB true
      simp
end Go.Ch

namespace Go.Ch
open Go Go.Ax Go.Proofs Go.Proofs.Try
set_option maxRecDepth 100000
set_option pp.maxSteps 400
set_option maxHeartbeats 1000000

/-- What is wrong with levels that make layers. -/
def lvLow (l : List Int) (i : Nat) : Bool := decide ((i : Int) > 0) && decide (l.getD i 0 ≤ l.getD (w64 ((i : Int) - 1)).toNat 0)
def lvOne (l : List Int) (i : Nat) : Int := bif !within (l.getD i 0) (-20000) 20000 then 2 else bif lvLow l i then 9 else 0
def lvFrom (l : List Int) : Nat → Nat → Int
  | 0, _ => 0
  | n + 1, i => bif lvOne l i != 0 then lvOne l i else lvFrom l n (i + 1)
def lvErr (l : List Int) : Int := bif decide ((l.length : Int) > 20) then 8 else lvFrom l l.length 0
theorem lvFrom_at {l : List Int} {i : Nat} (h : i < l.length) : lvFrom l (l.length - i) i = bif lvOne l i != 0 then lvOne l i else lvFrom l (l.length - (i + 1)) (i + 1) := by
  rw [show l.length - i = (l.length - (i + 1)) + 1 by omega]
  rfl
theorem LevelsErr (l : List Int) (hl : l.length ≤ 1000000) : CallP Try.prog 41 [vInts l] (vI (lvErr l)) := by
  refine callP_of_ex (rc := []) (N := 33) Try.func41 rfl rfl Try.call41 tab_ok mix rfl rfl (fun cx href => ?_)
  unfold lvErr
  refine And.intro (fun h => ?_) (fun h => ?_)
  · have h : decide ((l.length : Int) > 20) = true := h
    rw [h]
    exact SubR.refl _
  have h : decide ((l.length : Int) > 20) = false := h
  rw [h, cond_false]
  refine AW.loopI (fun i : Nat => ⟨[(0, vInts l), (3, vI i)], []⟩)
    (fun i => i ≤ l.length ∧ lvFrom l l.length 0 = lvFrom l (l.length - i) i) (fun i => l.length - i) 0 ⟨Nat.zero_le _, rfl⟩ ?_ ?_
  · exact SubI.of0 href [] rfl trivial ⟨⟨rfl, LeQ.rfl⟩, ⟨rfl, LeQ.rfl⟩, trivial⟩
  · rintro i ⟨hi, hj⟩
    refine ex.sound (rc := []) tab_ok mix href _ ?_
    refine And.intro (fun h => ?_) (fun h => ?_)
    · have h : (i : Int) < l.length := decT h
      have hf := lvFrom_at (l := l) (i := i) (by omega)
      refine oi ⟨by omega, by omega⟩ ?_
      refine callN (Leveled _) ?_
      refine And.intro (fun h2 => ?_) (fun h2 => ?_)
      · have h2 : (!within (l.getD i 0) (-20000) 20000) = true := h2
        have e : lvOne l i = 2 := by unfold lvOne; rw [h2]; rfl
        rw [hj, hf, e]
        exact SubR.refl _
      have h2 : (!within (l.getD i 0) (-20000) 20000) = false := h2
      repeat first | refine sk ?_ | refine st ?_ | refine sg ?_ | refine sh ?_ | refine su ?_ | refine sn1 ?_ | refine sn0 ?_
      refine og (fun _ => ⟨by omega, by omega⟩) ?_
      repeat first | refine sk ?_ | refine st ?_ | refine sg ?_ | refine sh ?_ | refine su ?_ | refine sn1 ?_ | refine sn0 ?_
      refine og (fun hc => ?_) ?_
      · have hc : decide ((i : Int) > 0) = true := hc
        have hc : (i : Int) > 0 := decT hc
        have e : w64 ((i : Int) - 1) = i - 1 := w64_of (by omega) (by omega)
        show 0 ≤ w64 ((i : Int) - 1) ∧ w64 ((i : Int) - 1) < _
        rw [e]
        exact ⟨by omega, by omega⟩
      repeat first | refine sk ?_ | refine st ?_ | refine sg ?_ | refine sh ?_ | refine su ?_ | refine sn1 ?_ | refine sn0 ?_
      refine And.intro (by kernel_rfl) ?_
      refine And.intro (fun h3 => ?_) (fun h3 => ?_)
      · have h3 : lvLow l i = true := h3
        have e : lvOne l i = 9 := by unfold lvOne; rw [h2, h3]; rfl
        rw [hj, hf, e]
        exact SubR.refl _
      · have h3 : lvLow l i = false := h3
        have e : lvOne l i = 0 := by unfold lvOne; rw [h2, h3]; rfl
        rw [e] at hf
        refine ⟨i + 1, ⟨by omega, by rw [hj, hf]; rfl⟩, by omega, ?_⟩
        exact SubI.of0 href [] rfl trivial ⟨⟨rfl, LeQ.rfl⟩, ⟨rfl, LeQ.int (w64_of (by omega) (by omega))⟩, trivial⟩
    · have h : ¬ (i : Int) < l.length := decF h
      obtain rfl : i = l.length := by omega
      rw [hj, Nat.sub_self]
      exact SubR.refl _

/-! The layers. -/
def svF (l : List Int) : List Int := [[-20000], l, [20000]].flatten
def sv (l : List Int) (k : Nat) : Int := (svF l).getD k 0
theorem svF_eq (l : List Int) : svF l = -20000 :: (l ++ [20000]) := by simp [svF]
theorem svF_len (l : List Int) : (svF l).length = l.length + 2 := by rw [svF_eq]; simp
theorem sv_zero (l : List Int) : sv l 0 = -20000 := by unfold sv; rw [svF_eq]; rfl
theorem sv_succ {l : List Int} {k : Nat} (h : k < l.length) : sv l (k + 1) = l.getD k 0 := by
  unfold sv; rw [svF_eq, List.getD_cons_succ, List.getD_eq_getElem?_getD, List.getD_eq_getElem?_getD, List.getElem?_append_left h]
theorem sv_last (l : List Int) : sv l (l.length + 1) = 20000 := by
  unfold sv; rw [svF_eq, List.getD_cons_succ, List.getD_eq_getElem?_getD, List.getElem?_append_right (Nat.le_refl _), Nat.sub_self]; rfl
def noUnk (s : Chg) : Chg := ⟨s.cut, s.fill, 0⟩
def sliceC (a b : Grid) (lo hi : Int) : Chg := noUnk (chK a b lo hi (fun _ => true) a.levels.length)
def layersL (a b : Grid) (l : List Int) (m : Nat) : List Chg := (List.range m).map fun k => sliceC a b (sv l k) (sv l (k + 1))
theorem layersL_succ (a b : Grid) (l : List Int) (m : Nat) : layersL a b l (m + 1) = layersL a b l m ++ [sliceC a b (sv l m) (sv l (m + 1))] := by
  unfold layersL; rw [List.range_succ, List.map_append]; rfl
theorem layersL_len {a b : Grid} {l : List Int} {m : Nat} : (layersL a b l m).length = m := by simp [layersL]

theorem rSlice (a b : Grid) (lo hi : Int) (ha : a.levels.length ≤ 1000000) (hb : b.levels.length = a.levels.length) :
    CallP Try.prog 96 [grid a, grid b, vI lo, vI hi] (chg (sliceC a b lo hi)) := by
  refine callP_of_ex (rc := []) (N := 28) Try.func96 rfl rfl Try.call96 tab_ok mix rfl rfl (fun cx href => ?_)
  refine AW.loopI (fun i : Nat => ⟨[(2, vI lo), (3, vI hi), (4, .s (.ptr 4 0)), (5, .s (.ptr 5 0)), (8, .s (.ptr 8 0)), (9, .s (.ptr 9 0)), (10, vI i)], [(4, some (gridB a)), (5, some (gridB b)), (8, some (chgB ⟨0, 0, 0⟩)), (9, some (chgB (chK a b lo hi (fun _ => true) i)))]⟩)
    (fun i => i ≤ a.levels.length) (fun i => a.levels.length - i) 0 (Nat.zero_le _) ?_ ?_
  · exact SubI.of0 href [] rfl ⟨⟨rfl, LeBx.rfl⟩, ⟨rfl, LeBx.rfl⟩, ⟨rfl, LeBx.rfl⟩, ⟨rfl, LeBx.rfl⟩, trivial⟩ ⟨⟨rfl, LeQ.rfl⟩, ⟨rfl, LeQ.rfl⟩, ⟨rfl, LeQ.rfl⟩, ⟨rfl, LeQ.rfl⟩, ⟨rfl, LeQ.rfl⟩, ⟨rfl, LeQ.rfl⟩, ⟨rfl, LeQ.rfl⟩, trivial⟩
  · intro i hi'
    have ep := chK_plus a b lo hi (fun _ => true) i
    rw [cond_true] at ep
    refine ex.sound (rc := []) tab_ok mix href _ ?_
    refine And.intro (fun h => ?_) (fun h => ?_)
    · have h : (i : Int) < a.levels.length := decT h
      refine callN (rChange a b i lo hi (by omega) hb) ?_
      refine callN (rPlus _ _) ?_
      refine And.intro (by kernel_rfl) ?_
      refine ⟨i + 1, by omega, by omega, ?_⟩
      exact SubI.of0 href [] rfl ⟨⟨rfl, LeBx.rfl⟩, ⟨rfl, LeBx.rfl⟩, ⟨rfl, LeBx.rfl⟩, ⟨rfl, LeBx.of_eq (by rw [ep]; rfl)⟩, trivial⟩ ⟨⟨rfl, LeQ.rfl⟩, ⟨rfl, LeQ.rfl⟩, ⟨rfl, LeQ.rfl⟩, ⟨rfl, LeQ.rfl⟩, ⟨rfl, LeQ.rfl⟩, ⟨rfl, LeQ.rfl⟩, ⟨rfl, LeQ.int (w64_of (by omega) (by omega))⟩, trivial⟩
    · have h : ¬ (i : Int) < a.levels.length := decF h
      obtain rfl : i = a.levels.length := by omega
      exact SubR.refl _
theorem rSlices (a b : Grid) (l : List Int) (ha : a.levels.length ≤ 1000000) (hb : b.levels.length = a.levels.length) (hl : l.length ≤ 1000000) :
    CallP Try.prog 42 [grid a, grid b, vInts l] (vChgs (layersL a b l (l.length + 1))) := by
  refine callP_of_ex (rc := []) (N := 38) Try.func42 rfl rfl Try.call42 tab_ok mix rfl rfl (fun cx href => ?_)
  refine AW.loopI (fun i : Nat => ⟨[(2, vInts l), (3, .s (.ptr 3 0)), (4, .s (.ptr 4 0)), (7, .s (.mo (layersL a b l i).isEmpty 100)), (8, vI (sv l i)), (9, vI i)], [(3, some (gridB a)), (4, some (gridB b)), (100, some (chgR (layersL a b l i)))]⟩)
    (fun i => i ≤ l.length) (fun i => l.length - i) 0 (Nat.zero_le _) ?_ ?_
  · exact SubI.of0 href [(100, 1000)] rfl ⟨⟨rfl, LeBx.rfl⟩, ⟨rfl, LeBx.rfl⟩, ⟨rfl, rfl⟩, trivial⟩ ⟨⟨rfl, LeQ.rfl⟩, ⟨rfl, LeQ.rfl⟩, ⟨rfl, LeQ.rfl⟩, ⟨rfl, LeQ.nil rfl⟩, ⟨rfl, LeQ.int (sv_zero l).symm⟩, ⟨rfl, LeQ.rfl⟩, trivial⟩
  · intro i hi'
    have hlen := layersL_len (a := a) (b := b) (l := l) (m := i)
    have hs := layersL_succ a b l i
    refine ex.sound (rc := []) tab_ok mix href _ ?_
    refine And.intro (fun h => ?_) (fun h => ?_)
    · have h : (i : Int) < l.length := decT h
      have hv := sv_succ (l := l) (k := i) (by omega)
      refine oi ⟨by omega, by omega⟩ ?_
      refine callN (rSlice a b (sv l i) (l.getD i 0) ha hb) ?_
      refine ob (by decide) ?_
      refine ob (by rw [bif_len]; show _ * 24 ≤ _; omega) ?_
      refine ob (fit1 (lt3 rfl rfl rfl)) ?_
      refine And.intro (by kernel_rfl) ?_
      refine oi ⟨by omega, by omega⟩ ?_
      refine ⟨i + 1, by omega, by omega, ?_⟩
      rw [hs]
      refine SubI.of0 href [(100, 26)] rfl ⟨⟨rfl, LeBx.rfl⟩, ⟨rfl, LeBx.rfl⟩, ⟨rfl, ?_⟩, trivial⟩ ⟨⟨rfl, LeQ.rfl⟩, ⟨rfl, LeQ.rfl⟩, ⟨rfl, LeQ.rfl⟩, ⟨rfl, LeQ.mo (isEmpty_snoc _ _)⟩, ⟨rfl, LeQ.int hv.symm⟩, ⟨rfl, LeQ.int (w64_of (by omega) (by omega))⟩, trivial⟩
      rw [hv]
      exact RowIs.mrow (el := chgD) (RowIs.snoc chgRow (lt3 rfl rfl rfl))
    · have h : ¬ (i : Int) < l.length := decF h
      obtain rfl : i = l.length := by omega
      refine callN (rSlice a b (sv l l.length) 20000 ha hb) ?_
      refine ob (by decide) ?_
      refine ob (by rw [bif_len]; show _ * 24 ≤ _; omega) ?_
      refine ob (fit1 (lt3 rfl rfl rfl)) ?_
      rw [hs, sv_last]
      exact SubR.le (RowIs.slc (el := chgD) (RowIs.snoc chgRow (lt3 rfl rfl rfl)))
end Go.Ch

namespace Go.Ch
open Go Go.Ax Go.Proofs Go.Proofs.Try
set_option maxRecDepth 100000
set_option pp.maxSteps 400
set_option maxHeartbeats 1000000

theorem any95 (i : Nat) : CallP Try.prog 95 [vI i] (vB true) := by
  refine callP_of_ex (rc := []) (N := 3) Try.func95 rfl rfl Try.call95 tab_ok mix rfl rfl (fun cx _ => ?_)
  exact SubR.lit rfl
theorem lvErr_len {l : List Int} (h : (lvErr l != 0) = false) : l.length ≤ 20 := by
  unfold lvErr at h
  cases h2 : decide ((l.length : Int) > 20) with
  | true => rw [h2] at h; cases h
  | false => have := decF h2; omega
def layersE (a b : Grid) (l : List Int) : List Chg × Int := bif err2 a b != 0 then ([], err2 a b) else bif lvErr l != 0 then ([], lvErr l) else (layersL a b l (l.length + 1), 0)
attribute [local irreducible] err2 in
theorem gSlices (a b : Grid) (l : List Int) (ha : a.ok) (hb : b.ok) (hl : l.length ≤ 1000000) : CallP Try.prog 39 [grid a, grid b, vInts l] (.t [.s (.d (dChgs (layersE a b l).1)), .s (.d (dI (layersE a b l).2))]) := by
  refine callP_of_ex (rc := [94, 3000052]) (N := 78) Try.func39 rfl rfl Try.call39 tab_ok mix rfl rfl (fun cx href => ?_)
  refine callN (bboth a b ha hb) ?_
  unfold layersE
  refine And.intro (fun h => ?_) (fun h => ?_)
  · have h : (err2 a b != 0) = true := h
    rw [h, cond_true]
    exact SubR.t ⟨LeD.nil, LeD.refl _, trivial⟩
  have h : (err2 a b != 0) = false := h
  rw [h, cond_false]
  obtain ⟨e1, e2, e3⟩ := err2_zero (a := a) (b := b) (by simpa using h)
  have ga := GVal.of e1
  have gb := GVal.of e2
  have hlen := sameC_len ga gb e3
  have hna := ga.n
  refine And.intro (fun h5 => ?_) (fun h5 => ?_)
  · have h5 : decide ((l.length : Int) > 20) = true := h5
    have e : lvErr l = 8 := by unfold lvErr; rw [h5]; rfl
    rw [e]
    exact SubR.t ⟨LeD.nil, LeD.refl _, trivial⟩
  have h5 : decide ((l.length : Int) > 20) = false := h5
  have e : lvErr l = lvFrom l l.length 0 := by unfold lvErr; rw [h5]; rfl
  rw [e]
  refine AW.loopI (fun i : Nat => ⟨[(2, vInts l), (3, .s (.ptr 3 0)), (4, .s (.ptr 4 0)), (25, vInts l), (26, vI l.length), (27, vI i)], [(3, some (gridB a)), (4, some (gridB b))]⟩)
    (fun i => i ≤ l.length ∧ lvFrom l l.length 0 = lvFrom l (l.length - i) i) (fun i => l.length - i) 0 ⟨Nat.zero_le _, rfl⟩ ?_ ?_
  · exact SubI.of0 href [] rfl ⟨⟨rfl, LeBx.rfl⟩, ⟨rfl, LeBx.rfl⟩, trivial⟩ ⟨⟨rfl, LeQ.rfl⟩, ⟨rfl, LeQ.rfl⟩, ⟨rfl, LeQ.rfl⟩, ⟨rfl, LeQ.rfl⟩, ⟨rfl, LeQ.rfl⟩, ⟨rfl, LeQ.rfl⟩, trivial⟩
  · rintro i ⟨hi, hj⟩
    refine ex.sound (rc := []) tab_ok mix href _ ?_
    refine And.intro (fun h => ?_) (fun h => ?_)
    · have h : (i : Int) < l.length := decT h
      have hf := lvFrom_at (l := l) (i := i) (by omega)
      refine oi ⟨by omega, by omega⟩ ?_
      refine callN (isLevel _) ?_
      refine And.intro (fun h2 => ?_) (fun h2 => ?_)
      · have h2 : (!within (l.getD i 0) (-20000) 20000) = true := h2
        have e : lvOne l i = 2 := by unfold lvOne; rw [h2]; rfl
        rw [hj, hf, e]
        exact SubR.t ⟨LeD.nil, LeD.refl _, trivial⟩
      have h2 : (!within (l.getD i 0) (-20000) 20000) = false := h2
      repeat first | refine sk ?_ | refine st ?_ | refine sg ?_ | refine sh ?_ | refine su ?_ | refine sn1 ?_ | refine sn0 ?_
      refine og (fun hc => ?_) ?_
      · have hc : decide ((i : Int) > 0) = true := hc
        have hc : (i : Int) > 0 := decT hc
        have e : w64 ((i : Int) - 1) = i - 1 := w64_of (by omega) (by omega)
        show 0 ≤ w64 ((i : Int) - 1) ∧ w64 ((i : Int) - 1) < _
        rw [e]
        exact ⟨by omega, by omega⟩
      repeat first | refine sk ?_ | refine st ?_ | refine sg ?_ | refine sh ?_ | refine su ?_ | refine sn1 ?_ | refine sn0 ?_
      refine And.intro (fun h3 => ?_) (fun h3 => ?_)
      · have h3 : lvLow l i = true := h3
        have e : lvOne l i = 9 := by unfold lvOne; rw [h2, h3]; rfl
        rw [hj, hf, e]
        exact SubR.t ⟨LeD.nil, LeD.refl _, trivial⟩
      · have h3 : lvLow l i = false := h3
        have e : lvOne l i = 0 := by unfold lvOne; rw [h2, h3]; rfl
        rw [e] at hf
        refine ⟨i + 1, ⟨by omega, by rw [hj, hf]; rfl⟩, by omega, ?_⟩
        exact SubI.of0 href [] rfl ⟨⟨rfl, LeBx.rfl⟩, ⟨rfl, LeBx.rfl⟩, trivial⟩ ⟨⟨rfl, LeQ.rfl⟩, ⟨rfl, LeQ.rfl⟩, ⟨rfl, LeQ.rfl⟩, ⟨rfl, LeQ.rfl⟩, ⟨rfl, LeQ.rfl⟩, ⟨rfl, LeQ.int (w64_of (by omega) (by omega))⟩, trivial⟩
    · have h : ¬ (i : Int) < l.length := decF h
      obtain rfl : i = l.length := by omega
      rw [hj, Nat.sub_self]
      refine ⟨[49, 51], ?_⟩
      refine ⟨[(1001, 52)], _, _, _, _, ConcatR [[-20000], l, [20000]] _ (fun i j hi hj => ?_) (by show 0 < 0 + 1 + l.length + 1; omega) (by show 0 + 1 + l.length + 1 ≤ _; have := decF h5; omega) (by show 3 ≤ 1000; decide), rfl, ⟨rfl, trivial⟩, rfl, ?_⟩
      · have hi : i < 3 := hi
        obtain rfl : j = 0 := by omega
        match i, hi with
        | 0, _ =>
          refine LeD.slc fun i j hi hj => ?_
          obtain rfl : i = 0 := by have : i < 1 := hi; omega
          obtain rfl : j = 0 := by have : j < 1 := hj; omega
          exact LeD.of_eq rfl
        | 1, _ => exact LeD.of_eq rfl
        | 2, _ =>
          refine LeD.slc fun i j hi hj => ?_
          obtain rfl : i = 0 := by have : i < 1 := hi; omega
          obtain rfl : j = 0 := by have : j < 1 := hj; omega
          exact LeD.of_eq rfl
      have hle : l.length ≤ 20 := by have := decF h5; omega
      have hsv := svF_eq l
      have hsl := svF_len l
      refine oi ⟨by show (0 : Int) ≤ 1; omega, by show (1 : Int) ≤ ((svF l).length : Int); omega, by show ((svF l).length : Int) ≤ ((svF l).length : Int); omega⟩ ?_
      refine AW.loopI (fun i : Nat => ⟨[(3, .s (.ptr 3 0)), (4, .s (.ptr 4 0)), (11, .s (.mo (layersL a b l i).isEmpty 100)), (12, vInts (svF l)), (55, vInts (l ++ [20000])), (56, vI ((l.length + 1 : Nat) : Int)), (57, vI i)], [(3, some (gridB a)), (4, some (gridB b)), (100, some (chgR (layersL a b l i)))]⟩)
        (fun i => i ≤ l.length + 1) (fun i => l.length + 1 - i) 0 (Nat.zero_le _) ?_ ?_
      · refine SubI.of0 href [(100, 1000)] rfl ⟨⟨rfl, LeBx.rfl⟩, ⟨rfl, LeBx.rfl⟩, ⟨rfl, rfl⟩, trivial⟩ ⟨⟨rfl, LeQ.rfl⟩, ⟨rfl, LeQ.rfl⟩, ⟨rfl, LeQ.nil rfl⟩, ⟨rfl, LeQ.rfl⟩, ⟨rfl, LeQ.d (LeD.slc' ?_ fun k j hk hj => ?_)⟩, ⟨rfl, LeQ.int ?_⟩, ⟨rfl, LeQ.rfl⟩, trivial⟩
        · show (((svF l).length : Int) - 1).toNat = (l ++ [20000]).length
          rw [hsl, List.length_append]
          show (((l.length + 2 : Nat) : Int) - 1).toNat = l.length + 1
          omega
        · obtain rfl : j = 0 := by omega
          refine LeD.of_eq ?_
          show dI ((svF l).getD (1 + k) 0) = dI ((l ++ [20000]).getD k 0)
          rw [hsv, Nat.add_comm, List.getD_cons_succ]
        · show ((((svF l).length : Int) - 1).toNat : Int) = _
          rw [hsl]
          omega
      · intro i hi
        have hs := layersL_succ a b l i
        have hlen2 := layersL_len (a := a) (b := b) (l := l) (m := i)
        refine ex.sound (rc := []) tab_ok mix href _ ?_
        refine And.intro (fun h => ?_) (fun h => ?_)
        · have h : (i : Int) < ((l.length + 1 : Nat) : Int) := decT h
          have hi' : i < l.length + 1 := by omega
          refine oi ⟨by omega, by show (i : Int) < (((l ++ [20000]).length : Nat) : Int); rw [List.length_append]; show (i : Int) < ((l.length + 1 : Nat) : Int); omega⟩ ?_
          refine oi ⟨by omega, by rw [hsl]; omega⟩ ?_
          have ev : (l ++ [20000]).getD i 0 = sv l (i + 1) := by
            unfold sv
            rw [hsv, List.getD_cons_succ]
          refine callN ((bchangeK a b ((svF l).getD i 0) (List.getD (l ++ [20000]) i 0) 95 0 (fun _ => .junk) (fun _ => true) (by omega) hlen (fun i _ => any95 i)).conv (args' := _) ⟨⟨LeD.refl _, LeD.refl _, LeD.refl _, LeD.refl _, LeD.refl _, LeD.refl _, trivial⟩, ⟨LeD.refl _, LeD.refl _, LeD.refl _, LeD.refl _, LeD.refl _, LeD.refl _, trivial⟩, ⟨LeD.refl _, LeD.refl _, trivial⟩, LeD.clo fun j hj => absurd hj (Nat.not_lt_zero j), trivial⟩) ?_
          refine And.intro (by kernel_rfl) ?_
          refine ob (by decide) ?_
          refine ob (by rw [bif_len]; show _ * 24 ≤ _; omega) ?_
          refine ob (fit1 (lt3 rfl rfl rfl)) ?_
          refine ⟨i + 1, by omega, by omega, ?_⟩
          rw [hs]
          refine SubI.of0 href [(100, 75)] rfl ⟨⟨rfl, LeBx.rfl⟩, ⟨rfl, LeBx.rfl⟩, ⟨rfl, ?_⟩, trivial⟩ ⟨⟨rfl, LeQ.rfl⟩, ⟨rfl, LeQ.rfl⟩, ⟨rfl, LeQ.mo (isEmpty_snoc _ _)⟩, ⟨rfl, LeQ.rfl⟩, ⟨rfl, LeQ.rfl⟩, ⟨rfl, LeQ.rfl⟩, ⟨rfl, LeQ.int (w64_of (by omega) (by omega))⟩, trivial⟩
          rw [ev]
          show LeBx _ (chgR (layersL a b l i ++ [sliceC a b ((svF l).getD i 0) (sv l (i + 1))]))
          exact RowIs.mrow (el := chgD) (RowIs.snoc chgRow (lt3 rfl rfl rfl))
        · have h : ¬ (i : Int) < ((l.length + 1 : Nat) : Int) := decF h
          obtain rfl : i = l.length + 1 := by omega
          exact SubR.t ⟨LeD.slc' (bif_len _) fun _ _ _ _ => LeD.refl _, LeD.refl _, trivial⟩
attribute [local irreducible] err2 few lvErr in
theorem Slices (a b : Grid) (l : List Int) (ha : a.ok) (hb : b.ok) (_hl : l.length ≤ 9223372036854775807 ∧ ∀ a ∈ l, i64ok a) : CallP Try.prog 6 [grid a, grid b, vInts l] (vB true) := by
  refine callP_of_ex (rc := []) (N := 60) Try.func6 rfl rfl Try.call6 tab_ok mix rfl rfl (fun cx href => ?_)
  refine callN bawake ?_
  refine And.intro (fun h => by cases h) (fun _ => ?_)
  refine callN (Few a ha.levels) ?_
  repeat first | refine sk ?_ | refine st ?_ | refine sg ?_ | refine sh ?_ | refine su ?_ | refine sn1 ?_ | refine sn0 ?_
  refine callG (Few b hb.levels) ?_
  repeat first | refine sk ?_ | refine st ?_ | refine sg ?_ | refine sh ?_ | refine su ?_ | refine sn1 ?_ | refine sn0 ?_
  refine And.intro (fun _ => SubR.lit rfl) (fun h1 => ?_)
  have h1 : ((!few a || !few b) || decide ((l.length : Int) > 25)) = false := h1
  rw [Bool.or_eq_false_iff] at h1
  have hl : l.length ≤ 1000000 := by have := decF h1.2; omega
  refine callN (CopyInts l hl) ?_
  refine callN (gSlices a b l ha hb hl) ?_
  refine And.intro (by kernel_rfl) ?_
  refine callN (rBoth a b ha hb) ?_
  refine And.intro (fun h => ?_) (fun h => ?_)
  · have h : (err2 a b == 0) = true := h
    have h0 : err2 a b = 0 := by simpa using h
    have hne : (err2 a b != 0) = false := by rw [h0]; rfl
    refine callN (LevelsErr l hl) ?_
    refine And.intro (fun h2 => ?_) (fun h2 => ?_)
    · have h2 : (lvErr l != 0) = true := h2
      have e : layersE a b l = ([], lvErr l) := by unfold layersE; rw [hne, h2]; rfl
      rw [e]
      repeat first | refine sk ?_ | refine st ?_ | refine sg ?_ | refine sh ?_ | refine su ?_ | refine sn1 ?_ | refine sn0 ?_
      refine SubR.of_eq ?_
      show vB ((lvErr l == lvErr l) && ((0 : Int) == 0)) = vB true
      simp
    · have h2 : (lvErr l != 0) = false := h2
      have e : layersE a b l = (layersL a b l (l.length + 1), 0) := by unfold layersE; rw [hne, h2]; rfl
      rw [e]
      obtain ⟨z1, z2, z3⟩ := err2_zero (a := a) (b := b) h0
      have ga := GVal.of z1
      have gb := GVal.of z2
      have hlen := sameC_len ga gb z3
      have hna := ga.n
      repeat first | refine sk ?_ | refine st ?_ | refine sg ?_ | refine sh ?_ | refine su ?_ | refine sn1 ?_ | refine sn0 ?_
      refine callG (rSlices a b l (by omega) hlen hl) ?_
      repeat first | refine sk ?_ | refine st ?_ | refine sg ?_ | refine sh ?_ | refine su ?_ | refine sn1 ?_ | refine sn0 ?_
      refine callG (dChanges (layersL a b l (l.length + 1)) (by rw [layersL_len]; have := lvErr_len h2; omega)) ?_
      repeat first | refine sk ?_ | refine st ?_ | refine sg ?_ | refine sh ?_ | refine su ?_ | refine sn1 ?_ | refine sn0 ?_
      exact SubR.lit rfl
  · have h : (err2 a b == 0) = false := h
    have hne : (err2 a b != 0) = true := by unfold bne; rw [h]; rfl
    have e : layersE a b l = ([], err2 a b) := by unfold layersE; rw [hne]; rfl
    rw [e]
    refine And.intro (fun h2 => ?_) (fun h2 => ?_)
    · repeat first | refine sk ?_ | refine st ?_ | refine sg ?_ | refine sh ?_ | refine su ?_ | refine sn1 ?_ | refine sn0 ?_
      refine SubR.of_eq ?_
      show vB ((err2 a b == err2 a b) && ((0 : Int) == 0)) = vB true
      simp
    · have h2 : (err2 a b != 0) = false := h2
      rw [hne] at h2; cases h2
end Go.Ch

namespace Go.Ch
open Go Go.Ax Go.Proofs Go.Proofs.Try
set_option maxRecDepth 100000
set_option pp.maxSteps 400
set_option maxHeartbeats 1000000

/-! Sums that wrap. -/
theorem w64_k (n : Int) : ∃ k : Int, w64 n = n + 18446744073709551616 * k := by
  refine ⟨-((n + 9223372036854775808) / 18446744073709551616), ?_⟩
  show IntKind.i64.wrap n = _
  rw [IntKind.wrap_i64]
  omega
theorem w64_shift (n k : Int) : w64 (n + 18446744073709551616 * k) = w64 n := by
  show IntKind.i64.wrap _ = IntKind.i64.wrap _
  rw [IntKind.wrap_i64, IntKind.wrap_i64]
  omega
theorem w64_eq {x y : Int} (k : Int) (h : x = y + 18446744073709551616 * k) : w64 x = w64 y := by rw [h, w64_shift]
theorem w64_addl (a b : Int) : w64 (w64 a + b) = w64 (a + b) := by
  obtain ⟨k, h⟩ := w64_k a
  exact w64_eq k (by omega)
theorem w64_addr (a b : Int) : w64 (a + w64 b) = w64 (a + b) := by
  obtain ⟨k, h⟩ := w64_k b
  exact w64_eq k (by omega)
theorem w64_subl (a b : Int) : w64 (w64 a - b) = w64 (a - b) := by
  obtain ⟨k, h⟩ := w64_k a
  exact w64_eq k (by omega)
theorem w64_subr (a b : Int) : w64 (a - w64 b) = w64 (a - b) := by
  obtain ⟨k, h⟩ := w64_k b
  exact w64_eq (-k) (by omega)
theorem w64_mull (a b : Int) : w64 (w64 a * b) = w64 (a * b) := by
  obtain ⟨k, h⟩ := w64_k a
  refine w64_eq (k * b) ?_
  rw [h, Int.add_mul, Int.mul_assoc]

def sumI (f : Nat → Int) (c : Nat → Bool) : Nat → Int
  | 0 => 0
  | n + 1 => bif c n then sumI f c n + f n else sumI f c n
theorem sumI_succ {f : Nat → Int} {c : Nat → Bool} {n : Nat} : sumI f c (n + 1) = bif c n then sumI f c n + f n else sumI f c n := rfl
def dark (a b : Grid) (i : Nat) : Bool := (a.levels.getD i 0 == 30000) || (b.levels.getD i 0 == 30000)
def cutI (a b : Grid) (lo hi : Int) (i : Nat) : Int := bif dark a b i then 0 else a.side * a.side * partV lo hi (b.levels.getD i 0) (a.levels.getD i 0)
def fillI (a b : Grid) (lo hi : Int) (i : Nat) : Int := bif dark a b i then 0 else a.side * a.side * partV lo hi (a.levels.getD i 0) (b.levels.getD i 0)
def unkI (a b : Grid) (i : Nat) : Int := bif dark a b i then 1 else 0
def chgW (c f u : Int) : Chg := ⟨w64 c, w64 f, w64 u⟩
theorem plusC_W (c f u c' f' u' : Int) : plusC (chgW c f u) (chgW c' f' u') = chgW (c + c') (f + f') (u + u') := by
  unfold plusC chgW
  simp only [w64_addl, w64_addr]
theorem oneC_W (a b : Grid) (lo hi : Int) (i : Nat) (s : Chg) : plusC s (oneC a b lo hi i) = plusC s (chgW (cutI a b lo hi i) (fillI a b lo hi i) (unkI a b i)) := by
  unfold oneC cutI fillI unkI plusC chgW dark
  cases (a.levels.getD i 0 == 30000) || (b.levels.getD i 0 == 30000) with
  | true => simp only [cond_true, w64_addr]
  | false => simp only [cond_false, w64_addr, w64_mull]
theorem chK_W (a b : Grid) (lo hi : Int) (c : Nat → Bool) : ∀ n, chK a b lo hi c n = chgW (sumI (cutI a b lo hi) c n) (sumI (fillI a b lo hi) c n) (sumI (unkI a b) c n)
  | 0 => by
    unfold chK chgW
    show _ = (⟨w64 0, w64 0, w64 0⟩ : Chg)
    rw [w64_of (by decide) (by decide)]
  | n + 1 => by
    rw [chK_plus, oneC_W, chK_W a b lo hi c n, plusC_W, sumI_succ, sumI_succ, sumI_succ]
    cases c n <;> rfl
theorem sumI_or {f : Nat → Int} {p q : Nat → Bool} : ∀ {n : Nat}, (∀ i, i < n → p i = true → q i = false) → sumI f (fun i => p i || q i) n = sumI f p n + sumI f q n
  | 0, _ => rfl
  | n + 1, h => by
    have ih := sumI_or (f := f) (p := p) (q := q) (n := n) fun i hi => h i (by omega)
    have := h n (by omega)
    rw [sumI_succ, sumI_succ, sumI_succ]
    rw [ih]
    cases hp : p n with
    | true => rw [this hp]; simp only [Bool.true_or, cond_true, cond_false]; omega
    | false => cases q n with
      | true => simp only [Bool.false_or, cond_true, cond_false]; omega
      | false => simp only [Bool.false_or, cond_false]
theorem sumI_congr {f g : Nat → Int} {p q : Nat → Bool} : ∀ {n : Nat}, (∀ i, i < n → p i = q i) → (∀ i, i < n → f i = g i) → sumI f p n = sumI g q n
  | 0, _, _ => rfl
  | n + 1, h, k => by
    rw [sumI_succ, sumI_succ]
    rw [h n (by omega), k n (by omega), sumI_congr (fun i hi => h i (by omega)) (fun i hi => k i (by omega))]
theorem sumI_none {f : Nat → Int} : ∀ {n : Nat}, sumI f (fun _ => false) n = 0
  | 0 => rfl
  | n + 1 => by rw [sumI_succ]; exact sumI_none
theorem sumI_add {f g : Nat → Int} {p : Nat → Bool} : ∀ {n : Nat}, sumI (fun i => f i + g i) p n = sumI f p n + sumI g p n
  | 0 => rfl
  | n + 1 => by
    rw [sumI_succ, sumI_succ, sumI_succ]
    rw [sumI_add (f := f) (g := g) (n := n)]
    cases p n with
    | true => simp only [cond_true]; omega
    | false => simp only [cond_false]
theorem sumI_nn {f : Nat → Int} {p : Nat → Bool} (h : ∀ i, 0 ≤ f i ∧ f i ≤ 1) : ∀ n : Nat, 0 ≤ sumI f p n ∧ sumI f p n ≤ n
  | 0 => ⟨Int.le_refl _, Int.le_refl _⟩
  | n + 1 => by
    have := sumI_nn (p := p) h n
    have := h n
    rw [sumI_succ]
    cases p n with
    | true => simp only [cond_true]; omega
    | false => simp only [cond_false]; omega
theorem sumI_zero {f : Nat → Int} (h : ∀ i, 0 ≤ f i ∧ f i ≤ 1) : ∀ {n : Nat}, sumI f (fun _ => true) n = 0 → ∀ i, i < n → f i = 0
  | 0, _, _, hi => absurd hi (Nat.not_lt_zero _)
  | n + 1, h0, i, hi => by
    have h1 := sumI_nn (p := fun _ => true) h n
    have h2 := h n
    rw [sumI_succ] at h0
    simp only [cond_true] at h0
    by_cases e : i = n
    · subst e; omega
    · exact sumI_zero h (n := n) (by omega) i (by omega)

/-- The lists' sums. -/
def foldC (l : List Chg) : Nat → Chg
  | 0 => ⟨0, 0, 0⟩
  | i + 1 => plusC (foldC l i) (l.getD i default)
theorem stripsL_get {a b : Grid} {m i : Nat} (h : i < m) : (stripsL a b m).getD i default = stripC a b i := by
  unfold stripsL
  rw [List.getD_eq_getElem?_getD, List.getElem?_map, List.getElem?_range h]
  rfl
theorem layersL_get {a b : Grid} {l : List Int} {m i : Nat} (h : i < m) : (layersL a b l m).getD i default = sliceC a b (sv l i) (sv l (i + 1)) := by
  unfold layersL
  rw [List.getD_eq_getElem?_getD, List.getElem?_map, List.getElem?_range h]
  rfl
theorem foldC_strips (a b : Grid) (M : Nat) : ∀ m, m ≤ M → foldC (stripsL a b M) m = chK a b (-20000) 20000 (fun i => decide ((i : Int).tmod a.cols < (m : Int)) && decide (0 ≤ (i : Int).tmod a.cols)) a.levels.length
  | 0, _ => by
    have e : chK a b (-20000) 20000 (fun i => decide ((i : Int).tmod a.cols < ((0 : Nat) : Int)) && decide (0 ≤ (i : Int).tmod a.cols)) a.levels.length = chK a b (-20000) 20000 (fun _ => false) a.levels.length :=
      chK_congr fun i _ => by
        rw [Bool.and_eq_false_iff, decide_eq_false_iff_not, decide_eq_false_iff_not]
        omega
    rw [e, chK_W, sumI_none, sumI_none, sumI_none]
    unfold foldC chgW
    rw [w64_of (by decide) (by decide)]
  | m + 1, h => by
    rw [foldC, foldC_strips a b M m (by omega), stripsL_get (by omega)]
    unfold stripC
    rw [chK_W, chK_W, plusC_W, ← sumI_or, ← sumI_or, ← sumI_or, chK_W]
    · have e : ∀ i : Nat, ((decide ((i : Int).tmod a.cols < (m : Int)) && decide (0 ≤ (i : Int).tmod a.cols)) || ((i : Int).tmod a.cols == (m : Int))) = (decide ((i : Int).tmod a.cols < ((m + 1 : Nat) : Int)) && decide (0 ≤ (i : Int).tmod a.cols)) := by
        intro i
        rw [Bool.eq_iff_iff]
        simp only [Bool.or_eq_true, Bool.and_eq_true, decide_eq_true_eq, beq_iff_eq]
        omega
      rw [funext e]
    all_goals
      intro i _ hp
      simp only [Bool.and_eq_true, decide_eq_true_eq] at hp
      rw [beq_eq_false_iff_ne]
      omega
/-- The columns add up. -/
theorem strips_sum {a b : Grid} (ga : GVal a) : foldC (stripsL a b a.cols.toNat) a.cols.toNat = chF a b (-20000) 20000 a.levels.length := by
  have hc := ga.cols
  rw [foldC_strips a b _ _ (Nat.le_refl _), chF_K]
  refine chK_congr fun i _ => ?_
  have h1 := Int.tmod_lt_of_pos (i : Int) (show 0 < a.cols by omega)
  have h2 := Int.tmod_nonneg a.cols (show (0 : Int) ≤ i by omega)
  rw [Bool.and_eq_true, decide_eq_true_eq, decide_eq_true_eq]
  omega

/-! The layers add up. -/
theorem partV_lo {lo a b : Int} (h1 : -20000 ≤ a ∧ a ≤ 20000) (h2 : -20000 ≤ b ∧ b ≤ 20000) (h3 : -20000 ≤ lo ∧ lo ≤ 20000) : partV lo lo a b = 0 := by
  unfold partV mm
  simp only
  repeat' split
  all_goals first | omega | (rw [w64_of (by omega) (by omega)] at *; omega)
theorem partV_add {lo mid hi a b : Int} (h1 : -20000 ≤ a ∧ a ≤ 20000) (h2 : -20000 ≤ b ∧ b ≤ 20000) (h3 : -20000 ≤ lo ∧ lo ≤ mid) (h4 : mid ≤ hi ∧ hi ≤ 20000) : partV lo mid a b + partV mid hi a b = partV lo hi a b := by
  have e : ∀ x y : Int, -20000 ≤ x → x ≤ 20000 → -20000 ≤ y → y ≤ 20000 → w64 (x - y) = x - y := fun x y _ _ _ _ => w64_of (by omega) (by omega)
  have q : ∀ m x y : Int, -20000 ≤ m → m ≤ 20000 → partV x m a b = mm true 0 (w64 (mm false b m - mm true a x)) := fun _ _ _ _ _ => rfl
  have hmm : ∀ (z : Bool) (x y : Int), -20000 ≤ x → x ≤ 20000 → -20000 ≤ y → y ≤ 20000 → -20000 ≤ mm z x y ∧ mm z x y ≤ 20000 := by
    intro z x y _ _ _ _
    unfold mm
    cases z <;> simp only <;> split <;> omega
  have key : ∀ x m : Int, -20000 ≤ x → x ≤ 20000 → -20000 ≤ m → m ≤ 20000 → partV x m a b = mm true 0 (mm false b m - mm true a x) := by
    intro x m _ _ _ _
    have u1 := hmm false b m (by omega) (by omega) (by omega) (by omega)
    have u2 := hmm true a x (by omega) (by omega) (by omega) (by omega)
    unfold partV
    rw [e _ _ u1.1 u1.2 u2.1 u2.2]
  rw [key lo mid (by omega) (by omega) (by omega) (by omega), key mid hi (by omega) (by omega) (by omega) (by omega), key lo hi (by omega) (by omega) (by omega) (by omega)]
  unfold mm
  simp only
  repeat' split
  all_goals omega
theorem partV_net {a b : Int} (h1 : -20000 ≤ a ∧ a ≤ 20000) (h2 : -20000 ≤ b ∧ b ≤ 20000) : partV (-20000) 20000 b a = (if a > b then a - b else 0) := by
  unfold partV mm
  simp only
  rw [w64_of (by split <;> split <;> omega) (by split <;> split <;> omega)]
  repeat' split
  all_goals omega
theorem lit_in {a b : Grid} (ga : GVal a) (gb : GVal b) (hl : b.levels.length = a.levels.length) {i : Nat} (hi : i < a.levels.length) (hd : dark a b i = false) :
    (-20000 ≤ a.levels.getD i 0 ∧ a.levels.getD i 0 ≤ 20000) ∧ (-20000 ≤ b.levels.getD i 0 ∧ b.levels.getD i 0 ≤ 20000) := by
  unfold dark at hd
  rw [Bool.or_eq_false_iff, beq_eq_false_iff_ne, beq_eq_false_iff_ne] at hd
  have m1 : a.levels.getD i 0 ∈ a.levels := by
    rw [List.getD_eq_getElem?_getD, List.getElem?_eq_getElem hi]; exact List.getElem_mem hi
  have m2 : b.levels.getD i 0 ∈ b.levels := by
    rw [List.getD_eq_getElem?_getD, List.getElem?_eq_getElem (by omega)]; exact List.getElem_mem _
  rcases ga.lev _ m1 with h | h
  · exact absurd h hd.1
  rcases gb.lev _ m2 with h' | h'
  · exact absurd h' hd.2
  exact ⟨h, h'⟩
theorem cutI_add {a b : Grid} (ga : GVal a) (gb : GVal b) (hl : b.levels.length = a.levels.length) {lo mid hi : Int} (h3 : -20000 ≤ lo ∧ lo ≤ mid) (h4 : mid ≤ hi ∧ hi ≤ 20000) {i : Nat} (hi' : i < a.levels.length) :
    cutI a b lo mid i + cutI a b mid hi i = cutI a b lo hi i ∧ fillI a b lo mid i + fillI a b mid hi i = fillI a b lo hi i := by
  unfold cutI fillI
  cases hd : dark a b i with
  | true => exact ⟨rfl, rfl⟩
  | false =>
    obtain ⟨h1, h2⟩ := lit_in ga gb hl hi' hd
    simp only [cond_false]
    rw [← Int.mul_add, ← Int.mul_add, partV_add h2 h1 h3 h4, partV_add h1 h2 h3 h4]
    exact ⟨rfl, rfl⟩
theorem cutI_none {a b : Grid} (ga : GVal a) (gb : GVal b) (hl : b.levels.length = a.levels.length) {lo : Int} (h3 : -20000 ≤ lo ∧ lo ≤ 20000) {i : Nat} (hi' : i < a.levels.length) :
    cutI a b lo lo i = 0 ∧ fillI a b lo lo i = 0 := by
  unfold cutI fillI
  cases hd : dark a b i with
  | true => exact ⟨rfl, rfl⟩
  | false =>
    obtain ⟨h1, h2⟩ := lit_in ga gb hl hi' hd
    simp only [cond_false]
    rw [partV_lo h2 h1 h3, partV_lo h1 h2 h3]
    exact ⟨Int.mul_zero _, Int.mul_zero _⟩
theorem lvFrom_zero {l : List Int} : ∀ {n i : Nat}, lvFrom l n i = 0 → ∀ j, i ≤ j → j < i + n → lvOne l j = 0
  | 0, _, _, j, h1, h2 => by omega
  | n + 1, i, h, j, h1, h2 => by
    rw [lvFrom] at h
    cases hb : lvOne l i != 0 with
    | true => rw [hb, cond_true] at h; rw [h] at hb; cases hb
    | false =>
      rw [hb, cond_false] at h
      by_cases e : j = i
      · subst e; simpa using hb
      · exact lvFrom_zero h j (by omega) (by omega)
theorem lvErr_all {l : List Int} (h : (lvErr l != 0) = false) {i : Nat} (hi : i < l.length) : (-20000 ≤ l.getD i 0 ∧ l.getD i 0 ≤ 20000) ∧ (0 < i → l.getD (i - 1) 0 < l.getD i 0) := by
  have hl := lvErr_len h
  have h0 : lvErr l = 0 := by simpa using h
  unfold lvErr at h0
  rw [decide_eq_false (by omega), cond_false] at h0
  have h1 := lvFrom_zero h0 i (by omega) (by omega)
  unfold lvOne at h1
  cases hw : within (l.getD i 0) (-20000) 20000 with
  | false => rw [hw] at h1; cases h1
  | true =>
    rw [hw] at h1
    simp only [Bool.not_true, cond_false] at h1
    unfold within at hw
    simp at hw
    refine ⟨by simp only [List.getD_eq_getElem?_getD]; omega, fun hi0 => ?_⟩
    cases hlow : lvLow l i with
    | true => rw [hlow] at h1; cases h1
    | false =>
      unfold lvLow at hlow
      rw [w64_of (by omega) (by omega), show ((i : Int) - 1).toNat = i - 1 by omega, Bool.and_eq_false_iff, decide_eq_false_iff_not, decide_eq_false_iff_not] at hlow
      rcases hlow with h | h
      · omega
      · omega
theorem sv_mono {l : List Int} (h : (lvErr l != 0) = false) : ∀ k, k ≤ l.length + 1 → (-20000 ≤ sv l k ∧ sv l k ≤ 20000) ∧ (0 < k → sv l (k - 1) ≤ sv l k)
  | 0, _ => ⟨by rw [sv_zero]; omega, fun h => absurd h (Nat.lt_irrefl 0)⟩
  | k + 1, hk => by
    rw [Nat.add_sub_cancel]
    by_cases e : k = l.length
    · subst e
      rw [sv_last]
      refine ⟨by omega, fun _ => ?_⟩
      cases hn : l.length with
      | zero => rw [sv_zero]; omega
      | succ m => rw [sv_succ (by omega)]; exact (lvErr_all h (i := m) (by omega)).1.2
    · obtain ⟨h1, h2⟩ := lvErr_all h (i := k) (by omega)
      rw [sv_succ (by omega)]
      refine ⟨h1, fun _ => ?_⟩
      cases k with
      | zero => rw [sv_zero]; exact h1.1
      | succ m =>
        rw [sv_succ (by omega)]
        exact Int.le_of_lt (h2 (by omega))
theorem foldC_layers {a b : Grid} (ga : GVal a) (gb : GVal b) (hl : b.levels.length = a.levels.length) {l : List Int} (h : (lvErr l != 0) = false) : ∀ m, m ≤ l.length + 1 →
    foldC (layersL a b l (l.length + 1)) m = chgW (sumI (cutI a b (-20000) (sv l m)) (fun _ => true) a.levels.length) (sumI (fillI a b (-20000) (sv l m)) (fun _ => true) a.levels.length) 0
  | 0, _ => by
    rw [sv_zero, sumI_congr (g := fun _ => 0) (q := fun _ => true) (fun _ _ => rfl) (fun i hi => (cutI_none ga gb hl (by omega) hi).1), sumI_congr (f := fillI _ _ _ _) (g := fun _ => 0) (q := fun _ => true) (fun _ _ => rfl) (fun i hi => (cutI_none ga gb hl (by omega) hi).2)]
    have e : ∀ n, sumI (fun _ => 0) (fun _ => true) n = 0 := by
      intro n
      induction n with
      | zero => rfl
      | succ n ih => rw [sumI_succ, ih]; rfl
    rw [e]
    show (⟨0, 0, 0⟩ : Chg) = ⟨w64 0, w64 0, w64 0⟩
    rw [w64_of (by decide) (by decide)]
  | m + 1, hm => by
    have s1 := sv_mono h m (by omega)
    have s2 := sv_mono h (m + 1) (by omega)
    have s3 := s2.2 (by omega)
    rw [Nat.add_sub_cancel] at s3
    rw [foldC, foldC_layers ga gb hl h m (by omega), layersL_get (by omega)]
    have e : sliceC a b (sv l m) (sv l (m + 1)) = chgW (sumI (cutI a b (sv l m) (sv l (m + 1))) (fun _ => true) a.levels.length) (sumI (fillI a b (sv l m) (sv l (m + 1))) (fun _ => true) a.levels.length) 0 := by
      unfold sliceC noUnk
      rw [chK_W]
      show (⟨_, _, 0⟩ : Chg) = ⟨_, _, w64 0⟩
      rw [w64_of (n := 0) (by decide) (by decide)]
      rfl
    rw [e, plusC_W, ← sumI_add, ← sumI_add]
    rw [sumI_congr (g := cutI a b (-20000) (sv l (m + 1))) (q := fun _ => true) (fun _ _ => rfl) (fun i hi => (cutI_add ga gb hl (by omega) (by omega) hi).1), sumI_congr (g := fillI a b (-20000) (sv l (m + 1))) (q := fun _ => true) (fun _ _ => rfl) (fun i hi => (cutI_add ga gb hl (by omega) (by omega) hi).2)]
    rfl
theorem layers_sum {a b : Grid} (ga : GVal a) (gb : GVal b) (hl : b.levels.length = a.levels.length) {l : List Int} (h : (lvErr l != 0) = false) :
    (foldC (layersL a b l (l.length + 1)) (l.length + 1)).cut = (chF a b (-20000) 20000 a.levels.length).cut ∧ (foldC (layersL a b l (l.length + 1)) (l.length + 1)).fill = (chF a b (-20000) 20000 a.levels.length).fill := by
  rw [foldC_layers ga gb hl h _ (Nat.le_refl _), sv_last, chF_K, chK_W]
  exact ⟨rfl, rfl⟩

/-! Turned round, and by way of a third bed. -/
theorem swap_chg {a b : Grid} (hs : a.side = b.side) (hl : b.levels.length = a.levels.length) : chF b a (-20000) 20000 b.levels.length = ⟨(chF a b (-20000) 20000 a.levels.length).fill, (chF a b (-20000) 20000 a.levels.length).cut, (chF a b (-20000) 20000 a.levels.length).unk⟩ := by
  have hd : ∀ i, dark b a i = dark a b i := fun i => by unfold dark; exact Bool.or_comm _ _
  rw [chF_K, chF_K, chK_W, chK_W, hl]
  show chgW _ _ _ = chgW _ _ _
  rw [sumI_congr (f := cutI b a _ _) (g := fillI a b (-20000) 20000) (q := fun _ => true) (fun _ _ => rfl) (fun i _ => by unfold cutI fillI; rw [hd, hs]),
    sumI_congr (f := fillI b a _ _) (g := cutI a b (-20000) 20000) (q := fun _ => true) (fun _ _ => rfl) (fun i _ => by unfold cutI fillI; rw [hd, hs]),
    sumI_congr (f := unkI b a) (g := unkI a b) (q := fun _ => true) (fun _ _ => rfl) (fun i _ => by unfold unkI; rw [hd])]
theorem unkI_b (a b : Grid) (i : Nat) : 0 ≤ unkI a b i ∧ unkI a b i ≤ 1 := by
  unfold unkI
  cases dark a b i <;> exact ⟨by decide, by decide⟩
theorem unk_all {a b : Grid} (hn : a.levels.length ≤ 1024) : 0 ≤ (chF a b (-20000) 20000 a.levels.length).unk ∧ (chF a b (-20000) 20000 a.levels.length).unk ≤ 1024 ∧ ((chF a b (-20000) 20000 a.levels.length).unk = 0 → ∀ i, i < a.levels.length → dark a b i = false) := by
  have h := sumI_nn (p := fun _ => true) (unkI_b a b) a.levels.length
  have e : (chF a b (-20000) 20000 a.levels.length).unk = sumI (unkI a b) (fun _ => true) a.levels.length := by
    rw [chF_K, chK_W]
    exact w64_of (by omega) (by omega)
  rw [e]
  refine ⟨by omega, by omega, fun h0 i hi => ?_⟩
  have := sumI_zero (unkI_b a b) h0 i hi
  unfold unkI at this
  cases hd : dark a b i with
  | true => rw [hd] at this; cases this
  | false => rfl
theorem net_third {a b c : Grid} (ga : GVal a) (gb : GVal b) (gc : GVal c) (s1 : a.side = b.side) (hb : b.levels.length = a.levels.length) (hc : c.levels.length = a.levels.length)
    (d1 : ∀ i, i < a.levels.length → dark a b i = false) (d2 : ∀ i, i < a.levels.length → dark a c i = false) :
    w64 ((chF a c (-20000) 20000 a.levels.length).cut - (chF a c (-20000) 20000 a.levels.length).fill) = w64 (w64 (w64 ((chF a b (-20000) 20000 a.levels.length).cut - (chF a b (-20000) 20000 a.levels.length).fill) + (chF b c (-20000) 20000 b.levels.length).cut) - (chF b c (-20000) 20000 b.levels.length).fill) := by
  rw [chF_K, chF_K, chF_K, chK_W, chK_W, chK_W, hb]
  show w64 (w64 _ - w64 _) = w64 (w64 (w64 (w64 _ - w64 _) + w64 _) - w64 _)
  simp only [w64_subl, w64_subr, w64_addl, w64_addr]
  have key : sumI (fun i => cutI a c (-20000) 20000 i + (fillI a b (-20000) 20000 i + fillI b c (-20000) 20000 i)) (fun _ => true) a.levels.length = sumI (fun i => fillI a c (-20000) 20000 i + (cutI a b (-20000) 20000 i + cutI b c (-20000) 20000 i)) (fun _ => true) a.levels.length := by
    refine sumI_congr (fun _ _ => rfl) fun i hi => ?_
    have e1 := d1 i hi
    have e2 := d2 i hi
    obtain ⟨ia, ib⟩ := lit_in ga gb hb hi e1
    obtain ⟨_, ic⟩ := lit_in ga gc hc hi e2
    have e3 : dark b c i = false := by
      unfold dark at e1 e2 ⊢
      rw [Bool.or_eq_false_iff] at e1 e2 ⊢
      exact ⟨e1.2, e2.2⟩
    unfold cutI fillI
    rw [e1, e2, e3, ← s1]
    simp only [cond_false]
    rw [← Int.mul_add, ← Int.mul_add, ← Int.mul_add, ← Int.mul_add]
    congr 1
    rw [partV_net ia ic, partV_net ib ia, partV_net ic ib, partV_net ic ia, partV_net ia ib, partV_net ib ic]
    repeat' split
    all_goals omega
  rw [sumI_add, sumI_add, sumI_add, sumI_add] at key
  congr 1
  omega
end Go.Ch

namespace Go.Ch
open Go Go.Ax Go.Proofs Go.Proofs.Try
set_option maxRecDepth 100000
set_option pp.maxSteps 400
set_option maxHeartbeats 1000000

structure RouV where
  level : Int
  path : List Int
  bar : List Int
  deriving Inhabited
abbrev intsOk (l : List Int) : Prop := l.length ≤ 9223372036854775807 ∧ ∀ a ∈ l, i64ok a
theorem rRou : Rd Try.prog 94 3 (fun r : RouV => [.d (dI r.level), .d (dInts r.path), .d (dInts r.bar)]) (fun r => i64ok r.level ∧ intsOk r.path ∧ intsOk r.bar) :=
  (rd_struct Try.underlying94 rfl (by kernel_rfl) (rdf_cons rfl rI (rdf_cons rfl rInts (rdf_cons rfl rInts rdf_nil)))).to (fun a => ⟨a.1, a.2.1, a.2.2.1⟩) (fun _ => rfl) (fun _ h => ⟨h.1, h.2.1, h.2.2.1⟩)
def WayV.ok (q : WayV) : Prop := intsOk q.fr ∧ intsOk q.to ∧ i64ok q.level ∧ intsOk q.path ∧ intsOk q.bar
theorem rWay : RdA Try.prog 116 wayA WayV.ok :=
  rda_agg (k := 5) Try.underlying116 ((rd_struct Try.underlying116 rfl (by kernel_rfl) (rdf_cons rfl rInts (rdf_cons rfl rInts (rdf_cons rfl rRou rdf_nil)))).to (fun a => ⟨a.1, a.2.1, a.2.2.1.level, a.2.2.1.path, a.2.2.1.bar⟩) (fun _ => rfl) (fun _ h => ⟨h.1, h.2.1, h.2.2.1.1, h.2.2.1.2.1, h.2.2.1.2.2⟩))
theorem endsG_R (g : Grid) (fr to : List Int) : endsG g fr to = bif errG g != 0 then errG g else endsR g fr to := rfl
attribute [local irreducible] errG few endsR in
theorem Proofs (g : Grid) (q : WayV) (hg : g.ok) (_ : q.ok) : CallP Try.prog 16 [grid g, wayA q] (vB true) := by
  refine callP_of_ex (rc := []) (N := 87) Try.func16 rfl rfl Try.call16 tab_ok mix rfl rfl (fun cx href => ?_)
  refine callN bawake ?_
  refine And.intro (fun h => by cases h) (fun _ => ?_)
  refine callN (Few g hg.levels) ?_
  repeat first | refine sk ?_ | refine st ?_ | refine sg ?_ | refine sh ?_ | refine su ?_ | refine sn1 ?_ | refine sn0 ?_
  refine And.intro (fun _ => SubR.lit rfl) (fun h1 => ?_)
  have h1 : ((((!few g || decide ((q.fr.length : Int) > 8)) || decide ((q.to.length : Int) > 8)) || decide ((q.path.length : Int) > 40)) || decide ((q.bar.length : Int) > 40)) = false := h1
  simp only [Bool.or_eq_false_iff, decide_eq_false_iff_not] at h1
  have hs : q.sm := ⟨by omega, by omega, by omega, by omega⟩
  refine callN (gCheckClear g q hg hs) ?_
  refine callN (RCheck g hg.levels) ?_
  refine And.intro (fun h2 => ?_) (fun h2 => ?_)
  · have h2 : (errG g == 0) = true := h2
    have e0 : errG g = 0 := by simpa using h2
    have hv := GVal.of e0
    have ee : endsG g q.fr q.to = endsR g q.fr q.to := by rw [endsG_R, e0]; rfl
    refine callN (rEnds g q.fr q.to hs.fr hs.to) ?_
    refine And.intro (fun h3 => ?_) (fun h3 => ?_)
    · have h3 : (endsR g q.fr q.to != 0) = true := h3
      have : checkG g q = endsR g q.fr q.to := by unfold checkG; rw [ee, h3]; rfl
      rw [this]
      refine SubR.of_eq ?_
      show vB (endsR g q.fr q.to == endsR g q.fr q.to) = vB true
      simp
    · have h3 : (endsR g q.fr q.to != 0) = false := h3
      have z : endsG g q.fr q.to = 0 := by rw [ee]; simpa using h3
      have hth := (endsG_zero z).2.2.2
      refine callN (rProved g q hv hs (fun t ht => hth t (List.mem_append_right _ ht))) ?_
      rcases check_iff hv z with ⟨c1, c2⟩ | ⟨c1, c2⟩
      · have hp : provedB g q = true := (provedB_iff hv).2 c2
        rw [hp, c1]
        refine And.intro (fun h => by cases h) (fun _ => ?_)
        refine callN (gClear g q.fr q.to hg hs.fr hs.to) ?_
        repeat first | refine sk ?_ | refine st ?_ | refine sg ?_ | refine sh ?_ | refine su ?_ | refine sn1 ?_ | refine sn0 ?_
        obtain ⟨l1, l2⟩ := c2.level hv z
        refine SubR.of_eq ?_
        show vB ((((0 : Int) == 0) && ((clearG g q.fr q.to).2.2.2 == 0)) && ((clearG g q.fr q.to).1 == q.level)) = vB true
        rw [l1, l2]; simp
      · have hp : provedB g q = false := by
          cases hx : provedB g q with
          | false => rfl
          | true => exact absurd ((provedB_iff hv).1 hx) c2
        rw [hp, c1]
        refine And.intro (fun _ => ?_) (fun h => by cases h)
        exact SubR.lit rfl
  · have h2 : (errG g == 0) = false := h2
    have hne : (errG g != 0) = true := by rw [bne, h2]; rfl
    refine And.intro (fun h3 => ?_) (fun h3 => ?_)
    · have e1 : endsG g q.fr q.to = errG g := by rw [endsG_R, hne]; rfl
      have : checkG g q = errG g := by unfold checkG; rw [e1, hne]; rfl
      rw [this]
      refine SubR.of_eq ?_
      show vB (errG g == errG g) = vB true
      simp
    · exfalso
      have h3 : (errG g != 0) = false := h3
      rw [hne] at h3; cases h3
end Go.Ch

namespace Go.Ch
open Go Go.Ax Go.Proofs Go.Proofs.Try
set_option maxRecDepth 100000
set_option pp.maxSteps 400
set_option maxHeartbeats 1000000

def routeW (g : Grid) (fr to : List Int) : WayV := ⟨fr, to, (clearG g fr to).1, (clearG g fr to).2.1, (clearG g fr to).2.2.1⟩
theorem endsG_swap {g : Grid} {fr to : List Int} (h : endsG g fr to = 0) : endsG g to fr = 0 := by
  obtain ⟨h1, h2, h3, h4⟩ := endsG_zero h
  unfold endsG endsErr
  rw [h1, h2, h3]
  have : (to ++ fr).all (there g) = true := by
    rw [List.all_eq_true]
    intro x hx
    refine h4 x ?_
    rcases List.mem_append.1 hx with h | h
    · exact List.mem_append_right _ h
    · exact List.mem_append_left _ h
  rw [this]; rfl
theorem clearG_zero {g : Grid} {fr to : List Int} (h : endsG g fr to = 0) : clearG g fr to = clearL g fr to (levelsL g.levels) := by
  unfold clearG; rw [h]; rfl
theorem lsGood_iff {g : Grid} {q : WayV} {i : Nat} : lsGood g q i = true ↔ knownG g i = true ∧ canGo (okMost g (levelAt g i)) (nearL g) q.fr q.to := by
  unfold lsGood lsReach
  rw [Bool.and_eq_true, goB_iff, uOk_most]
theorem level_cell {g : Grid} {m : Int} (h : m ∈ levelsL g.levels) : ∃ j : Nat, j < g.levels.length ∧ knownG g j = true ∧ levelAt g j = m := by
  obtain ⟨h1, h2⟩ := levelsL_mem.1 h
  obtain ⟨j, hj, e⟩ := List.mem_iff_getElem.1 h2
  have e2 : levelAt g j = m := by
    unfold levelAt
    rw [List.getD_eq_getElem?_getD, natOf, List.getElem?_eq_getElem hj]; exact e
  refine ⟨j, hj, ?_, e2⟩
  unfold knownG
  rw [there_iff.2 ⟨by omega, by omega⟩, e2, Bool.true_and]
  simpa using h1
theorem route_all {g : Grid} (hg : GVal g) {fr to : List Int} (h0 : endsG g fr to = 0) :
    ((lsF g (routeW g fr to) g.levels.length).2 = false ∧ clearG g fr to = (0, [], [], 11)) ∨
    ((lsF g (routeW g fr to) g.levels.length).2 = true ∧ (lsF g (routeW g fr to) g.levels.length).1 = (clearG g fr to).1 ∧ (clearG g fr to).2.2.2 = 0 ∧ Pr g (routeW g fr to) ∧ (clearG g to fr).1 = (clearG g fr to).1 ∧ (clearG g to fr).2.2.2 = 0) := by
  have hsp := lsF_spec g (routeW g fr to) g.levels.length
  have hsy : ∀ m, canGo (okMost g m) (nearL g) fr to ↔ canGo (okMost g m) (nearL g) to fr := fun m =>
    ⟨fun h => h.symm (near_symm hg (fun i h => okMost_known h)), fun h => h.symm (near_symm hg (fun i h => okMost_known h))⟩
  rcases clearL_spec g fr to (levelsL g.levels) with ⟨pre, m, suf, e1, e2, e3, e4⟩ | ⟨e1, e2⟩
  · right
    have hm : m ∈ levelsL g.levels := by rw [e1]; simp
    have hgo := (wayM_go hg m fr to).1 e3
    obtain ⟨j, hj, hk, he⟩ := level_cell hm
    have hgd : lsGood g (routeW g fr to) j = true := (lsGood_iff).2 ⟨hk, by rw [he]; exact hgo⟩
    have hr : clearG g fr to = (m, wayM g m fr to, barL g m g.levels.length, 0) := by rw [clearG_zero h0, e4]
    have hW : routeW g fr to = ⟨fr, to, m, wayM g m fr to, barL g m g.levels.length⟩ := by unfold routeW; rw [hr]
    rcases hsp with ⟨_, h2⟩ | ⟨h1, ⟨i, hi, hig, hie⟩, h3⟩
    · rw [h2 j hj] at hgd; cases hgd
    have hbest : (lsF g (routeW g fr to) g.levels.length).1 = m := by
      have b1 := h3 j hj hgd
      rw [he] at b1
      obtain ⟨k1, k2⟩ := (lsGood_iff).1 hig
      have b2 := first_level hg e1 e2 (level_in k1) k2
      rw [hie] at b2
      omega
    refine ⟨h1, by rw [hbest, hr], by rw [hr], ?_, ?_⟩
    · rw [hW]
      obtain ⟨w1, w2, ⟨a, ha, ha'⟩, z, hz, hz'⟩ := wayL_some (n := g.levels.length) (fun i h => there_iff.1 (okMost_known h)) (near_not g hg) e3
      have hne : 0 < (wayM g m fr to).length := List.length_pos_iff.2 e3
      have hall : ∀ k, k < (wayM g m fr to).length → okMost g m ((wayM g m fr to).getD k 0) = true := by
        intro k hk
        refine w2 _ ?_
        show _ ∈ wayM g m fr to
        rw [List.getD_eq_getElem?_getD, List.getElem?_eq_getElem hk]
        exact List.getElem_mem hk
      have hkn : ∀ k, k < (wayM g m fr to).length → knownG g ((wayM g m fr to).getD k 0) = true ∧ levelAt g ((wayM g m fr to).getD k 0) ≤ m := by
        intro k hk
        have := hall k hk
        unfold okMost at this
        simp only [Bool.and_eq_true, decide_eq_true_eq] at this
        exact this
      have hf : (wayM g m fr to).getD 0 0 ∈ fr := by
        have ha : (wayM g m fr to).head? = some a := ha
        rw [List.head?_eq_getElem?] at ha
        rw [List.getD_eq_getElem?_getD, ha]; exact ha'
      have hl : (wayM g m fr to).getD ((wayM g m fr to).length - 1) 0 ∈ to := by
        have hz : (wayM g m fr to).getLast? = some z := hz
        rw [List.getLast?_eq_getElem?] at hz
        rw [List.getD_eq_getElem?_getD, hz]; exact hz'
      refine ⟨prEnds_iff.2 ⟨hne, hf, hl⟩, fun k hk => ⟨(hkn k hk).1, (hkn k hk).2, fun hk0 => ?_⟩, ?_, ?_, ?_⟩
      · have hk : k < (wayM g m fr to).length := hk
        have := w1 (k - 1) (by show k - 1 + 1 < (wayM g m fr to).length; omega)
        rw [show k - 1 + 1 = k by omega] at this
        have := (near_mem hg (there_iff.2 (known_there (hkn (k - 1) (by omega)).1))).1 this
        rw [neigh_symm]; exact this.2
      · refine Classical.byContradiction fun hno => ?_
        have hlow : canGo (fun i => knownG g i && decide (levelAt g i < m)) (nearL g) fr to := by
          refine path_go (p := wayM g m fr to) e3 hf hl (fun k hk => ?_) w1
          have h1 := hkn k hk
          have h2 : levelAt g ((wayM g m fr to).getD k 0) ≠ m := fun e => hno ⟨k, hk, e⟩
          rw [h1.1, decide_eq_true (by omega)]; rfl
        obtain ⟨x, hx, hxm, hxg⟩ := lower_way (m := m) (fun i hi => by simpa using hi) hlow
        have := first_level hg e1 e2 hx hxg
        omega
      · intro i hi
        have := (barL_mem (Nat.le_refl _)).1 hi
        exact ⟨this.2.2.1, this.2.2.2⟩
      · intro hgo2
        obtain ⟨x, hx, hxm, hxg⟩ := lower_way (g := g) (m := m) (fun i hi => by
          unfold okFree at hi
          rw [Bool.and_eq_true, Bool.not_eq_true', ← Bool.not_eq_true, List.contains_iff_mem] at hi
          refine ⟨hi.1, ?_⟩
          have ht := known_there hi.1
          have : ¬ (levelAt g i ≥ m) := fun hge => hi.2 ((barL_mem (Nat.le_refl _)).2 ⟨ht.1, ht.2, hi.1, hge⟩)
          omega) hgo2
        have := first_level hg e1 e2 hx hxg
        omega
    · rw [hr, clearG_zero (endsG_swap h0)]
      rcases clearL_spec g to fr (levelsL g.levels) with ⟨pre', m', suf', f1, f2, f3, f4⟩ | ⟨f1, _⟩
      · rw [f4]
        refine ⟨?_, rfl⟩
        show m' = m
        have hm' : m' ∈ levelsL g.levels := by rw [f1]; simp
        have g1 := first_level hg e1 e2 hm' ((hsy m').2 ((wayM_go hg m' to fr).1 f3))
        have g2 := first_level hg f1 f2 hm ((hsy m).1 hgo)
        omega
      · exact absurd (f1 m hm) ((wayM_go hg m to fr).2 ((hsy m).1 hgo))
  · left
    refine ⟨?_, by rw [clearG_zero h0, e2]⟩
    rcases hsp with ⟨h1, _⟩ | ⟨_, ⟨i, hi, hig, hie⟩, _⟩
    · exact h1
    · obtain ⟨k1, k2⟩ := (lsGood_iff).1 hig
      exact absurd (e1 _ (level_in k1)) ((wayM_go hg _ fr to).2 k2)
theorem routeW_sm {g : Grid} (hg : GVal g) {fr to : List Int} (hf : fr.length ≤ 1000) (ht : to.length ≤ 1000) : (routeW g fr to).sm := by
  have hn := hg.n
  have h : (clearG g fr to).2.1.length ≤ 1025 ∧ (clearG g fr to).2.2.1.length ≤ 1024 := by
    unfold clearG
    cases endsG g fr to != 0 with
    | true => exact ⟨by simp, by simp⟩
    | false =>
      rw [cond_false]
      rcases clearL_spec g fr to (levelsL g.levels) with ⟨pre, m, suf, e1, e2, e3, e4⟩ | ⟨e1, e2⟩
      · rw [e4]
        have := wayM_len (g := g) m fr to
        have := barL_len g m g.levels.length
        exact ⟨by simp only; omega, by simp only; omega⟩
      · rw [e2]; exact ⟨by simp, by simp⟩
  exact ⟨hf, ht, by show (clearG g fr to).2.1.length ≤ _; omega, by show (clearG g fr to).2.2.1.length ≤ _; omega⟩
attribute [local irreducible] errG few endsR in
theorem Routes (g : Grid) (fr to : List Int) (hg : g.ok) (hfo : intsOk fr) (hto : intsOk to) : CallP Try.prog 15 [grid g, vInts fr, vInts to] (vB true) := by
  refine callP_of_ex (rc := []) (N := 128) Try.func15 rfl rfl Try.call15 tab_ok mix rfl rfl (fun cx href => ?_)
  refine callN bawake ?_
  refine And.intro (fun h => by cases h) (fun _ => ?_)
  refine callN (Few g hg.levels) ?_
  repeat first | refine sk ?_ | refine st ?_ | refine sg ?_ | refine sh ?_ | refine su ?_ | refine sn1 ?_ | refine sn0 ?_
  refine And.intro (fun _ => SubR.lit rfl) (fun h1 => ?_)
  have h1 : ((!few g || decide ((fr.length : Int) > 8)) || decide ((to.length : Int) > 8)) = false := h1
  simp only [Bool.or_eq_false_iff, decide_eq_false_iff_not] at h1
  have hf : fr.length ≤ 1000 := by omega
  have ht : to.length ≤ 1000 := by omega
  refine callN (CopyInts fr (by omega)) ?_
  refine callN (CopyInts to (by omega)) ?_
  refine callN (gClear g fr to hg hf ht) ?_
  refine And.intro (by kernel_rfl) ?_
  refine callN (RCheck g hg.levels) ?_
  have bad : ∀ e : Int, vB ((((e == e) && ((0 : Int) == 0)) && ((0 : Int) == 0)) && ((0 : Int) == 0)) = vB true := by intro e; simp
  refine And.intro (fun h2 => ?_) (fun h2 => ?_)
  · have h2 : (errG g == 0) = true := h2
    have e0 : errG g = 0 := by simpa using h2
    have hv := GVal.of e0
    have ee : endsG g fr to = endsR g fr to := by rw [endsG_R, e0]; rfl
    refine callN (rEnds g fr to hf ht) ?_
    refine And.intro (fun h3 => ?_) (fun h3 => ?_)
    · have h3 : (endsR g fr to == 0) = true := h3
      have z : endsG g fr to = 0 := by rw [ee]; simpa using h3
      have z' : endsR g fr to = 0 := by simpa using h3
      have hth := (endsG_zero z).2.2.2
      have hsm := routeW_sm hv hf ht
      have htt : ∀ t ∈ (routeW g fr to).to, there g t = true := fun t ht => hth t (List.mem_append_right _ ht)
      refine callN (rLeast g (routeW g fr to) hv hsm htt) ?_
      rcases route_all hv z with ⟨c1, c2⟩ | ⟨c1, c2, c3, c4, c5, c6⟩
      · rw [c1]
        refine And.intro (fun _ => ?_) (fun h => by cases h)
        refine And.intro (fun _ => ?_) (fun h => by cases h)
        rw [c2]
        repeat first | refine sk ?_ | refine st ?_ | refine sg ?_ | refine sh ?_ | refine su ?_ | refine sn1 ?_ | refine sn0 ?_
        exact SubR.of_eq (bad 11)
      · rw [c1]
        refine And.intro (fun h => by cases h) (fun _ => ?_)
        rw [z']
        refine And.intro (fun h => by cases h) (fun _ => ?_)
        refine callN (rLeast g (routeW g fr to) hv hsm htt) ?_
        refine callN (gClear g to fr hg ht hf) ?_
        have hp : provedB g (routeW g fr to) = true := (provedB_iff hv).2 c4
        have hck : checkG g (routeW g fr to) = 0 := by
          rcases check_iff hv (q := routeW g fr to) z with ⟨d1, _⟩ | ⟨_, d2⟩
          · exact d1
          · exact absurd c4 d2
        repeat first | refine sk ?_ | refine st ?_ | refine sg ?_ | refine sh ?_ | refine su ?_ | refine sn1 ?_ | refine sn0 ?_
        refine callG (rProved g (routeW g fr to) hv hsm htt) ?_
        rw [hp]
        repeat first | refine sk ?_ | refine st ?_ | refine sg ?_ | refine sh ?_ | refine su ?_ | refine sn1 ?_ | refine sn0 ?_
        refine callG (gCheckClear g (routeW g fr to) hg hsm) ?_
        rw [hck]
        repeat first | refine sk ?_ | refine st ?_ | refine sg ?_ | refine sh ?_ | refine su ?_ | refine sn1 ?_ | refine sn0 ?_
        refine SubR.of_eq ?_
        show vB ((((((((clearG g fr to).2.2.2 == 0) && ((clearG g fr to).1 == (lsF g (routeW g fr to) g.levels.length).1)) && true) && ((0 : Int) == 0)) && ((clearG g to fr).2.2.2 == 0)) && ((clearG g to fr).1 == (clearG g fr to).1))) = vB true
        rw [c2, c3, c5, c6]; simp
    · have h3 : (endsR g fr to == 0) = false := h3
      have hne : (endsR g fr to != 0) = true := by rw [bne, h3]; rfl
      have hr : clearG g fr to = (0, [], [], endsR g fr to) := by unfold clearG; rw [ee, hne]; rfl
      refine And.intro (fun _ => ?_) (fun h => ?_)
      · rw [hr]
        repeat first | refine sk ?_ | refine st ?_ | refine sg ?_ | refine sh ?_ | refine su ?_ | refine sn1 ?_ | refine sn0 ?_
        exact SubR.of_eq (bad _)
      · exfalso
        have h : (endsR g fr to != 0) = false := h
        rw [hne] at h; cases h
  · have h2 : (errG g == 0) = false := h2
    have hne : (errG g != 0) = true := by rw [bne, h2]; rfl
    have e1 : endsG g fr to = errG g := by rw [endsG_R, hne]; rfl
    have hr : clearG g fr to = (0, [], [], errG g) := by unfold clearG; rw [e1, hne]; rfl
    refine And.intro (fun h => ?_) (fun _ => ?_)
    · exfalso
      have h : (errG g == 0) = true := h
      rw [h2] at h; cases h
    refine And.intro (fun _ => ?_) (fun h => ?_)
    · rw [hr]
      repeat first | refine sk ?_ | refine st ?_ | refine sg ?_ | refine sh ?_ | refine su ?_ | refine sn1 ?_ | refine sn0 ?_
      exact SubR.of_eq (bad _)
    · exfalso
      have h : (errG g != 0) = false := h
      rw [hne] at h; cases h
end Go.Ch
