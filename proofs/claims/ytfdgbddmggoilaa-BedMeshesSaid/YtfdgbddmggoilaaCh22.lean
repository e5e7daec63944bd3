/- Part Ch22: lemmas that the proofs of this seat share; by itself it claims nothing. -/
import Derived.Test.YtfdgbddmggoilaaCh21
namespace Go.Ch
open Go Go.Ax Go.Proofs Go.Proofs.Try
set_option maxRecDepth 100000
set_option pp.maxSteps 400
set_option maxHeartbeats 1000000

/-- The cells of a barrier among the first i ones. -/
def barC (g : Grid) (m : Int) (k : Nat) : Bool := g.levels.getD k 0 != 30000 && decide (g.levels.getD k 0 ≥ m)
def barL (g : Grid) (m : Int) (i : Nat) : List Int := (List.range i).filterMap fun k => bif barC g m k then some (k : Int) else none
theorem barL_succ (g : Grid) (m : Int) (i : Nat) : barL g m (i + 1) = barL g m i ++ (bif barC g m i then [(i : Int)] else []) := by
  unfold barL
  rw [filterMap_range_succ]
  cases barC g m i <;> rfl
theorem barL_len (g : Grid) (m : Int) : ∀ i, (barL g m i).length ≤ i
  | 0 => Nat.le_refl _
  | i + 1 => by
    rw [barL_succ, List.length_append]
    have := barL_len g m i
    have := len1 (b := barC g m i) (x := (i : Int))
    omega
abbrev RouteR := Int × List Int × List Int × Int
def wayM (g : Grid) (m : Int) (fr to : List Int) : List Int := wayL g.levels.length (okMost g m) (nearL g) fr to
def clearL (g : Grid) (fr to : List Int) : List Int → RouteR
  | [] => (0, [], [], 11)
  | m :: r => bif (wayM g m fr to).isEmpty then clearL g fr to r else (m, wayM g m fr to, barL g m g.levels.length, 0)
def clearG (g : Grid) (fr to : List Int) : RouteR := bif endsG g fr to != 0 then (0, [], [], endsG g fr to) else clearL g fr to (levelsL g.levels)
abbrev rRoute (r : RouteR) : AV := .t [.g [.d (dI r.1), .d (dInts r.2.1), .d (dInts r.2.2.1)], .s (.d (dI r.2.2.2))]
abbrev nilS : SV := .d (.val (.slice none 0 0))
theorem rRoute_nil {e e' : Int} (h : e = e') : SubR (.t [.g [.d (dI 0), nilS, nilS], .s (.d (dI e))]) (rRoute (0, [], [], e')) := by
  subst h
  exact SubR.t ⟨⟨LeD.refl _, LeD.nil, LeD.nil, trivial⟩, LeD.refl _, trivial⟩
theorem endsG_zero {g : Grid} {fr to : List Int} (h : endsG g fr to = 0) : errG g = 0 ∧ fr.isEmpty = false ∧ to.isEmpty = false ∧ ∀ i ∈ fr ++ to, there g i = true := by
  unfold endsG at h
  cases h1 : errG g != 0 with
  | true => rw [h1, cond_true] at h; simp [h] at h1
  | false =>
    rw [h1, cond_false] at h
    refine ⟨by simpa using h1, ?_⟩
    cases h2 : fr.isEmpty || to.isEmpty with
    | true => rw [h2, cond_true] at h; cases h
    | false =>
      rw [h2, cond_false] at h
      rw [Bool.or_eq_false_iff] at h2
      refine ⟨h2.1, h2.2, ?_⟩
      unfold endsErr at h
      cases h3 : (fr ++ to).all (there g) with
      | false => rw [h3] at h; cases h
      | true => rw [List.all_eq_true] at h3; exact h3
abbrev clS (g : Grid) (fr to ls : List Int) (i : Nat) : St := ⟨[(3, .s (.ptr 3 0)), (1, vInts fr), (2, vInts to), (6, .s (.ptr 6 0)), (24, vInts ls), (25, vI ls.length), (26, vI i)], [(3, some (gridB g)), (6, some (.cells [.d (dI 0), nilS, nilS]))]⟩
abbrev clS2 (g : Grid) (m : Int) (p : List Int) (i : Nat) : St := ⟨[(3, .s (.ptr 3 0)), (10, .s (.ptr 10 0)), (6, .s (.ptr 6 0)), (12, .s (.ptr 12 0)), (42, vInts g.levels), (43, vI g.levels.length), (44, vI i)],
  [(3, some (gridB g)), (10, some (.cells [.d (dI m)])), (6, some (.cells [.d (dI 0), nilS, nilS])), (12, some (.cells [.d (dI m), .d (dInts p), .mo (barL g m i).isEmpty 100])), (100, some (.mrow 3 (barL g m i).length 1 (intEl (barL g m i))))]⟩
theorem gClear (g : Grid) (fr to : List Int) (hg : g.ok) (hf : fr.length ≤ 1000) (ht : to.length ≤ 1000) : CallP Try.prog 62 [grid g, vInts fr, vInts to] (rRoute (clearG g fr to)) := by
  refine callP_of_ex (rc := [115]) (N := 67) Try.func62 rfl rfl Try.call62 tab_ok mix rfl rfl (fun cx href => ?_)
  refine callN (ends g fr to hg hf ht) ?_
  unfold clearG
  refine And.intro (fun h => ?_) (fun h => ?_)
  · have h : (endsG g fr to != 0) = true := h
    rw [h, cond_true]
    exact rRoute_nil rfl
  have h : (endsG g fr to != 0) = false := h
  rw [h, cond_false]
  have hv : GVal g := GVal.of (endsG_zero (by simpa using h)).1
  have hn := hv.n
  refine callN (levels g hn) ?_
  have hll := levelsL_len (lv := g.levels)
  generalize levelsL g.levels = ls at hll ⊢
  refine AW.loopI (clS g fr to ls) (fun i => i ≤ ls.length ∧ clearL g fr to ls = clearL g fr to (ls.drop i)) (fun i => ls.length - i) 0 ⟨Nat.zero_le _, rfl⟩ ?_ ?_
  · exact SubI.of0 href [] rfl ⟨⟨rfl, LeBx.rfl⟩, ⟨rfl, LeBx.rfl⟩, trivial⟩ ⟨⟨rfl, LeQ.rfl⟩, ⟨rfl, LeQ.rfl⟩, ⟨rfl, LeQ.rfl⟩, ⟨rfl, LeQ.rfl⟩, ⟨rfl, LeQ.rfl⟩, ⟨rfl, LeQ.rfl⟩, ⟨rfl, LeQ.rfl⟩, trivial⟩
  · rintro i ⟨hi, hj⟩
    refine ex.sound (rc := [115]) tab_ok mix href _ ?_
    refine And.intro (fun h1 => ?_) (fun h1 => ?_)
    · have h1 : (i : Int) < ls.length := decT h1
      have hi' : i < ls.length := by omega
      rw [List.drop_eq_getElem_cons hi', clearL] at hj
      have hx : ls[i] = ls.getD i 0 := by simp [hi']
      rw [hx] at hj
      generalize hm : ls.getD i 0 = m at hj
      refine oi ⟨by omega, by omega⟩ ?_
      refine ⟨[(1001, 3), (1002, 10)], _, _, _, _, wayClear g (ls.getD i 0) fr to hv hf ht, rfl, ⟨rfl, rfl, trivial⟩, rfl, ?_⟩
      refine And.intro (fun h2 => ?_) (fun h2 => ?_)
      · have h2 : (((wayM g (ls.getD i 0) fr to).length : Int) == 0) = true := h2
        rw [len0, hm] at h2
        rw [h2, cond_true] at hj
        refine ⟨i + 1, ⟨by omega, hj⟩, by omega, ?_⟩
        exact SubI.of0 href [] rfl ⟨⟨rfl, LeBx.rfl⟩, ⟨rfl, LeBx.rfl⟩, trivial⟩ ⟨⟨rfl, LeQ.rfl⟩, ⟨rfl, LeQ.rfl⟩, ⟨rfl, LeQ.rfl⟩, ⟨rfl, LeQ.rfl⟩, ⟨rfl, LeQ.rfl⟩, ⟨rfl, LeQ.rfl⟩, ⟨rfl, LeQ.int (w64_of (by omega) (by omega))⟩, trivial⟩
      · have h2 : (((wayM g (ls.getD i 0) fr to).length : Int) == 0) = false := h2
        rw [len0, hm] at h2
        rw [h2, cond_false] at hj
        rw [hj]
        refine AW.loopI (clS2 g m (wayM g m fr to)) (fun k => k ≤ g.levels.length) (fun k => g.levels.length - k) 0 (Nat.zero_le _) ?_ ?_
        · subst hm
          exact SubI.of0 href [(100, 1000)] rfl ⟨⟨rfl, LeBx.rfl⟩, ⟨rfl, LeBx.rfl⟩, ⟨rfl, LeBx.rfl⟩, ⟨rfl, LeBx.cells ⟨LeQ.rfl, LeQ.rfl, LeQ.nil rfl, trivial⟩⟩, ⟨rfl, rfl⟩, trivial⟩ ⟨⟨rfl, LeQ.rfl⟩, ⟨rfl, LeQ.rfl⟩, ⟨rfl, LeQ.rfl⟩, ⟨rfl, LeQ.rfl⟩, ⟨rfl, LeQ.rfl⟩, ⟨rfl, LeQ.rfl⟩, ⟨rfl, LeQ.rfl⟩, trivial⟩
        · intro k hk
          have hbl := barL_len g m k
          have hbs := barL_succ g m k
          refine ex.sound (rc := [115]) tab_ok mix href _ ?_
          refine And.intro (fun h3 => ?_) (fun h3 => ?_)
          · have h3 : (k : Int) < g.levels.length := decT h3
            refine oi ⟨by omega, by omega⟩ ?_
            refine callN (bknown g k (by omega) (by omega)) ?_
            repeat first | refine sk ?_ | refine st ?_ | refine sg ?_ | refine sh ?_ | refine su ?_ | refine sn1 ?_ | refine sn0 ?_
            refine And.intro (fun h4 => ?_) (fun h4 => ?_)
            · have h4 : barC g m k = true := h4
              rw [h4, cond_true] at hbs
              refine ob (by decide) ?_
              refine ob (by rw [bif_len]; show _ * 8 ≤ _; omega) ?_
              refine ob (fit1 (lt1 rfl)) ?_
              refine ⟨k + 1, by omega, by omega, ?_⟩
              show SubI cx _ _ (clS2 g m (wayM g m fr to) (k + 1))
              unfold clS2
              rw [hbs]
              exact SubI.of0 href [(100, 61)] rfl ⟨⟨rfl, LeBx.rfl⟩, ⟨rfl, LeBx.rfl⟩, ⟨rfl, LeBx.rfl⟩, ⟨rfl, LeBx.cells ⟨LeQ.rfl, LeQ.rfl, LeQ.mo (isEmpty_snoc _ _), trivial⟩⟩, ⟨rfl, nearRow intRow rfl⟩, trivial⟩ ⟨⟨rfl, LeQ.rfl⟩, ⟨rfl, LeQ.rfl⟩, ⟨rfl, LeQ.rfl⟩, ⟨rfl, LeQ.rfl⟩, ⟨rfl, LeQ.rfl⟩, ⟨rfl, LeQ.rfl⟩, ⟨rfl, LeQ.int (w64_of (by omega) (by omega))⟩, trivial⟩
            · have h4 : barC g m k = false := h4
              rw [h4, cond_false, List.append_nil] at hbs
              refine ⟨k + 1, by omega, by omega, ?_⟩
              show SubI cx _ _ (clS2 g m (wayM g m fr to) (k + 1))
              unfold clS2
              rw [hbs]
              exact SubI.of0 href [] rfl ⟨⟨rfl, LeBx.rfl⟩, ⟨rfl, LeBx.rfl⟩, ⟨rfl, LeBx.rfl⟩, ⟨rfl, LeBx.rfl⟩, ⟨rfl, LeBx.rfl⟩, trivial⟩ ⟨⟨rfl, LeQ.rfl⟩, ⟨rfl, LeQ.rfl⟩, ⟨rfl, LeQ.rfl⟩, ⟨rfl, LeQ.rfl⟩, ⟨rfl, LeQ.rfl⟩, ⟨rfl, LeQ.rfl⟩, ⟨rfl, LeQ.int (w64_of (by omega) (by omega))⟩, trivial⟩
          · have h3 : ¬ (k : Int) < g.levels.length := decF h3
            obtain rfl : k = g.levels.length := by omega
            exact SubR.t ⟨⟨LeD.refl _, LeD.refl _, LeD.slc' (bif_len _) fun _ _ _ _ => LeD.refl _, trivial⟩, LeD.refl _, trivial⟩
    · have h1 : ¬ (i : Int) < ls.length := decF h1
      obtain rfl : i = ls.length := by omega
      rw [hj, List.drop_length]
      exact rRoute_nil rfl
end Go.Ch

namespace Go.Ch
open Go Go.Ax Go.Proofs Go.Proofs.Try
set_option maxRecDepth 100000
set_option pp.maxSteps 400
set_option maxHeartbeats 1000000

def wayBad (g : Grid) (l : List Int) (k : Nat) : Bool := !knownG g (l.getD k 0) || (decide ((k : Int) > 0) && !(nearL g (l.getD (k - 1) 0)).contains (l.getD k 0))
def wayRest (g : Grid) (l : List Int) : Nat → Nat → Int → Int × Bool
  | 0, _, h => (h, true)
  | n + 1, k, h => bif wayBad g l k then (0, false) else wayRest g l n (k + 1) (mm true h (levelAt g (l.getD k 0)))
def isWayG (g : Grid) (q : WayV) : Int × Bool :=
  bif (q.path.isEmpty || !q.fr.contains (q.path.getD 0 0)) || !q.to.contains (q.path.getD (q.path.length - 1) 0) then (0, false) else wayRest g q.path q.path.length 0 (-20000)
abbrev rIW (r : Int × Bool) : AV := .t [.s (.d (dI r.1)), .s (.d (.val (.bool r.2)))]
structure WayV.sm (q : WayV) : Prop where
  fr : q.fr.length ≤ 1000
  to : q.to.length ≤ 1000
  path : q.path.length ≤ 1000000
  bar : q.bar.length ≤ 1000000
theorem LeDlit {b : Bool} : LeD (.lit b) (.val (.bool b)) := fun _ _ r => r
theorem isWay (g : Grid) (q : WayV) (hg : GVal g) (hq : q.sm) : CallP Try.prog 130 [grid g, wayA q] (rIW (isWayG g q)) := by
  have hn := hg.n
  have hp := hq.path
  have hfr := hq.fr
  have hto := hq.to
  refine callP_of_ex (rc := []) (N := 73) Try.func130 rfl rfl Try.call130 tab_ok mix rfl rfl (fun cx href => ?_)
  repeat first | refine sk ?_ | refine st ?_ | refine sg ?_ | refine sh ?_ | refine su ?_ | refine sn1 ?_ | refine sn0 ?_
  refine og (fun h => ⟨Int.le_refl _, ?_⟩) ?_
  · have h : (!((q.path.length : Int) == 0)) = true := h
    rw [Bool.not_eq_true', beq_eq_false_iff_ne] at h
    show (0 : Int) < (q.path.length : Int)
    omega
  repeat first | refine sk ?_ | refine st ?_ | refine sg ?_ | refine sh ?_ | refine su ?_ | refine sn1 ?_ | refine sn0 ?_
  refine callG (ContainsI q.fr (q.path.getD 0 0) (by omega)) ?_
  repeat first | refine sk ?_ | refine st ?_ | refine sg ?_ | refine sh ?_ | refine su ?_ | refine sn1 ?_ | refine sn0 ?_
  refine og (fun h => ?_) ?_
  · have h : (!(((q.path.length : Int) == 0) || !q.fr.contains (q.path.getD 0 0))) = true := h
    rw [Bool.not_eq_true', Bool.or_eq_false_iff, beq_eq_false_iff_ne] at h
    have e : w64 ((q.path.length : Int) - 1) = (q.path.length : Int) - 1 := w64_of (by omega) (by omega)
    show 0 ≤ w64 ((q.path.length : Int) - 1) ∧ w64 ((q.path.length : Int) - 1) < (q.path.length : Int)
    omega
  repeat first | refine sk ?_ | refine st ?_ | refine sg ?_ | refine sh ?_ | refine su ?_ | refine sn1 ?_ | refine sn0 ?_
  refine callG (ContainsI q.to (q.path.getD (w64 ((q.path.length : Int) - 1)).toNat 0) (by omega)) ?_
  repeat first | refine sk ?_ | refine st ?_ | refine sg ?_ | refine sh ?_ | refine su ?_ | refine sn1 ?_ | refine sn0 ?_
  refine And.intro (by kernel_rfl) ?_
  have ei : (w64 ((q.path.length : Int) - 1)).toNat = q.path.length - 1 := by rw [w64_of (by omega) (by omega)]; omega
  unfold isWayG
  refine And.intro (fun h => ?_) (fun h => ?_)
  · have h : ((((q.path.length : Int) == 0) || !q.fr.contains (q.path.getD 0 0)) || !q.to.contains (q.path.getD (w64 ((q.path.length : Int) - 1)).toNat 0)) = true := h
    rw [ei, len0] at h
    rw [h, cond_true]
    exact SubR.t ⟨LeD.refl _, LeDlit, trivial⟩
  have h : ((((q.path.length : Int) == 0) || !q.fr.contains (q.path.getD 0 0)) || !q.to.contains (q.path.getD (w64 ((q.path.length : Int) - 1)).toNat 0)) = false := h
  rw [ei, len0] at h
  rw [h, cond_false]
  refine AW.loopI (fun s : Nat × Int => ⟨[(2, .s (.ptr 2 0)), (6, vInts q.path), (7, vI s.2), (37, vInts q.path), (38, vI q.path.length), (39, vI s.1)], [(2, some (gridB g))]⟩)
    (fun s => s.1 ≤ q.path.length ∧ wayRest g q.path q.path.length 0 (-20000) = wayRest g q.path (q.path.length - s.1) s.1 s.2 ∧ ∀ k, k < s.1 → knownG g (q.path.getD k 0) = true) (fun s => q.path.length - s.1) (0, -20000) ⟨Nat.zero_le _, rfl, fun k hk => absurd hk (Nat.not_lt_zero k)⟩ ?_ ?_
  · exact SubI.of0 href [] rfl ⟨⟨rfl, LeBx.rfl⟩, trivial⟩ ⟨⟨rfl, LeQ.rfl⟩, ⟨rfl, LeQ.rfl⟩, ⟨rfl, LeQ.rfl⟩, ⟨rfl, LeQ.rfl⟩, ⟨rfl, LeQ.rfl⟩, ⟨rfl, LeQ.rfl⟩, trivial⟩
  · rintro ⟨k, hi⟩ ⟨hk, he, hkn⟩
    simp only at hk he hkn ⊢
    refine ex.sound (rc := []) tab_ok mix href _ ?_
    refine And.intro (fun h1 => ?_) (fun h1 => ?_)
    · have h1 : (k : Int) < q.path.length := decT h1
      rw [show q.path.length - k = (q.path.length - (k + 1)) + 1 by omega, wayRest] at he
      refine oi ⟨by omega, by omega⟩ ?_
      refine callN (knownI g (q.path.getD k 0) (by omega)) ?_
      repeat first | refine sk ?_ | refine st ?_ | refine sg ?_ | refine sh ?_ | refine su ?_ | refine sn1 ?_ | refine sn0 ?_
      have ek : 0 < k → (w64 ((k : Int) - 1)).toNat = k - 1 := fun h => by rw [w64_of (by omega) (by omega)]; omega
      have hpos : ∀ {b : Bool}, (gpol false b && gpol true (decide ((k : Int) > 0))) = true → 0 < k := fun {b} h => by
        rw [Bool.and_eq_true] at h
        have : decide ((k : Int) > 0) = true := h.2
        have := of_decide_eq_true this
        omega
      refine og (fun h => ?_) ?_
      · have := hpos h
        show 0 ≤ w64 ((k : Int) - 1) ∧ w64 ((k : Int) - 1) < (q.path.length : Int)
        rw [w64_of (by omega) (by omega)]; omega
      repeat first | refine sk ?_ | refine st ?_ | refine sg ?_ | refine sh ?_ | refine su ?_ | refine sn1 ?_ | refine sn0 ?_
      refine callGo (r := vInts (nearL g (q.path.getD (w64 ((k : Int) - 1)).toNat 0))) (fun h => ?_) ?_
      · have hk0 := hpos h
        have hkk := hkn (k - 1) (by omega)
        unfold knownG at hkk
        rw [Bool.and_eq_true] at hkk
        have := there_iff.1 hkk.1
        rw [← ek hk0] at this
        exact near g _ hg this.1 this.2
      repeat first | refine sk ?_ | refine st ?_ | refine sg ?_ | refine sh ?_ | refine su ?_ | refine sn1 ?_ | refine sn0 ?_
      refine callG (ContainsI (nearL g (q.path.getD (w64 ((k : Int) - 1)).toNat 0)) (q.path.getD k 0) (Nat.le_trans nearL_len (by decide))) ?_
      repeat first | refine sk ?_ | refine st ?_ | refine sg ?_ | refine sh ?_ | refine su ?_ | refine sn1 ?_ | refine sn0 ?_
      refine And.intro (by kernel_rfl) ?_
      have hbad : wayBad g q.path k = (!knownG g (q.path.getD k 0) || (decide ((k : Int) > 0) && !(nearL g (q.path.getD (w64 ((k : Int) - 1)).toNat 0)).contains (q.path.getD k 0))) := by
        unfold wayBad
        by_cases hk0 : 0 < k
        · rw [ek hk0]
        · rw [decide_eq_false (by omega)]; simp
      refine And.intro (fun h2 => ?_) (fun h2 => ?_)
      · have h2 : (!knownG g (q.path.getD k 0) || (decide ((k : Int) > 0) && !(nearL g (q.path.getD (w64 ((k : Int) - 1)).toNat 0)).contains (q.path.getD k 0))) = true := h2
        rw [hbad, h2, cond_true] at he
        rw [he]
        exact SubR.t ⟨LeD.refl _, LeDlit, trivial⟩
      · have h2 : (!knownG g (q.path.getD k 0) || (decide ((k : Int) > 0) && !(nearL g (q.path.getD (w64 ((k : Int) - 1)).toNat 0)).contains (q.path.getD k 0))) = false := h2
        rw [hbad, h2, cond_false] at he
        have hkk : knownG g (q.path.getD k 0) = true := by
          rw [Bool.or_eq_false_iff] at h2
          simpa using h2.1
        have hth : 0 ≤ q.path.getD k 0 ∧ q.path.getD k 0 < g.levels.length := by
          unfold knownG at hkk
          rw [Bool.and_eq_true] at hkk
          exact there_iff.1 hkk.1
        refine oi ⟨hth.1, hth.2⟩ ?_
        refine ⟨(k + 1, mm true hi (levelAt g (q.path.getD k 0))), ⟨by simp only; omega, he, fun j hj => ?_⟩, by simp only; omega, ?_⟩
        · by_cases e : j = k
          · rw [e]; exact hkk
          · simp only at hj; exact hkn j (by omega)
        · exact SubI.of0 href [] rfl ⟨⟨rfl, LeBx.rfl⟩, trivial⟩ ⟨⟨rfl, LeQ.rfl⟩, ⟨rfl, LeQ.rfl⟩, ⟨rfl, LeQ.rfl⟩, ⟨rfl, LeQ.rfl⟩, ⟨rfl, LeQ.rfl⟩, ⟨rfl, LeQ.int (w64_of (by omega) (by omega))⟩, trivial⟩
    · have h1 : ¬ (k : Int) < q.path.length := decF h1
      obtain rfl : k = q.path.length := by omega
      rw [Nat.sub_self, wayRest] at he
      rw [he]
      exact SubR.t ⟨LeD.refl _, LeDlit, trivial⟩
end Go.Ch

namespace Go.Ch
open Go Go.Ax Go.Proofs Go.Proofs.Try
set_option maxRecDepth 100000
set_option pp.maxSteps 400
set_option maxHeartbeats 1000000

def barBad (g : Grid) (h : Int) (i : Int) : Bool := !knownG g i || decide (levelAt g i < h)
def wayF (g : Grid) (q : WayV) : List Int := wayL g.levels.length (okFree g q.bar) (nearL g) q.fr q.to
def checkG (g : Grid) (q : WayV) : Int :=
  bif endsG g q.fr q.to != 0 then endsG g q.fr q.to else
  bif !(isWayG g q).2 || ((isWayG g q).1 != q.level) then 21 else
  bif q.bar.any (barBad g (isWayG g q).1) then 21 else
  bif !(wayF g q).isEmpty then 21 else 0
theorem gCheckClear (g : Grid) (q : WayV) (hg : g.ok) (hq : q.sm) : CallP Try.prog 73 [grid g, wayA q] (vI (checkG g q)) := by
  have hb := hq.bar
  refine callP_of_ex (rc := [115]) (N := 65) Try.func73 rfl rfl Try.call73 tab_ok mix rfl rfl (fun cx href => ?_)
  refine callN (ends g q.fr q.to hg hq.fr hq.to) ?_
  unfold checkG
  refine And.intro (fun h => ?_) (fun h => ?_)
  · have h : (endsG g q.fr q.to != 0) = true := h
    rw [h, cond_true]
    exact SubR.refl _
  have h : (endsG g q.fr q.to != 0) = false := h
  rw [h, cond_false]
  have hv : GVal g := GVal.of (endsG_zero (by simpa using h)).1
  have hn := hv.n
  refine callN (isWay g q hv hq) ?_
  repeat first | refine sk ?_ | refine st ?_ | refine sg ?_ | refine sh ?_ | refine su ?_ | refine sn1 ?_ | refine sn0 ?_
  refine And.intro (fun h1 => ?_) (fun h1 => ?_)
  · have h1 : (!(isWayG g q).2 || ((isWayG g q).1 != q.level)) = true := h1
    rw [h1, cond_true]
    exact SubR.refl _
  have h1 : (!(isWayG g q).2 || ((isWayG g q).1 != q.level)) = false := h1
  rw [h1, cond_false]
  generalize hH : (isWayG g q).1 = H
  refine AW.loopI (fun i : Nat => ⟨[(2, .s (.ptr 2 0)), (3, .s (.ptr 3 0)), (6, vI H), (36, vInts q.bar), (37, vI q.bar.length), (38, vI i)], [(2, some (gridB g)), (3, some (wayB q))]⟩)
    (fun i => i ≤ q.bar.length ∧ q.bar.any (barBad g H) = (q.bar.drop i).any (barBad g H)) (fun i => q.bar.length - i) 0 ⟨Nat.zero_le _, rfl⟩ ?_ ?_
  · exact SubI.of0 href [] rfl ⟨⟨rfl, LeBx.rfl⟩, ⟨rfl, LeBx.rfl⟩, trivial⟩ ⟨⟨rfl, LeQ.rfl⟩, ⟨rfl, LeQ.rfl⟩, ⟨rfl, LeQ.rfl⟩, ⟨rfl, LeQ.rfl⟩, ⟨rfl, LeQ.rfl⟩, ⟨rfl, LeQ.rfl⟩, trivial⟩
  · rintro i ⟨hi, hj⟩
    refine ex.sound (rc := [115]) tab_ok mix href _ ?_
    refine And.intro (fun h2 => ?_) (fun h2 => ?_)
    · have h2 : (i : Int) < q.bar.length := decT h2
      have hi' : i < q.bar.length := by omega
      have hx : q.bar[i] = q.bar.getD i 0 := by simp [hi']
      rw [List.drop_eq_getElem_cons hi', List.any_cons, hx] at hj
      refine oi ⟨by omega, by omega⟩ ?_
      refine callN (knownI g (q.bar.getD i 0) (by omega)) ?_
      repeat first | refine sk ?_ | refine st ?_ | refine sg ?_ | refine sh ?_ | refine su ?_ | refine sn1 ?_ | refine sn0 ?_
      refine og (fun h => ?_) ?_
      · have h : (!(!knownG g (q.bar.getD i 0))) = true := h
        rw [Bool.not_not] at h
        unfold knownG at h
        rw [Bool.and_eq_true] at h
        exact there_iff.1 h.1
      repeat first | refine sk ?_ | refine st ?_ | refine sg ?_ | refine sh ?_ | refine su ?_ | refine sn1 ?_ | refine sn0 ?_
      refine And.intro (fun h3 => ?_) (fun h3 => ?_)
      · have h3 : barBad g H (q.bar.getD i 0) = true := h3
        rw [hj, h3, Bool.true_or, cond_true]
        exact SubR.refl _
      · have h3 : barBad g H (q.bar.getD i 0) = false := h3
        rw [h3, Bool.false_or] at hj
        refine ⟨i + 1, ⟨by omega, hj⟩, by omega, ?_⟩
        exact SubI.of0 href [] rfl ⟨⟨rfl, LeBx.rfl⟩, ⟨rfl, LeBx.rfl⟩, trivial⟩ ⟨⟨rfl, LeQ.rfl⟩, ⟨rfl, LeQ.rfl⟩, ⟨rfl, LeQ.rfl⟩, ⟨rfl, LeQ.rfl⟩, ⟨rfl, LeQ.rfl⟩, ⟨rfl, LeQ.int (w64_of (by omega) (by omega))⟩, trivial⟩
    · have h2 : ¬ (i : Int) < q.bar.length := decF h2
      obtain rfl : i = q.bar.length := by omega
      rw [hj, List.drop_length, List.any_nil, cond_false]
      refine ⟨[(1001, 3)], _, _, _, _, wayCheck g q q.fr q.to hv hq.fr hq.to hb, rfl, ⟨rfl, trivial⟩, rfl, ?_⟩
      refine And.intro (fun h3 => ?_) (fun h3 => ?_)
      · have h3 : decide (((wayF g q).length : Int) > 0) = true := h3
        have h3 := of_decide_eq_true h3
        have : (wayF g q).isEmpty = false := by
          cases hw : wayF g q with
          | nil => rw [hw] at h3; simp at h3
          | cons => rfl
        rw [this]
        exact SubR.refl _
      · have h3 : decide (((wayF g q).length : Int) > 0) = false := h3
        have h3 := of_decide_eq_false h3
        have : (wayF g q).isEmpty = true := by
          cases hw : wayF g q with
          | nil => rfl
          | cons a r => exfalso; rw [hw] at h3; simp only [List.length_cons] at h3; omega
        rw [this]
        exact SubR.refl _
end Go.Ch

namespace Go.Ch
open Go Go.Ax Go.Proofs Go.Proofs.Try
set_option maxRecDepth 100000
set_option pp.maxSteps 400
set_option maxHeartbeats 1000000

def smallG : Grid := ⟨0, 0, 100, 3, 2, [-500, -300, -400, -600, 30000, -450]⟩
def afterG : Grid := ⟨0, 0, 100, 3, 2, [-500, -500, -350, -600, -700, -450]⟩
def smallW : WayV := ⟨[3], [5], -300, [3, 0, 1, 2, 5], [1]⟩
theorem smallG_ok : smallG.ok := by
  refine ⟨by decide, by decide, by decide, by decide, by decide, by decide, ?_⟩
  intro a ha
  simp only [smallG, List.mem_cons, List.not_mem_nil, or_false] at ha
  rcases ha with rfl | rfl | rfl | rfl | rfl | rfl <;> decide
theorem afterG_ok : afterG.ok := by
  refine ⟨by decide, by decide, by decide, by decide, by decide, by decide, ?_⟩
  intro a ha
  simp only [afterG, List.mem_cons, List.not_mem_nil, or_false] at ha
  rcases ha with rfl | rfl | rfl | rfl | rfl | rfl <;> decide
theorem sortI_eq {l m : List Int} (h : l.Perm m) (hm : m.Pairwise (fun a b => a ≤ b)) : sortI l = m :=
  List.Perm.eq_of_pairwise (le := fun a b => a ≤ b) (fun a b _ _ h1 h2 => by omega) (sortI_pw l) hm ((List.mergeSort_perm l _).trans h)
theorem levels_small : levelsL smallG.levels = [-600, -500, -450, -400, -300] := sortI_eq (by decide) (by decide)
theorem clear_small : clearG smallG [3] [5] = (-300, [3, 0, 1, 2, 5], [1], 0) := by
  unfold clearG
  rw [levels_small]
  decide +kernel
theorem check_small : checkG smallG smallW = 0 := by decide +kernel
theorem cmp_small : cmpR smallG afterG = (⟨2000000, 500000, 1⟩, 0) := by kernel_rfl
theorem bsmall : CallP Try.prog 74 [] (grid smallG) := by
  refine callP_of_ex (rc := []) (N := 3) Try.func74 rfl rfl Try.call74 tab_ok mix rfl rfl (fun cx _ => ?_)
  refine SubR.le ⟨LeD.refl _, LeD.refl _, LeD.refl _, LeD.refl _, LeD.refl _, LeD.slc' rfl fun i j hi hj => ?_, trivial⟩
  have hi : i < 6 := hi
  obtain rfl : j = 0 := by have : j < 1 := hj; omega
  match i, hi with
  | 0, _ => exact LeD.of_eq rfl
  | 1, _ => exact LeD.of_eq rfl
  | 2, _ => exact LeD.of_eq rfl
  | 3, _ => exact LeD.of_eq rfl
  | 4, _ => exact LeD.of_eq rfl
  | 5, _ => exact LeD.of_eq rfl
theorem one1 {x : Int} {f : Nat → Nat → DV} (h : f 0 0 = dI x := by rfl) : LeD (.slc 1 1 f) (dInts [x]) := LeD.slc fun i j hi hj => by
  obtain rfl : i = 0 := by omega
  obtain rfl : j = 0 := by omega
  exact LeD.of_eq h
theorem bawake : CallP Try.prog 17 [] (vB true) := by
  have hc := gClear smallG [3] [5] smallG_ok (by decide) (by decide)
  rw [clear_small] at hc
  have hk := gCheckClear smallG smallW smallG_ok ⟨by decide, by decide, by decide, by decide⟩
  rw [check_small] at hk
  have hm := gCompare smallG afterG smallG_ok afterG_ok
  rw [cmp_small] at hm
  refine callP_of_ex (rc := [2000062]) (N := 47) Try.func17 rfl rfl Try.call17 tab_ok mix rfl rfl (fun cx href => ?_)
  refine callN bsmall ?_
  refine callN bsmall ?_
  refine callN (hm.conv (args' := _) ⟨⟨LeD.refl _, LeD.refl _, LeD.refl _, LeD.refl _, LeD.refl _, LeD.refl _, trivial⟩, ⟨LeD.refl _, LeD.refl _, LeD.refl _, LeD.refl _, LeD.refl _, ?_, trivial⟩, trivial⟩) ?_
  · refine LeD.slc' rfl fun i j hi hj => ?_
    have hi : i < 6 := hi
    obtain rfl : j = 0 := by have : j < 1 := hj; omega
    match i, hi with
    | 0, _ => exact LeD.of_eq rfl
    | 1, _ => exact LeD.of_eq rfl
    | 2, _ => exact LeD.of_eq rfl
    | 3, _ => exact LeD.of_eq rfl
    | 4, _ => exact LeD.of_eq rfl
    | 5, _ => exact LeD.of_eq rfl
  refine And.intro (by kernel_rfl) ?_
  refine callN bsmall ?_
  refine ⟨[17, 18], _, hc.conv (args' := _) ⟨⟨LeD.refl _, LeD.refl _, LeD.refl _, LeD.refl _, LeD.refl _, LeD.refl _, trivial⟩, one1, one1, trivial⟩, ?_⟩
  repeat first | refine sk ?_ | refine st ?_ | refine sg ?_ | refine sh ?_ | refine su ?_ | refine sn1 ?_ | refine sn0 ?_
  refine callG bsmall ?_
  repeat first | refine sk ?_ | refine st ?_ | refine sg ?_ | refine sh ?_ | refine su ?_ | refine sn1 ?_ | refine sn0 ?_
  refine ob (by kernel_rfl) ?_
  refine ob (by kernel_rfl) ?_
  repeat first | refine sk ?_ | refine st ?_ | refine sg ?_ | refine sh ?_ | refine su ?_ | refine sn1 ?_ | refine sn0 ?_
  refine callG (CallP.conv hk ?_) ?_
  · exact ⟨⟨LeD.refl _, LeD.refl _, LeD.refl _, LeD.refl _, LeD.refl _, LeD.refl _, trivial⟩, ⟨one1, one1, LeD.refl _, LeD.refl _, LeD.refl _, trivial⟩, trivial⟩
  repeat first | refine sk ?_ | refine st ?_ | refine sg ?_ | refine sh ?_ | refine su ?_ | refine sn1 ?_ | refine sn0 ?_
  refine And.intro (by kernel_rfl) ?_
  exact SubR.lit (by kernel_rfl)
end Go.Ch

namespace Go.Ch
open Go Go.Ax Go.Proofs Go.Proofs.Try
set_option maxRecDepth 100000
set_option pp.maxSteps 400
set_option maxHeartbeats 1000000

def withG (g : Grid) (lv : Nat → Int) : Grid := ⟨g.x, g.y, g.side, g.cols, g.rows, (List.range g.levels.length).map lv⟩
def wF (lv : Nat → Int) (i : Nat) : Nat → Nat → DV := fun k _ => if k < i then dI (lv k) else dI 0
theorem bwith (g : Grid) (f k : Nat) (c : Nat → DV) (lv : Nat → Int) (h0 : 0 < g.levels.length) (hn : g.levels.length ≤ 1024) (hp : ∀ i, i < g.levels.length → CallP Try.prog f (vI i :: capD c k 0) (vI (lv i))) :
    CallP Try.prog 82 [grid g, .s (.d (.clo f k c))] (grid (withG g lv)) := by
  refine callP_of_ex (rc := []) (N := 28) Try.func82 rfl rfl Try.call82 tab_ok mix rfl rfl (fun cx href => ?_)
  refine ob (by omega) ?_
  refine ob (by omega) ?_
  refine ob (by show (8 : Int) * (g.levels.length : Int) ≤ 281474976710656; omega) ?_
  refine AW.loopI (fun i : Nat => ⟨[(1, .s (.d (.clo f k c))), (2, .s (.ptr 2 0)), (4, .s (.ptr 4 0)), (5, .s (.ptr 5 0)), (15, vI g.levels.length), (16, vI i)],
      [(2, some (gridB g)), (4, some (.cells [.d (dI 0), .d (dI 0), .d (dI 0), .d (dI 0), .d (dI 0), nilS])), (5, some (.cells [.d (dI g.x), .d (dI g.y), .d (dI g.side), .d (dI g.cols), .d (dI g.rows), .own 11])), (11, some (.row 3 g.levels.length 1 (wF lv i)))]⟩)
    (fun i => i ≤ g.levels.length) (fun i => g.levels.length - i) 0 (Nat.zero_le _) ?_ ?_
  · refine SubI.of0 href [] rfl ⟨⟨rfl, LeBx.rfl⟩, ⟨rfl, LeBx.rfl⟩, ⟨rfl, LeBx.rfl⟩, ⟨rfl, LeBx.row rfl fun i j _ hj => LeD.of_eq ?_⟩, trivial⟩ ⟨⟨rfl, LeQ.rfl⟩, ⟨rfl, LeQ.rfl⟩, ⟨rfl, LeQ.rfl⟩, ⟨rfl, LeQ.rfl⟩, ⟨rfl, LeQ.rfl⟩, ⟨rfl, LeQ.rfl⟩, trivial⟩
    have hj : j < 1 := hj
    obtain rfl : j = 0 := by omega
    rfl
  · intro i hi
    refine ex.sound (rc := []) tab_ok mix href _ ?_
    refine And.intro (fun h => ?_) (fun h => ?_)
    · have h : (i : Int) < g.levels.length := decT h
      refine callN ((hp i (by omega)).conv (args' := _) ⟨LeD.refl _, LeAs.capD⟩) ?_
      refine oi ⟨by omega, by omega⟩ ?_
      refine ob (show (i : Int).toNat < g.levels.length by omega) ?_
      refine And.intro (by kernel_rfl) ?_
      refine ⟨i + 1, by omega, by omega, ?_⟩
      refine SubI.of0 href [] rfl ⟨⟨rfl, LeBx.rfl⟩, ⟨rfl, LeBx.rfl⟩, ⟨rfl, LeBx.rfl⟩, ⟨rfl, LeBx.row rfl fun k j hk hj => LeD.of_eq ?_⟩, trivial⟩ ⟨⟨rfl, LeQ.rfl⟩, ⟨rfl, LeQ.rfl⟩, ⟨rfl, LeQ.rfl⟩, ⟨rfl, LeQ.rfl⟩, ⟨rfl, LeQ.rfl⟩, ⟨rfl, LeQ.int (w64_of (by omega) (by omega))⟩, trivial⟩
      obtain rfl : j = 0 := by omega
      by_cases hki : k = i
      · subst hki
        refine rowSet_self.trans ?_
        unfold wF
        rw [if_pos (Nat.lt_succ_self _)]
      · refine (rowSet_ne hki).trans ?_
        unfold wF
        by_cases hlt : k < i
        · rw [if_pos hlt, if_pos (by omega)]
        · rw [if_neg hlt, if_neg (by omega)]
    · have h : ¬ (i : Int) < g.levels.length := decF h
      obtain rfl : i = g.levels.length := by omega
      refine SubR.le ⟨LeD.refl _, LeD.refl _, LeD.refl _, LeD.refl _, LeD.refl _, LeD.slc' (by simp [withG]) fun k j hk hj => LeD.of_eq ?_, trivial⟩
      unfold wF intEl
      rw [if_pos hk]
      congr 2
      simp [withG, hk]
theorem blank1 (i : Int) : CallP Try.prog 83 [vI i] (vI 30000) := by
  refine callP_of_ex (rc := []) (N := 3) Try.func83 rfl rfl Try.call83 tab_ok mix rfl rfl (fun cx _ => ?_)
  exact SubR.refl _
def blankG (g : Grid) : Grid × Int := bif errG g != 0 then (zeroG, errG g) else (withG g fun _ => 30000, 0)
theorem GVal.pos {g : Grid} (h : GVal g) : 0 < g.levels.length := by
  have h1 := h.len
  have h2 := h.cols
  have h3 := h.rows
  have : 0 < g.cols * g.rows := Int.mul_pos (by omega) (by omega)
  omega
theorem gBlank (g : Grid) (hg : g.ok) : CallP Try.prog 29 [grid g] (rGE (blankG g).1 (blankG g).2) := by
  refine callP_of_ex (rc := [2000082]) (N := 13) Try.func29 rfl rfl Try.call29 tab_ok mix rfl rfl (fun cx _ => ?_)
  refine callN (bcheck g hg.levels) ?_
  unfold blankG
  refine And.intro (fun h => ?_) (fun h => ?_)
  · have h : (errG g != 0) = true := h
    rw [h, cond_true]
    exact zero_rGE rfl
  · have h : (errG g != 0) = false := h
    rw [h, cond_false]
    have gv : GVal g := GVal.of (show errG g = 0 by simpa using h)
    refine ⟨[], _, bwith g 83 0 (fun _ => .junk) (fun _ => 30000) gv.pos gv.n (fun i _ => blank1 i), ?_⟩
    exact SubR.of_eq rfl
end Go.Ch

namespace Go.Ch
open Go Go.Ax Go.Proofs Go.Proofs.Try
set_option maxRecDepth 100000
set_option pp.maxSteps 400
set_option maxHeartbeats 1000000

theorem bzero : CallP Try.prog 32 [grid zeroG] (vB true) := by
  refine callP_of_ex (rc := []) (N := 6) Try.func32 rfl rfl Try.call32 tab_ok mix rfl rfl (fun cx _ => ?_)
  refine callN ((rSame zeroG (by decide)).conv (args' := _) ⟨⟨LeD.refl _, LeD.refl _, LeD.refl _, LeD.refl _, LeD.refl _, LeD.refl _, trivial⟩, ⟨LeD.refl _, LeD.refl _, LeD.refl _, LeD.refl _, LeD.refl _, LeD.nil, trivial⟩, trivial⟩) ?_
  exact SubR.refl _
theorem alike_with (g : Grid) (lv : Nat → Int) : alike (withG g lv) g = true := by
  unfold alike withG
  simp
attribute [local irreducible] errG few in
theorem Checks (g : Grid) (hg : g.ok) : CallP Try.prog 4 [grid g] (vB true) := by
  refine callP_of_ex (rc := []) (N := 58) Try.func4 rfl rfl Try.call4 tab_ok mix rfl rfl (fun cx href => ?_)
  refine callN bawake ?_
  refine And.intro (fun h => by cases h) (fun _ => ?_)
  refine callN (Few g hg.levels) ?_
  refine And.intro (fun _ => SubR.lit rfl) (fun h1 => ?_)
  have h1 : (!few g) = false := h1
  have hl := few_len (g := g) (by simpa using h1)
  refine callN (CopyGrid g (by omega)) ?_
  refine callN (gBlank g hg) ?_
  refine callN (RCheck g hg.levels) ?_
  refine callN (bcheck g hg.levels) ?_
  repeat first | refine sk ?_ | refine st ?_ | refine sg ?_ | refine sh ?_ | refine su ?_ | refine sn1 ?_ | refine sn0 ?_
  have hbe : (blankG g).2 = errG g := by
    unfold blankG
    cases h : errG g != 0 with
    | true => rfl
    | false => have : errG g = 0 := by simpa using h
               rw [this]; rfl
  refine And.intro (fun h2 => ?_) (fun _ => ?_)
  · exfalso
    have h2 : ((errG g != errG g) || ((blankG g).2 != errG g)) = true := h2
    rw [hbe] at h2
    simp at h2
  refine And.intro (fun h2 => ?_) (fun h2 => ?_)
  · have h2 : (errG g != 0) = true := h2
    have e : (blankG g).1 = zeroG := by unfold blankG; rw [h2]; rfl
    rw [e]
    refine callN bzero ?_
    exact SubR.refl _
  have h2 : (errG g != 0) = false := h2
  have e : (blankG g).1 = withG g fun _ => 30000 := by unfold blankG; rw [h2]; rfl
  rw [e]
  have hw : (withG g fun _ => 30000).levels.length = g.levels.length := by simp [withG]
  generalize hb : (withG g fun _ => 30000) = b at hw
  refine AW.loopI (fun i : Nat => ⟨[(1, .s (.ptr 1 0)), (3, .s (.ptr 3 0)), (6, vI i)], [(1, some (gridB g)), (3, some (gridB b))]⟩)
    (fun i => i ≤ b.levels.length) (fun i => b.levels.length - i) 0 (Nat.zero_le _) ?_ ?_
  · exact SubI.of0 href [] rfl ⟨⟨rfl, LeBx.rfl⟩, ⟨rfl, LeBx.rfl⟩, trivial⟩ ⟨⟨rfl, LeQ.rfl⟩, ⟨rfl, LeQ.rfl⟩, ⟨rfl, LeQ.rfl⟩, trivial⟩
  · intro i hi
    refine ex.sound (rc := []) tab_ok mix href _ ?_
    refine And.intro (fun h => ?_) (fun h => ?_)
    · have h : (i : Int) < b.levels.length := decT h
      refine oi ⟨by omega, by omega⟩ ?_
      refine And.intro (fun h3 => ?_) (fun _ => ?_)
      · exfalso
        have h3 : (b.levels.getD i 0 != 30000) = true := h3
        have : b.levels.getD i 0 = 30000 := by
          rw [← hb]
          have hi' : i < g.levels.length := by omega
          simp [withG, hi']
        rw [this] at h3
        simp at h3
      · refine ⟨i + 1, by omega, by omega, ?_⟩
        exact SubI.of0 href [] rfl ⟨⟨rfl, LeBx.rfl⟩, ⟨rfl, LeBx.rfl⟩, trivial⟩ ⟨⟨rfl, LeQ.rfl⟩, ⟨rfl, LeQ.rfl⟩, ⟨rfl, LeQ.int (w64_of (by omega) (by omega))⟩, trivial⟩
    · refine callN (Alike b g) ?_
      repeat first | refine sk ?_ | refine st ?_ | refine sg ?_ | refine sh ?_ | refine su ?_ | refine sn1 ?_ | refine sn0 ?_
      refine SubR.of_eq ?_
      show vB (alike b g && ((b.levels.length : Int) == (g.levels.length : Int))) = vB true
      rw [← hb, alike_with]
      simp [withG]
end Go.Ch

namespace Go.Ch
open Go Go.Ax Go.Proofs Go.Proofs.Try
set_option maxRecDepth 100000
set_option pp.maxSteps 400
set_option maxHeartbeats 1000000

def abS (g : Grid) (lv : Int) (s : Int × Int) (i : Nat) : Int × Int :=
  bif g.levels.getD i 0 != 30000 && decide (g.levels.getD i 0 > lv) then (w64 (s.1 + w64 (w64 (g.side * g.side) * w64 (g.levels.getD i 0 - lv))), w64 (s.2 + 1)) else s
def abF (g : Grid) (lv : Int) : Nat → Int × Int
  | 0 => (0, 0)
  | i + 1 => abS g lv (abF g lv i) i
def aboveG (g : Grid) (lv : Int) : Int × Int × Int :=
  bif errG g != 0 then (0, 0, errG g) else bif !within lv (-20000) 20000 then (0, 0, 2) else ((abF g lv g.levels.length).1, (abF g lv g.levels.length).2, 0)
theorem gAbove (g : Grid) (lv : Int) (hg : g.ok) : CallP Try.prog 57 [grid g, vI lv] (.t [.s (.d (dI (aboveG g lv).1)), .s (.d (dI (aboveG g lv).2.1)), .s (.d (dI (aboveG g lv).2.2))]) := by
  refine callP_of_ex (rc := []) (N := 50) Try.func57 rfl rfl Try.call57 tab_ok mix rfl rfl (fun cx href => ?_)
  refine callN (bcheck g hg.levels) ?_
  unfold aboveG
  refine And.intro (fun h => ?_) (fun h => ?_)
  · have h : (errG g != 0) = true := h
    rw [h, cond_true]
    exact SubR.refl _
  have h : (errG g != 0) = false := h
  rw [h, cond_false]
  have gv : GVal g := GVal.of (show errG g = 0 by simpa using h)
  have hn := gv.n
  refine callN (isLevel lv) ?_
  refine And.intro (fun h1 => ?_) (fun h1 => ?_)
  · have h1 : (!within lv (-20000) 20000) = true := h1
    rw [h1, cond_true]
    exact SubR.refl _
  have h1 : (!within lv (-20000) 20000) = false := h1
  rw [h1, cond_false]
  refine AW.loopI (fun i : Nat => ⟨[(1, vI lv), (2, .s (.ptr 2 0)), (4, vI (abF g lv i).1), (5, vI (abF g lv i).2), (19, vInts g.levels), (20, vI g.levels.length), (21, vI i)], [(2, some (gridB g))]⟩)
    (fun i => i ≤ g.levels.length) (fun i => g.levels.length - i) 0 (Nat.zero_le _) ?_ ?_
  · exact SubI.of0 href [] rfl ⟨⟨rfl, LeBx.rfl⟩, trivial⟩ ⟨⟨rfl, LeQ.rfl⟩, ⟨rfl, LeQ.rfl⟩, ⟨rfl, LeQ.rfl⟩, ⟨rfl, LeQ.rfl⟩, ⟨rfl, LeQ.rfl⟩, ⟨rfl, LeQ.rfl⟩, ⟨rfl, LeQ.rfl⟩, trivial⟩
  · intro i hi
    refine ex.sound (rc := []) tab_ok mix href _ ?_
    refine And.intro (fun h => ?_) (fun h => ?_)
    · have h : (i : Int) < g.levels.length := decT h
      refine oi ⟨by omega, by omega⟩ ?_
      refine callN (bknown g i (by omega) (by omega)) ?_
      repeat first | refine sk ?_ | refine st ?_ | refine sg ?_ | refine sh ?_ | refine su ?_ | refine sn1 ?_ | refine sn0 ?_
      refine And.intro (fun h2 => ?_) (fun h2 => ?_)
      · have h2 : (g.levels.getD i 0 != 30000 && decide (g.levels.getD i 0 > lv)) = true := h2
        have e : abF g lv (i + 1) = (w64 ((abF g lv i).1 + w64 (w64 (g.side * g.side) * w64 (g.levels.getD i 0 - lv))), w64 ((abF g lv i).2 + 1)) := by rw [abF, abS, h2]; rfl
        refine ⟨i + 1, by omega, by omega, ?_⟩
        exact SubI.of0 href [] rfl ⟨⟨rfl, LeBx.rfl⟩, trivial⟩ ⟨⟨rfl, LeQ.rfl⟩, ⟨rfl, LeQ.rfl⟩, ⟨rfl, LeQ.int (by (first | (rw [e]; done) | (rw [e]; rfl)))⟩, ⟨rfl, LeQ.int (by (first | (rw [e]; done) | (rw [e]; rfl)))⟩, ⟨rfl, LeQ.rfl⟩, ⟨rfl, LeQ.rfl⟩, ⟨rfl, LeQ.int (w64_of (by omega) (by omega))⟩, trivial⟩
      · have h2 : (g.levels.getD i 0 != 30000 && decide (g.levels.getD i 0 > lv)) = false := h2
        have e : abF g lv (i + 1) = abF g lv i := by rw [abF, abS, h2]; rfl
        refine ⟨i + 1, by omega, by omega, ?_⟩
        exact SubI.of0 href [] rfl ⟨⟨rfl, LeBx.rfl⟩, trivial⟩ ⟨⟨rfl, LeQ.rfl⟩, ⟨rfl, LeQ.rfl⟩, ⟨rfl, LeQ.int (by (first | (rw [e]; done) | (rw [e]; rfl)))⟩, ⟨rfl, LeQ.int (by (first | (rw [e]; done) | (rw [e]; rfl)))⟩, ⟨rfl, LeQ.rfl⟩, ⟨rfl, LeQ.rfl⟩, ⟨rfl, LeQ.int (w64_of (by omega) (by omega))⟩, trivial⟩
    · have h : ¬ (i : Int) < g.levels.length := decF h
      obtain rfl : i = g.levels.length := by omega
      exact SubR.refl _
theorem knownF_in {g : Grid} {i : Nat} (hi : i < g.levels.length) : knownF g i = (g.levels.getD i 0 != 30000) := by
  unfold knownF
  rw [decide_eq_true (show (i : Int) ≥ 0 by omega), decide_eq_true (show (i : Int) < g.levels.length by omega)]
  rfl
theorem rAbove (g : Grid) (lv : Int) (hn : g.levels.length ≤ 1024) : CallP Try.prog 59 [grid g, vI lv] (.t [.s (.d (dI (abF g lv g.levels.length).1)), .s (.d (dI (abF g lv g.levels.length).2))]) := by
  refine callP_of_ex (rc := []) (N := 47) Try.func59 rfl rfl Try.call59 tab_ok mix rfl rfl (fun cx href => ?_)
  refine AW.loopI (fun i : Nat => ⟨[(1, vI lv), (2, .s (.ptr 2 0)), (6, vI (abF g lv i).1), (7, vI (abF g lv i).2), (8, vI i)], [(2, some (gridB g))]⟩)
    (fun i => i ≤ g.levels.length) (fun i => g.levels.length - i) 0 (Nat.zero_le _) ?_ ?_
  · exact SubI.of0 href [] rfl ⟨⟨rfl, LeBx.rfl⟩, trivial⟩ ⟨⟨rfl, LeQ.rfl⟩, ⟨rfl, LeQ.rfl⟩, ⟨rfl, LeQ.rfl⟩, ⟨rfl, LeQ.rfl⟩, ⟨rfl, LeQ.rfl⟩, trivial⟩
  · intro i hi
    refine ex.sound (rc := []) tab_ok mix href _ ?_
    refine And.intro (fun h => ?_) (fun h => ?_)
    · have h : (i : Int) < g.levels.length := decT h
      refine callN (rKnown g i) ?_
      rw [knownF_in (by omega)]
      repeat first | refine sk ?_ | refine st ?_ | refine sg ?_ | refine sh ?_ | refine su ?_ | refine sn1 ?_ | refine sn0 ?_
      refine og (fun _ => ⟨by omega, by omega⟩) ?_
      repeat first | refine sk ?_ | refine st ?_ | refine sg ?_ | refine sh ?_ | refine su ?_ | refine sn1 ?_ | refine sn0 ?_
      refine And.intro (fun h2 => ?_) (fun h2 => ?_)
      · have h2 : (g.levels.getD i 0 != 30000 && decide (g.levels.getD i 0 > lv)) = true := h2
        have e : abF g lv (i + 1) = (w64 ((abF g lv i).1 + w64 (w64 (g.side * g.side) * w64 (g.levels.getD i 0 - lv))), w64 ((abF g lv i).2 + 1)) := by rw [abF, abS, h2]; rfl
        refine oi ⟨by omega, by omega⟩ ?_
        refine And.intro (by kernel_rfl) ?_
        refine ⟨i + 1, by omega, by omega, ?_⟩
        exact SubI.of0 href [] rfl ⟨⟨rfl, LeBx.rfl⟩, trivial⟩ ⟨⟨rfl, LeQ.rfl⟩, ⟨rfl, LeQ.rfl⟩, ⟨rfl, LeQ.int (by (first | (rw [e]; done) | (rw [e]; rfl)))⟩, ⟨rfl, LeQ.int (by (first | (rw [e]; done) | (rw [e]; rfl)))⟩, ⟨rfl, LeQ.int (w64_of (by omega) (by omega))⟩, trivial⟩
      · have h2 : (g.levels.getD i 0 != 30000 && decide (g.levels.getD i 0 > lv)) = false := h2
        have e : abF g lv (i + 1) = abF g lv i := by rw [abF, abS, h2]; rfl
        refine ⟨i + 1, by omega, by omega, ?_⟩
        exact SubI.of0 href [] rfl ⟨⟨rfl, LeBx.rfl⟩, trivial⟩ ⟨⟨rfl, LeQ.rfl⟩, ⟨rfl, LeQ.rfl⟩, ⟨rfl, LeQ.int (by (first | (rw [e]; done) | (rw [e]; rfl)))⟩, ⟨rfl, LeQ.int (by (first | (rw [e]; done) | (rw [e]; rfl)))⟩, ⟨rfl, LeQ.int (w64_of (by omega) (by omega))⟩, trivial⟩
    · have h : ¬ (i : Int) < g.levels.length := decF h
      obtain rfl : i = g.levels.length := by omega
      exact SubR.refl _
attribute [local irreducible] errG few in
theorem Above (g : Grid) (lv : Int) (hg : g.ok) : CallP Try.prog 11 [grid g, vI lv] (vB true) := by
  refine callP_of_ex (rc := []) (N := 63) Try.func11 rfl rfl Try.call11 tab_ok mix rfl rfl (fun cx href => ?_)
  refine callN bawake ?_
  refine And.intro (fun h => by cases h) (fun _ => ?_)
  refine callN (Few g hg.levels) ?_
  refine And.intro (fun _ => SubR.lit rfl) (fun h1 => ?_)
  refine callN (gAbove g lv hg) ?_
  refine callN (RCheck g hg.levels) ?_
  repeat first | refine sk ?_ | refine st ?_ | refine sg ?_ | refine sh ?_ | refine su ?_ | refine sn1 ?_ | refine sn0 ?_
  refine callG (Leveled lv) ?_
  repeat first | refine sk ?_ | refine st ?_ | refine sg ?_ | refine sh ?_ | refine su ?_ | refine sn1 ?_ | refine sn0 ?_
  refine And.intro (fun h2 => ?_) (fun h2 => ?_)
  · have h2 : ((errG g == 0) && !within lv (-20000) 20000) = true := h2
    rw [Bool.and_eq_true] at h2
    have e0 : errG g = 0 := by simpa using h2.1
    have e : aboveG g lv = (0, 0, 2) := by unfold aboveG; rw [e0, h2.2]; rfl
    rw [e]
    refine And.intro (fun _ => ?_) (fun h => by cases h)
    repeat first | refine sk ?_ | refine st ?_ | refine sg ?_ | refine sh ?_ | refine su ?_ | refine sn1 ?_ | refine sn0 ?_
    exact SubR.lit rfl
  · have h2 : ((errG g == 0) && !within lv (-20000) 20000) = false := h2
    refine And.intro (fun h3 => ?_) (fun h3 => ?_)
    · have h3 : (errG g != 0) = true := h3
      have e : aboveG g lv = (0, 0, errG g) := by unfold aboveG; rw [h3]; rfl
      rw [e]
      repeat first | refine sk ?_ | refine st ?_ | refine sg ?_ | refine sh ?_ | refine su ?_ | refine sn1 ?_ | refine sn0 ?_
      refine SubR.of_eq ?_
      show vB (((errG g == errG g) && ((0 : Int) == 0)) && ((0 : Int) == 0)) = vB true
      simp
    · have h3 : (errG g != 0) = false := h3
      have e0 : errG g = 0 := by simpa using h3
      have hw : (!within lv (-20000) 20000) = false := by
        rw [e0] at h2; simpa using h2
      have e : aboveG g lv = ((abF g lv g.levels.length).1, (abF g lv g.levels.length).2, 0) := by unfold aboveG; rw [h3, hw]; rfl
      rw [e]
      refine callN (rAbove g lv (GVal.of e0).n) ?_
      repeat first | refine sk ?_ | refine st ?_ | refine sg ?_ | refine sh ?_ | refine su ?_ | refine sn1 ?_ | refine sn0 ?_
      refine SubR.of_eq ?_
      show vB ((((0 : Int) == 0) && ((abF g lv g.levels.length).1 == (abF g lv g.levels.length).1)) && ((abF g lv g.levels.length).2 == (abF g lv g.levels.length).2)) = vB true
      simp
end Go.Ch

namespace Go.Ch
open Go Go.Ax Go.Proofs Go.Proofs.Try
set_option maxRecDepth 100000
set_option pp.maxSteps 400
set_option maxHeartbeats 1000000

def gD6 (g : Grid) : Nat → DV
  | 0 => dI g.x
  | 1 => dI g.y
  | 2 => dI g.side
  | 3 => dI g.cols
  | 4 => dI g.rows
  | 5 => dInts g.levels
  | _ => .junk
theorem six {p : Nat → Prop} (h0 : p 0) (h1 : p 1) (h2 : p 2) (h3 : p 3) (h4 : p 4) (h5 : p 5) : ∀ j, j < 6 → p j := fun j hj => by
  match j, hj with
  | 0, _ => exact h0
  | 1, _ => exact h1
  | 2, _ => exact h2
  | 3, _ => exact h3
  | 4, _ => exact h4
  | 5, _ => exact h5
def latP (a b : Grid) (i : Nat) : Int := bif b.levels.getD i 0 != 30000 then b.levels.getD i 0 else a.levels.getD i 0
def shoP (a b : Grid) (i : Nat) : Int := bif !(b.levels.getD i 0 != 30000) then a.levels.getD i 0 else bif !(a.levels.getD i 0 != 30000) then b.levels.getD i 0 else mm true (a.levels.getD i 0) (b.levels.getD i 0)
theorem two_le {a b : Grid} {i : Nat} {f h : Nat → DV} (hf : ∀ j, j < 6 → f j = gD6 b j) (hh : ∀ j, j < 6 → h j = gD6 a j) :
    LeAs [vI i, .s (.d (.rp 6 f)), .s (.d (.rp 6 h))] [vI i, .s (.d (.rp 6 (gD6 b))), .s (.d (.rp 6 (gD6 a)))] :=
  ⟨LeD.refl _, LeD.rp fun j hj => LeD.of_eq (hf j hj), LeD.rp fun j hj => LeD.of_eq (hh j hj), trivial⟩
theorem latest1 (a b : Grid) (i : Nat) (ha : i < a.levels.length) (hb : i < b.levels.length) (hn : b.levels.length ≤ 1024) (f h : Nat → DV) (hf : ∀ j, j < 6 → f j = gD6 b j) (hh : ∀ j, j < 6 → h j = gD6 a j) :
    CallP Try.prog 99 [vI i, .s (.d (.rp 6 f)), .s (.d (.rp 6 h))] (vI (latP a b i)) := by
  refine CallP.conv ?_ (two_le hf hh)
  refine callP_of_ex (rc := []) (N := 18) Try.func99 rfl rfl Try.call99 tab_ok mix rfl rfl (fun cx _ => ?_)
  refine callN (bknown b i hb (by omega)) ?_
  refine And.intro (fun h1 => ?_) (fun h1 => ?_)
  · have h1 : (b.levels.getD i 0 != 30000) = true := h1
    refine oi ⟨by omega, by omega⟩ ?_
    exact SubR.of_eq (by unfold latP; rw [h1]; rfl)
  · have h1 : (b.levels.getD i 0 != 30000) = false := h1
    refine oi ⟨by omega, by omega⟩ ?_
    exact SubR.of_eq (by unfold latP; rw [h1]; rfl)
theorem shoal1 (a b : Grid) (i : Nat) (ha : i < a.levels.length) (hb : i < b.levels.length) (hna : a.levels.length ≤ 1024) (hn : b.levels.length ≤ 1024) (f h : Nat → DV) (hf : ∀ j, j < 6 → f j = gD6 b j) (hh : ∀ j, j < 6 → h j = gD6 a j) :
    CallP Try.prog 100 [vI i, .s (.d (.rp 6 f)), .s (.d (.rp 6 h))] (vI (shoP a b i)) := by
  refine CallP.conv ?_ (two_le hf hh)
  refine callP_of_ex (rc := []) (N := 36) Try.func100 rfl rfl Try.call100 tab_ok mix rfl rfl (fun cx _ => ?_)
  refine callN (bknown b i hb (by omega)) ?_
  refine And.intro (fun h1 => ?_) (fun h1 => ?_)
  · have h1 : (!(b.levels.getD i 0 != 30000)) = true := h1
    refine oi ⟨by omega, by omega⟩ ?_
    exact SubR.of_eq (by unfold shoP; rw [h1]; rfl)
  · have h1 : (!(b.levels.getD i 0 != 30000)) = false := h1
    refine callN (bknown a i ha (by omega)) ?_
    refine And.intro (fun h2 => ?_) (fun h2 => ?_)
    · have h2 : (!(a.levels.getD i 0 != 30000)) = true := h2
      refine oi ⟨by omega, by omega⟩ ?_
      exact SubR.of_eq (by unfold shoP; rw [h1, h2]; rfl)
    · have h2 : (!(a.levels.getD i 0 != 30000)) = false := h2
      refine oi ⟨by omega, by omega⟩ ?_
      refine oi ⟨by omega, by omega⟩ ?_
      refine And.intro (by kernel_rfl) ?_
      exact SubR.of_eq (by unfold shoP; rw [h1, h2]; rfl)
def latestG (a b : Grid) : Grid × Int := bif err2 a b != 0 then (zeroG, err2 a b) else (withG a (latP a b), 0)
def shoalG (a b : Grid) : Grid × Int := bif err2 a b != 0 then (zeroG, err2 a b) else (withG a (shoP a b), 0)
theorem gLatest (a b : Grid) (ha : a.ok) (hb : b.ok) : CallP Try.prog 47 [grid a, grid b] (rGE (latestG a b).1 (latestG a b).2) := by
  refine callP_of_ex (rc := [2000082]) (N := 17) Try.func47 rfl rfl Try.call47 tab_ok mix rfl rfl (fun cx href => ?_)
  refine callN (bboth a b ha hb) ?_
  unfold latestG
  refine And.intro (fun h => ?_) (fun h => ?_)
  · have h : (err2 a b != 0) = true := h
    rw [h, cond_true]
    exact zero_rGE rfl
  · have h : (err2 a b != 0) = false := h
    rw [h, cond_false]
    obtain ⟨e1, e2, e3⟩ := err2_zero (a := a) (b := b) (by simpa using h)
    have ga := GVal.of e1
    have gb := GVal.of e2
    have hl := sameC_len ga gb e3
    refine ⟨[2, 3], _, bwith a 99 2 _ (latP a b) ga.pos ga.n ?_, ?_⟩
    · intro i hi
      exact latest1 a b i hi (by omega) gb.n _ _ (six rfl rfl rfl rfl rfl rfl) (six rfl rfl rfl rfl rfl rfl)
    · exact SubR.of_eq rfl
theorem gShoalest (a b : Grid) (ha : a.ok) (hb : b.ok) : CallP Try.prog 48 [grid a, grid b] (rGE (shoalG a b).1 (shoalG a b).2) := by
  refine callP_of_ex (rc := [2000082]) (N := 17) Try.func48 rfl rfl Try.call48 tab_ok mix rfl rfl (fun cx href => ?_)
  refine callN (bboth a b ha hb) ?_
  unfold shoalG
  refine And.intro (fun h => ?_) (fun h => ?_)
  · have h : (err2 a b != 0) = true := h
    rw [h, cond_true]
    exact zero_rGE rfl
  · have h : (err2 a b != 0) = false := h
    rw [h, cond_false]
    obtain ⟨e1, e2, e3⟩ := err2_zero (a := a) (b := b) (by simpa using h)
    have ga := GVal.of e1
    have gb := GVal.of e2
    have hl := sameC_len ga gb e3
    refine ⟨[2, 3], _, bwith a 100 2 _ (shoP a b) ga.pos ga.n ?_, ?_⟩
    · intro i hi
      exact shoal1 a b i hi (by omega) ga.n gb.n _ _ (six rfl rfl rfl rfl rfl rfl) (six rfl rfl rfl rfl rfl rfl)
    · exact SubR.of_eq rfl
/-- The reference's both. -/
theorem rBoth (a b : Grid) (ha : a.ok) (hb : b.ok) : CallP Try.prog 36 [grid a, grid b] (vI (err2 a b)) := by
  refine callP_of_ex (rc := []) (N := 21) Try.func36 rfl rfl Try.call36 tab_ok mix rfl rfl (fun cx _ => ?_)
  unfold err2
  refine callN (RCheck a ha.levels) ?_
  refine And.intro (fun h => ?_) (fun h => ?_)
  · have h : (errG a != 0) = true := h
    rw [h]; exact SubR.refl _
  have h : (errG a != 0) = false := h
  rw [h, cond_false]
  refine callN (RCheck b hb.levels) ?_
  refine And.intro (fun h => ?_) (fun h => ?_)
  · have h : (errG b != 0) = true := h
    rw [h]; exact SubR.refl _
  have h : (errG b != 0) = false := h
  rw [h, cond_false]
  have hs : alike a b = sameC a b := by unfold alike sameC; simp [Bool.and_assoc]
  refine callN (Alike a b) ?_
  rw [hs]
  refine And.intro (fun h => ?_) (fun h => ?_)
  · have h : (!sameC a b) = true := h
    rw [h]; exact SubR.refl _
  · have h : (!sameC a b) = false := h
    rw [h]; exact SubR.refl _
end Go.Ch
