/- Part 8: lemmas that the proofs of this seat share; by itself it claims nothing. -/
import Derived.Test.YtgkghihpebdpgaaGreatPt7
/- geometry.hull at one point or more. -/
namespace Go.Ch
open Go Go.Ax Go.Proofs Go.Proofs.Tryz Go.Hull
set_option maxRecDepth 100000
set_option pp.maxSteps 400
set_option maxHeartbeats 1000000

/-- The points of the round r, and what the rounds before it leave. -/
def sR (s : List Pt) : Nat → List Pt
  | 0 => s
  | r + 1 => (sR s r).reverse
def outR (s : List Pt) : Nat → List Pt
  | 0 => []
  | r + 1 => outR s r ++ (chain [] (sR s r)).reverse.dropLast
theorem sR_len (s : List Pt) : ∀ r, (sR s r).length = s.length
  | 0 => rfl
  | r + 1 => by rw [sR, List.length_reverse, sR_len s r]
theorem sR_mem {s : List Pt} {p : Pt} : ∀ {r}, p ∈ sR s r → p ∈ s
  | 0, h => h
  | r + 1, h => sR_mem (r := r) (by rw [sR, List.mem_reverse] at h; exact h)
theorem popS_mem {p q : Pt} : ∀ {st : List Pt}, q ∈ popS p st → q ∈ st
  | [], h => by simp [popS] at h
  | [v], h => by simpa [popS] using h
  | v :: u :: r, h => by
    rw [popS] at h
    split at h
    · exact List.mem_cons_of_mem _ (popS_mem h)
    · exact h
theorem chain_mem {q : Pt} : ∀ {l st : List Pt}, q ∈ chain st l → q ∈ st ∨ q ∈ l
  | [], st, h => .inl h
  | p :: ps, st, h => by
    rw [chain] at h
    rcases chain_mem h with h | h
    · rcases List.mem_cons.1 h with rfl | h
      · exact .inr (by simp)
      · exact .inl (popS_mem h)
    · exact .inr (by simp [h])
theorem chain_le : ∀ (l st : List Pt), (chain st l).length ≤ st.length + l.length
  | [], st => by simp [chain]
  | p :: ps, st => by
    rw [chain]
    have := chain_le ps (p :: popS p st)
    have h2 := popS_le (p := p) st
    simp only [List.length_cons] at this ⊢
    omega
theorem outR_len (s : List Pt) : ∀ r, (outR s r).length ≤ r * s.length
  | 0 => by simp [outR]
  | r + 1 => by
    rw [outR, List.length_append, List.length_dropLast, List.length_reverse]
    have h1 := outR_len s r
    have h2 := chain_le (sR s r) []
    rw [sR_len] at h2
    simp only [List.length_nil] at h2
    rw [Nat.add_mul]
    omega
theorem outR_mem {s : List Pt} {p : Pt} : ∀ {r}, p ∈ outR s r → p ∈ s
  | 0, h => by cases h
  | r + 1, h => by
    rw [outR] at h
    rcases List.mem_append.1 h with h | h
    · exact outR_mem h
    · have := List.mem_reverse.1 ((List.dropLast_sublist _).subset h)
      rcases chain_mem this with h | h
      · cases h
      · exact sR_mem h
def hullL (l : List Pt) : List Pt := if l.length < 2 then sortP l else outR (sortP l) 2
theorem chain_pos {l : List Pt} (h : 0 < l.length) : ∀ {st : List Pt}, 0 < (chain st l).length := by
  intro st
  have key : ∀ (l : List Pt) (st : List Pt), 0 < st.length → 0 < (chain st l).length := by
    intro l
    induction l with
    | nil => intro st h; exact h
    | cons p ps ih => intro st _; rw [chain]; exact ih _ (by simp)
  match l, h with
  | p :: ps, _ => rw [chain]; exact key _ _ (by simp)
theorem hullL_len {l : List Pt} : (hullL l).length = hullP l := by
  unfold hullL hullP
  split
  · exact (sortP_perm l).length_eq
  · show (([] ++ (chain [] (sortP l)).reverse.dropLast) ++ (chain [] (sortP l).reverse).reverse.dropLast).length = _
    unfold hullN
    rw [List.nil_append, List.length_append, List.length_dropLast, List.length_dropLast, List.length_reverse, List.length_reverse]
theorem chain_ge2 : ∀ (l st : List Pt), st ≠ [] → 2 ≤ st.length + l.length → (2 ≤ st.length ∨ l ≠ []) → 2 ≤ (chain st l).length
  | [], st, _, h, _ => by simpa [chain] using h
  | p :: ps, st, hs, _, _ => by
    rw [chain]
    have h1 := (popS_ne (p := p) st hs).1
    have h2 : 0 < (popS p st).length := List.length_pos_iff.2 h1
    exact chain_ge2 ps (p :: popS p st) (by simp) (by simp only [List.length_cons]; omega) (.inl (by simp only [List.length_cons]; omega))
theorem chain_two' {l : List Pt} (h : 2 ≤ l.length) : 2 ≤ (chain [] l).length := by
  match l, h with
  | a :: b :: r, _ =>
    rw [chain]
    exact chain_ge2 (b :: r) (a :: popS a []) (by simp) (by simp [popS]; omega) (.inr (by simp))
theorem drop_ne {pre : List Pt} {c : List Pt} (h : 2 ≤ c.length) : (pre ++ c.reverse.dropLast).isEmpty = false := by
  cases e : pre ++ c.reverse.dropLast with
  | nil =>
    have := congrArg List.length e
    simp only [List.length_append, List.length_dropLast, List.length_reverse, List.length_nil] at this
    omega
  | cons _ _ => rfl
theorem good_of {p : Pt} (h : okP p) : good p = true := good_iff.2 ⟨⟨h.1, h.2.1⟩, h.2.2⟩
theorem cross_crs {a b c : Pt} (ha : okP a) (hb : okP b) (hc : okP c) : cross a b c = crs a b c := (cross_eq (good_of ha) (good_of hb) (good_of hc)).1
theorem top_at (pre : List Pt) (v u : Pt) (t : List Pt) (hl : (pre ++ (v :: u :: t).reverse).length ≤ 1000000) :
    (pre ++ (v :: u :: t).reverse).getD (w64 (((pre ++ (v :: u :: t).reverse).length : Int) - 2)).toNat default = u ∧
    (pre ++ (v :: u :: t).reverse).getD (w64 (((pre ++ (v :: u :: t).reverse).length : Int) - 1)).toNat default = v := by
  have hn : (pre ++ (v :: u :: t).reverse).length = pre.length + t.length + 2 := by simp; omega
  rw [w64_of (by omega) (by omega), w64_of (by omega) (by omega), hn, show (((pre.length + t.length + 2 : Nat) : Int) - 2).toNat = pre.length + t.length by omega, show (((pre.length + t.length + 2 : Nat) : Int) - 1).toNat = pre.length + t.length + 1 by omega]
  have e : pre ++ (v :: u :: t).reverse = (pre ++ t.reverse) ++ [u, v] := by simp
  have hk : (pre ++ t.reverse).length = pre.length + t.length := by simp
  rw [e, List.getD_eq_getElem?_getD, List.getD_eq_getElem?_getD, List.getElem?_append_right (by omega), List.getElem?_append_right (by omega), hk]
  constructor
  · rw [show pre.length + t.length - (pre.length + t.length) = 0 by omega]; rfl
  · rw [show pre.length + t.length + 1 - (pre.length + t.length) = 1 by omega]; rfl
theorem pop_cons {x u v : Pt} {t : List Pt} (h : crs u v x ≤ 0) : popS x (v :: u :: t) = popS x (u :: t) := by rw [popS, if_pos h]
theorem pop_stop {x u v : Pt} {t : List Pt} (h : ¬ crs u v x ≤ 0) : popS x (v :: u :: t) = v :: u :: t := by rw [popS, if_neg h]
theorem ptRow_cut {a b : List Pt} {n i j : Nat} (h : ∀ k, k < n → a[k]? = b[k]?) (hi : i < n) : LeD (ptEl a i j) (ptEl b i j) := by
  refine LeD.of_eq ?_
  show ptD (a.getD i default) j = ptD (b.getD i default) j
  rw [List.getD_eq_getElem?_getD, List.getD_eq_getElem?_getD, h i hi]
theorem cut_at {a : List Pt} {v : Pt} {k : Nat} (h : k < a.length) : (a ++ [v])[k]? = a[k]? := by
  rw [List.getElem?_append_left h]
end Go.Ch

/- geometry.hull at one point or more: the walk. -/
namespace Go.Ch
open Go Go.Ax Go.Proofs Go.Proofs.Tryz Go.Hull
set_option maxRecDepth 100000
set_option pp.maxSteps 400
set_option maxHeartbeats 1000000

abbrev hS (r : Nat) (s o : List Pt) : St := ⟨[(0, .s (.own 8)), (3, .s (.mo o.isEmpty 100)), (17, vI r)],
  [(8, some (.row 39 s.length 2 (ptEl s))), (100, some (.mrow 39 o.length 2 (ptEl o)))]⟩
abbrev hS2 (r : Nat) (s pre : List Pt) (i : Nat) (st : List Pt) : St := ⟨[(0, .s (.own 8)), (3, .s (.mo (pre ++ st.reverse).isEmpty 100)), (4, vI pre.length), (17, vI r), (21, .s (.own 8)), (22, vI s.length), (23, vI i)],
  [(8, some (.row 39 s.length 2 (ptEl s))), (100, some (.mrow 39 (pre ++ st.reverse).length 2 (ptEl (pre ++ st.reverse))))]⟩
abbrev hS3 (r : Nat) (s pre : List Pt) (i : Nat) (st : List Pt) : St := ⟨[(3, .s (.own 100)), (0, .s (.own 8)), (4, vI pre.length), (6, .s (.ptr 6 0)), (17, vI r), (21, .s (.own 8)), (22, vI s.length), (23, vI i)],
  [(100, some (.row 39 (pre ++ st.reverse).length 2 (ptEl (pre ++ st.reverse)))), (6, some (.cells [.d (dI (s.getD i default).x), .d (dI (s.getD i default).y)])), (8, some (.row 39 s.length 2 (ptEl s)))]⟩
theorem hull1 (l : List Pt) (h0 : l ≠ []) (hd : Dist l) (ho : ∀ p ∈ l, okP p) (hl : l.length ≤ 1000) : CallP Tryz.prog 79 [pts l] (pts (hullL l)) := by
  have hso : ∀ p ∈ sortP l, okP p := fun p hp => ho p ((sortP_perm l).mem_iff.1 hp)
  have hsl : (sortP l).length = l.length := (sortP_perm l).length_eq
  have hnd : (sortP l).Nodup := (sortP_perm l).nodup_iff.2 (dist_nodup hd)
  have hadj : Adj (sortP l) := by
    intro i hi e
    rw [getD_at hi, getD_at (show i < _ by omega)] at e
    have := (List.getElem_inj hnd).1 e
    omega
  have hcomp := CompactR (sortP l) hadj (by omega)
  rw [hsl] at hcomp
  refine callP_of_aw Tryz.func79 rfl rfl Tryz.call79 tab_ok rfl rfl (fun cx href => ?_)
  refine AW.seq (ex.sound (rc := []) tab_ok mix href _ ?_)
  refine AW.seq (ex.sound (rc := [92]) tab_ok mix href _ ?_)
  refine ⟨[(7, 8)], _, _, _, _, ClonePO l h0 (by omega), rfl, trivial, rfl, ?_⟩
  refine AW.seq (ex.sound (rc := [93]) tab_ok mix href _ ?_)
  refine ⟨[(1001, 8)], _, _, _, _, SortPts l (ptEl l) (fun i j _ _ => LeD.refl _) (by omega), rfl, ⟨rfl, trivial⟩, rfl, ?_⟩
  refine AW.seq (ex.sound (rc := [95]) tab_ok mix href _ ?_)
  refine ⟨[(1001, 8)], _, _, _, _, hcomp, rfl, ⟨rfl, trivial⟩, rfl, ?_⟩
  refine AW.seq (ex.sound (rc := []) tab_ok mix href _ ?_)
  unfold hullL
  rw [← hsl]
  have hs0 : sortP l ≠ [] := fun e => h0 (List.eq_nil_of_length_eq_zero (by rw [← hsl, e]; rfl))
  generalize sortP l = s at *
  subst_vars
  refine And.intro (fun h => ?_) (fun h => ?_)
  · have h : (s.length : Int) < 2 := decT h
    rw [if_pos (by omega)]
    exact SubR.le (LeD.slc' rfl fun i j _ _ => LeD.refl _)
  have h : ¬ (s.length : Int) < 2 := decF h
  rw [if_neg (by omega)]
  refine AW.seq (ex.sound (rc := []) tab_ok mix href _ ?_)
  refine AW.cut (σ' := hS 2 (sR s 2) (outR s 2)) (AW.seq (ex.sound (rc := []) tab_ok mix href _ (AW.block ?_))) ?_
  · refine AW.loopI (fun r => hS r (sR s r) (outR s r)) (fun r => r ≤ 2) (fun r => 2 - r) 0 (Nat.zero_le _) ?_ ?_
    · refine SubI.of0 href [(100, 1000)] rfl ⟨⟨rfl, LeBx.row rfl fun i j _ _ => LeD.refl _⟩, ⟨rfl, rfl⟩, trivial⟩ ⟨⟨rfl, LeQ.rfl⟩, ⟨rfl, LeQ.nil rfl⟩, ⟨rfl, LeQ.rfl⟩, trivial⟩
    · intro r hr
      have hL : (sR s r).length = s.length := sR_len s r
      have hLo : ∀ p ∈ sR s r, okP p := fun p hp => hso p (sR_mem hp)
      have hpl : (outR s r).length ≤ 2000 := by
        have := outR_len s r
        have : r * s.length ≤ 2 * 1000 := Nat.mul_le_mul hr (by omega)
        omega
      have hpo : ∀ p ∈ outR s r, okP p := fun p hp => hso p (outR_mem hp)
      have hsn : sR s (r + 1) = (sR s r).reverse := rfl
      have hon : outR s (r + 1) = outR s r ++ (chain [] (sR s r)).reverse.dropLast := rfl
      have hcp : 0 < (chain [] (sR s r)).length := chain_pos (by omega)
      have hend : ∀ k, r = k → sR s k = sR s r ∧ outR s k = outR s r := fun k h => by subst h; exact ⟨rfl, rfl⟩
      generalize sR s r = L at *
      generalize outR s r = pre at *
      refine AW.seq (ex.sound (rc := []) tab_ok mix href _ ?_)
      refine AW.seq (ex.sound (rc := []) tab_ok mix href _ ?_)
      refine And.intro (fun h2 => ?_) (fun h2 => ?_)
      · have h2 : (r : Int) < 2 := decT h2
        refine AW.seq (AW.block (AW.seq (ex.sound (rc := []) tab_ok mix href _ ?_)))
        refine AW.cutE (fun _ : Unit => hS2 r L pre s.length (chain [] L)) (fun _ => True) (AW.seq (ex.sound (rc := []) tab_ok mix href _ (AW.block ?_))) ?_
        · refine AW.loopI (fun q : Nat × List Pt => hS2 r L pre q.1 q.2) (fun q => q.1 ≤ L.length ∧ chain [] L = chain q.2 (L.drop q.1) ∧ q.2.length ≤ q.1 ∧ ∀ p ∈ q.2, okP p) (fun q => L.length - q.1) (0, []) ⟨Nat.zero_le _, rfl, Nat.le_refl _, fun p hp => by cases hp⟩ ?_ ?_
          · refine SubI.of0 href [] rfl ⟨⟨rfl, LeBx.rfl⟩, ⟨rfl, LeBx.of_eq (by show Box.mrow 39 pre.length 2 (ptEl pre) = Box.mrow 39 (pre ++ ([] : List Pt).reverse).length 2 (ptEl (pre ++ ([] : List Pt).reverse)); rw [List.reverse_nil, List.append_nil])⟩, trivial⟩ ⟨⟨rfl, LeQ.rfl⟩, ⟨rfl, LeQ.mm (by simp)⟩, ⟨rfl, LeQ.int (by rw [bif_len])⟩, ⟨rfl, LeQ.rfl⟩, ⟨rfl, LeQ.rfl⟩, ⟨rfl, LeQ.rfl⟩, ⟨rfl, LeQ.rfl⟩, trivial⟩
          · rintro ⟨i, st⟩ ⟨hi, hch, hstl, hsto⟩
            refine AW.seq (ex.sound (rc := []) tab_ok mix href _ ?_)
            refine AW.seq (ex.sound (rc := []) tab_ok mix href _ ?_)
            refine And.intro (fun h3 => ?_) (fun h3 => ?_)
            · have h3 : (i : Int) < L.length := decT h3
              have hstl : st.length ≤ i := hstl
              have hsto : ∀ p ∈ st, okP p := hsto
              have hi' : i < L.length := by omega
              have ei : L.getD i default = L[i] := getD_at hi'
              rw [List.drop_eq_getElem_cons hi', chain, ← ei] at hch
              have hxo : okP (L.getD i default) := by rw [ei]; exact hLo _ (List.getElem_mem hi')
              refine AW.seq (AW.block ?_)
              refine AW.seq (ex.sound (rc := []) tab_ok mix href _ ?_)
              refine oi ⟨by omega, by omega⟩ ?_
              refine oi (show ((i : Int)).toNat < L.length by omega) ?_
              rw [Int.toNat_natCast]
              refine AW.cutE (fun _ : Unit => ⟨(6, .s (.ptr 6 0)) :: (hS2 r L pre i (popS (L.getD i default) st)).env, (6, some (.cells [.d (dI (L.getD i default).x), .d (dI (L.getD i default).y)])) :: (hS2 r L pre i (popS (L.getD i default) st)).box⟩) (fun _ => True) (AW.block ?_) ?_
              · cases hz : (pre ++ st.reverse).isEmpty with
                | true =>
                  have hnil : pre ++ st.reverse = [] := List.isEmpty_iff.1 hz
                  obtain ⟨hp0, hst0⟩ := List.append_eq_nil_iff.1 hnil
                  have hst0 : st = [] := List.reverse_eq_nil_iff.1 hst0
                  subst hp0 hst0
                  refine AW.loopI (fun _ : Unit => ⟨(6, .s (.ptr 6 0)) :: (hS2 r L [] i []).env, (6, some (.cells [.d (dI (L.getD i default).x), .d (dI (L.getD i default).y)])) :: (hS2 r L [] i []).box⟩) (fun _ => True) (fun _ => 0) () trivial ?_ ?_
                  · exact SubI.of0 href [] rfl ⟨⟨rfl, LeBx.rfl⟩, ⟨rfl, LeBx.rfl⟩, ⟨rfl, LeBx.rfl⟩, trivial⟩ ⟨⟨rfl, LeQ.rfl⟩, ⟨rfl, LeQ.rfl⟩, ⟨rfl, LeQ.rfl⟩, ⟨rfl, LeQ.rfl⟩, ⟨rfl, LeQ.rfl⟩, ⟨rfl, LeQ.rfl⟩, ⟨rfl, LeQ.rfl⟩, ⟨rfl, LeQ.rfl⟩, trivial⟩
                  · rintro _ _
                    refine AW.seq (ex.sound (rc := []) tab_ok mix href _ ?_)
                    repeat first | refine sk ?_ | refine st ?_ | refine sg ?_ | refine sh ?_ | refine su ?_ | refine sn1 ?_ | refine sn0 ?_ | refine And.intro (show imp none (gimp _ none) from trivial) ?_
                    repeat first | refine sk ?_ | refine st ?_ | refine sg ?_ | refine sh ?_ | refine su ?_ | refine sn1 ?_ | refine sn0 ?_ | refine And.intro (show imp none (gimp _ none) from trivial) ?_ | refine og (fun hb => absurd hb (by decide)) ?_
                    refine callF (vI 0) ?_ ?_
                    · exact (rfl : gpol true (decide (((bif (([] : List Pt) ++ [].reverse).isEmpty then 0 else (([] : List Pt) ++ [].reverse).length : Nat) : Int) ≥ w64 ((([] : List Pt).length : Int) + 2))) = false)
                    repeat first | refine sk ?_ | refine st ?_ | refine sg ?_ | refine sh ?_ | refine su ?_ | refine sn1 ?_ | refine sn0 ?_ | refine And.intro (show imp none (gimp _ none) from trivial) ?_
                    refine And.intro (by kernel_rfl) ?_
                    refine And.intro (fun h4 => ?_) (fun h4 => ?_)
                    · exact absurd h4 (by decide)
                    · refine ⟨rfl, (), trivial, ?_⟩
                      exact SubI.of0 href [] rfl ⟨⟨rfl, LeBx.rfl⟩, ⟨rfl, LeBx.rfl⟩, ⟨rfl, LeBx.rfl⟩, trivial⟩ ⟨⟨rfl, LeQ.rfl⟩, ⟨rfl, LeQ.rfl⟩, ⟨rfl, LeQ.rfl⟩, ⟨rfl, LeQ.rfl⟩, ⟨rfl, LeQ.rfl⟩, ⟨rfl, LeQ.rfl⟩, ⟨rfl, LeQ.rfl⟩, ⟨rfl, LeQ.rfl⟩, trivial⟩
                | false =>
                  refine AW.subI (SubI.own (e := 39) (n := (pre ++ st.reverse).length) (s := 2) (f := ptEl (pre ++ st.reverse)) (z := false) 3 100 ?_ rfl ?_) ?_
                  · show AV.s (.mo (pre ++ st.reverse).isEmpty 100) = _
                    rw [hz]
                  · rfl
                  refine AW.loopI (fun q : List Pt => hS3 r L pre i q) (fun q => popS (L.getD i default) q = popS (L.getD i default) st ∧ q.length ≤ st.length ∧ (∀ p ∈ q, okP p) ∧ 0 < (pre ++ q.reverse).length) (fun q => q.length) st ⟨rfl, Nat.le_refl _, hsto, by cases h : pre ++ st.reverse with | nil => rw [h] at hz; cases hz | cons _ _ => exact Nat.zero_lt_succ _⟩ ?_ ?_
                  · exact SubI.of0 href [] rfl ⟨⟨rfl, LeBx.rfl⟩, ⟨rfl, LeBx.rfl⟩, ⟨rfl, LeBx.rfl⟩, trivial⟩ ⟨⟨rfl, LeQ.rfl⟩, ⟨rfl, LeQ.rfl⟩, ⟨rfl, LeQ.rfl⟩, ⟨rfl, LeQ.rfl⟩, ⟨rfl, LeQ.rfl⟩, ⟨rfl, LeQ.rfl⟩, ⟨rfl, LeQ.rfl⟩, ⟨rfl, LeQ.rfl⟩, trivial⟩
                  · rintro q ⟨hq, hql, hqo, hq0⟩
                    refine AW.seq (ex.sound (rc := []) tab_ok mix href _ ?_)
                    have hol : (pre ++ q.reverse).length = pre.length + q.length := by rw [List.length_append, List.length_reverse]
                    have hoo : ∀ p ∈ (pre ++ q.reverse), okP p := fun p hp => by
                      rcases List.mem_append.1 hp with hp | hp
                      · exact hpo p hp
                      · exact hqo p (List.mem_reverse.1 hp)
                    have wa : w64 (((pre ++ q.reverse).length : Int) - 2) = ((pre ++ q.reverse).length : Int) - 2 := w64_of (by omega) (by omega)
                    have wb : w64 (((pre ++ q.reverse).length : Int) - 1) = ((pre ++ q.reverse).length : Int) - 1 := w64_of (by omega) (by omega)
                    have wc : w64 ((pre.length : Int) + 2) = (pre.length : Int) + 2 := w64_of (by omega) (by omega)
                    have hg2 : (decide (((pre ++ q.reverse).length : Int) ≥ w64 ((pre.length : Int) + 2))) = true → pre.length + 2 ≤ (pre ++ q.reverse).length := fun h => by
                      have := of_decide_eq_true h
                      omega
                    repeat first | refine sk ?_ | refine st ?_ | refine sg ?_ | refine sh ?_ | refine su ?_ | refine sn1 ?_ | refine sn0 ?_ | refine And.intro (show imp none (gimp _ none) from trivial) ?_
                    refine og (fun hb => ?_) ?_
                    · have := hg2 hb
                      show 0 ≤ w64 (((pre ++ q.reverse).length : Int) - 2) ∧ w64 (((pre ++ q.reverse).length : Int) - 2) < ((pre ++ q.reverse).length : Int)
                      omega
                    repeat first | refine sk ?_ | refine st ?_ | refine sg ?_ | refine sh ?_ | refine su ?_ | refine sn1 ?_ | refine sn0 ?_ | refine And.intro (show imp none (gimp _ none) from trivial) ?_
                    refine og (fun hb => ?_) ?_
                    · have := hg2 hb
                      show (w64 (((pre ++ q.reverse).length : Int) - 2)).toNat < (pre ++ q.reverse).length
                      omega
                    repeat first | refine sk ?_ | refine st ?_ | refine sg ?_ | refine sh ?_ | refine su ?_ | refine sn1 ?_ | refine sn0 ?_ | refine And.intro (show imp none (gimp _ none) from trivial) ?_
                    refine og (fun hb => ?_) ?_
                    · have := hg2 hb
                      show 0 ≤ w64 (((pre ++ q.reverse).length : Int) - 1) ∧ w64 (((pre ++ q.reverse).length : Int) - 1) < ((pre ++ q.reverse).length : Int)
                      omega
                    repeat first | refine sk ?_ | refine st ?_ | refine sg ?_ | refine sh ?_ | refine su ?_ | refine sn1 ?_ | refine sn0 ?_ | refine And.intro (show imp none (gimp _ none) from trivial) ?_
                    refine og (fun hb => ?_) ?_
                    · have := hg2 hb
                      show (w64 (((pre ++ q.reverse).length : Int) - 1)).toNat < (pre ++ q.reverse).length
                      omega
                    repeat first | refine sk ?_ | refine st ?_ | refine sg ?_ | refine sh ?_ | refine su ?_ | refine sn1 ?_ | refine sn0 ?_ | refine And.intro (show imp none (gimp _ none) from trivial) ?_
                    refine callG (gcross ((pre ++ q.reverse).getD (w64 (((pre ++ q.reverse).length : Int) - 2)).toNat default) ((pre ++ q.reverse).getD (w64 (((pre ++ q.reverse).length : Int) - 1)).toNat default) (L.getD i default)) ?_
                    repeat first | refine sk ?_ | refine st ?_ | refine sg ?_ | refine sh ?_ | refine su ?_ | refine sn1 ?_ | refine sn0 ?_ | refine And.intro (show imp none (gimp _ none) from trivial) ?_
                    refine And.intro (by kernel_rfl) ?_
                    refine And.intro (fun h4 => ?_) (fun h4 => ?_)
                    · have h4 : (decide (((pre ++ q.reverse).length : Int) ≥ w64 ((pre.length : Int) + 2)) && decide (cross ((pre ++ q.reverse).getD (w64 (((pre ++ q.reverse).length : Int) - 2)).toNat default) ((pre ++ q.reverse).getD (w64 (((pre ++ q.reverse).length : Int) - 1)).toNat default) (L.getD i default) ≤ 0)) = true := h4
                      rw [Bool.and_eq_true] at h4
                      obtain ⟨h5, h6⟩ := h4
                      have h5 := hg2 h5
                      have hq2 : 2 ≤ q.length := by omega
                      clear h5
                      match q, hq2, hq, hql, hqo, hq0, h6, hol with
                      | v :: u :: t, _, hq, hql, hqo, hq0, h6, hol =>
                        obtain ⟨e1, e2⟩ := top_at pre v u t (by simp only [List.length_cons] at hol hql; omega)
                        rw [e1, e2, cross_crs (hqo u (by simp)) (hqo v (by simp)) hxo] at h6
                        have h6 := of_decide_eq_true h6
                        simp only [List.length_cons] at hol hql
                        refine AW.block (ex.sound (rc := []) tab_ok mix href _ ?_)
                        have wd : w64 (((pre ++ (v :: u :: t).reverse).length : Int) - 1) = ((pre.length + t.length + 1 : Nat) : Int) := (w64_of (by omega) (by omega)).trans (by omega)
                        refine oi (show 0 ≤ (0 : Int) ∧ (0 : Int) ≤ w64 (((pre ++ (v :: u :: t).reverse).length : Int) - 1) ∧ w64 (((pre ++ (v :: u :: t).reverse).length : Int) - 1) ≤ ((pre ++ (v :: u :: t).reverse).length : Int) by omega) ?_
                        refine ⟨u :: t, ⟨(pop_cons h6).symm.trans hq, by simp only [List.length_cons]; omega, fun p hp => hqo p (List.mem_cons_of_mem _ hp), by simp only [List.length_append, List.length_reverse, List.length_cons]; omega⟩, by simp only [List.length_cons]; omega, ?_⟩
                        refine SubI.trans (b := ⟨(3, .s (.osl 100 2 0 (pre.length + t.length + 1))) :: [(0, .s (.own 8)), (4, vI pre.length), (6, .s (.ptr 6 0)), (17, vI r), (21, .s (.own 8)), (22, vI L.length), (23, vI i)],
                          (100, some (.row 39 (pre ++ (v :: u :: t).reverse).length 2 (ptEl (pre ++ (v :: u :: t).reverse)))) :: [(6, some (.cells [.d (dI (L.getD i default).x), .d (dI (L.getD i default).y)])), (8, some (.row 39 L.length 2 (ptEl L)))]⟩)
                          (SubI.of0 href [] rfl ⟨⟨rfl, LeBx.rfl⟩, ⟨rfl, LeBx.rfl⟩, ⟨rfl, LeBx.rfl⟩, trivial⟩ ⟨⟨rfl, LeQ.of_eq ?_⟩, ⟨rfl, LeQ.rfl⟩, ⟨rfl, LeQ.rfl⟩, ⟨rfl, LeQ.rfl⟩, ⟨rfl, LeQ.rfl⟩, ⟨rfl, LeQ.rfl⟩, ⟨rfl, LeQ.rfl⟩, ⟨rfl, LeQ.rfl⟩, trivial⟩) ?_
                        · show AV.s (.osl 100 2 0 ((w64 (((pre ++ (v :: u :: t).reverse).length : Int) - 1)).toNat - (0 : Int).toNat)) = AV.s (.osl 100 2 0 (pre.length + t.length + 1))
                          rw [wd]; rfl
                        refine SubI.trans (SubI.shrink (n := pre.length + t.length + 1) 3 100 href rfl rfl rfl (by omega) (by omega)) ?_
                        exact SubI.of0 href [] rfl ⟨⟨rfl, LeBx.row (by simp only [List.length_append, List.length_reverse, List.length_cons]; omega) fun i j hi _ => ptRow_cut (n := pre.length + t.length + 1) (fun k hk => by
                          rw [show pre ++ (v :: u :: t).reverse = (pre ++ (u :: t).reverse) ++ [v] by simp]
                          exact cut_at (by simp only [List.length_append, List.length_reverse, List.length_cons]; omega)) hi⟩, ⟨rfl, LeBx.rfl⟩, ⟨rfl, LeBx.rfl⟩, trivial⟩ ⟨⟨rfl, LeQ.rfl⟩, ⟨rfl, LeQ.rfl⟩, ⟨rfl, LeQ.rfl⟩, ⟨rfl, LeQ.rfl⟩, ⟨rfl, LeQ.rfl⟩, ⟨rfl, LeQ.rfl⟩, ⟨rfl, LeQ.rfl⟩, ⟨rfl, LeQ.rfl⟩, trivial⟩
                    · have hstop : popS (L.getD i default) q = q := by
                        have h4 : (decide (((pre ++ q.reverse).length : Int) ≥ w64 ((pre.length : Int) + 2)) && decide (cross ((pre ++ q.reverse).getD (w64 (((pre ++ q.reverse).length : Int) - 2)).toNat default) ((pre ++ q.reverse).getD (w64 (((pre ++ q.reverse).length : Int) - 1)).toNat default) (L.getD i default) ≤ 0)) = false := h4
                        match q, hqo, h4, hol, hql with
                        | [], _, _, _, _ => rfl
                        | [v], _, _, _, _ => rfl
                        | v :: u :: t, hqo, h4, hol, hql =>
                          simp only [List.length_cons] at hol hql
                          obtain ⟨e1, e2⟩ := top_at pre v u t (by omega)
                          rw [e1, e2, cross_crs (hqo u (by simp)) (hqo v (by simp)) hxo, decide_eq_true (show ((pre ++ (v :: u :: t).reverse).length : Int) ≥ w64 ((pre.length : Int) + 2) by omega), Bool.true_and] at h4
                          exact pop_stop (of_decide_eq_false h4)
                      refine ⟨rfl, (), trivial, ?_⟩
                      rw [← hq, hstop]
                      exact SubI.of0 href [] rfl ⟨⟨rfl, LeBx.rfl⟩, ⟨rfl, LeBx.rfl⟩, ⟨rfl, LeBx.mrow rfl fun i j _ _ => LeD.refl _⟩, trivial⟩ ⟨⟨rfl, LeQ.rfl⟩, ⟨rfl, LeQ.rfl⟩, ⟨rfl, LeQ.mo (by cases h : pre ++ q.reverse with | nil => rw [h] at hq0; exact absurd hq0 (Nat.lt_irrefl 0) | cons _ _ => rfl)⟩, ⟨rfl, LeQ.rfl⟩, ⟨rfl, LeQ.rfl⟩, ⟨rfl, LeQ.rfl⟩, ⟨rfl, LeQ.rfl⟩, ⟨rfl, LeQ.rfl⟩, trivial⟩
              · rintro _ _
                refine ex.sound (rc := []) tab_ok mix href _ ?_
                refine ob (by decide) ?_
                have hpl2 := popS_le (p := L.getD i default) st
                refine ob (by rw [bif_len]; show ((pre ++ (popS (L.getD i default) st).reverse).length + 1) * 16 ≤ 140737488355328; rw [List.length_append, List.length_reverse]; omega) ?_
                refine ob (fun k j hk hj => ?_) ?_
                · obtain rfl : k = 0 := by omega
                  match j, hj with
                  | 0, _ => rfl
                  | 1, _ => rfl
                refine ex.sound (rc := []) tab_ok mix href _ ?_
                refine ⟨(i + 1, L.getD i default :: popS (L.getD i default) st), ⟨by omega, hch, by simp only [List.length_cons]; omega, fun p hp => ?_⟩, by show L.length - (i + 1) < L.length - i; omega, ?_⟩
                · rcases List.mem_cons.1 hp with rfl | hp
                  · exact hxo
                  · exact hsto _ (popS_mem hp)
                · refine SubI.of0 href [(100, 57)] rfl ⟨⟨rfl, LeBx.rfl⟩, ⟨rfl, ?_⟩, trivial⟩ ⟨⟨rfl, LeQ.rfl⟩, ⟨rfl, LeQ.mo ?_⟩, ⟨rfl, LeQ.rfl⟩, ⟨rfl, LeQ.rfl⟩, ⟨rfl, LeQ.rfl⟩, ⟨rfl, LeQ.rfl⟩, ⟨rfl, LeQ.int (w64_of (by omega) (by omega))⟩, trivial⟩
                  · have e : pre ++ (L.getD i default :: popS (L.getD i default) st).reverse = (pre ++ (popS (L.getD i default) st).reverse) ++ [L.getD i default] := by simp
                    show LeBx _ (Box.mrow 39 (pre ++ (L.getD i default :: popS (L.getD i default) st).reverse).length 2 (ptEl (pre ++ (L.getD i default :: popS (L.getD i default) st).reverse)))
                    rw [e]
                    exact LeBx.snoc (el := ptD) fun j hj => match j, hj with
                      | 0, _ => rfl
                      | 1, _ => rfl
                  · have e : pre ++ (L.getD i default :: popS (L.getD i default) st).reverse = (pre ++ (popS (L.getD i default) st).reverse) ++ [L.getD i default] := by simp
                    show (pre ++ (L.getD i default :: popS (L.getD i default) st).reverse).isEmpty = false
                    rw [e]; exact isEmpty_snoc _ _
            · have h3 : ¬ (i : Int) < L.length := decF h3
              obtain rfl : i = L.length := by omega
              rw [List.drop_length, chain] at hch
              refine ⟨rfl, (), trivial, ?_⟩
              rw [hch, ← hL]
              exact SubI.of0 href [] rfl ⟨⟨rfl, LeBx.rfl⟩, ⟨rfl, LeBx.rfl⟩, trivial⟩ ⟨⟨rfl, LeQ.rfl⟩, ⟨rfl, LeQ.rfl⟩, ⟨rfl, LeQ.rfl⟩, ⟨rfl, LeQ.rfl⟩, ⟨rfl, LeQ.rfl⟩, ⟨rfl, LeQ.rfl⟩, ⟨rfl, LeQ.rfl⟩, trivial⟩
        · rintro _ _
          have hne : (pre ++ (chain [] L).reverse).isEmpty = false := by
            cases h : pre ++ (chain [] L).reverse with
            | nil => rw [List.append_eq_nil_iff] at h; rw [List.reverse_eq_nil_iff.1 h.2] at hcp; exact absurd hcp (Nat.lt_irrefl 0)
            | cons _ _ => rfl
          have hcl : (pre ++ (chain [] L).reverse).length = (pre ++ (chain [] L).reverse.dropLast).length + 1 := by
            simp only [List.length_append, List.length_reverse, List.length_dropLast]; omega
          have hcl2 := chain_le L []
          have hbig : (pre ++ (chain [] L).reverse).length ≤ 10000 := by
            simp only [List.length_append, List.length_reverse, List.length_nil] at hcl2 ⊢; omega
          refine AW.subI (SubI.own (e := 39) (n := (pre ++ (chain [] L).reverse).length) (s := 2) (f := ptEl (pre ++ (chain [] L).reverse)) (z := false) 3 100 ?_ rfl ?_) ?_
          · show AV.s (.mo (pre ++ (chain [] L).reverse).isEmpty 100) = _
            rw [hne]
          · rfl
          have wd : w64 (((pre ++ (chain [] L).reverse).length : Int) - 1) = ((pre ++ (chain [] L).reverse.dropLast).length : Int) := (w64_of (by omega) (by omega)).trans (by omega)
          refine AW.cut (σ' := ⟨[(3, .s (.own 100)), (0, .s (.own 8)), (17, vI r)],
            [(100, some (.row 39 (pre ++ (chain [] L).reverse.dropLast).length 2 (ptEl (pre ++ (chain [] L).reverse.dropLast)))), (8, some (.row 39 L.length 2 (ptEl L)))]⟩) (ex.sound (rc := []) tab_ok mix href _ ?_) ?_
          · refine oi (show 0 ≤ (0 : Int) ∧ (0 : Int) ≤ w64 (((pre ++ (chain [] L).reverse).length : Int) - 1) ∧ w64 (((pre ++ (chain [] L).reverse).length : Int) - 1) ≤ ((pre ++ (chain [] L).reverse).length : Int) by omega) ?_
            refine ⟨rfl, ?_⟩
            refine SubI.trans (b := ⟨(3, .s (.osl 100 2 0 (pre ++ (chain [] L).reverse.dropLast).length)) :: [(0, .s (.own 8)), (17, vI r)],
              (100, some (.row 39 (pre ++ (chain [] L).reverse).length 2 (ptEl (pre ++ (chain [] L).reverse)))) :: [(8, some (.row 39 L.length 2 (ptEl L)))]⟩)
              (SubI.of0 href [] rfl ⟨⟨rfl, LeBx.rfl⟩, ⟨rfl, LeBx.rfl⟩, trivial⟩ ⟨⟨rfl, LeQ.of_eq ?_⟩, ⟨rfl, LeQ.rfl⟩, ⟨rfl, LeQ.rfl⟩, trivial⟩) ?_
            · show AV.s (.osl 100 2 0 ((w64 (((pre ++ (chain [] L).reverse).length : Int) - 1)).toNat - (0 : Int).toNat)) = _
              rw [wd]; rfl
            refine SubI.trans (SubI.shrink (n := (pre ++ (chain [] L).reverse.dropLast).length) 3 100 href rfl rfl rfl (by omega) (by omega)) ?_
            exact SubI.of0 href [] rfl ⟨⟨rfl, LeBx.row rfl fun i j hi _ => ptRow_cut (n := (pre ++ (chain [] L).reverse.dropLast).length) (fun k hk => by
              rw [List.length_append] at hk
              rw [List.dropLast_eq_take, List.getElem?_append, List.getElem?_append]
              split
              · rfl
              · rw [List.getElem?_take, if_pos (by rw [List.length_dropLast] at hk; omega)]) hi⟩, ⟨rfl, LeBx.rfl⟩, trivial⟩ ⟨⟨rfl, LeQ.rfl⟩, ⟨rfl, LeQ.rfl⟩, ⟨rfl, LeQ.rfl⟩, trivial⟩
          · refine ex.sound (rc := [96]) tab_ok mix href _ ?_
            refine ⟨[(1001, 8)], _, _, _, _, ReverseP L (by omega) (by omega), rfl, ⟨rfl, trivial⟩, rfl, ?_⟩
            refine ex.sound (rc := []) tab_ok mix href _ ?_
            refine ⟨r + 1, by omega, by omega, ?_⟩
            rw [hsn, hon]
            refine SubI.of0 href [] rfl ⟨⟨rfl, LeBx.row (by rw [List.length_reverse]) fun i j hi _ => LeD.of_eq ?_⟩, ⟨rfl, LeBx.mrow rfl fun i j _ _ => LeD.refl _⟩, trivial⟩ ⟨⟨rfl, LeQ.rfl⟩, ⟨rfl, LeQ.mo ?_⟩, ⟨rfl, LeQ.int (w64_of (by omega) (by omega))⟩, trivial⟩
            · show ptD (rvP L (L.length / 2) i) j = ptD (L.reverse.getD i default) j
              rw [rv_end L hi]
            · exact drop_ne (chain_two' (by omega))
      · have h2 : ¬ (r : Int) < 2 := decF h2
        obtain ⟨e1, e2⟩ := hend 2 (by omega)
        rw [e1, e2]
        refine ⟨rfl, ?_⟩
        exact SubI.of0 href [] rfl ⟨⟨rfl, LeBx.rfl⟩, ⟨rfl, LeBx.rfl⟩, trivial⟩ ⟨⟨rfl, LeQ.rfl⟩, ⟨rfl, LeQ.rfl⟩, ⟨rfl, LeQ.int (show (r : Int) = 2 by omega)⟩, trivial⟩
  · have hz : (outR s 2).isEmpty = false := drop_ne (chain_two' (by rw [sR_len]; omega))
    refine AW.subI (SubI.own (e := 39) (n := (outR s 2).length) (s := 2) (f := ptEl (outR s 2)) (z := false) 3 100 ?_ rfl ?_) ?_
    · show AV.s (.mo (outR s 2).isEmpty 100) = _
      rw [hz]
    · rfl
    refine ex.sound (rc := []) tab_ok mix href _ ?_
    exact SubR.le (LeD.slc' rfl fun i j _ _ => LeD.refl _)
theorem hull (l : List Pt) (hd : Dist l) (ho : ∀ p ∈ l, okP p) (hl : l.length ≤ 1000) : CallP Tryz.prog 79 [pts l] (pts (hullL l)) := by
  by_cases h0 : l = []
  · subst h0
    have e : hullL [] = [] := by
      unfold hullL
      rw [if_pos (by decide)]
      exact List.eq_nil_of_length_eq_zero ((sortP_perm []).length_eq)
    rw [e]
    exact hullNil
  · exact hull1 l h0 hd ho hl
end Go.Ch

/- geometry.patchErr. -/
namespace Go.Ch
open Go Go.Ax Go.Proofs Go.Proofs.Tryz Go.Hull
set_option maxRecDepth 100000
set_option pp.maxSteps 400
set_option maxHeartbeats 1000000

def patchE (l : List Pt) : Int := bif errPts l != 0 then errPts l else bif dupP l then 5 else bif apartB l then 8 else bif decide ((hullP l : Int) < 3) then 10 else 0
theorem errPts_ok {l : List Pt} (h : errPts l = 0) : l.length ≤ 64 ∧ ∀ p ∈ l, okP p := by
  unfold errPts at h
  cases h1 : decide ((l.length : Int) > 64) with
  | true => rw [h1] at h; cases h
  | false =>
    rw [h1] at h
    cases h2 : l.any (fun p => !good p) with
    | true => rw [h2] at h; cases h
    | false =>
      refine ⟨by have := of_decide_eq_false h1; omega, fun p hp => ?_⟩
      rw [List.any_eq_false] at h2
      have := h2 p hp
      have : good p = true := by simpa using this
      rw [good_iff] at this
      unfold okP; omega
theorem gPatchErr (l : List Pt) (hl : l.length ≤ 1000000) : CallP Tryz.prog 54 [pts l] (vI (patchE l)) := by
  refine callP_of_ex (rc := []) (N := 30) Tryz.func54 rfl rfl Tryz.call54 tab_ok mix rfl rfl (fun cx href => ?_)
  refine callN (gCheck l (by omega)) ?_
  unfold patchE
  refine And.intro (fun h => ?_) (fun h => ?_)
  · have h : (errPts l != 0) = true := h
    rw [h]; exact SubR.refl _
  have h : (errPts l != 0) = false := h
  rw [h]
  have he : errPts l = 0 := by simpa using h
  obtain ⟨hl64, hok⟩ := errPts_ok he
  refine AW.loopI (fun i : Nat => ⟨[(0, pts l), (11, pts l), (12, vI l.length), (13, vI i)], []⟩)
    (fun i => i ≤ l.length ∧ dupP l = ((List.range l.length).drop i).any fun i => (l.take i).any fun q => q == l.getD i default) (fun i => l.length - i) 0 ⟨Nat.zero_le _, rfl⟩ ?_ ?_
  · exact SubI.of0 href [] rfl trivial ⟨⟨rfl, LeQ.rfl⟩, ⟨rfl, LeQ.rfl⟩, ⟨rfl, LeQ.rfl⟩, ⟨rfl, LeQ.rfl⟩, trivial⟩
  · rintro i ⟨hi, hj⟩
    refine ex.sound (rc := []) tab_ok mix href _ ?_
    refine And.intro (fun h => ?_) (fun h => ?_)
    · have h : (i : Int) < l.length := decT h
      have hi' : i < l.length := by omega
      rw [List.drop_eq_getElem_cons (by simpa using hi'), List.any_cons, List.getElem_range] at hj
      refine oi ⟨by omega, by omega⟩ ?_
      repeat first | refine sk ?_ | refine st ?_ | refine sg ?_ | refine sh ?_ | refine su ?_ | refine sn1 ?_ | refine sn0 ?_ | refine And.intro (show imp none (gimp _ none) from trivial) ?_
      refine oi (show 0 ≤ (0 : Int) ∧ (0 : Int) ≤ (i : Int) ∧ (i : Int) ≤ (l.length : Int) by omega) ?_
      repeat first | refine sk ?_ | refine st ?_ | refine sg ?_ | refine sh ?_ | refine su ?_ | refine sn1 ?_ | refine sn0 ?_ | refine And.intro (show imp none (gimp _ none) from trivial) ?_
      have hlt : (l.take i).length = i := by rw [List.length_take]; omega
      refine callN ((ContainsP (l.take i) (l.getD i default) (by omega)).conv (args' := _) ⟨LeD.slc' hlt.symm fun a j ha hj => LeD.of_eq ?_, ⟨LeD.refl _, LeD.refl _, trivial⟩, trivial⟩) ?_
      · have ha : a < i := ha
        show ptD (l.getD a default) j = ptD ((l.take i).getD a default) j
        rw [List.getD_eq_getElem?_getD, List.getD_eq_getElem?_getD, List.getElem?_take, if_pos ha]
      repeat first | refine sk ?_ | refine st ?_ | refine sg ?_ | refine sh ?_ | refine su ?_ | refine sn1 ?_ | refine sn0 ?_ | refine And.intro (show imp none (gimp _ none) from trivial) ?_
      refine And.intro (by kernel_rfl) ?_
      refine And.intro (fun h3 => ?_) (fun h3 => ?_)
      · have h3 : ((l.take i).any fun q => q == l.getD i default) = true := h3
        exact SubR.of_eq (by rw [hj, h3]; rfl)
      · have h3 : ((l.take i).any fun q => q == l.getD i default) = false := h3
        refine ⟨i + 1, ⟨by omega, by rw [hj, h3]; rfl⟩, by omega, ?_⟩
        exact SubI.of0 href [] rfl trivial ⟨⟨rfl, LeQ.rfl⟩, ⟨rfl, LeQ.rfl⟩, ⟨rfl, LeQ.rfl⟩, ⟨rfl, LeQ.int (w64_of (by omega) (by omega))⟩, trivial⟩
    · have h : ¬ (i : Int) < l.length := decF h
      obtain rfl : i = l.length := by omega
      have hdn : dupP l = false := by rw [hj, List.drop_eq_nil_of_le (by simp)]; rfl
      have hdist : Dist l := dist_of (by rw [← dup_eq]; exact hdn)
      rw [hdn]
      refine callN (gApart l hok (by omega)) ?_
      refine And.intro (fun h2 => ?_) (fun h2 => ?_)
      · have h2 : apartB l = true := h2
        exact SubR.of_eq (by rw [h2]; rfl)
      have h2 : apartB l = false := h2
      rw [h2]
      refine callN (hull l hdist hok (by omega)) ?_
      refine And.intro (fun h3 => ?_) (fun h3 => ?_)
      · have h3 : decide (((hullL l).length : Int) < 3) = true := h3
        rw [hullL_len] at h3
        exact SubR.of_eq (by rw [h3]; rfl)
      · have h3 : decide (((hullL l).length : Int) < 3) = false := h3
        rw [hullL_len] at h3
        exact SubR.of_eq (by rw [h3]; rfl)
end Go.Ch

/- geometry.circle. -/
namespace Go.Ch
open Go Go.Ax Go.Proofs Go.Proofs.Tryz Go.Hull
set_option maxRecDepth 100000
set_option pp.maxSteps 400
set_option maxHeartbeats 1000000

abbrev tri3 (a b c : Pt) : AV := .g [.d (dI a.x), .d (dI a.y), .d (dI b.x), .d (dI b.y), .d (dI c.x), .d (dI c.y)]
abbrev tri3B (a b c : Pt) : Box := .cells [.d (dI a.x), .d (dI a.y), .d (dI b.x), .d (dI b.y), .d (dI c.x), .d (dI c.y)]
def ox (p q : Pt) : Int := w64 (p.x - q.x)
def oy (p q : Pt) : Int := w64 (p.y - q.y)
def os (p q : Pt) : Int := w64 (w64 (ox p q * ox p q) + w64 (oy p q * oy p q))
def oc (p a b : Pt) : Int := w64 (w64 (ox a p * oy b p) - w64 (ox b p * oy a p))
abbrev fillB (x y z : Int) : Nat → Box
  | 0 => .cells [.d (dI 0), .d (dI 0), .d (dI 0)]
  | 1 => .cells [.d (dI x), .d (dI 0), .d (dI 0)]
  | 2 => .cells [.d (dI x), .d (dI y), .d (dI 0)]
  | _ => .cells [.d (dI x), .d (dI y), .d (dI z)]
def sums (a b c p : Pt) : Nat → Int
  | 0 => 0
  | 1 => w64 (0 + w64 (os a p * oc p b c))
  | 2 => w64 (w64 (0 + w64 (os a p * oc p b c)) + w64 (os b p * oc p c a))
  | _ => w64 (w64 (w64 (0 + w64 (os a p * oc p b c)) + w64 (os b p * oc p c a)) + w64 (os c p * oc p a b))
abbrev ciS1 (a b c p : Pt) (i : Nat) : St := ⟨[(2, .s (.ptr 2 0)), (3, .s (.ptr 3 0)), (5, .s (.ptr 5 0)), (6, .s (.ptr 6 0)), (7, .s (.ptr 7 0)), (14, tri3 a b c), (15, vI i)],
  [(2, some (tri3B a b c)), (3, some (.cells [.d (dI p.x), .d (dI p.y)])), (5, some (fillB (ox a p) (ox b p) (ox c p) i)), (6, some (fillB (oy a p) (oy b p) (oy c p) i)), (7, some (fillB (os a p) (os b p) (os c p) i))]⟩
abbrev ciS2 (a b c p : Pt) (i : Nat) : St := ⟨[(5, .s (.ptr 5 0)), (6, .s (.ptr 6 0)), (7, .s (.ptr 7 0)), (10, vI (sums a b c p i)), (51, vI i)],
  [(5, some (fillB (ox a p) (ox b p) (ox c p) 3)), (6, some (fillB (oy a p) (oy b p) (oy c p) 3)), (7, some (fillB (os a p) (os b p) (os c p) 3))]⟩
def circI (a b c p : Pt) : Int := sgn (sums a b c p 3 - 0)
theorem gCircle (a b c p : Pt) : CallP Tryz.prog 97 [tri3 a b c, pt p] (vI (circI a b c p)) := by
  refine callP_of_ex (rc := []) (N := 84) Tryz.func97 rfl rfl Tryz.call97 tab_ok mix rfl rfl (fun cx href => ?_)
  refine AW.loopI (ciS1 a b c p) (fun i => i ≤ 3) (fun i => 3 - i) 0 (Nat.zero_le _) ?_ ?_
  · exact SubI.of0 href [] rfl ⟨⟨rfl, LeBx.rfl⟩, ⟨rfl, LeBx.rfl⟩, ⟨rfl, LeBx.rfl⟩, ⟨rfl, LeBx.rfl⟩, ⟨rfl, LeBx.rfl⟩, trivial⟩ ⟨⟨rfl, LeQ.rfl⟩, ⟨rfl, LeQ.rfl⟩, ⟨rfl, LeQ.rfl⟩, ⟨rfl, LeQ.rfl⟩, ⟨rfl, LeQ.rfl⟩, ⟨rfl, LeQ.rfl⟩, ⟨rfl, LeQ.rfl⟩, trivial⟩
  · intro i hi
    refine ex.sound (rc := []) tab_ok mix href _ ?_
    refine And.intro (fun h => ?_) (fun h => ?_)
    · have h : (i : Int) < 3 := decT h
      have hi3 : i = 0 ∨ i = 1 ∨ i = 2 := by omega
      rcases hi3 with rfl | rfl | rfl
      · repeat first | refine sk ?_ | refine st ?_ | refine sg ?_ | refine sh ?_ | refine su ?_ | refine sn1 ?_ | refine sn0 ?_ | refine oi (by decide) ?_ | refine ob (by decide) ?_ | refine And.intro (by kernel_rfl) ?_ | refine And.intro (show imp none (gimp _ none) from trivial) ?_
        refine ⟨1, by omega, by omega, ?_⟩
        exact SubI.of0 href [] rfl ⟨⟨rfl, LeBx.rfl⟩, ⟨rfl, LeBx.rfl⟩, ⟨rfl, LeBx.rfl⟩, ⟨rfl, LeBx.rfl⟩, ⟨rfl, LeBx.rfl⟩, trivial⟩ ⟨⟨rfl, LeQ.rfl⟩, ⟨rfl, LeQ.rfl⟩, ⟨rfl, LeQ.rfl⟩, ⟨rfl, LeQ.rfl⟩, ⟨rfl, LeQ.rfl⟩, ⟨rfl, LeQ.rfl⟩, ⟨rfl, LeQ.rfl⟩, trivial⟩
      · repeat first | refine sk ?_ | refine st ?_ | refine sg ?_ | refine sh ?_ | refine su ?_ | refine sn1 ?_ | refine sn0 ?_ | refine oi (by decide) ?_ | refine ob (by decide) ?_ | refine And.intro (by kernel_rfl) ?_ | refine And.intro (show imp none (gimp _ none) from trivial) ?_
        refine ⟨2, by omega, by omega, ?_⟩
        exact SubI.of0 href [] rfl ⟨⟨rfl, LeBx.rfl⟩, ⟨rfl, LeBx.rfl⟩, ⟨rfl, LeBx.rfl⟩, ⟨rfl, LeBx.rfl⟩, ⟨rfl, LeBx.rfl⟩, trivial⟩ ⟨⟨rfl, LeQ.rfl⟩, ⟨rfl, LeQ.rfl⟩, ⟨rfl, LeQ.rfl⟩, ⟨rfl, LeQ.rfl⟩, ⟨rfl, LeQ.rfl⟩, ⟨rfl, LeQ.rfl⟩, ⟨rfl, LeQ.rfl⟩, trivial⟩
      · repeat first | refine sk ?_ | refine st ?_ | refine sg ?_ | refine sh ?_ | refine su ?_ | refine sn1 ?_ | refine sn0 ?_ | refine oi (by decide) ?_ | refine ob (by decide) ?_ | refine And.intro (by kernel_rfl) ?_ | refine And.intro (show imp none (gimp _ none) from trivial) ?_
        refine ⟨3, by omega, by omega, ?_⟩
        exact SubI.of0 href [] rfl ⟨⟨rfl, LeBx.rfl⟩, ⟨rfl, LeBx.rfl⟩, ⟨rfl, LeBx.rfl⟩, ⟨rfl, LeBx.rfl⟩, ⟨rfl, LeBx.rfl⟩, trivial⟩ ⟨⟨rfl, LeQ.rfl⟩, ⟨rfl, LeQ.rfl⟩, ⟨rfl, LeQ.rfl⟩, ⟨rfl, LeQ.rfl⟩, ⟨rfl, LeQ.rfl⟩, ⟨rfl, LeQ.rfl⟩, ⟨rfl, LeQ.rfl⟩, trivial⟩
    · have h : ¬ (i : Int) < 3 := decF h
      obtain rfl : i = 3 := by omega
      refine AW.loopI (ciS2 a b c p) (fun i => i ≤ 3) (fun i => 3 - i) 0 (Nat.zero_le _) ?_ ?_
      · exact SubI.of0 href [] rfl ⟨⟨rfl, LeBx.rfl⟩, ⟨rfl, LeBx.rfl⟩, ⟨rfl, LeBx.rfl⟩, trivial⟩ ⟨⟨rfl, LeQ.rfl⟩, ⟨rfl, LeQ.rfl⟩, ⟨rfl, LeQ.rfl⟩, ⟨rfl, LeQ.rfl⟩, ⟨rfl, LeQ.rfl⟩, trivial⟩
      · intro i hi
        refine ex.sound (rc := []) tab_ok mix href _ ?_
        refine And.intro (fun h => ?_) (fun h => ?_)
        · have h : (i : Int) < 3 := decT h
          have hi3 : i = 0 ∨ i = 1 ∨ i = 2 := by omega
          rcases hi3 with rfl | rfl | rfl
          · repeat first | refine sk ?_ | refine st ?_ | refine sg ?_ | refine sh ?_ | refine su ?_ | refine sn1 ?_ | refine sn0 ?_ | refine oi (by decide) ?_ | refine ob (by decide) ?_ | refine And.intro (by kernel_rfl) ?_ | refine And.intro (show imp none (gimp _ none) from trivial) ?_
            refine ⟨1, by omega, by omega, ?_⟩
            exact SubI.of0 href [] rfl ⟨⟨rfl, LeBx.rfl⟩, ⟨rfl, LeBx.rfl⟩, ⟨rfl, LeBx.rfl⟩, trivial⟩ ⟨⟨rfl, LeQ.rfl⟩, ⟨rfl, LeQ.rfl⟩, ⟨rfl, LeQ.rfl⟩, ⟨rfl, LeQ.rfl⟩, ⟨rfl, LeQ.rfl⟩, trivial⟩
          · repeat first | refine sk ?_ | refine st ?_ | refine sg ?_ | refine sh ?_ | refine su ?_ | refine sn1 ?_ | refine sn0 ?_ | refine oi (by decide) ?_ | refine ob (by decide) ?_ | refine And.intro (by kernel_rfl) ?_ | refine And.intro (show imp none (gimp _ none) from trivial) ?_
            refine ⟨2, by omega, by omega, ?_⟩
            exact SubI.of0 href [] rfl ⟨⟨rfl, LeBx.rfl⟩, ⟨rfl, LeBx.rfl⟩, ⟨rfl, LeBx.rfl⟩, trivial⟩ ⟨⟨rfl, LeQ.rfl⟩, ⟨rfl, LeQ.rfl⟩, ⟨rfl, LeQ.rfl⟩, ⟨rfl, LeQ.rfl⟩, ⟨rfl, LeQ.rfl⟩, trivial⟩
          · repeat first | refine sk ?_ | refine st ?_ | refine sg ?_ | refine sh ?_ | refine su ?_ | refine sn1 ?_ | refine sn0 ?_ | refine oi (by decide) ?_ | refine ob (by decide) ?_ | refine And.intro (by kernel_rfl) ?_ | refine And.intro (show imp none (gimp _ none) from trivial) ?_
            refine ⟨3, by omega, by omega, ?_⟩
            exact SubI.of0 href [] rfl ⟨⟨rfl, LeBx.rfl⟩, ⟨rfl, LeBx.rfl⟩, ⟨rfl, LeBx.rfl⟩, trivial⟩ ⟨⟨rfl, LeQ.rfl⟩, ⟨rfl, LeQ.rfl⟩, ⟨rfl, LeQ.rfl⟩, ⟨rfl, LeQ.rfl⟩, ⟨rfl, LeQ.rfl⟩, trivial⟩
        · have h : ¬ (i : Int) < 3 := decF h
          obtain rfl : i = 3 := by omega
          refine callN (Compare (sums a b c p 3) 0) ?_
          exact SubR.refl _
end Go.Ch

/- geometry.belongs. -/
namespace Go.Ch
open Go Go.Ax Go.Proofs Go.Proofs.Tryz Go.Hull
set_option maxRecDepth 100000
set_option pp.maxSteps 400
set_option maxHeartbeats 1000000

def Near (p q : Pt) : Prop := -20000 ≤ p.x - q.x ∧ p.x - q.x ≤ 20000 ∧ -20000 ≤ p.y - q.y ∧ p.y - q.y ≤ 20000
theorem os_eq {a p : Pt} (h : Near a p) : os a p = sqr p a ∧ 0 ≤ sqr p a ∧ sqr p a ≤ 800000000 := by
  unfold Near at h
  have h1 := mul_le_of (a := a.x - p.x) (b := a.x - p.x) (A := 20000) (B := 20000) (by omega) (by omega) (by omega) (by omega)
  have h2 := mul_le_of (a := a.y - p.y) (b := a.y - p.y) (A := 20000) (B := 20000) (by omega) (by omega) (by omega) (by omega)
  have e0 := sqr_nonneg p a
  unfold os ox oy sqr at *
  rw [w64_of (n := a.x - p.x) (by omega) (by omega), w64_of (n := a.y - p.y) (by omega) (by omega)]
  rw [w64_of (n := (a.x - p.x) * (a.x - p.x)) (by omega) (by omega), w64_of (n := (a.y - p.y) * (a.y - p.y)) (by omega) (by omega), w64_of (by omega) (by omega)]
  exact ⟨rfl, e0, by omega⟩
theorem oc_eq {a b p : Pt} (ha : Near a p) (hb : Near b p) : oc p a b = crs p a b ∧ -800000000 ≤ crs p a b ∧ crs p a b ≤ 800000000 := by
  unfold Near at ha hb
  have h1 := mul_le_of (a := a.x - p.x) (b := b.y - p.y) (A := 20000) (B := 20000) (by omega) (by omega) (by omega) (by omega)
  have h2 := mul_le_of (a := b.x - p.x) (b := a.y - p.y) (A := 20000) (B := 20000) (by omega) (by omega) (by omega) (by omega)
  have e : crs p a b = (a.x - p.x) * (b.y - p.y) - (b.x - p.x) * (a.y - p.y) := by unfold crs; rw [Int.mul_comm (a.y - p.y)]
  rw [e]
  unfold oc ox oy
  rw [w64_of (n := a.x - p.x) (by omega) (by omega), w64_of (n := a.y - p.y) (by omega) (by omega), w64_of (n := b.x - p.x) (by omega) (by omega), w64_of (n := b.y - p.y) (by omega) (by omega)]
  rw [w64_of (n := (a.x - p.x) * (b.y - p.y)) (by omega) (by omega), w64_of (n := (b.x - p.x) * (a.y - p.y)) (by omega) (by omega), w64_of (by omega) (by omega)]
  exact ⟨rfl, by omega, by omega⟩
theorem circ_det {a b c p : Pt} (ha : Near a p) (hb : Near b p) (hc : Near c p) : circI a b c p = sgn (det3 a b c p) := by
  obtain ⟨a1, a2, a3⟩ := os_eq ha
  obtain ⟨b1, b2, b3⟩ := os_eq hb
  obtain ⟨c1, c2, c3⟩ := os_eq hc
  obtain ⟨x1, x2, x3⟩ := oc_eq hb hc
  obtain ⟨y1, y2, y3⟩ := oc_eq hc ha
  obtain ⟨z1, z2, z3⟩ := oc_eq ha hb
  have m1 := mul_le_of (a := sqr p a) (b := crs p b c) (A := 800000000) (B := 800000000) (by omega) (by omega) (by omega) (by omega)
  have m2 := mul_le_of (a := sqr p b) (b := crs p c a) (A := 800000000) (B := 800000000) (by omega) (by omega) (by omega) (by omega)
  have m3 := mul_le_of (a := sqr p c) (b := crs p a b) (A := 800000000) (B := 800000000) (by omega) (by omega) (by omega) (by omega)
  unfold circI sums det3
  rw [a1, b1, c1, x1, y1, z1, w64_of (n := sqr p a * crs p b c) (by omega) (by omega), w64_of (n := sqr p b * crs p c a) (by omega) (by omega), w64_of (n := sqr p c * crs p a b) (by omega) (by omega),
    Int.zero_add, w64_of (n := sqr p a * crs p b c) (by omega) (by omega), w64_of (n := sqr p a * crs p b c + sqr p b * crs p c a) (by omega) (by omega), w64_of (by omega) (by omega), Int.sub_zero]
  rfl
theorem ahd_bef (a b : Pt) : decide (ahdI a b < 0) = bef a b := by
  rw [Bool.eq_iff_iff, decide_eq_true_iff]; exact ahdI_neg a b
theorem sgn_one (n : Int) : (sgn n == 1) = decide (n > 0) := by
  rw [Bool.eq_iff_iff]; unfold sgn; simp only [beq_iff_eq, decide_eq_true_eq]; split
  · constructor <;> intro <;> omega
  · split
    · constructor <;> intro <;> omega
    · constructor <;> intro <;> omega
theorem sgn_beq0 (n : Int) : (sgn n == 0) = (n == 0) := by
  rw [Bool.eq_iff_iff]; unfold sgn; simp only [beq_iff_eq]; split
  · constructor <;> intro <;> omega
  · split
    · constructor <;> intro <;> omega
    · constructor <;> intro <;> omega
def rotN (t : Pt × Pt × Pt) : Nat → Pt × Pt × Pt
  | 0 => t
  | k + 1 => rot1 (rotN t k)
abbrev t3B (t : Pt × Pt × Pt) : Box := tri3B t.1 t.2.1 t.2.2
theorem rot1_mem {l : List Pt} {t : Pt × Pt × Pt} (h : t.1 ∈ l ∧ t.2.1 ∈ l ∧ t.2.2 ∈ l) : (rot1 t).1 ∈ l ∧ (rot1 t).2.1 ∈ l ∧ (rot1 t).2.2 ∈ l := by
  unfold rot1; split
  · exact ⟨h.2.1, h.2.2, h.1⟩
  · exact h
theorem gBelongs (l : List Pt) (a b c : Pt) (ha : a ∈ l) (hb : b ∈ l) (hc : c ∈ l) (hap : apartB l = false) (ho : ∀ p ∈ l, okP p) (hl : l.length ≤ 1000000) : CallP Tryz.prog 81 [pts l, tri3 a b c] (vB (belP l a b c)) := by
  refine callP_of_ex (rc := []) (N := 59) Tryz.func81 rfl rfl Tryz.call81 tab_ok mix rfl rfl (fun cx href => ?_)
  refine AW.loopI (fun k : Nat => ⟨[(0, pts l), (3, .s (.ptr 3 0)), (7, vI k)], [(3, some (t3B (rotN (a, b, c) k)))]⟩) (fun k => k ≤ 2) (fun k => 2 - k) 0 (Nat.zero_le _) ?_ ?_
  · exact SubI.of0 href [] rfl ⟨⟨rfl, LeBx.rfl⟩, trivial⟩ ⟨⟨rfl, LeQ.rfl⟩, ⟨rfl, LeQ.rfl⟩, ⟨rfl, LeQ.rfl⟩, trivial⟩
  · intro k hk
    refine ex.sound (rc := []) tab_ok mix href _ ?_
    have hend : ∀ m, k = m → rotN (a, b, c) k = rotN (a, b, c) m := fun m h => h ▸ rfl
    have hst : rotN (a, b, c) (k + 1) = rot1 (rotN (a, b, c) k) := rfl
    generalize rotN (a, b, c) k = t at *
    refine And.intro (fun h => ?_) (fun h => ?_)
    · have h : (k : Int) < 2 := decT h
      obtain ⟨x, y, z⟩ := t
      repeat first | refine sk ?_ | refine st ?_ | refine sg ?_ | refine sh ?_ | refine su ?_ | refine sn1 ?_ | refine sn0 ?_ | refine oi (by decide) ?_ | refine ob (by decide) ?_ | refine og (fun _ => by decide) ?_ | refine And.intro (by kernel_rfl) ?_ | refine And.intro (show imp none (gimp _ none) from trivial) ?_
      refine callN (gAhead y x) ?_
      repeat first | refine sk ?_ | refine st ?_ | refine sg ?_ | refine sh ?_ | refine su ?_ | refine sn1 ?_ | refine sn0 ?_ | refine oi (by decide) ?_ | refine ob (by decide) ?_ | refine og (fun _ => by decide) ?_ | refine And.intro (by kernel_rfl) ?_ | refine And.intro (show imp none (gimp _ none) from trivial) ?_
      refine callG (gAhead z x) ?_
      repeat first | refine sk ?_ | refine st ?_ | refine sg ?_ | refine sh ?_ | refine su ?_ | refine sn1 ?_ | refine sn0 ?_ | refine oi (by decide) ?_ | refine ob (by decide) ?_ | refine og (fun _ => by decide) ?_ | refine And.intro (by kernel_rfl) ?_ | refine And.intro (show imp none (gimp _ none) from trivial) ?_
      refine And.intro (fun h2 => ?_) (fun h2 => ?_)
      · have h2 : (decide (ahdI y x < 0) || decide (ahdI z x < 0)) = true := h2
        rw [ahd_bef, ahd_bef] at h2
        have hr : rot1 (x, y, z) = (y, z, x) := by unfold rot1; rw [if_pos h2]
        repeat first | refine sk ?_ | refine st ?_ | refine sg ?_ | refine sh ?_ | refine su ?_ | refine sn1 ?_ | refine sn0 ?_ | refine oi (by decide) ?_ | refine ob (by decide) ?_ | refine og (fun _ => by decide) ?_ | refine And.intro (by kernel_rfl) ?_ | refine And.intro (show imp none (gimp _ none) from trivial) ?_
        refine ⟨k + 1, by omega, by omega, ?_⟩
        rw [hst, hr]
        exact SubI.of0 href [] rfl ⟨⟨rfl, LeBx.rfl⟩, trivial⟩ ⟨⟨rfl, LeQ.rfl⟩, ⟨rfl, LeQ.rfl⟩, ⟨rfl, LeQ.int (w64_of (by omega) (by omega))⟩, trivial⟩
      · have h2 : (decide (ahdI y x < 0) || decide (ahdI z x < 0)) = false := h2
        rw [ahd_bef, ahd_bef] at h2
        have hr : rot1 (x, y, z) = (x, y, z) := by unfold rot1; rw [if_neg (by rw [h2]; exact Bool.false_ne_true)]
        refine ⟨k + 1, by omega, by omega, ?_⟩
        rw [hst, hr]
        exact SubI.of0 href [] rfl ⟨⟨rfl, LeBx.rfl⟩, trivial⟩ ⟨⟨rfl, LeQ.rfl⟩, ⟨rfl, LeQ.rfl⟩, ⟨rfl, LeQ.int (w64_of (by omega) (by omega))⟩, trivial⟩
    · have h : ¬ (k : Int) < 2 := decF h
      have ht : t = rotP a b c := hend 2 (by omega)
      have hm := rot1_mem (rot1_mem (t := (a, b, c)) (l := l) ⟨ha, hb, hc⟩)
      have hm : t.1 ∈ l ∧ t.2.1 ∈ l ∧ t.2.2 ∈ l := by rw [ht]; exact hm
      have hbel : belP l a b c = l.all fun p => okProg t.1 t.2.1 t.2.2 p := by unfold belP; rw [ht]
      rw [hbel]
      clear ht hend hst hbel
      obtain ⟨x, y, z⟩ := t
      obtain ⟨hx, hy, hz⟩ := hm
      refine AW.loopI (fun i : Nat => ⟨[(3, .s (.ptr 3 0)), (31, pts l), (32, vI l.length), (33, vI i)], [(3, some (tri3B x y z))]⟩) (fun i => i ≤ l.length ∧ (l.all fun p => okProg x y z p) = (l.drop i).all fun p => okProg x y z p) (fun i => l.length - i) 0 ⟨Nat.zero_le _, rfl⟩ ?_ ?_
      · exact SubI.of0 href [] rfl ⟨⟨rfl, LeBx.rfl⟩, trivial⟩ ⟨⟨rfl, LeQ.rfl⟩, ⟨rfl, LeQ.rfl⟩, ⟨rfl, LeQ.rfl⟩, ⟨rfl, LeQ.rfl⟩, trivial⟩
      · rintro i ⟨hi, hj⟩
        refine ex.sound (rc := []) tab_ok mix href _ ?_
        refine And.intro (fun h => ?_) (fun h => ?_)
        · have h : (i : Int) < l.length := decT h
          have hi' : i < l.length := by omega
          rw [List.drop_eq_getElem_cons hi', List.all_cons, ← getD_at hi'] at hj
          have hp : l.getD i default ∈ l := by rw [getD_at hi']; exact List.getElem_mem hi'
          refine oi ⟨by omega, by omega⟩ ?_
          refine callN (gCircle x y z (l.getD i default)) ?_
          have hcd := circ_det (near_of hap hx hp) (near_of hap hy hp) (near_of hap hz hp)
          have h1 := sgn_one (det3 x y z (l.getD i default))
          have h0 := sgn_beq0 (det3 x y z (l.getD i default))
          rw [← hcd] at h1 h0
          refine And.intro (fun h2 => ?_) (fun h2 => ?_)
          · have h2 : (circI x y z (l.getD i default) == 1) = true := h2
            rw [h1] at h2
            exact SubR.lit (by rw [hj]; unfold okProg; rw [h2]; rfl)
          · have h2 : (circI x y z (l.getD i default) == 1) = false := h2
            rw [h1] at h2
            refine And.intro (fun h3 => ?_) (fun h3 => ?_)
            · have h3 : (circI x y z (l.getD i default) == 0) = true := h3
              rw [h0] at h3
              repeat first | refine sk ?_ | refine st ?_ | refine sg ?_ | refine sh ?_ | refine su ?_ | refine sn1 ?_ | refine sn0 ?_ | refine oi (by decide) ?_ | refine ob (by decide) ?_ | refine og (fun _ => by decide) ?_ | refine And.intro (by kernel_rfl) ?_ | refine And.intro (show imp none (gimp _ none) from trivial) ?_
              refine callN (gAhead (l.getD i default) x) ?_
              repeat first | refine sk ?_ | refine st ?_ | refine sg ?_ | refine sh ?_ | refine su ?_ | refine sn1 ?_ | refine sn0 ?_ | refine oi (by decide) ?_ | refine ob (by decide) ?_ | refine og (fun _ => by decide) ?_ | refine And.intro (by kernel_rfl) ?_ | refine And.intro (show imp none (gimp _ none) from trivial) ?_
              refine callG (gcross y z (l.getD i default)) ?_
              repeat first | refine sk ?_ | refine st ?_ | refine sg ?_ | refine sh ?_ | refine su ?_ | refine sn1 ?_ | refine sn0 ?_ | refine oi (by decide) ?_ | refine ob (by decide) ?_ | refine og (fun _ => by decide) ?_ | refine And.intro (by kernel_rfl) ?_ | refine And.intro (show imp none (gimp _ none) from trivial) ?_
              refine And.intro (fun h4 => ?_) (fun h4 => ?_)
              · have h4 : (decide (ahdI (l.getD i default) x < 0) || decide (cross y z (l.getD i default) < 0)) = true := h4
                rw [ahd_bef, cross_crs (ho _ hy) (ho _ hz) (ho _ hp)] at h4
                exact SubR.lit (by rw [hj]; unfold okProg; rw [h2, h3, ← Bool.not_or, h4]; rfl)
              · have h4 : (decide (ahdI (l.getD i default) x < 0) || decide (cross y z (l.getD i default) < 0)) = false := h4
                rw [ahd_bef, cross_crs (ho _ hy) (ho _ hz) (ho _ hp)] at h4
                refine ⟨i + 1, ⟨by omega, ?_⟩, by omega, ?_⟩
                · rw [hj]; unfold okProg; rw [h2, h3, ← Bool.not_or, h4]; rfl
                · exact SubI.of0 href [] rfl ⟨⟨rfl, LeBx.rfl⟩, trivial⟩ ⟨⟨rfl, LeQ.rfl⟩, ⟨rfl, LeQ.rfl⟩, ⟨rfl, LeQ.rfl⟩, ⟨rfl, LeQ.int (w64_of (by omega) (by omega))⟩, trivial⟩
            · have h3 : (circI x y z (l.getD i default) == 0) = false := h3
              rw [h0] at h3
              refine ⟨i + 1, ⟨by omega, ?_⟩, by omega, ?_⟩
              · rw [hj]; unfold okProg; rw [h2, h3]; rfl
              · exact SubI.of0 href [] rfl ⟨⟨rfl, LeBx.rfl⟩, trivial⟩ ⟨⟨rfl, LeQ.rfl⟩, ⟨rfl, LeQ.rfl⟩, ⟨rfl, LeQ.rfl⟩, ⟨rfl, LeQ.int (w64_of (by omega) (by omega))⟩, trivial⟩
        · have h : ¬ (i : Int) < l.length := decF h
          obtain rfl : i = l.length := by omega
          rw [List.drop_length] at hj
          exact SubR.lit (by rw [hj]; rfl)
end Go.Ch

/- geometry.triangulate. -/
namespace Go.Ch
open Go Go.Ax Go.Proofs Go.Proofs.Tryz Go.Hull
set_option maxRecDepth 100000
set_option pp.maxSteps 400
set_option maxHeartbeats 1000000

abbrev trs (l : List Tr) : AV := .s (.d (dTrs l))
theorem pC_succ (l : List Pt) (a b k : Nat) : pC l a b (k + 1) = pC l a b k ++ (progC l a b (b + 1 + k)).toList := by
  unfold pC
  rw [List.range_succ, List.filterMap_append]
  congr 1
theorem pB_succ (l : List Pt) (a k : Nat) : pB l a (k + 1) = pB l a k ++ pC l a (a + 1 + k) (l.length - (a + 1 + k + 1)) := by
  unfold pB
  rw [List.range_succ, List.flatMap_append, List.flatMap_cons, List.flatMap_nil, List.append_nil]
theorem pA_succ (l : List Pt) (k : Nat) : pA l (k + 1) = pA l k ++ pB l k (l.length - (k + 1)) := by
  unfold pA
  rw [List.range_succ, List.flatMap_append, List.flatMap_cons, List.flatMap_nil, List.append_nil]
theorem pC_len (l : List Pt) (a b : Nat) : ∀ k, (pC l a b k).length ≤ k
  | 0 => by simp [pC]
  | k + 1 => by
    rw [pC_succ, List.length_append]
    have := pC_len l a b k
    have : (progC l a b (b + 1 + k)).toList.length ≤ 1 := by cases progC l a b (b + 1 + k) <;> simp
    omega
theorem pB_len (l : List Pt) (a : Nat) : ∀ k, (pB l a k).length ≤ k * l.length
  | 0 => by simp [pB]
  | k + 1 => by
    rw [pB_succ, List.length_append, Nat.add_mul]
    have := pB_len l a k
    have := pC_len l a (a + 1 + k) (l.length - (a + 1 + k + 1))
    omega
theorem pA_len (l : List Pt) : ∀ k, (pA l k).length ≤ k * (l.length * l.length)
  | 0 => by simp [pA]
  | k + 1 => by
    rw [pA_succ, List.length_append, Nat.add_mul]
    have := pA_len l k
    have := pB_len l k (l.length - (k + 1))
    have : (l.length - (k + 1)) * l.length ≤ l.length * l.length := Nat.mul_le_mul_right _ (by omega)
    omega
theorem SortTNil (a : AV) : CallP Tryz.prog 82 [.s (.d (.val (.slice none 0 0))), a] (.t []) := by
  refine ⟨Tryz.call82, fun M w vs hr hM => ?_⟩
  match vs, hr with
  | [v, v2], ⟨hv, hv2, _⟩ =>
    have hv : v = .slice none 0 0 := hv
    subst hv
    refine (AnyF.slices_SortFunc_none (P := Tryz.prog) (ρ := Tryz.laysT_ren) { Tryz.laysT with } none 0 v2 w).mono ?_
    rintro e w' ⟨he, rfl⟩
    exact ⟨.tuple #[], M, he, ⟨[], rfl, trivial⟩, Grow.refl _ _, hM, ⟨⟨rfl, rfl, rfl, Nat.le_refl _, fun _ _ => rfl⟩, Nat.le_refl _⟩⟩
  | [], h => exact h.elim
  | [_], h => exact h.2.elim
  | _ :: _ :: _ :: _, h => exact h.2.2.elim
theorem LeBx.snocT {o : List Tri} {T : Tri} {g : Nat → Nat → DV} (hg : ∀ j, j < 3 → g 0 j = trD (trOf T) j) :
    LeBx (.row 70 ((bif o.isEmpty then 0 else o.length) + 1) 3 (catF (bif o.isEmpty then 0 else o.length) (trEl (trTs o)) g)) (.mrow 70 (o ++ [T]).length 3 (trEl (trTs (o ++ [T])))) := by
  rw [bif_len]
  refine LeBx.mrow (by simp) fun i j hi hj => LeD.of_eq ?_
  show (if i < o.length then trD ((trTs o).getD i default) j else g (i - o.length) j) = trD ((trTs (o ++ [T])).getD i default) j
  have hlen : (trTs o).length = o.length := by unfold trTs; rw [List.length_map]
  have ha : trTs (o ++ [T]) = trTs o ++ [trOf T] := by unfold trTs; rw [List.map_append]; rfl
  rw [ha, List.getD_eq_getElem?_getD, List.getD_eq_getElem?_getD]
  split
  · rename_i h
    rw [List.getElem?_append_left (by omega)]
  · rename_i h
    obtain rfl : i = o.length := by omega
    rw [List.getElem?_append_right (by omega), hlen, Nat.sub_self, hg j hj]
    rfl
abbrev tS0 (l : List Pt) (a : Nat) (o : List Tri) : St := ⟨[(0, pts l), (3, .s (.mo o.isEmpty 100)), (10, vI l.length), (11, vI a)], [(100, some (.mrow 70 o.length 3 (trEl (trTs o))))]⟩
abbrev tS1 (l : List Pt) (a b : Nat) (o : List Tri) : St := ⟨[(0, pts l), (3, .s (.mo o.isEmpty 100)), (4, vI a), (5, vI b), (10, vI l.length), (11, vI a)], [(100, some (.mrow 70 o.length 3 (trEl (trTs o))))]⟩
abbrev tS2 (l : List Pt) (a b c : Nat) (o : List Tri) : St := ⟨[(0, pts l), (3, .s (.mo o.isEmpty 100)), (4, vI a), (5, vI b), (6, vI c), (10, vI l.length), (11, vI a)], [(100, some (.mrow 70 o.length 3 (trEl (trTs o))))]⟩
abbrev tS3 (l : List Pt) (a b c : Nat) (o : List Tri) (n : Int) (t : Tri) : St := ⟨[(0, pts l), (3, .s (.mo o.isEmpty 100)), (4, vI a), (5, vI b), (6, vI c), (7, .s (.ptr 7 0)), (8, vI n), (10, vI l.length), (11, vI a)], [(7, some (.cells [.d (dI t.A), .d (dI t.B), .d (dI t.C)])), (100, some (.mrow 70 o.length 3 (trEl (trTs o))))]⟩
theorem gTriangulate (l : List Pt) (hap : apartB l = false) (ho : ∀ p ∈ l, okP p) (hl : l.length ≤ 64) : CallP Tryz.prog 55 [pts l] (trs (trTs ((triP l).mergeSort fun x y => !(decide (cfT y x < 0))))) := by
  refine callP_of_aw Tryz.func55 rfl rfl Tryz.call55 tab_ok rfl rfl (fun cx href => ?_)
  refine AW.seq (ex.sound (rc := []) tab_ok mix href _ ?_)
  refine AW.seq (ex.sound (rc := []) tab_ok mix href _ ?_)
  refine AW.cut (σ' := tS0 l l.length (triP l)) (ex.sound (rc := []) tab_ok mix href _ ?_) ?_
  · refine AW.loopI (fun a => tS0 l a (pA l a)) (fun a => a ≤ l.length) (fun a => l.length - a) 0 (Nat.zero_le _) ?_ ?_
    · exact SubI.of0 href [(100, 1000)] rfl ⟨⟨rfl, rfl⟩, trivial⟩ ⟨⟨rfl, LeQ.rfl⟩, ⟨rfl, LeQ.nil rfl⟩, ⟨rfl, LeQ.rfl⟩, ⟨rfl, LeQ.rfl⟩, trivial⟩
    · intro a ha
      have hal := pA_len l a
      have hal2 : (pA l a).length ≤ 262144 := by
        have : a * (l.length * l.length) ≤ 64 * (64 * 64) := Nat.mul_le_mul (by omega) (Nat.mul_le_mul hl hl)
        omega
      refine ex.sound (rc := []) tab_ok mix href _ ?_
      refine And.intro (fun h => ?_) (fun h => ?_)
      · have h : (a : Int) < l.length := decT h
        have ha' : a < l.length := by omega
        refine AW.loopI (fun j : Nat => tS1 l a (a + 1 + j) (pA l a ++ pB l a j)) (fun j => a + 1 + j ≤ l.length) (fun j => l.length - j) 0 (by omega) ?_ ?_
        · refine SubI.of0 href [] rfl ⟨⟨rfl, LeBx.of_eq (by show _ = Box.mrow 70 (pA l a ++ []).length 3 (trEl (trTs (pA l a ++ []))); rw [List.append_nil])⟩, trivial⟩ ⟨⟨rfl, LeQ.rfl⟩, ⟨rfl, LeQ.mm (by show _ = (pA l a ++ []).isEmpty; rw [List.append_nil])⟩, ⟨rfl, LeQ.rfl⟩, ⟨rfl, LeQ.int ((w64_of (by omega) (by omega)).trans (by omega))⟩, ⟨rfl, LeQ.rfl⟩, ⟨rfl, LeQ.rfl⟩, trivial⟩
        · intro j hjl
          have hbl := pB_len l a j
          have hbl2 : (pB l a j).length ≤ 4096 := by
            have : j * l.length ≤ 64 * 64 := Nat.mul_le_mul (by omega) hl
            omega
          refine AW.seq (ex.sound (rc := []) tab_ok mix href _ ?_)
          refine And.intro (fun h2 => ?_) (fun h2 => ?_)
          · have h2 : ((a + 1 + j : Nat) : Int) < l.length := decT h2
            refine AW.seq (AW.block (AW.seq (ex.sound (rc := []) tab_ok mix href _ (AW.block ?_))))
            have hb' : a + 1 + j < l.length := by omega
            generalize hb : a + 1 + j = b at h2 hb' ⊢
            generalize ho1 : pA l a ++ pB l a j = o
            have hol : o.length ≤ 300000 := by rw [← ho1, List.length_append]; omega
            refine AW.loopI (fun k : Nat => tS2 l a b (b + 1 + k) (o ++ pC l a b k)) (fun k => b + 1 + k ≤ l.length) (fun k => l.length - k) 0 (by omega) ?_ ?_
            · refine SubI.of0 href [] rfl ⟨⟨rfl, LeBx.of_eq (by show _ = Box.mrow 70 (o ++ []).length 3 (trEl (trTs (o ++ []))); rw [List.append_nil])⟩, trivial⟩ ⟨⟨rfl, LeQ.rfl⟩, ⟨rfl, LeQ.mm (by show _ = (o ++ []).isEmpty; rw [List.append_nil])⟩, ⟨rfl, LeQ.rfl⟩, ⟨rfl, LeQ.rfl⟩, ⟨rfl, LeQ.int ((w64_of (by omega) (by omega)).trans (by omega))⟩, ⟨rfl, LeQ.rfl⟩, ⟨rfl, LeQ.rfl⟩, trivial⟩
            · intro k hk
              have hcl := pC_len l a b k
              refine AW.seq (ex.sound (rc := []) tab_ok mix href _ ?_)
              refine And.intro (fun h3 => ?_) (fun h3 => ?_)
              · have h3 : ((b + 1 + k : Nat) : Int) < l.length := decT h3
                have hc' : b + 1 + k < l.length := by omega
                have hsucc := pC_succ l a b k
                generalize hc : b + 1 + k = c at h3 hc' hsucc ⊢
                generalize ho2 : o ++ pC l a b k = o2
                have hol2 : o2.length ≤ 400000 := by rw [← ho2, List.length_append]; omega
                refine AW.seq (AW.block (AW.seq (ex.sound (rc := []) tab_ok mix href _ ?_)))
                refine AW.cut (σ' := tS3 l a b c o2 (cross (l.getD a default) (l.getD b default) (l.getD c default)) ⟨a, b, c⟩) (ex.sound (rc := []) tab_ok mix href _ ?_) ?_
                · refine oi ⟨by omega, by omega⟩ ?_
                  repeat first | refine sk ?_ | refine st ?_ | refine sg ?_ | refine sh ?_ | refine su ?_ | refine sn1 ?_ | refine sn0 ?_ | refine And.intro (show imp none (gimp _ none) from trivial) ?_
                  refine oi ⟨by omega, by omega⟩ ?_
                  repeat first | refine sk ?_ | refine st ?_ | refine sg ?_ | refine sh ?_ | refine su ?_ | refine sn1 ?_ | refine sn0 ?_ | refine And.intro (show imp none (gimp _ none) from trivial) ?_
                  refine oi ⟨by omega, by omega⟩ ?_
                  repeat first | refine sk ?_ | refine st ?_ | refine sg ?_ | refine sh ?_ | refine su ?_ | refine sn1 ?_ | refine sn0 ?_ | refine And.intro (show imp none (gimp _ none) from trivial) ?_
                  refine callN (gcross (l.getD a default) (l.getD b default) (l.getD c default)) ?_
                  repeat first | refine sk ?_ | refine st ?_ | refine sg ?_ | refine sh ?_ | refine su ?_ | refine sn1 ?_ | refine sn0 ?_ | refine And.intro (show imp none (gimp _ none) from trivial) ?_
                  refine And.intro (by kernel_rfl) ?_
                  exact ⟨rfl, SubI.of0 href [] rfl ⟨⟨rfl, LeBx.rfl⟩, ⟨rfl, LeBx.rfl⟩, trivial⟩ ⟨⟨rfl, LeQ.rfl⟩, ⟨rfl, LeQ.rfl⟩, ⟨rfl, LeQ.rfl⟩, ⟨rfl, LeQ.rfl⟩, ⟨rfl, LeQ.rfl⟩, ⟨rfl, LeQ.rfl⟩, ⟨rfl, LeQ.rfl⟩, ⟨rfl, LeQ.rfl⟩, ⟨rfl, LeQ.rfl⟩, trivial⟩⟩
                have hla : l.getD a default ∈ l := by rw [getD_at ha']; exact List.getElem_mem ha'
                have hlb : l.getD b default ∈ l := by rw [getD_at hb']; exact List.getElem_mem hb'
                have hlc : l.getD c default ∈ l := by rw [getD_at hc']; exact List.getElem_mem hc'
                rw [cross_crs (ho _ hla) (ho _ hlb) (ho _ hlc)]
                have hP : progC l a b c = (if crs (l.getD a default) (l.getD b default) (l.getD c default) ≠ 0 ∧ belP l (l.getD (if crs (l.getD a default) (l.getD b default) (l.getD c default) < 0 then (⟨a, c, b⟩ : Tri) else ⟨a, b, c⟩).A default) (l.getD (if crs (l.getD a default) (l.getD b default) (l.getD c default) < 0 then (⟨a, c, b⟩ : Tri) else ⟨a, b, c⟩).B default) (l.getD (if crs (l.getD a default) (l.getD b default) (l.getD c default) < 0 then (⟨a, c, b⟩ : Tri) else ⟨a, b, c⟩).C default) = true then some (if crs (l.getD a default) (l.getD b default) (l.getD c default) < 0 then (⟨a, c, b⟩ : Tri) else ⟨a, b, c⟩) else none) := rfl
                generalize crs (l.getD a default) (l.getD b default) (l.getD c default) = n at hP ⊢
                have hT : ∀ T : Tri, (if n < 0 then (⟨a, c, b⟩ : Tri) else ⟨a, b, c⟩) = T → T.A < l.length ∧ T.B < l.length ∧ T.C < l.length := by
                  rintro T rfl
                  split
                  · exact ⟨ha', hc', hb'⟩
                  · exact ⟨ha', hb', hc'⟩
                generalize hTe : (if n < 0 then (⟨a, c, b⟩ : Tri) else ⟨a, b, c⟩) = T at hP
                obtain ⟨t1, t2, t3⟩ := hT T hTe
                have ht1 : l.getD T.A default ∈ l := by rw [getD_at t1]; exact List.getElem_mem t1
                have ht2 : l.getD T.B default ∈ l := by rw [getD_at t2]; exact List.getElem_mem t2
                have ht3 : l.getD T.C default ∈ l := by rw [getD_at t3]; exact List.getElem_mem t3
                refine AW.cut (σ' := tS3 l a b c o2 n T) (ex.sound (rc := []) tab_ok mix href _ ?_) ?_
                · refine And.intro (fun h4 => ?_) (fun h4 => ?_)
                  · have h4 : n < 0 := decT h4
                    obtain rfl : (⟨a, c, b⟩ : Tri) = T := by rw [← hTe, if_pos h4]
                    exact ⟨rfl, SubI.of0 href [] rfl ⟨⟨rfl, LeBx.rfl⟩, ⟨rfl, LeBx.rfl⟩, trivial⟩ ⟨⟨rfl, LeQ.rfl⟩, ⟨rfl, LeQ.rfl⟩, ⟨rfl, LeQ.rfl⟩, ⟨rfl, LeQ.rfl⟩, ⟨rfl, LeQ.rfl⟩, ⟨rfl, LeQ.rfl⟩, ⟨rfl, LeQ.rfl⟩, ⟨rfl, LeQ.rfl⟩, ⟨rfl, LeQ.rfl⟩, trivial⟩⟩
                  · have h4 : ¬ n < 0 := decF h4
                    obtain rfl : (⟨a, b, c⟩ : Tri) = T := by rw [← hTe, if_neg h4]
                    exact ⟨rfl, SubI.of0 href [] rfl ⟨⟨rfl, LeBx.rfl⟩, ⟨rfl, LeBx.rfl⟩, trivial⟩ ⟨⟨rfl, LeQ.rfl⟩, ⟨rfl, LeQ.rfl⟩, ⟨rfl, LeQ.rfl⟩, ⟨rfl, LeQ.rfl⟩, ⟨rfl, LeQ.rfl⟩, ⟨rfl, LeQ.rfl⟩, ⟨rfl, LeQ.rfl⟩, ⟨rfl, LeQ.rfl⟩, ⟨rfl, LeQ.rfl⟩, trivial⟩⟩
                clear hTe hT
                refine ex.sound (rc := []) tab_ok mix href _ ?_
                repeat first | refine sk ?_ | refine st ?_ | refine sg ?_ | refine sh ?_ | refine su ?_ | refine sn1 ?_ | refine sn0 ?_ | refine And.intro (show imp none (gimp _ none) from trivial) ?_
                refine og (fun _ => ⟨by omega, by omega⟩) ?_
                repeat first | refine sk ?_ | refine st ?_ | refine sg ?_ | refine sh ?_ | refine su ?_ | refine sn1 ?_ | refine sn0 ?_ | refine And.intro (show imp none (gimp _ none) from trivial) ?_
                refine og (fun _ => ⟨by omega, by omega⟩) ?_
                repeat first | refine sk ?_ | refine st ?_ | refine sg ?_ | refine sh ?_ | refine su ?_ | refine sn1 ?_ | refine sn0 ?_ | refine And.intro (show imp none (gimp _ none) from trivial) ?_
                refine og (fun _ => ⟨by omega, by omega⟩) ?_
                repeat first | refine sk ?_ | refine st ?_ | refine sg ?_ | refine sh ?_ | refine su ?_ | refine sn1 ?_ | refine sn0 ?_ | refine And.intro (show imp none (gimp _ none) from trivial) ?_
                refine callG (gBelongs l (l.getD T.A default) (l.getD T.B default) (l.getD T.C default) ht1 ht2 ht3 hap ho (by omega)) ?_
                repeat first | refine sk ?_ | refine st ?_ | refine sg ?_ | refine sh ?_ | refine su ?_ | refine sn1 ?_ | refine sn0 ?_ | refine And.intro (show imp none (gimp _ none) from trivial) ?_
                refine And.intro (by kernel_rfl) ?_
                refine And.intro (fun h4 => ?_) (fun h4 => ?_)
                · have h4 : (n != 0 && belP l (l.getD T.A default) (l.getD T.B default) (l.getD T.C default)) = true := h4
                  have hPs : progC l a b c = some T := by
                    rw [hP, if_pos]
                    rw [Bool.and_eq_true] at h4
                    exact ⟨by simpa using h4.1, h4.2⟩
                  refine ob (by decide) ?_
                  refine ob (by rw [bif_len]; show (o2.length + 1) * 24 ≤ 140737488355328; omega) ?_
                  refine ob (fun k j hk hj => ?_) ?_
                  · obtain rfl : k = 0 := by omega
                    match j, hj with
                    | 0, _ => rfl
                    | 1, _ => rfl
                    | 2, _ => rfl
                  refine ex.sound (rc := []) tab_ok mix href _ ?_
                  refine ⟨k + 1, by omega, by omega, ?_⟩
                  have e : o ++ pC l a b (k + 1) = o2 ++ [T] := by rw [hsucc, hPs, ← ho2, List.append_assoc]; rfl
                  show SubI cx _ _ (tS2 l a b (b + 1 + (k + 1)) (o ++ pC l a b (k + 1)))
                  rw [e]
                  exact SubI.of0 href [(100, 78)] rfl ⟨⟨rfl, LeBx.snocT (T := T) fun j hj => match j, hj with
                    | 0, _ => rfl
                    | 1, _ => rfl
                    | 2, _ => rfl⟩, trivial⟩ ⟨⟨rfl, LeQ.rfl⟩, ⟨rfl, LeQ.mo (isEmpty_snoc _ _)⟩, ⟨rfl, LeQ.rfl⟩, ⟨rfl, LeQ.rfl⟩, ⟨rfl, LeQ.int ((w64_of (by omega) (by omega)).trans (by omega))⟩, ⟨rfl, LeQ.rfl⟩, ⟨rfl, LeQ.rfl⟩, trivial⟩
                · have h4 : (n != 0 && belP l (l.getD T.A default) (l.getD T.B default) (l.getD T.C default)) = false := h4
                  have hPn : progC l a b c = none := by
                    rw [hP, if_neg]
                    rintro ⟨h5, h6⟩
                    rw [h6, Bool.and_true] at h4
                    exact h5 (by simpa using h4)
                  refine ex.sound (rc := []) tab_ok mix href _ ?_
                  refine ⟨k + 1, by omega, by omega, ?_⟩
                  have e : o ++ pC l a b (k + 1) = o2 := by rw [hsucc, hPn, ← ho2]; simp
                  show SubI cx _ _ (tS2 l a b (b + 1 + (k + 1)) (o ++ pC l a b (k + 1)))
                  rw [e]
                  exact SubI.of0 href [] rfl ⟨⟨rfl, LeBx.rfl⟩, trivial⟩ ⟨⟨rfl, LeQ.rfl⟩, ⟨rfl, LeQ.rfl⟩, ⟨rfl, LeQ.rfl⟩, ⟨rfl, LeQ.rfl⟩, ⟨rfl, LeQ.int ((w64_of (by omega) (by omega)).trans (by omega))⟩, ⟨rfl, LeQ.rfl⟩, ⟨rfl, LeQ.rfl⟩, trivial⟩
              · have h3 : ¬ ((b + 1 + k : Nat) : Int) < l.length := decF h3
                obtain rfl : k = l.length - (b + 1) := by omega
                refine ex.sound (rc := []) tab_ok mix href _ ?_
                refine ⟨j + 1, by omega, by omega, ?_⟩
                have e : pA l a ++ pB l a (j + 1) = o ++ pC l a b (l.length - (b + 1)) := by rw [pB_succ, ← List.append_assoc, ho1, hb]
                show SubI cx _ _ (tS1 l a (a + 1 + (j + 1)) (pA l a ++ pB l a (j + 1)))
                rw [e]
                exact SubI.of0 href [] rfl ⟨⟨rfl, LeBx.rfl⟩, trivial⟩ ⟨⟨rfl, LeQ.rfl⟩, ⟨rfl, LeQ.rfl⟩, ⟨rfl, LeQ.rfl⟩, ⟨rfl, LeQ.int ((w64_of (by omega) (by omega)).trans (by omega))⟩, ⟨rfl, LeQ.rfl⟩, ⟨rfl, LeQ.rfl⟩, trivial⟩
          · have h2 : ¬ ((a + 1 + j : Nat) : Int) < l.length := decF h2
            obtain rfl : j = l.length - (a + 1) := by omega
            refine ⟨a + 1, by omega, by omega, ?_⟩
            show SubI cx _ _ (tS0 l (a + 1) (pA l (a + 1)))
            rw [pA_succ]
            exact SubI.of0 href [] rfl ⟨⟨rfl, LeBx.rfl⟩, trivial⟩ ⟨⟨rfl, LeQ.rfl⟩, ⟨rfl, LeQ.rfl⟩, ⟨rfl, LeQ.rfl⟩, ⟨rfl, LeQ.int ((w64_of (by omega) (by omega)).trans (by omega))⟩, trivial⟩
      · have h : ¬ (a : Int) < l.length := decF h
        obtain rfl : a = l.length := by omega
        refine ⟨rfl, ?_⟩
        exact SubI.of0 href [] rfl ⟨⟨rfl, LeBx.rfl⟩, trivial⟩ ⟨⟨rfl, LeQ.rfl⟩, ⟨rfl, LeQ.rfl⟩, ⟨rfl, LeQ.rfl⟩, ⟨rfl, LeQ.rfl⟩, trivial⟩
  · have hbd : ∀ t ∈ triP l, t.A < 1024 ∧ t.B < 1024 ∧ t.C < 1024 := fun t ht => by
      have := mem_triP.1 ht
      omega
    have hpl : (triP l).length ≤ 300000 := by
      have := pA_len l l.length
      have h2 : l.length * (l.length * l.length) ≤ 64 * (64 * 64) := Nat.mul_le_mul hl (Nat.mul_le_mul hl hl)
      unfold triP; omega
    generalize triP l = o at hbd hpl ⊢
    cases hz : o.isEmpty with
    | true =>
      obtain rfl : o = [] := List.isEmpty_iff.1 hz
      refine AW.subI (σ' := ⟨[(3, .s (.d (.val (.slice none 0 0))))], []⟩) (SubI.of0 href [] rfl trivial ⟨⟨rfl, LeQ.toNil rfl⟩, trivial⟩) ?_
      refine ex.sound (rc := []) tab_ok mix href _ ?_
      refine callN (SortTNil _) ?_
      have e : ([] : List Tri).mergeSort (fun x y => !(decide (cfT y x < 0))) = [] := List.eq_nil_of_length_eq_zero (by rw [List.length_mergeSort]; rfl)
      rw [e]
      exact SubR.le LeD.nil
    | false =>
      refine AW.subI (SubI.own (e := 70) (n := o.length) (s := 3) (f := trEl (trTs o)) (z := false) 3 100 ?_ rfl ?_) ?_
      · show AV.s (.mo o.isEmpty 100) = _
        rw [hz]
      · rfl
      refine ex.sound (rc := [82]) tab_ok mix href _ ?_
      refine ⟨[(1001, 100)], _, _, _, _, SortTri o hbd (trEl (trTs o)) (fun i j _ hj => LeD.refl _) (by omega), rfl, ⟨rfl, trivial⟩, rfl, ?_⟩
      refine SubR.le (LeD.slc' ?_ fun i j _ hj => LeD.refl _)
      unfold trTs; rw [List.length_map, List.length_mergeSort]
end Go.Ch

/- The reference's Check, Before, Dot, Square, Close, InCircle. -/
namespace Go.Ch
open Go Go.Ax Go.Proofs Go.Proofs.Tryz Go.Hull
set_option maxRecDepth 100000
set_option pp.maxSteps 400
set_option maxHeartbeats 1000000

theorem rCheckP (l : List Pt) (hl : l.length ≤ 1000000) : CallP Tryz.prog 26 [pts l] (vI (errPts l)) := by
  refine callP_of_ex (rc := []) (N := 19) Tryz.func26 rfl rfl Tryz.call26 tab_ok mix rfl rfl (fun cx href => ?_)
  unfold errPts
  refine And.intro (fun h => ?_) (fun h => ?_)
  · have h : decide ((l.length : Int) > 64) = true := h
    exact SubR.of_eq (by rw [h]; rfl)
  have h : decide ((l.length : Int) > 64) = false := h
  rw [h]
  refine AW.loopI (fun i : Nat => ⟨[(0, pts l), (3, vI i)], []⟩) (fun i => i ≤ l.length ∧ (l.any fun p => !good p) = (l.drop i).any fun p => !good p) (fun i => l.length - i) 0 ⟨Nat.zero_le _, rfl⟩ ?_ ?_
  · exact SubI.of0 href [] rfl trivial ⟨⟨rfl, LeQ.rfl⟩, ⟨rfl, LeQ.rfl⟩, trivial⟩
  · rintro i ⟨hi, hj⟩
    refine ex.sound (rc := []) tab_ok mix href _ ?_
    refine And.intro (fun h => ?_) (fun h => ?_)
    · have h : (i : Int) < l.length := decT h
      have hi' : i < l.length := by omega
      rw [List.drop_eq_getElem_cons hi', List.any_cons, ← getD_at hi'] at hj
      refine oi ⟨by omega, by omega⟩ ?_
      refine callN (Good (l.getD i default)) ?_
      refine And.intro (fun h2 => ?_) (fun h2 => ?_)
      · have h2 : (!good (l.getD i default)) = true := h2
        exact SubR.of_eq (by rw [hj, h2]; rfl)
      · have h2 : (!good (l.getD i default)) = false := h2
        refine ⟨i + 1, ⟨by omega, by rw [hj, h2]; rfl⟩, by omega, ?_⟩
        exact SubI.of0 href [] rfl trivial ⟨⟨rfl, LeQ.rfl⟩, ⟨rfl, LeQ.int (w64_of (by omega) (by omega))⟩, trivial⟩
    · have h : ¬ (i : Int) < l.length := decF h
      obtain rfl : i = l.length := by omega
      rw [List.drop_length] at hj
      exact SubR.of_eq (by rw [hj]; rfl)
theorem rBefore (a b : Pt) : CallP Tryz.prog 57 [pt a, pt b] (vB (bef a b)) := by
  refine callP_of_ex (rc := []) (N := 24) Tryz.func57 rfl rfl Tryz.call57 tab_ok mix rfl rfl (fun cx href => ?_)
  repeat first | refine sk ?_ | refine st ?_ | refine sg ?_ | refine sh ?_ | refine su ?_ | refine sn1 ?_ | refine sn0 ?_ | refine And.intro (show imp none (gimp _ none) from trivial) ?_
  exact SubR.refl _
theorem rDot (a b c : Pt) : CallP Tryz.prog 85 [pt a, pt b, pt c] (vI (dot a b c)) := by
  refine callP_of_ex (rc := []) (N := 30) Tryz.func85 rfl rfl Tryz.call85 tab_ok mix rfl rfl (fun cx href => ?_)
  exact SubR.refl _
theorem rSquare (a b : Pt) : CallP Tryz.prog 58 [pt a, pt b] (vI (dot a b b)) := by
  refine callP_of_ex (rc := []) (N := 9) Tryz.func58 rfl rfl Tryz.call58 tab_ok mix rfl rfl (fun cx href => ?_)
  refine callN (rDot a b b) ?_
  exact SubR.refl _
theorem abs_of {n : Int} (h : -4000000 ≤ n ∧ n ≤ 4000000) : (if n < 0 then w64 (0 - n) else n) = absI n := by
  unfold absI
  split
  · rw [w64_of (by omega) (by omega)]; omega
  · rfl
theorem rClose (l : List Pt) (hg : ∀ p ∈ l, okP p) (hl : l.length ≤ 1000000) : CallP Tryz.prog 27 [pts l] (vB (closeR l)) := by
  refine callP_of_ex (rc := []) (N := 44) Tryz.func27 rfl rfl Tryz.call27 tab_ok mix rfl rfl (fun cx href => ?_)
  refine AW.loopI (fun i : Nat => ⟨[(0, pts l), (3, vI i)], []⟩)
    (fun i => i ≤ l.length ∧ closeR l = ((List.range l.length).drop i).all fun i => (List.range i).all fun k => !farA (l.getD i default) (l.getD k default)) (fun i => l.length - i) 0 ⟨Nat.zero_le _, rfl⟩ ?_ ?_
  · exact SubI.of0 href [] rfl trivial ⟨⟨rfl, LeQ.rfl⟩, ⟨rfl, LeQ.rfl⟩, trivial⟩
  · rintro i ⟨hi, hj⟩
    refine ex.sound (rc := []) tab_ok mix href _ ?_
    refine And.intro (fun h => ?_) (fun h => ?_)
    · have h : (i : Int) < l.length := decT h
      have hi' : i < l.length := by omega
      rw [List.drop_eq_getElem_cons (by simpa using hi'), List.all_cons, List.getElem_range] at hj
      have hp := hg (l.getD i default) (by rw [getD_at hi']; exact List.getElem_mem hi')
      refine AW.loopI (fun k : Nat => ⟨[(0, pts l), (3, vI i), (4, vI k)], []⟩)
        (fun k => k ≤ i ∧ ((List.range i).all fun k => !farA (l.getD i default) (l.getD k default)) = ((List.range i).drop k).all fun k => !farA (l.getD i default) (l.getD k default)) (fun k => i - k) 0 ⟨Nat.zero_le _, rfl⟩ ?_ ?_
      · exact SubI.of0 href [] rfl trivial ⟨⟨rfl, LeQ.rfl⟩, ⟨rfl, LeQ.rfl⟩, ⟨rfl, LeQ.rfl⟩, trivial⟩
      · rintro k ⟨hk, hm⟩
        refine ex.sound (rc := []) tab_ok mix href _ ?_
        refine And.intro (fun h2 => ?_) (fun h2 => ?_)
        · have h2 : (k : Int) < i := decT h2
          have hk' : k < i := by omega
          rw [List.drop_eq_getElem_cons (by simpa using hk'), List.all_cons, List.getElem_range] at hm
          have hq := hg (l.getD k default) (by rw [getD_at (show k < l.length by omega)]; exact List.getElem_mem (show k < l.length by omega))
          unfold okP at hp hq
          have w1 : w64 ((l.getD i default).x - (l.getD k default).x) = (l.getD i default).x - (l.getD k default).x := w64_of (by omega) (by omega)
          have w2 : w64 ((l.getD i default).y - (l.getD k default).y) = (l.getD i default).y - (l.getD k default).y := w64_of (by omega) (by omega)
          refine oi ⟨by omega, by omega⟩ ?_
          repeat first | refine sk ?_ | refine st ?_ | refine sg ?_ | refine sh ?_ | refine su ?_ | refine sn1 ?_ | refine sn0 ?_ | refine And.intro (show imp none (gimp _ none) from trivial) ?_
          refine oi ⟨by omega, by omega⟩ ?_
          repeat first | refine sk ?_ | refine st ?_ | refine sg ?_ | refine sh ?_ | refine su ?_ | refine sn1 ?_ | refine sn0 ?_ | refine And.intro (show imp none (gimp _ none) from trivial) ?_
          refine callN (Abs (w64 ((l.getD i default).x - (l.getD k default).x))) ?_
          repeat first | refine sk ?_ | refine st ?_ | refine sg ?_ | refine sh ?_ | refine su ?_ | refine sn1 ?_ | refine sn0 ?_ | refine And.intro (show imp none (gimp _ none) from trivial) ?_
          refine og (fun _ => ⟨by omega, by omega⟩) ?_
          repeat first | refine sk ?_ | refine st ?_ | refine sg ?_ | refine sh ?_ | refine su ?_ | refine sn1 ?_ | refine sn0 ?_ | refine And.intro (show imp none (gimp _ none) from trivial) ?_
          refine og (fun _ => ⟨by omega, by omega⟩) ?_
          repeat first | refine sk ?_ | refine st ?_ | refine sg ?_ | refine sh ?_ | refine su ?_ | refine sn1 ?_ | refine sn0 ?_ | refine And.intro (show imp none (gimp _ none) from trivial) ?_
          refine callG (Abs (w64 ((l.getD i default).y - (l.getD k default).y))) ?_
          repeat first | refine sk ?_ | refine st ?_ | refine sg ?_ | refine sh ?_ | refine su ?_ | refine sn1 ?_ | refine sn0 ?_ | refine And.intro (show imp none (gimp _ none) from trivial) ?_
          refine And.intro (by kernel_rfl) ?_
          have hf : ∀ b, (decide ((if w64 ((l.getD i default).x - (l.getD k default).x) < 0 then w64 (0 - w64 ((l.getD i default).x - (l.getD k default).x)) else w64 ((l.getD i default).x - (l.getD k default).x)) > 20000) || decide ((if w64 ((l.getD i default).y - (l.getD k default).y) < 0 then w64 (0 - w64 ((l.getD i default).y - (l.getD k default).y)) else w64 ((l.getD i default).y - (l.getD k default).y)) > 20000)) = b → farA (l.getD i default) (l.getD k default) = b := by
            intro b h
            rw [w1, w2, abs_of (by omega), abs_of (by omega)] at h
            exact h
          refine And.intro (fun h3 => ?_) (fun h3 => ?_)
          · have h3 := hf _ h3
            exact SubR.lit (by rw [hj, hm, h3]; rfl)
          · have h3 := hf _ h3
            refine ⟨k + 1, ⟨by omega, by rw [hm, h3]; rfl⟩, by omega, ?_⟩
            exact SubI.of0 href [] rfl trivial ⟨⟨rfl, LeQ.rfl⟩, ⟨rfl, LeQ.rfl⟩, ⟨rfl, LeQ.int (w64_of (by omega) (by omega))⟩, trivial⟩
        · have h2 : ¬ (k : Int) < i := decF h2
          obtain rfl : k = i := by omega
          rw [List.drop_eq_nil_of_le (by simp)] at hm
          refine ⟨k + 1, ⟨by omega, by rw [hj, hm]; rfl⟩, by omega, ?_⟩
          exact SubI.of0 href [] rfl trivial ⟨⟨rfl, LeQ.rfl⟩, ⟨rfl, LeQ.int (w64_of (by omega) (by omega))⟩, trivial⟩
    · have h : ¬ (i : Int) < l.length := decF h
      obtain rfl : i = l.length := by omega
      rw [List.drop_eq_nil_of_le (by simp)] at hj
      exact SubR.lit (by rw [hj]; rfl)
def dcI (a b c d : Pt) : Int := w64 (w64 (w64 (os a d * w64 (w64 (ox b d * oy c d) - w64 (oy b d * ox c d))) - w64 (os b d * w64 (w64 (ox a d * oy c d) - w64 (oy a d * ox c d)))) + w64 (os c d * w64 (w64 (ox a d * oy b d) - w64 (oy a d * ox b d))))
def incI (a b c d : Pt) : Int := w64 (sgn (dcI a b c d) * sgn (cross a b c))
theorem rInCircle (a b c d : Pt) : CallP Tryz.prog 61 [pt a, pt b, pt c, pt d] (vI (incI a b c d)) := by
  refine callP_of_ex (rc := []) (N := 106) Tryz.func61 rfl rfl Tryz.call61 tab_ok mix rfl rfl (fun cx href => ?_)
  repeat first | refine sk ?_ | refine st ?_ | refine sg ?_ | refine sh ?_ | refine su ?_ | refine sn1 ?_ | refine sn0 ?_ | refine And.intro (show imp none (gimp _ none) from trivial) ?_
  refine And.intro (by kernel_rfl) ?_
  repeat first | refine sk ?_ | refine st ?_ | refine sg ?_ | refine sh ?_ | refine su ?_ | refine sn1 ?_ | refine sn0 ?_ | refine And.intro (show imp none (gimp _ none) from trivial) ?_
  refine callN (Sign (dcI a b c d)) ?_
  repeat first | refine sk ?_ | refine st ?_ | refine sg ?_ | refine sh ?_ | refine su ?_ | refine sn1 ?_ | refine sn0 ?_ | refine And.intro (show imp none (gimp _ none) from trivial) ?_
  refine callN (Orient a b c) ?_
  repeat first | refine sk ?_ | refine st ?_ | refine sg ?_ | refine sh ?_ | refine su ?_ | refine sn1 ?_ | refine sn0 ?_ | refine And.intro (show imp none (gimp _ none) from trivial) ?_
  refine And.intro (by kernel_rfl) ?_
  exact SubR.refl _
end Go.Ch

/- The reference's Hull. -/
namespace Go.Ch
open Go Go.Ax Go.Proofs Go.Proofs.Tryz Go.Hull
set_option maxRecDepth 100000
set_option pp.maxSteps 400
set_option maxHeartbeats 1000000

theorem ptSnoc {o : List Pt} {n : Pt} {g : Nat → Nat → DV} {i j : Nat} (hg : g 0 j = ptD n j) (hi : i < o.length + 1) : catF o.length (ptEl o) g i j = ptEl (o ++ [n]) i j := by
  show (if i < o.length then ptD (o.getD i default) j else g (i - o.length) j) = ptD ((o ++ [n]).getD i default) j
  rw [List.getD_eq_getElem?_getD, List.getD_eq_getElem?_getD]
  split
  · rename_i h
    rw [List.getElem?_append_left (by omega)]
  · rename_i h
    obtain rfl : i = o.length := by omega
    rw [List.getElem?_append_right (by omega), Nat.sub_self, hg]
    rfl
theorem dot_sqr {a b : Pt} (ha : okP a) (hb : okP b) : dot a b b = sqr a b := (dot_eq (good_of ha) (good_of hb) (good_of hb)).1
theorem sgn_lt (n : Int) : decide (sgn n < 0) = decide (n < 0) := by
  rw [Bool.eq_iff_iff]; unfold sgn; simp only [decide_eq_true_eq]; split
  · constructor <;> intro <;> omega
  · split
    · constructor <;> intro <;> omega
    · constructor <;> intro <;> omega
/-- The test in the inner loop. -/
theorem wrap_test {a n q : Pt} (ha : okP a) (hn : okP n) (hq : okP q) {b : Bool} (h : ((((n.x == a.x) && ((n.y == a.y) && true)) || decide (sgn (cross a n q) < 0)) || (sgn (cross a n q) == 0 && decide (dot a q q > dot a n n))) = b) :
    wrapStep a n q = bif b then q else n := by
  rw [pt_beq, sgn_lt, sgn_beq0, cross_crs ha hn hq, dot_sqr ha hq, dot_sqr ha hn] at h
  unfold wrapStep
  cases b with
  | true =>
    rw [if_pos]; rfl
    simp only [Bool.or_eq_true, Bool.and_eq_true, beq_iff_eq, decide_eq_true_eq] at h
    rcases h with (h | h) | h
    · exact .inl h
    · exact .inr (.inl h)
    · exact .inr (.inr h)
  | false =>
    rw [if_neg]; rfl
    simp only [Bool.or_eq_false_iff, Bool.and_eq_false_iff, beq_eq_false_iff_ne, decide_eq_false_iff_not] at h
    rintro (h1 | h1 | h1)
    · exact h.1.1 h1
    · exact h.1.2 h1
    · rcases h.2 with h2 | h2
      · exact h2 h1.1
      · exact h2 h1.2
abbrev wS1 (l : List Pt) (i : Nat) (f : Pt) : St := ⟨[(0, pts l), (3, .s (.ptr 3 0)), (4, vI i)], [(3, some (ptB f))]⟩
abbrev wS2 (l : List Pt) (f : Pt) (o : List Pt) : St := ⟨[(0, pts l), (3, .s (.ptr 3 0)), (5, .s (.own 100))], [(3, some (ptB f)), (100, some (.row 39 o.length 2 (ptEl o)))]⟩
abbrev wS3 (l : List Pt) (f : Pt) (o : List Pt) (a : Pt) (i : Nat) (n : Pt) : St := ⟨[(0, pts l), (3, .s (.ptr 3 0)), (5, .s (.own 100)), (6, .s (.ptr 6 0)), (7, .s (.ptr 7 0)), (8, vI i)], [(3, some (ptB f)), (6, some (ptB a)), (7, some (ptB n)), (100, some (.row 39 o.length 2 (ptEl o)))]⟩
theorem rHull (l : List Pt) (ho : ∀ p ∈ l, okP p) (hl : l.length ≤ 1000) : CallP Tryz.prog 28 [pts l] (pts (hullR l)) := by
  refine callP_of_aw Tryz.func28 rfl rfl Tryz.call28 tab_ok rfl rfl (fun cx href => ?_)
  refine AW.seq (ex.sound (rc := []) tab_ok mix href _ ?_)
  refine AW.seq (ex.sound (rc := []) tab_ok mix href _ ?_)
  refine And.intro (fun h => ?_) (fun h => ?_)
  · have h : ((l.length : Int) == 0) = true := h
    have h0 : (l.length : Int) = 0 := by simpa using h
    obtain rfl : l = [] := List.eq_nil_of_length_eq_zero (by omega)
    exact SubR.le LeD.nil
  have h : ((l.length : Int) == 0) = false := h
  have h0 : (l.length : Int) ≠ 0 := by simpa using h
  have hpos : 0 < l.length := by omega
  have hmem : ∀ i, i < l.length → l.getD i default ∈ l := fun i hi => by rw [getD_at hi]; exact List.getElem_mem hi
  obtain ⟨u, r, hur⟩ : ∃ u r, l = u :: r := by
    cases l with
    | nil => exact absurd hpos (Nat.lt_irrefl 0)
    | cons u r => exact ⟨u, r, rfl⟩
  have hu : l.getD 0 default = u := by rw [hur]; rfl
  have hR : hullR l = wrapF l (leastP u r) l.length [leastP u r] (leastP u r) := by rw [hur]; rfl
  have hd1 : l.drop 1 = r := by rw [hur]; rfl
  rw [hR]
  refine AW.seq (ex.sound (rc := []) tab_ok mix href _ ?_)
  refine oi ⟨by omega, by omega⟩ ?_
  refine AW.cutE (fun f : Pt => wS1 l l.length f) (fun f => f = leastP u r ∧ f ∈ l) (ex.sound (rc := []) tab_ok mix href _ ?_) ?_
  · refine AW.loopI (fun q : Nat × Pt => wS1 l q.1 q.2) (fun q => 1 ≤ q.1 ∧ q.1 ≤ l.length ∧ leastP u r = leastP q.2 (l.drop q.1) ∧ q.2 ∈ l) (fun q => l.length - q.1) (1, u) ⟨Nat.le_refl _, by show 1 ≤ l.length; omega, by show leastP u r = leastP u (l.drop 1); rw [hd1], by show u ∈ l; rw [← hu]; exact hmem 0 hpos⟩ ?_ ?_
    · refine SubI.of0 href [] rfl ⟨⟨rfl, LeBx.of_eq ?_⟩, trivial⟩ ⟨⟨rfl, LeQ.rfl⟩, ⟨rfl, LeQ.rfl⟩, ⟨rfl, LeQ.rfl⟩, trivial⟩
      show ptB (l.getD 0 default) = ptB u
      rw [hu]
    · rintro ⟨i, f⟩ ⟨h1, hi, hlp, hf⟩
      have h1 : 1 ≤ i := h1
      have hi : i ≤ l.length := hi
      have hlp : leastP u r = leastP f (l.drop i) := hlp
      have hf : f ∈ l := hf
      refine ex.sound (rc := []) tab_ok mix href _ ?_
      refine And.intro (fun h => ?_) (fun h => ?_)
      · have h : (i : Int) < l.length := decT h
        have hi' : i < l.length := by omega
        rw [List.drop_eq_getElem_cons hi', ← getD_at hi'] at hlp
        have hls : leastP u r = leastP (if bef (l.getD i default) f = true then l.getD i default else f) (l.drop (i + 1)) := hlp
        refine oi ⟨by omega, by omega⟩ ?_
        repeat first | refine sk ?_ | refine st ?_ | refine sg ?_ | refine sh ?_ | refine su ?_ | refine sn1 ?_ | refine sn0 ?_ | refine And.intro (show imp none (gimp _ none) from trivial) ?_
        refine callN (rBefore (l.getD i default) f) ?_
        repeat first | refine sk ?_ | refine st ?_ | refine sg ?_ | refine sh ?_ | refine su ?_ | refine sn1 ?_ | refine sn0 ?_ | refine And.intro (show imp none (gimp _ none) from trivial) ?_
        refine And.intro (by kernel_rfl) ?_
        refine And.intro (fun h2 => ?_) (fun h2 => ?_)
        · have h2 : bef (l.getD i default) f = true := h2
          rw [if_pos h2] at hls
          refine oi ⟨by omega, by omega⟩ ?_
          refine ⟨(i + 1, l.getD i default), ⟨by show 1 ≤ i + 1; omega, by show i + 1 ≤ l.length; omega, hls, hmem i hi'⟩, by show l.length - (i + 1) < l.length - i; omega, ?_⟩
          exact SubI.of0 href [] rfl ⟨⟨rfl, LeBx.rfl⟩, trivial⟩ ⟨⟨rfl, LeQ.rfl⟩, ⟨rfl, LeQ.rfl⟩, ⟨rfl, LeQ.int (w64_of (by omega) (by omega))⟩, trivial⟩
        · have h2 : bef (l.getD i default) f = false := h2
          rw [if_neg (by rw [h2]; exact Bool.false_ne_true)] at hls
          refine ⟨(i + 1, f), ⟨by show 1 ≤ i + 1; omega, by show i + 1 ≤ l.length; omega, hls, hf⟩, by show l.length - (i + 1) < l.length - i; omega, ?_⟩
          exact SubI.of0 href [] rfl ⟨⟨rfl, LeBx.rfl⟩, trivial⟩ ⟨⟨rfl, LeQ.rfl⟩, ⟨rfl, LeQ.rfl⟩, ⟨rfl, LeQ.int (w64_of (by omega) (by omega))⟩, trivial⟩
      · have h : ¬ (i : Int) < l.length := decF h
        obtain rfl : i = l.length := by omega
        rw [List.drop_length] at hlp
        refine ⟨rfl, f, ⟨hlp.symm, hf⟩, ?_⟩
        exact SubI.of0 href [] rfl ⟨⟨rfl, LeBx.rfl⟩, trivial⟩ ⟨⟨rfl, LeQ.rfl⟩, ⟨rfl, LeQ.rfl⟩, ⟨rfl, LeQ.rfl⟩, trivial⟩
  · rintro f ⟨hfe, hf⟩
    rw [← hfe]
    clear hfe hR hd1 hu hur
    refine AW.seq (ex.sound (rc := []) tab_ok mix href _ ?_)
    refine AW.cutE (fun o : List Pt => wS2 l f o) (fun o => o = wrapF l f l.length [f] f) (AW.block ?_) ?_
    · refine AW.loopI (fun q : List Pt × Pt => wS2 l f q.1) (fun q => 1 ≤ q.1.length ∧ q.1.length ≤ l.length + 1 ∧ q.1.getD (q.1.length - 1) default = q.2 ∧ q.2 ∈ l ∧ wrapF l f l.length [f] f = wrapF l f (l.length + 1 - q.1.length) q.1 q.2) (fun q => l.length + 1 - q.1.length) ([f], f) ⟨Nat.le_refl _, by show 1 ≤ l.length + 1; omega, rfl, hf, rfl⟩ ?_ ?_
      · refine SubI.of0 href [(100, 33)] rfl ⟨⟨rfl, LeBx.rfl⟩, ⟨rfl, LeBx.row rfl fun i j hi hj => LeD.of_eq ?_⟩, trivial⟩ ⟨⟨rfl, LeQ.rfl⟩, ⟨rfl, LeQ.rfl⟩, ⟨rfl, LeQ.rfl⟩, trivial⟩
        obtain rfl : i = 0 := by omega
        match j, hj with
        | 0, _ => rfl
        | 1, _ => rfl
      · rintro ⟨o, a⟩ ⟨ho1, ho2, hlast, ha, hw⟩
        have ho1 : 1 ≤ o.length := ho1
        have ho2 : o.length ≤ l.length + 1 := ho2
        have hlast : o.getD (o.length - 1) default = a := hlast
        have ha : a ∈ l := ha
        have hw : wrapF l f l.length [f] f = wrapF l f (l.length + 1 - o.length) o a := hw
        refine AW.seq (ex.sound (rc := []) tab_ok mix href _ ?_)
        refine And.intro (fun h => ?_) (fun h => ?_)
        · have h : (o.length : Int) ≤ l.length := decT h
          rw [show l.length + 1 - o.length = (l.length - o.length) + 1 by omega, wrapF] at hw
          have wl : w64 ((o.length : Int) - 1) = ((o.length - 1 : Nat) : Int) := (w64_of (by omega) (by omega)).trans (by omega)
          refine AW.block (AW.seq (ex.sound (rc := []) tab_ok mix href _ ?_))
          refine oi (show 0 ≤ w64 ((o.length : Int) - 1) ∧ w64 ((o.length : Int) - 1) < (o.length : Int) by omega) ?_
          refine oi (show (w64 ((o.length : Int) - 1)).toNat < o.length by omega) ?_
          refine AW.seq (ex.sound (rc := []) tab_ok mix href _ ?_)
          refine AW.cut (σ' := wS3 l f o a l.length (nextP a l)) (AW.seq (ex.sound (rc := []) tab_ok mix href _ (AW.block ?_))) ?_
          · refine AW.loopI (fun q : Nat × Pt => wS3 l f o a q.1 q.2) (fun q => q.1 ≤ l.length ∧ nextP a l = (l.drop q.1).foldl (wrapStep a) q.2 ∧ q.2 ∈ l) (fun q => l.length - q.1) (0, a) ⟨Nat.zero_le _, rfl, ha⟩ ?_ ?_
            · have e : o.getD (w64 ((o.length : Int) - 1)).toNat default = a := by rw [wl, Int.toNat_natCast]; exact hlast
              refine SubI.of0 href [] rfl ⟨⟨rfl, LeBx.rfl⟩, ⟨rfl, LeBx.of_eq ?_⟩, ⟨rfl, LeBx.of_eq ?_⟩, ⟨rfl, LeBx.rfl⟩, trivial⟩ ⟨⟨rfl, LeQ.rfl⟩, ⟨rfl, LeQ.rfl⟩, ⟨rfl, LeQ.rfl⟩, ⟨rfl, LeQ.rfl⟩, ⟨rfl, LeQ.rfl⟩, ⟨rfl, LeQ.rfl⟩, trivial⟩
              · show ptB (o.getD (w64 ((o.length : Int) - 1)).toNat default) = ptB a
                rw [e]
              · show ptB (o.getD (w64 ((o.length : Int) - 1)).toNat default) = ptB a
                rw [e]
            · rintro ⟨i, n⟩ ⟨hi, hn, hnm⟩
              have hi : i ≤ l.length := hi
              have hn : nextP a l = (l.drop i).foldl (wrapStep a) n := hn
              have hnm : n ∈ l := hnm
              refine ex.sound (rc := []) tab_ok mix href _ ?_
              refine And.intro (fun h2 => ?_) (fun h2 => ?_)
              · have h2 : (i : Int) < l.length := decT h2
                have hi' : i < l.length := by omega
                rw [List.drop_eq_getElem_cons hi', List.foldl_cons, ← getD_at hi'] at hn
                refine oi ⟨by omega, by omega⟩ ?_
                repeat first | refine sk ?_ | refine st ?_ | refine sg ?_ | refine sh ?_ | refine su ?_ | refine sn1 ?_ | refine sn0 ?_ | refine And.intro (show imp none (gimp _ none) from trivial) ?_
                refine callN (Orient a n (l.getD i default)) ?_
                repeat first | refine sk ?_ | refine st ?_ | refine sg ?_ | refine sh ?_ | refine su ?_ | refine sn1 ?_ | refine sn0 ?_ | refine And.intro (show imp none (gimp _ none) from trivial) ?_
                refine And.intro (by kernel_rfl) ?_
                repeat first | refine sk ?_ | refine st ?_ | refine sg ?_ | refine sh ?_ | refine su ?_ | refine sn1 ?_ | refine sn0 ?_ | refine And.intro (show imp none (gimp _ none) from trivial) ?_
                refine og (fun _ => ⟨by omega, by omega⟩) ?_
                repeat first | refine sk ?_ | refine st ?_ | refine sg ?_ | refine sh ?_ | refine su ?_ | refine sn1 ?_ | refine sn0 ?_ | refine And.intro (show imp none (gimp _ none) from trivial) ?_
                refine callG (rSquare a (l.getD i default)) ?_
                repeat first | refine sk ?_ | refine st ?_ | refine sg ?_ | refine sh ?_ | refine su ?_ | refine sn1 ?_ | refine sn0 ?_ | refine And.intro (show imp none (gimp _ none) from trivial) ?_
                refine callG (rSquare a n) ?_
                repeat first | refine sk ?_ | refine st ?_ | refine sg ?_ | refine sh ?_ | refine su ?_ | refine sn1 ?_ | refine sn0 ?_ | refine And.intro (show imp none (gimp _ none) from trivial) ?_
                refine And.intro (by kernel_rfl) ?_
                have htest : ∀ {b : Bool}, _ → wrapStep a n (l.getD i default) = bif b then (l.getD i default) else n := fun {b} h => wrap_test (b := b) (ho _ ha) (ho _ hnm) (ho _ (hmem i hi')) h
                refine And.intro (fun h3 => ?_) (fun h3 => ?_)
                · have h3 := htest h3
                  rw [h3] at hn
                  refine oi ⟨by omega, by omega⟩ ?_
                  refine ⟨(i + 1, l.getD i default), ⟨by show i + 1 ≤ l.length; omega, hn, hmem i hi'⟩, by show l.length - (i + 1) < l.length - i; omega, ?_⟩
                  exact SubI.of0 href [] rfl ⟨⟨rfl, LeBx.rfl⟩, ⟨rfl, LeBx.rfl⟩, ⟨rfl, LeBx.rfl⟩, ⟨rfl, LeBx.rfl⟩, trivial⟩ ⟨⟨rfl, LeQ.rfl⟩, ⟨rfl, LeQ.rfl⟩, ⟨rfl, LeQ.rfl⟩, ⟨rfl, LeQ.rfl⟩, ⟨rfl, LeQ.rfl⟩, ⟨rfl, LeQ.int (w64_of (by omega) (by omega))⟩, trivial⟩
                · have h3 := htest h3
                  rw [h3] at hn
                  refine ⟨(i + 1, n), ⟨by show i + 1 ≤ l.length; omega, hn, hnm⟩, by show l.length - (i + 1) < l.length - i; omega, ?_⟩
                  exact SubI.of0 href [] rfl ⟨⟨rfl, LeBx.rfl⟩, ⟨rfl, LeBx.rfl⟩, ⟨rfl, LeBx.rfl⟩, ⟨rfl, LeBx.rfl⟩, trivial⟩ ⟨⟨rfl, LeQ.rfl⟩, ⟨rfl, LeQ.rfl⟩, ⟨rfl, LeQ.rfl⟩, ⟨rfl, LeQ.rfl⟩, ⟨rfl, LeQ.rfl⟩, ⟨rfl, LeQ.int (w64_of (by omega) (by omega))⟩, trivial⟩
              · have h2 : ¬ (i : Int) < l.length := decF h2
                obtain rfl : i = l.length := by omega
                rw [List.drop_length] at hn
                have hn : nextP a l = n := hn
                rw [hn]
                refine ⟨rfl, ?_⟩
                exact SubI.of0 href [] rfl ⟨⟨rfl, LeBx.rfl⟩, ⟨rfl, LeBx.rfl⟩, ⟨rfl, LeBx.rfl⟩, ⟨rfl, LeBx.rfl⟩, trivial⟩ ⟨⟨rfl, LeQ.rfl⟩, ⟨rfl, LeQ.rfl⟩, ⟨rfl, LeQ.rfl⟩, ⟨rfl, LeQ.rfl⟩, ⟨rfl, LeQ.rfl⟩, ⟨rfl, LeQ.rfl⟩, trivial⟩
          · have hnm : nextP a l ∈ l := by
              rcases nextP_mem (a := a) (l := l) with h | h
              · rw [h]; exact ha
              · exact h
            generalize nextP a l = n at hw hnm ⊢
            refine ex.sound (rc := []) tab_ok mix href _ ?_
            repeat first | refine sk ?_ | refine st ?_ | refine sg ?_ | refine sh ?_ | refine su ?_ | refine sn1 ?_ | refine sn0 ?_ | refine And.intro (show imp none (gimp _ none) from trivial) ?_
            have hb : ∀ {b : Bool}, (((n.x == f.x) && ((n.y == f.y) && true)) || ((n.x == a.x) && ((n.y == a.y) && true))) = b → decide (n = f ∨ n = a) = b := by
              rintro b rfl
              rw [pt_beq, pt_beq, Bool.eq_iff_iff]; simp
            refine And.intro (fun h2 => ?_) (fun h2 => ?_)
            · have h2 := of_decide_eq_true (hb h2)
              rw [if_pos h2] at hw
              refine ⟨rfl, o, hw.symm, ?_⟩
              exact SubI.of0 href [] rfl ⟨⟨rfl, LeBx.rfl⟩, ⟨rfl, LeBx.rfl⟩, trivial⟩ ⟨⟨rfl, LeQ.rfl⟩, ⟨rfl, LeQ.rfl⟩, ⟨rfl, LeQ.rfl⟩, trivial⟩
            · have h2 := of_decide_eq_false (hb h2)
              rw [if_neg h2] at hw
              refine ob (show (o.length + 1) * 16 ≤ 140737488355328 by omega) ?_
              refine ob (fun k j hk hj => ?_) ?_
              · obtain rfl : k = 0 := by omega
                match j, hj with
                | 0, _ => rfl
                | 1, _ => rfl
              have hlen : (o ++ [n]).length = o.length + 1 := by simp
              refine ⟨(o ++ [n], n), ⟨by show 1 ≤ (o ++ [n]).length; omega, by show (o ++ [n]).length ≤ l.length + 1; omega, ?_, hnm, ?_⟩, by show l.length + 1 - (o ++ [n]).length < l.length + 1 - o.length; omega, ?_⟩
              · show (o ++ [n]).getD ((o ++ [n]).length - 1) default = n
                rw [hlen, List.getD_eq_getElem?_getD, List.getElem?_append_right (by omega)]
                simp
              · show wrapF l f l.length [f] f = wrapF l f (l.length + 1 - (o ++ [n]).length) (o ++ [n]) n
                rw [hlen, hw, show l.length + 1 - (o.length + 1) = l.length - o.length by omega]
              · refine SubI.of0 href [(100, 97)] rfl ⟨⟨rfl, LeBx.rfl⟩, ⟨rfl, LeBx.row hlen.symm fun i j hi hj => LeD.of_eq ?_⟩, trivial⟩ ⟨⟨rfl, LeQ.rfl⟩, ⟨rfl, LeQ.rfl⟩, ⟨rfl, LeQ.rfl⟩, trivial⟩
                exact ptSnoc (n := n) (match j, hj with
                  | 0, _ => rfl
                  | 1, _ => rfl) hi
        · have h : ¬ (o.length : Int) ≤ l.length := decF h
          rw [show l.length + 1 - o.length = 0 by omega, wrapF] at hw
          refine ⟨rfl, o, hw.symm, ?_⟩
          exact SubI.of0 href [] rfl ⟨⟨rfl, LeBx.rfl⟩, ⟨rfl, LeBx.rfl⟩, trivial⟩ ⟨⟨rfl, LeQ.rfl⟩, ⟨rfl, LeQ.rfl⟩, ⟨rfl, LeQ.rfl⟩, trivial⟩
    · rintro o rfl
      refine ex.sound (rc := []) tab_ok mix href _ ?_
      exact SubR.le (LeD.slc' rfl fun i j _ _ => LeD.refl _)
end Go.Ch

/- The reference's CheckPatch. -/
namespace Go.Ch
open Go Go.Ax Go.Proofs Go.Proofs.Tryz Go.Hull
set_option maxRecDepth 100000
set_option pp.maxSteps 400
set_option maxHeartbeats 1000000

theorem rCheckPatch (l : List Pt) (hl : l.length ≤ 1000000) : CallP Tryz.prog 8 [pts l] (vI (patchE l)) := by
  refine callP_of_ex (rc := []) (N := 38) Tryz.func8 rfl rfl Tryz.call8 tab_ok mix rfl rfl (fun cx href => ?_)
  refine callN (rCheckP l hl) ?_
  unfold patchE
  refine And.intro (fun h => ?_) (fun h => ?_)
  · have h : (errPts l != 0) = true := h
    rw [h]; exact SubR.refl _
  have h : (errPts l != 0) = false := h
  rw [h, dup_eq]
  have he : errPts l = 0 := by simpa using h
  obtain ⟨hl64, hok⟩ := errPts_ok he
  refine AW.loopI (fun i : Nat => ⟨[(0, pts l), (4, vI i)], []⟩)
    (fun i => i ≤ l.length ∧ dupR l = ((List.range l.length).drop i).any fun i => (List.range i).any fun k => l.getD i default == l.getD k default) (fun i => l.length - i) 0 ⟨Nat.zero_le _, rfl⟩ ?_ ?_
  · exact SubI.of0 href [] rfl trivial ⟨⟨rfl, LeQ.rfl⟩, ⟨rfl, LeQ.rfl⟩, trivial⟩
  · rintro i ⟨hi, hj⟩
    refine ex.sound (rc := []) tab_ok mix href _ ?_
    refine And.intro (fun h => ?_) (fun h => ?_)
    · have h : (i : Int) < l.length := decT h
      have hi' : i < l.length := by omega
      rw [List.drop_eq_getElem_cons (by simpa using hi'), List.any_cons, List.getElem_range] at hj
      refine AW.loopI (fun k : Nat => ⟨[(0, pts l), (4, vI i), (5, vI k)], []⟩)
        (fun k => k ≤ i ∧ ((List.range i).any fun k => l.getD i default == l.getD k default) = ((List.range i).drop k).any fun k => l.getD i default == l.getD k default) (fun k => i - k) 0 ⟨Nat.zero_le _, rfl⟩ ?_ ?_
      · exact SubI.of0 href [] rfl trivial ⟨⟨rfl, LeQ.rfl⟩, ⟨rfl, LeQ.rfl⟩, ⟨rfl, LeQ.rfl⟩, trivial⟩
      · rintro k ⟨hk, hm⟩
        refine ex.sound (rc := []) tab_ok mix href _ ?_
        refine And.intro (fun h2 => ?_) (fun h2 => ?_)
        · have h2 : (k : Int) < i := decT h2
          have hk' : k < i := by omega
          rw [List.drop_eq_getElem_cons (by simpa using hk'), List.any_cons, List.getElem_range] at hm
          refine oi ⟨by omega, by omega⟩ ?_
          repeat first | refine sk ?_ | refine st ?_ | refine sg ?_ | refine sh ?_ | refine su ?_ | refine sn1 ?_ | refine sn0 ?_ | refine And.intro (show imp none (gimp _ none) from trivial) ?_
          refine oi ⟨by omega, by omega⟩ ?_
          repeat first | refine sk ?_ | refine st ?_ | refine sg ?_ | refine sh ?_ | refine su ?_ | refine sn1 ?_ | refine sn0 ?_ | refine And.intro (show imp none (gimp _ none) from trivial) ?_
          refine And.intro (by kernel_rfl) ?_
          have hb : ∀ {b : Bool}, (((l.getD i default).x == (l.getD k default).x) && (((l.getD i default).y == (l.getD k default).y) && true)) = b → (l.getD i default == l.getD k default) = b := fun {b} h => by rw [← pt_beq]; exact h
          refine And.intro (fun h3 => ?_) (fun h3 => ?_)
          · have h3 := hb h3
            exact SubR.of_eq (by rw [hj, hm, h3]; rfl)
          · have h3 := hb h3
            refine ⟨k + 1, ⟨by omega, by rw [hm, h3]; rfl⟩, by omega, ?_⟩
            exact SubI.of0 href [] rfl trivial ⟨⟨rfl, LeQ.rfl⟩, ⟨rfl, LeQ.rfl⟩, ⟨rfl, LeQ.int (w64_of (by omega) (by omega))⟩, trivial⟩
        · have h2 : ¬ (k : Int) < i := decF h2
          obtain rfl : k = i := by omega
          rw [List.drop_eq_nil_of_le (by simp)] at hm
          refine ⟨k + 1, ⟨by omega, by rw [hj, hm]; rfl⟩, by omega, ?_⟩
          exact SubI.of0 href [] rfl trivial ⟨⟨rfl, LeQ.rfl⟩, ⟨rfl, LeQ.int (w64_of (by omega) (by omega))⟩, trivial⟩
    · have h : ¬ (i : Int) < l.length := decF h
      obtain rfl : i = l.length := by omega
      rw [List.drop_eq_nil_of_le (by simp)] at hj
      have hj : dupR l = false := hj
      have hdist : Dist l := dist_of hj
      rw [hj]
      refine callN (rClose l hok (by omega)) ?_
      rw [close_eq]
      refine And.intro (fun h2 => ?_) (fun h2 => ?_)
      · have h2 : (!(!apartB l)) = true := h2
        rw [Bool.not_not] at h2
        exact SubR.of_eq (by rw [h2]; rfl)
      have h2 : (!(!apartB l)) = false := h2
      rw [Bool.not_not] at h2
      rw [h2]
      refine callN (rHull l hok (by omega)) ?_
      have hh : decide (((hullR l).length : Int) < 3) = decide ((hullP l : Int) < 3) := by
        rw [Bool.eq_iff_iff, decide_eq_true_iff, decide_eq_true_iff]
        have := hulls hdist hok
        omega
      rw [← hh]
      refine And.intro (fun h3 => ?_) (fun h3 => ?_)
      · have h3 : decide (((hullR l).length : Int) < 3) = true := h3
        exact SubR.of_eq (by rw [h3]; rfl)
      · have h3 : decide (((hullR l).length : Int) < 3) = false := h3
        exact SubR.of_eq (by rw [h3]; rfl)
end Go.Ch

/- The reference's Belongs. -/
namespace Go.Ch
open Go Go.Ax Go.Proofs Go.Proofs.Tryz Go.Hull
set_option maxRecDepth 100000
set_option pp.maxSteps 400
set_option maxHeartbeats 1000000

theorem inc_det {a b c d : Pt} (ha : Near a d) (hb : Near b d) (hc : Near c d) (oa : okP a) (ob : okP b) (oc' : okP c) (hp : 0 < crs a b c) : incI a b c d = sgn (det3 a b c d) := by
  obtain ⟨a1, a2, a3⟩ := os_eq ha
  obtain ⟨b1, b2, b3⟩ := os_eq hb
  obtain ⟨c1, c2, c3⟩ := os_eq hc
  obtain ⟨x1, x2, x3⟩ := oc_eq hb hc
  obtain ⟨y1, y2, y3⟩ := oc_eq ha hc
  obtain ⟨z1, z2, z3⟩ := oc_eq ha hb
  have m1 := mul_le_of (a := sqr d a) (b := crs d b c) (A := 800000000) (B := 800000000) (by omega) (by omega) (by omega) (by omega)
  have m2 := mul_le_of (a := sqr d b) (b := crs d a c) (A := 800000000) (B := 800000000) (by omega) (by omega) (by omega) (by omega)
  have m3 := mul_le_of (a := sqr d c) (b := crs d a b) (A := 800000000) (B := 800000000) (by omega) (by omega) (by omega) (by omega)
  have e : ∀ p q : Pt, w64 (w64 (ox p d * oy q d) - w64 (oy p d * ox q d)) = oc d p q := fun p q => by unfold oc; rw [Int.mul_comm (oy p d)]
  have hs : sgn (cross a b c) = 1 := by
    rw [cross_crs oa ob oc']; unfold sgn; rw [if_neg (by omega), if_pos (by omega)]
  have hd : dcI a b c d = det3 a b c d := by
    have hca : crs d c a = - crs d a c := by unfold crs; grind
    unfold dcI det3
    rw [e, e, e, a1, b1, c1, x1, y1, z1, w64_of (n := sqr d a * crs d b c) (by omega) (by omega), w64_of (n := sqr d b * crs d a c) (by omega) (by omega), w64_of (n := sqr d c * crs d a b) (by omega) (by omega),
      w64_of (n := sqr d a * crs d b c - sqr d b * crs d a c) (by omega) (by omega), w64_of (by omega) (by omega), hca, Int.mul_neg]
    omega
  unfold incI
  rw [hs, hd, Int.mul_one]
  unfold sgn
  split
  · rfl
  · split <;> rfl
theorem ref_test {x y z d : Pt} {n : Int} (hn : n = sgn (det3 x y z d)) (ox' : okP x) (oy' : okP y) (oz' : okP z) (od : okP d) (hp : 0 < crs x y z) {b : Bool}
    (h : (decide (n > 0) || (n == 0 && (bef d x || (sgn (cross y z d) != sgn (cross y z x))))) = b) : okRef x y z d = !b := by
  subst h hn
  have e : crs y z x = crs x y z := (crs_cyc x y z).symm
  have h1 : sgn (cross y z x) = 1 := by rw [cross_crs oy' oz' ox', e]; unfold sgn; rw [if_neg (by omega), if_pos (by omega)]
  have h2 : (sgn (cross y z d) != 1) = !(decide (crs y z d > 0)) := by
    rw [cross_crs oy' oz' od, ← sgn_one]; rfl
  have h3 : decide (sgn (det3 x y z d) > 0) = decide (det3 x y z d > 0) := by
    rw [Bool.eq_iff_iff]; unfold sgn; simp only [decide_eq_true_eq]; split
    · constructor <;> intro <;> omega
    · split
      · constructor <;> intro <;> omega
      · constructor <;> intro <;> omega
  rw [h1, h2, h3, sgn_beq0]
  unfold okRef
  cases decide (det3 x y z d > 0) <;> cases (det3 x y z d == 0) <;> cases bef d x <;> cases decide (crs y z d > 0) <;> rfl
theorem nat_beq (i k : Nat) : ((i : Int) == (k : Int)) = (i == k) := by
  rw [Bool.eq_iff_iff, beq_iff_eq, beq_iff_eq]; omega
def RotI (p q r : Pt) (F : Nat) : Prop := (F = 0 ∧ rotR p q r = (p, q, r)) ∨ (F = 1 ∧ rotR p q r = (q, r, p)) ∨ (F = 2 ∧ rotR p q r = (r, p, q))
def FrJ (p q r : Pt) (i F : Nat) : Prop := (i = 1 ∧ F = 0) ∨ (i = 2 ∧ bef q p = true ∧ F = 1) ∨ (i = 2 ∧ bef q p = false ∧ F = 0) ∨ (i = 3 ∧ RotI p q r F)
abbrev beS1 (l : List Pt) (t : Tri) (p q r : Pt) (i F : Nat) : St := ⟨[(0, pts l), (3, .s (.ptr 3 0)), (5, .s (.ptr 5 0)), (6, vI F), (7, vI i)], [(3, some (.cells [.d (dI t.A), .d (dI t.B), .d (dI t.C)])), (5, some (tri3B p q r))]⟩
abbrev beS2 (l : List Pt) (t : Tri) (p q r : Pt) (F : Nat) (y z : Pt) (i : Nat) : St := ⟨[(0, pts l), (3, .s (.ptr 3 0)), (5, .s (.ptr 5 0)), (6, vI F), (8, .s (.ptr 8 0)), (9, .s (.ptr 9 0)), (10, vI i)], [(3, some (.cells [.d (dI t.A), .d (dI t.B), .d (dI t.C)])), (5, some (tri3B p q r)), (8, some (ptB y)), (9, some (ptB z))]⟩
abbrev beS3 (l : List Pt) (t : Tri) (p q r : Pt) (F : Nat) (y z : Pt) : St := ⟨[(0, pts l), (3, .s (.ptr 3 0)), (5, .s (.ptr 5 0)), (6, vI F), (8, .s (.ptr 8 0)), (9, .s (.ptr 9 0))], [(3, some (.cells [.d (dI t.A), .d (dI t.B), .d (dI t.C)])), (5, some (tri3B p q r)), (8, some (ptB y)), (9, some (ptB z))]⟩
theorem rBelongs (l : List Pt) (t : Tri) (hA : t.A < l.length) (hB : t.B < l.length) (hC : t.C < l.length) (hpos : 0 < crs (l.getD t.A default) (l.getD t.B default) (l.getD t.C default)) (hap : apartB l = false) (ho : ∀ p ∈ l, okP p) (hl : l.length ≤ 1000000) :
    CallP Tryz.prog 30 [pts l, trV (trOf t)] (vB (belR l t)) := by
  have ht1 : l.getD t.A default ∈ l := by rw [getD_at hA]; exact List.getElem_mem hA
  have ht2 : l.getD t.B default ∈ l := by rw [getD_at hB]; exact List.getElem_mem hB
  have ht3 : l.getD t.C default ∈ l := by rw [getD_at hC]; exact List.getElem_mem hC
  have hbel : belR l t = (List.range l.length).all fun i => i == t.A || i == t.B || i == t.C || okRef (rotR (l.getD t.A default) (l.getD t.B default) (l.getD t.C default)).1 (rotR (l.getD t.A default) (l.getD t.B default) (l.getD t.C default)).2.1 (rotR (l.getD t.A default) (l.getD t.B default) (l.getD t.C default)).2.2 (l.getD i default) := rfl
  rw [hbel]
  clear hbel
  change CallP Tryz.prog 30 [pts l, AV.g [.d (dI (t.A : Int)), .d (dI (t.B : Int)), .d (dI (t.C : Int))]] _
  refine callP_of_aw Tryz.func30 rfl rfl Tryz.call30 tab_ok rfl rfl (fun cx href => ?_)
  refine AW.seq (ex.sound (rc := []) tab_ok mix href _ ?_)
  refine AW.cut (σ' := ⟨[(0, pts l), (3, .s (.ptr 3 0)), (5, .s (.ptr 5 0))], [(3, some (.cells [.d (dI t.A), .d (dI t.B), .d (dI t.C)])), (5, some (tri3B (l.getD t.A default) (l.getD t.B default) (l.getD t.C default)))]⟩) (ex.sound (rc := []) tab_ok mix href _ ?_) ?_
  · refine oi ⟨by omega, by omega⟩ ?_
    repeat first | refine sk ?_ | refine st ?_ | refine sg ?_ | refine sh ?_ | refine su ?_ | refine sn1 ?_ | refine sn0 ?_ | refine And.intro (show imp none (gimp _ none) from trivial) ?_
    refine oi ⟨by omega, by omega⟩ ?_
    repeat first | refine sk ?_ | refine st ?_ | refine sg ?_ | refine sh ?_ | refine su ?_ | refine sn1 ?_ | refine sn0 ?_ | refine And.intro (show imp none (gimp _ none) from trivial) ?_
    refine oi ⟨by omega, by omega⟩ ?_
    repeat first | refine sk ?_ | refine st ?_ | refine sg ?_ | refine sh ?_ | refine su ?_ | refine sn1 ?_ | refine sn0 ?_ | refine And.intro (show imp none (gimp _ none) from trivial) ?_
    refine And.intro (by kernel_rfl) ?_
    exact ⟨rfl, SubI.of0 href [] rfl ⟨⟨rfl, LeBx.rfl⟩, ⟨rfl, LeBx.rfl⟩, trivial⟩ ⟨⟨rfl, LeQ.rfl⟩, ⟨rfl, LeQ.rfl⟩, ⟨rfl, LeQ.rfl⟩, trivial⟩⟩
  generalize l.getD t.A default = p at *
  generalize l.getD t.B default = q at *
  generalize l.getD t.C default = r at *
  refine AW.seq (ex.sound (rc := []) tab_ok mix href _ ?_)
  refine AW.cutE (fun F : Nat => beS1 l t p q r 3 F) (fun F => RotI p q r F) (ex.sound (rc := []) tab_ok mix href _ ?_) ?_
  · refine AW.loopI (fun s : Nat × Nat => beS1 l t p q r s.1 s.2) (fun s => FrJ p q r s.1 s.2) (fun s => 3 - s.1) (1, 0) (.inl ⟨rfl, rfl⟩) ?_ ?_
    · exact SubI.of0 href [] rfl ⟨⟨rfl, LeBx.rfl⟩, ⟨rfl, LeBx.rfl⟩, trivial⟩ ⟨⟨rfl, LeQ.rfl⟩, ⟨rfl, LeQ.rfl⟩, ⟨rfl, LeQ.rfl⟩, ⟨rfl, LeQ.rfl⟩, ⟨rfl, LeQ.rfl⟩, trivial⟩
    · rintro ⟨i, F⟩ hJ
      refine ex.sound (rc := []) tab_ok mix href _ ?_
      rcases hJ with ⟨h1, h2⟩ | ⟨h1, hb, h2⟩ | ⟨h1, hb, h2⟩ | ⟨h1, h2⟩
      · have h1 : i = 1 := h1
        have h2 : F = 0 := h2
        subst h1 h2
        refine And.intro (fun h => ?_) (fun h => absurd (decF h) (by decide))
        repeat first | refine sk ?_ | refine st ?_ | refine sg ?_ | refine sh ?_ | refine su ?_ | refine sn1 ?_ | refine sn0 ?_ | refine And.intro (show imp none (gimp _ none) from trivial) ?_ | refine oi (by decide) ?_ | refine og (fun _ => by decide) ?_ | refine And.intro (by kernel_rfl) ?_
        refine callN (rBefore q p) ?_
        repeat first | refine sk ?_ | refine st ?_ | refine sg ?_ | refine sh ?_ | refine su ?_ | refine sn1 ?_ | refine sn0 ?_ | refine And.intro (show imp none (gimp _ none) from trivial) ?_ | refine oi (by decide) ?_ | refine og (fun _ => by decide) ?_ | refine And.intro (by kernel_rfl) ?_
        refine And.intro (fun h2 => ?_) (fun h2 => ?_)
        · have h2 : bef q p = true := h2
          refine ⟨(2, 1), .inr (.inl ⟨rfl, h2, rfl⟩), by decide, ?_⟩
          exact SubI.of0 href [] rfl ⟨⟨rfl, LeBx.rfl⟩, ⟨rfl, LeBx.rfl⟩, trivial⟩ ⟨⟨rfl, LeQ.rfl⟩, ⟨rfl, LeQ.rfl⟩, ⟨rfl, LeQ.rfl⟩, ⟨rfl, LeQ.rfl⟩, ⟨rfl, LeQ.rfl⟩, trivial⟩
        · have h2 : bef q p = false := h2
          refine ⟨(2, 0), .inr (.inr (.inl ⟨rfl, h2, rfl⟩)), by decide, ?_⟩
          exact SubI.of0 href [] rfl ⟨⟨rfl, LeBx.rfl⟩, ⟨rfl, LeBx.rfl⟩, trivial⟩ ⟨⟨rfl, LeQ.rfl⟩, ⟨rfl, LeQ.rfl⟩, ⟨rfl, LeQ.rfl⟩, ⟨rfl, LeQ.rfl⟩, ⟨rfl, LeQ.rfl⟩, trivial⟩
      · have h1 : i = 2 := h1
        have h2 : F = 1 := h2
        subst h1 h2
        refine And.intro (fun h => ?_) (fun h => absurd (decF h) (by decide))
        repeat first | refine sk ?_ | refine st ?_ | refine sg ?_ | refine sh ?_ | refine su ?_ | refine sn1 ?_ | refine sn0 ?_ | refine And.intro (show imp none (gimp _ none) from trivial) ?_ | refine oi (by decide) ?_ | refine og (fun _ => by decide) ?_ | refine And.intro (by kernel_rfl) ?_
        refine callN (rBefore r q) ?_
        repeat first | refine sk ?_ | refine st ?_ | refine sg ?_ | refine sh ?_ | refine su ?_ | refine sn1 ?_ | refine sn0 ?_ | refine And.intro (show imp none (gimp _ none) from trivial) ?_ | refine oi (by decide) ?_ | refine og (fun _ => by decide) ?_ | refine And.intro (by kernel_rfl) ?_
        refine And.intro (fun h2 => ?_) (fun h2 => ?_)
        · have h2 : bef r q = true := h2
          refine ⟨(3, 2), .inr (.inr (.inr ⟨rfl, .inr (.inr ⟨rfl, by unfold rotR; rw [if_pos hb, if_pos h2]⟩)⟩)), by decide, ?_⟩
          exact SubI.of0 href [] rfl ⟨⟨rfl, LeBx.rfl⟩, ⟨rfl, LeBx.rfl⟩, trivial⟩ ⟨⟨rfl, LeQ.rfl⟩, ⟨rfl, LeQ.rfl⟩, ⟨rfl, LeQ.rfl⟩, ⟨rfl, LeQ.rfl⟩, ⟨rfl, LeQ.rfl⟩, trivial⟩
        · have h2 : bef r q = false := h2
          refine ⟨(3, 1), .inr (.inr (.inr ⟨rfl, .inr (.inl ⟨rfl, by unfold rotR; rw [if_pos hb, if_neg (by rw [h2]; exact Bool.false_ne_true)]⟩)⟩)), by decide, ?_⟩
          exact SubI.of0 href [] rfl ⟨⟨rfl, LeBx.rfl⟩, ⟨rfl, LeBx.rfl⟩, trivial⟩ ⟨⟨rfl, LeQ.rfl⟩, ⟨rfl, LeQ.rfl⟩, ⟨rfl, LeQ.rfl⟩, ⟨rfl, LeQ.rfl⟩, ⟨rfl, LeQ.rfl⟩, trivial⟩
      · have h1 : i = 2 := h1
        have h2 : F = 0 := h2
        subst h1 h2
        refine And.intro (fun h => ?_) (fun h => absurd (decF h) (by decide))
        repeat first | refine sk ?_ | refine st ?_ | refine sg ?_ | refine sh ?_ | refine su ?_ | refine sn1 ?_ | refine sn0 ?_ | refine And.intro (show imp none (gimp _ none) from trivial) ?_ | refine oi (by decide) ?_ | refine og (fun _ => by decide) ?_ | refine And.intro (by kernel_rfl) ?_
        refine callN (rBefore r p) ?_
        repeat first | refine sk ?_ | refine st ?_ | refine sg ?_ | refine sh ?_ | refine su ?_ | refine sn1 ?_ | refine sn0 ?_ | refine And.intro (show imp none (gimp _ none) from trivial) ?_ | refine oi (by decide) ?_ | refine og (fun _ => by decide) ?_ | refine And.intro (by kernel_rfl) ?_
        refine And.intro (fun h2 => ?_) (fun h2 => ?_)
        · have h2 : bef r p = true := h2
          refine ⟨(3, 2), .inr (.inr (.inr ⟨rfl, .inr (.inr ⟨rfl, by unfold rotR; rw [if_neg (by rw [hb]; exact Bool.false_ne_true), if_pos h2]⟩)⟩)), by decide, ?_⟩
          exact SubI.of0 href [] rfl ⟨⟨rfl, LeBx.rfl⟩, ⟨rfl, LeBx.rfl⟩, trivial⟩ ⟨⟨rfl, LeQ.rfl⟩, ⟨rfl, LeQ.rfl⟩, ⟨rfl, LeQ.rfl⟩, ⟨rfl, LeQ.rfl⟩, ⟨rfl, LeQ.rfl⟩, trivial⟩
        · have h2 : bef r p = false := h2
          refine ⟨(3, 0), .inr (.inr (.inr ⟨rfl, .inl ⟨rfl, by unfold rotR; rw [if_neg (by rw [hb]; exact Bool.false_ne_true), if_neg (by rw [h2]; exact Bool.false_ne_true)]⟩⟩)), by decide, ?_⟩
          exact SubI.of0 href [] rfl ⟨⟨rfl, LeBx.rfl⟩, ⟨rfl, LeBx.rfl⟩, trivial⟩ ⟨⟨rfl, LeQ.rfl⟩, ⟨rfl, LeQ.rfl⟩, ⟨rfl, LeQ.rfl⟩, ⟨rfl, LeQ.rfl⟩, ⟨rfl, LeQ.rfl⟩, trivial⟩
      · have h1 : i = 3 := h1
        subst h1
        refine And.intro (fun h => absurd (decT h) (show ¬ ((3 : Nat) : Int) < 3 by decide)) (fun h => ?_)
        refine ⟨rfl, F, h2, ?_⟩
        exact SubI.of0 href [] rfl ⟨⟨rfl, LeBx.rfl⟩, ⟨rfl, LeBx.rfl⟩, trivial⟩ ⟨⟨rfl, LeQ.rfl⟩, ⟨rfl, LeQ.rfl⟩, ⟨rfl, LeQ.rfl⟩, ⟨rfl, LeQ.rfl⟩, ⟨rfl, LeQ.rfl⟩, trivial⟩
  · rintro F hF
    have hp2 : crs p q r = crs q r p := crs_cyc p q r
    have hp3 : crs q r p = crs r p q := crs_cyc q r p
    have hd2 := fun d => det3_rot p q r d
    have hd3 := fun d => det3_rot q r p d
    rcases hF with ⟨rfl, hrot⟩ | ⟨rfl, hrot⟩ | ⟨rfl, hrot⟩
    · rw [hrot]
      clear hrot
      refine AW.cut (σ' := beS3 l t p q r 0 q r) (ex.sound (rc := []) tab_ok mix href _ ?_) ?_
      · repeat first | refine sk ?_ | refine st ?_ | refine sg ?_ | refine sh ?_ | refine su ?_ | refine sn1 ?_ | refine sn0 ?_ | refine And.intro (show imp none (gimp _ none) from trivial) ?_ | refine oi (by decide) ?_ | refine og (fun _ => by decide) ?_ | refine And.intro (by kernel_rfl) ?_
        exact SubI.of0 href [] rfl ⟨⟨rfl, LeBx.rfl⟩, ⟨rfl, LeBx.rfl⟩, ⟨rfl, LeBx.rfl⟩, ⟨rfl, LeBx.rfl⟩, trivial⟩ ⟨⟨rfl, LeQ.rfl⟩, ⟨rfl, LeQ.rfl⟩, ⟨rfl, LeQ.rfl⟩, ⟨rfl, LeQ.rfl⟩, ⟨rfl, LeQ.rfl⟩, ⟨rfl, LeQ.rfl⟩, trivial⟩
      refine ex.sound (rc := []) tab_ok mix href _ ?_
      refine AW.loopI (fun i : Nat => beS2 l t p q r 0 q r i) (fun i => i ≤ l.length ∧ ((List.range l.length).all fun i => i == t.A || i == t.B || i == t.C || okRef p q r (l.getD i default)) = ((List.range l.length).drop i).all fun i => i == t.A || i == t.B || i == t.C || okRef p q r (l.getD i default)) (fun i => l.length - i) 0 ⟨Nat.zero_le _, rfl⟩ ?_ ?_
      · exact SubI.of0 href [] rfl ⟨⟨rfl, LeBx.rfl⟩, ⟨rfl, LeBx.rfl⟩, ⟨rfl, LeBx.rfl⟩, ⟨rfl, LeBx.rfl⟩, trivial⟩ ⟨⟨rfl, LeQ.rfl⟩, ⟨rfl, LeQ.rfl⟩, ⟨rfl, LeQ.rfl⟩, ⟨rfl, LeQ.rfl⟩, ⟨rfl, LeQ.rfl⟩, ⟨rfl, LeQ.rfl⟩, ⟨rfl, LeQ.rfl⟩, trivial⟩
      · rintro i ⟨hi, hj⟩
        refine ex.sound (rc := []) tab_ok mix href _ ?_
        refine And.intro (fun h => ?_) (fun h => ?_)
        · have h : (i : Int) < l.length := decT h
          have hi' : i < l.length := by omega
          rw [List.drop_eq_getElem_cons (by simpa using hi'), List.all_cons, List.getElem_range] at hj
          have hdm : l.getD i default ∈ l := by rw [getD_at hi']; exact List.getElem_mem hi'
          repeat first | refine sk ?_ | refine st ?_ | refine sg ?_ | refine sh ?_ | refine su ?_ | refine sn1 ?_ | refine sn0 ?_ | refine And.intro (show imp none (gimp _ none) from trivial) ?_
          have hn : ∀ {b : Bool}, ((((i : Int) == (t.A : Int)) || ((i : Int) == (t.B : Int))) || ((i : Int) == (t.C : Int))) = b → (i == t.A || i == t.B || i == t.C) = b := fun {b} h => by rw [nat_beq, nat_beq, nat_beq] at h; exact h
          refine And.intro (fun h2 => ?_) (fun h2 => ?_)
          · have h2 := hn h2
            refine ⟨i + 1, ⟨by omega, by rw [hj, h2]; rfl⟩, by omega, ?_⟩
            exact SubI.of0 href [] rfl ⟨⟨rfl, LeBx.rfl⟩, ⟨rfl, LeBx.rfl⟩, ⟨rfl, LeBx.rfl⟩, ⟨rfl, LeBx.rfl⟩, trivial⟩ ⟨⟨rfl, LeQ.rfl⟩, ⟨rfl, LeQ.rfl⟩, ⟨rfl, LeQ.rfl⟩, ⟨rfl, LeQ.rfl⟩, ⟨rfl, LeQ.rfl⟩, ⟨rfl, LeQ.rfl⟩, ⟨rfl, LeQ.int (w64_of (by omega) (by omega))⟩, trivial⟩
          · have h2 := hn h2
            repeat first | refine sk ?_ | refine st ?_ | refine sg ?_ | refine sh ?_ | refine su ?_ | refine sn1 ?_ | refine sn0 ?_ | refine And.intro (show imp none (gimp _ none) from trivial) ?_ | refine oi (by decide) ?_ | refine og (fun _ => by decide) ?_ | refine And.intro (by kernel_rfl) ?_
            refine oi ⟨by omega, by omega⟩ ?_
            repeat first | refine sk ?_ | refine st ?_ | refine sg ?_ | refine sh ?_ | refine su ?_ | refine sn1 ?_ | refine sn0 ?_ | refine And.intro (show imp none (gimp _ none) from trivial) ?_
            refine callN (rInCircle p q r (l.getD i default)) ?_
            repeat first | refine sk ?_ | refine st ?_ | refine sg ?_ | refine sh ?_ | refine su ?_ | refine sn1 ?_ | refine sn0 ?_ | refine And.intro (show imp none (gimp _ none) from trivial) ?_
            refine And.intro (by kernel_rfl) ?_
            repeat first | refine sk ?_ | refine st ?_ | refine sg ?_ | refine sh ?_ | refine su ?_ | refine sn1 ?_ | refine sn0 ?_ | refine And.intro (show imp none (gimp _ none) from trivial) ?_
            refine og (fun _ => ⟨by omega, by omega⟩) ?_
            repeat first | refine sk ?_ | refine st ?_ | refine sg ?_ | refine sh ?_ | refine su ?_ | refine sn1 ?_ | refine sn0 ?_ | refine And.intro (show imp none (gimp _ none) from trivial) ?_ | refine oi (by decide) ?_ | refine og (fun _ => by decide) ?_ | refine And.intro (by kernel_rfl) ?_
            refine callG (rBefore (l.getD i default) p) ?_
            repeat first | refine sk ?_ | refine st ?_ | refine sg ?_ | refine sh ?_ | refine su ?_ | refine sn1 ?_ | refine sn0 ?_ | refine And.intro (show imp none (gimp _ none) from trivial) ?_
            refine og (fun _ => ⟨by omega, by omega⟩) ?_
            repeat first | refine sk ?_ | refine st ?_ | refine sg ?_ | refine sh ?_ | refine su ?_ | refine sn1 ?_ | refine sn0 ?_ | refine And.intro (show imp none (gimp _ none) from trivial) ?_
            refine callG (Orient q r (l.getD i default)) ?_
            repeat first | refine sk ?_ | refine st ?_ | refine sg ?_ | refine sh ?_ | refine su ?_ | refine sn1 ?_ | refine sn0 ?_ | refine And.intro (show imp none (gimp _ none) from trivial) ?_ | refine oi (by decide) ?_ | refine og (fun _ => by decide) ?_ | refine And.intro (by kernel_rfl) ?_
            refine callG (Orient q r p) ?_
            repeat first | refine sk ?_ | refine st ?_ | refine sg ?_ | refine sh ?_ | refine su ?_ | refine sn1 ?_ | refine sn0 ?_ | refine And.intro (show imp none (gimp _ none) from trivial) ?_
            refine And.intro (by kernel_rfl) ?_
            have hinc := inc_det (near_of hap ht1 hdm) (near_of hap ht2 hdm) (near_of hap ht3 hdm) (ho _ ht1) (ho _ ht2) (ho _ ht3) hpos
            have hde : det3 p q r (l.getD i default) = det3 p q r (l.getD i default) := rfl
            rw [hde] at hinc
            have htest : ∀ {b : Bool}, _ → okRef p q r (l.getD i default) = !b := fun {b} h => ref_test (b := b) hinc (ho _ ht1) (ho _ ht2) (ho _ ht3) (ho _ hdm) (by omega) h
            refine And.intro (fun h3 => ?_) (fun h3 => ?_)
            · have h3 := htest h3
              exact SubR.lit (by rw [hj, h2, h3]; rfl)
            · have h3 := htest h3
              refine ⟨i + 1, ⟨by omega, by rw [hj, h2, h3]; rfl⟩, by omega, ?_⟩
              exact SubI.of0 href [] rfl ⟨⟨rfl, LeBx.rfl⟩, ⟨rfl, LeBx.rfl⟩, ⟨rfl, LeBx.rfl⟩, ⟨rfl, LeBx.rfl⟩, trivial⟩ ⟨⟨rfl, LeQ.rfl⟩, ⟨rfl, LeQ.rfl⟩, ⟨rfl, LeQ.rfl⟩, ⟨rfl, LeQ.rfl⟩, ⟨rfl, LeQ.rfl⟩, ⟨rfl, LeQ.rfl⟩, ⟨rfl, LeQ.int (w64_of (by omega) (by omega))⟩, trivial⟩
        · have h : ¬ (i : Int) < l.length := decF h
          obtain rfl : i = l.length := by omega
          rw [List.drop_eq_nil_of_le (by simp)] at hj
          exact SubR.lit (by rw [hj]; rfl)
    · rw [hrot]
      clear hrot
      refine AW.cut (σ' := beS3 l t p q r 1 r p) (ex.sound (rc := []) tab_ok mix href _ ?_) ?_
      · repeat first | refine sk ?_ | refine st ?_ | refine sg ?_ | refine sh ?_ | refine su ?_ | refine sn1 ?_ | refine sn0 ?_ | refine And.intro (show imp none (gimp _ none) from trivial) ?_ | refine oi (by decide) ?_ | refine og (fun _ => by decide) ?_ | refine And.intro (by kernel_rfl) ?_
        exact SubI.of0 href [] rfl ⟨⟨rfl, LeBx.rfl⟩, ⟨rfl, LeBx.rfl⟩, ⟨rfl, LeBx.rfl⟩, ⟨rfl, LeBx.rfl⟩, trivial⟩ ⟨⟨rfl, LeQ.rfl⟩, ⟨rfl, LeQ.rfl⟩, ⟨rfl, LeQ.rfl⟩, ⟨rfl, LeQ.rfl⟩, ⟨rfl, LeQ.rfl⟩, ⟨rfl, LeQ.rfl⟩, trivial⟩
      refine ex.sound (rc := []) tab_ok mix href _ ?_
      refine AW.loopI (fun i : Nat => beS2 l t p q r 1 r p i) (fun i => i ≤ l.length ∧ ((List.range l.length).all fun i => i == t.A || i == t.B || i == t.C || okRef q r p (l.getD i default)) = ((List.range l.length).drop i).all fun i => i == t.A || i == t.B || i == t.C || okRef q r p (l.getD i default)) (fun i => l.length - i) 0 ⟨Nat.zero_le _, rfl⟩ ?_ ?_
      · exact SubI.of0 href [] rfl ⟨⟨rfl, LeBx.rfl⟩, ⟨rfl, LeBx.rfl⟩, ⟨rfl, LeBx.rfl⟩, ⟨rfl, LeBx.rfl⟩, trivial⟩ ⟨⟨rfl, LeQ.rfl⟩, ⟨rfl, LeQ.rfl⟩, ⟨rfl, LeQ.rfl⟩, ⟨rfl, LeQ.rfl⟩, ⟨rfl, LeQ.rfl⟩, ⟨rfl, LeQ.rfl⟩, ⟨rfl, LeQ.rfl⟩, trivial⟩
      · rintro i ⟨hi, hj⟩
        refine ex.sound (rc := []) tab_ok mix href _ ?_
        refine And.intro (fun h => ?_) (fun h => ?_)
        · have h : (i : Int) < l.length := decT h
          have hi' : i < l.length := by omega
          rw [List.drop_eq_getElem_cons (by simpa using hi'), List.all_cons, List.getElem_range] at hj
          have hdm : l.getD i default ∈ l := by rw [getD_at hi']; exact List.getElem_mem hi'
          repeat first | refine sk ?_ | refine st ?_ | refine sg ?_ | refine sh ?_ | refine su ?_ | refine sn1 ?_ | refine sn0 ?_ | refine And.intro (show imp none (gimp _ none) from trivial) ?_
          have hn : ∀ {b : Bool}, ((((i : Int) == (t.A : Int)) || ((i : Int) == (t.B : Int))) || ((i : Int) == (t.C : Int))) = b → (i == t.A || i == t.B || i == t.C) = b := fun {b} h => by rw [nat_beq, nat_beq, nat_beq] at h; exact h
          refine And.intro (fun h2 => ?_) (fun h2 => ?_)
          · have h2 := hn h2
            refine ⟨i + 1, ⟨by omega, by rw [hj, h2]; rfl⟩, by omega, ?_⟩
            exact SubI.of0 href [] rfl ⟨⟨rfl, LeBx.rfl⟩, ⟨rfl, LeBx.rfl⟩, ⟨rfl, LeBx.rfl⟩, ⟨rfl, LeBx.rfl⟩, trivial⟩ ⟨⟨rfl, LeQ.rfl⟩, ⟨rfl, LeQ.rfl⟩, ⟨rfl, LeQ.rfl⟩, ⟨rfl, LeQ.rfl⟩, ⟨rfl, LeQ.rfl⟩, ⟨rfl, LeQ.rfl⟩, ⟨rfl, LeQ.int (w64_of (by omega) (by omega))⟩, trivial⟩
          · have h2 := hn h2
            repeat first | refine sk ?_ | refine st ?_ | refine sg ?_ | refine sh ?_ | refine su ?_ | refine sn1 ?_ | refine sn0 ?_ | refine And.intro (show imp none (gimp _ none) from trivial) ?_ | refine oi (by decide) ?_ | refine og (fun _ => by decide) ?_ | refine And.intro (by kernel_rfl) ?_
            refine oi ⟨by omega, by omega⟩ ?_
            repeat first | refine sk ?_ | refine st ?_ | refine sg ?_ | refine sh ?_ | refine su ?_ | refine sn1 ?_ | refine sn0 ?_ | refine And.intro (show imp none (gimp _ none) from trivial) ?_
            refine callN (rInCircle p q r (l.getD i default)) ?_
            repeat first | refine sk ?_ | refine st ?_ | refine sg ?_ | refine sh ?_ | refine su ?_ | refine sn1 ?_ | refine sn0 ?_ | refine And.intro (show imp none (gimp _ none) from trivial) ?_
            refine And.intro (by kernel_rfl) ?_
            repeat first | refine sk ?_ | refine st ?_ | refine sg ?_ | refine sh ?_ | refine su ?_ | refine sn1 ?_ | refine sn0 ?_ | refine And.intro (show imp none (gimp _ none) from trivial) ?_
            refine og (fun _ => ⟨by omega, by omega⟩) ?_
            repeat first | refine sk ?_ | refine st ?_ | refine sg ?_ | refine sh ?_ | refine su ?_ | refine sn1 ?_ | refine sn0 ?_ | refine And.intro (show imp none (gimp _ none) from trivial) ?_ | refine oi (by decide) ?_ | refine og (fun _ => by decide) ?_ | refine And.intro (by kernel_rfl) ?_
            refine callG (rBefore (l.getD i default) q) ?_
            repeat first | refine sk ?_ | refine st ?_ | refine sg ?_ | refine sh ?_ | refine su ?_ | refine sn1 ?_ | refine sn0 ?_ | refine And.intro (show imp none (gimp _ none) from trivial) ?_
            refine og (fun _ => ⟨by omega, by omega⟩) ?_
            repeat first | refine sk ?_ | refine st ?_ | refine sg ?_ | refine sh ?_ | refine su ?_ | refine sn1 ?_ | refine sn0 ?_ | refine And.intro (show imp none (gimp _ none) from trivial) ?_
            refine callG (Orient r p (l.getD i default)) ?_
            repeat first | refine sk ?_ | refine st ?_ | refine sg ?_ | refine sh ?_ | refine su ?_ | refine sn1 ?_ | refine sn0 ?_ | refine And.intro (show imp none (gimp _ none) from trivial) ?_ | refine oi (by decide) ?_ | refine og (fun _ => by decide) ?_ | refine And.intro (by kernel_rfl) ?_
            refine callG (Orient r p q) ?_
            repeat first | refine sk ?_ | refine st ?_ | refine sg ?_ | refine sh ?_ | refine su ?_ | refine sn1 ?_ | refine sn0 ?_ | refine And.intro (show imp none (gimp _ none) from trivial) ?_
            refine And.intro (by kernel_rfl) ?_
            have hinc := inc_det (near_of hap ht1 hdm) (near_of hap ht2 hdm) (near_of hap ht3 hdm) (ho _ ht1) (ho _ ht2) (ho _ ht3) hpos
            have hde : det3 p q r (l.getD i default) = det3 q r p (l.getD i default) := hd2 _
            rw [hde] at hinc
            have htest : ∀ {b : Bool}, _ → okRef q r p (l.getD i default) = !b := fun {b} h => ref_test (b := b) hinc (ho _ ht2) (ho _ ht3) (ho _ ht1) (ho _ hdm) (by omega) h
            refine And.intro (fun h3 => ?_) (fun h3 => ?_)
            · have h3 := htest h3
              exact SubR.lit (by rw [hj, h2, h3]; rfl)
            · have h3 := htest h3
              refine ⟨i + 1, ⟨by omega, by rw [hj, h2, h3]; rfl⟩, by omega, ?_⟩
              exact SubI.of0 href [] rfl ⟨⟨rfl, LeBx.rfl⟩, ⟨rfl, LeBx.rfl⟩, ⟨rfl, LeBx.rfl⟩, ⟨rfl, LeBx.rfl⟩, trivial⟩ ⟨⟨rfl, LeQ.rfl⟩, ⟨rfl, LeQ.rfl⟩, ⟨rfl, LeQ.rfl⟩, ⟨rfl, LeQ.rfl⟩, ⟨rfl, LeQ.rfl⟩, ⟨rfl, LeQ.rfl⟩, ⟨rfl, LeQ.int (w64_of (by omega) (by omega))⟩, trivial⟩
        · have h : ¬ (i : Int) < l.length := decF h
          obtain rfl : i = l.length := by omega
          rw [List.drop_eq_nil_of_le (by simp)] at hj
          exact SubR.lit (by rw [hj]; rfl)
    · rw [hrot]
      clear hrot
      refine AW.cut (σ' := beS3 l t p q r 2 p q) (ex.sound (rc := []) tab_ok mix href _ ?_) ?_
      · repeat first | refine sk ?_ | refine st ?_ | refine sg ?_ | refine sh ?_ | refine su ?_ | refine sn1 ?_ | refine sn0 ?_ | refine And.intro (show imp none (gimp _ none) from trivial) ?_ | refine oi (by decide) ?_ | refine og (fun _ => by decide) ?_ | refine And.intro (by kernel_rfl) ?_
        exact SubI.of0 href [] rfl ⟨⟨rfl, LeBx.rfl⟩, ⟨rfl, LeBx.rfl⟩, ⟨rfl, LeBx.rfl⟩, ⟨rfl, LeBx.rfl⟩, trivial⟩ ⟨⟨rfl, LeQ.rfl⟩, ⟨rfl, LeQ.rfl⟩, ⟨rfl, LeQ.rfl⟩, ⟨rfl, LeQ.rfl⟩, ⟨rfl, LeQ.rfl⟩, ⟨rfl, LeQ.rfl⟩, trivial⟩
      refine ex.sound (rc := []) tab_ok mix href _ ?_
      refine AW.loopI (fun i : Nat => beS2 l t p q r 2 p q i) (fun i => i ≤ l.length ∧ ((List.range l.length).all fun i => i == t.A || i == t.B || i == t.C || okRef r p q (l.getD i default)) = ((List.range l.length).drop i).all fun i => i == t.A || i == t.B || i == t.C || okRef r p q (l.getD i default)) (fun i => l.length - i) 0 ⟨Nat.zero_le _, rfl⟩ ?_ ?_
      · exact SubI.of0 href [] rfl ⟨⟨rfl, LeBx.rfl⟩, ⟨rfl, LeBx.rfl⟩, ⟨rfl, LeBx.rfl⟩, ⟨rfl, LeBx.rfl⟩, trivial⟩ ⟨⟨rfl, LeQ.rfl⟩, ⟨rfl, LeQ.rfl⟩, ⟨rfl, LeQ.rfl⟩, ⟨rfl, LeQ.rfl⟩, ⟨rfl, LeQ.rfl⟩, ⟨rfl, LeQ.rfl⟩, ⟨rfl, LeQ.rfl⟩, trivial⟩
      · rintro i ⟨hi, hj⟩
        refine ex.sound (rc := []) tab_ok mix href _ ?_
        refine And.intro (fun h => ?_) (fun h => ?_)
        · have h : (i : Int) < l.length := decT h
          have hi' : i < l.length := by omega
          rw [List.drop_eq_getElem_cons (by simpa using hi'), List.all_cons, List.getElem_range] at hj
          have hdm : l.getD i default ∈ l := by rw [getD_at hi']; exact List.getElem_mem hi'
          repeat first | refine sk ?_ | refine st ?_ | refine sg ?_ | refine sh ?_ | refine su ?_ | refine sn1 ?_ | refine sn0 ?_ | refine And.intro (show imp none (gimp _ none) from trivial) ?_
          have hn : ∀ {b : Bool}, ((((i : Int) == (t.A : Int)) || ((i : Int) == (t.B : Int))) || ((i : Int) == (t.C : Int))) = b → (i == t.A || i == t.B || i == t.C) = b := fun {b} h => by rw [nat_beq, nat_beq, nat_beq] at h; exact h
          refine And.intro (fun h2 => ?_) (fun h2 => ?_)
          · have h2 := hn h2
            refine ⟨i + 1, ⟨by omega, by rw [hj, h2]; rfl⟩, by omega, ?_⟩
            exact SubI.of0 href [] rfl ⟨⟨rfl, LeBx.rfl⟩, ⟨rfl, LeBx.rfl⟩, ⟨rfl, LeBx.rfl⟩, ⟨rfl, LeBx.rfl⟩, trivial⟩ ⟨⟨rfl, LeQ.rfl⟩, ⟨rfl, LeQ.rfl⟩, ⟨rfl, LeQ.rfl⟩, ⟨rfl, LeQ.rfl⟩, ⟨rfl, LeQ.rfl⟩, ⟨rfl, LeQ.rfl⟩, ⟨rfl, LeQ.int (w64_of (by omega) (by omega))⟩, trivial⟩
          · have h2 := hn h2
            repeat first | refine sk ?_ | refine st ?_ | refine sg ?_ | refine sh ?_ | refine su ?_ | refine sn1 ?_ | refine sn0 ?_ | refine And.intro (show imp none (gimp _ none) from trivial) ?_ | refine oi (by decide) ?_ | refine og (fun _ => by decide) ?_ | refine And.intro (by kernel_rfl) ?_
            refine oi ⟨by omega, by omega⟩ ?_
            repeat first | refine sk ?_ | refine st ?_ | refine sg ?_ | refine sh ?_ | refine su ?_ | refine sn1 ?_ | refine sn0 ?_ | refine And.intro (show imp none (gimp _ none) from trivial) ?_
            refine callN (rInCircle p q r (l.getD i default)) ?_
            repeat first | refine sk ?_ | refine st ?_ | refine sg ?_ | refine sh ?_ | refine su ?_ | refine sn1 ?_ | refine sn0 ?_ | refine And.intro (show imp none (gimp _ none) from trivial) ?_
            refine And.intro (by kernel_rfl) ?_
            repeat first | refine sk ?_ | refine st ?_ | refine sg ?_ | refine sh ?_ | refine su ?_ | refine sn1 ?_ | refine sn0 ?_ | refine And.intro (show imp none (gimp _ none) from trivial) ?_
            refine og (fun _ => ⟨by omega, by omega⟩) ?_
            repeat first | refine sk ?_ | refine st ?_ | refine sg ?_ | refine sh ?_ | refine su ?_ | refine sn1 ?_ | refine sn0 ?_ | refine And.intro (show imp none (gimp _ none) from trivial) ?_ | refine oi (by decide) ?_ | refine og (fun _ => by decide) ?_ | refine And.intro (by kernel_rfl) ?_
            refine callG (rBefore (l.getD i default) r) ?_
            repeat first | refine sk ?_ | refine st ?_ | refine sg ?_ | refine sh ?_ | refine su ?_ | refine sn1 ?_ | refine sn0 ?_ | refine And.intro (show imp none (gimp _ none) from trivial) ?_
            refine og (fun _ => ⟨by omega, by omega⟩) ?_
            repeat first | refine sk ?_ | refine st ?_ | refine sg ?_ | refine sh ?_ | refine su ?_ | refine sn1 ?_ | refine sn0 ?_ | refine And.intro (show imp none (gimp _ none) from trivial) ?_
            refine callG (Orient p q (l.getD i default)) ?_
            repeat first | refine sk ?_ | refine st ?_ | refine sg ?_ | refine sh ?_ | refine su ?_ | refine sn1 ?_ | refine sn0 ?_ | refine And.intro (show imp none (gimp _ none) from trivial) ?_ | refine oi (by decide) ?_ | refine og (fun _ => by decide) ?_ | refine And.intro (by kernel_rfl) ?_
            refine callG (Orient p q r) ?_
            repeat first | refine sk ?_ | refine st ?_ | refine sg ?_ | refine sh ?_ | refine su ?_ | refine sn1 ?_ | refine sn0 ?_ | refine And.intro (show imp none (gimp _ none) from trivial) ?_
            refine And.intro (by kernel_rfl) ?_
            have hinc := inc_det (near_of hap ht1 hdm) (near_of hap ht2 hdm) (near_of hap ht3 hdm) (ho _ ht1) (ho _ ht2) (ho _ ht3) hpos
            have hde : det3 p q r (l.getD i default) = det3 r p q (l.getD i default) := (hd2 _).trans (hd3 _)
            rw [hde] at hinc
            have htest : ∀ {b : Bool}, _ → okRef r p q (l.getD i default) = !b := fun {b} h => ref_test (b := b) hinc (ho _ ht3) (ho _ ht1) (ho _ ht2) (ho _ hdm) (by omega) h
            refine And.intro (fun h3 => ?_) (fun h3 => ?_)
            · have h3 := htest h3
              exact SubR.lit (by rw [hj, h2, h3]; rfl)
            · have h3 := htest h3
              refine ⟨i + 1, ⟨by omega, by rw [hj, h2, h3]; rfl⟩, by omega, ?_⟩
              exact SubI.of0 href [] rfl ⟨⟨rfl, LeBx.rfl⟩, ⟨rfl, LeBx.rfl⟩, ⟨rfl, LeBx.rfl⟩, ⟨rfl, LeBx.rfl⟩, trivial⟩ ⟨⟨rfl, LeQ.rfl⟩, ⟨rfl, LeQ.rfl⟩, ⟨rfl, LeQ.rfl⟩, ⟨rfl, LeQ.rfl⟩, ⟨rfl, LeQ.rfl⟩, ⟨rfl, LeQ.rfl⟩, ⟨rfl, LeQ.int (w64_of (by omega) (by omega))⟩, trivial⟩
        · have h : ¬ (i : Int) < l.length := decF h
          obtain rfl : i = l.length := by omega
          rw [List.drop_eq_nil_of_le (by simp)] at hj
          exact SubR.lit (by rw [hj]; rfl)
end Go.Ch

/- The reference's Triangulate. -/
namespace Go.Ch
open Go Go.Ax Go.Proofs Go.Proofs.Tryz Go.Hull
set_option maxRecDepth 100000
set_option pp.maxSteps 400
set_option maxHeartbeats 1000000

theorem rC_succ (l : List Pt) (a b k : Nat) : rC l a b (k + 1) = rC l a b k ++ (refC l a b (a + 1 + k)).toList := by
  unfold rC
  rw [List.range_succ, List.filterMap_append]
  congr 1
theorem rB_succ (l : List Pt) (a k : Nat) : rB l a (k + 1) = rB l a k ++ rC l a (a + 1 + k) (l.length - (a + 1)) := by
  unfold rB
  rw [List.range_succ, List.flatMap_append, List.flatMap_cons, List.flatMap_nil, List.append_nil]
theorem rA_succ (l : List Pt) (k : Nat) : rA l (k + 1) = rA l k ++ rB l k (l.length - (k + 1)) := by
  unfold rA
  rw [List.range_succ, List.flatMap_append, List.flatMap_cons, List.flatMap_nil, List.append_nil]
theorem rC_len (l : List Pt) (a b : Nat) : ∀ k, (rC l a b k).length ≤ k
  | 0 => by simp [rC]
  | k + 1 => by
    rw [rC_succ, List.length_append]
    have := rC_len l a b k
    have : (refC l a b (a + 1 + k)).toList.length ≤ 1 := by cases refC l a b (a + 1 + k) <;> simp
    omega
theorem rB_len (l : List Pt) (a : Nat) : ∀ k, (rB l a k).length ≤ k * l.length
  | 0 => by simp [rB]
  | k + 1 => by
    rw [rB_succ, List.length_append, Nat.add_mul]
    have := rB_len l a k
    have := rC_len l a (a + 1 + k) (l.length - (a + 1))
    omega
theorem rA_len (l : List Pt) : ∀ k, (rA l k).length ≤ k * (l.length * l.length)
  | 0 => by simp [rA]
  | k + 1 => by
    rw [rA_succ, List.length_append, Nat.add_mul]
    have := rA_len l k
    have := rB_len l k (l.length - (k + 1))
    have : (l.length - (k + 1)) * l.length ≤ l.length * l.length := Nat.mul_le_mul_right _ (by omega)
    omega
abbrev uS0 (l : List Pt) (a : Nat) (o : List Tri) : St := ⟨[(0, pts l), (3, .s (.mo o.isEmpty 100)), (4, vI a)], [(100, some (.mrow 70 o.length 3 (trEl (trTs o))))]⟩
abbrev uS1 (l : List Pt) (a b : Nat) (o : List Tri) : St := ⟨[(0, pts l), (3, .s (.mo o.isEmpty 100)), (4, vI a), (5, vI b)], [(100, some (.mrow 70 o.length 3 (trEl (trTs o))))]⟩
abbrev uS2 (l : List Pt) (a b c : Nat) (o : List Tri) : St := ⟨[(0, pts l), (3, .s (.mo o.isEmpty 100)), (4, vI a), (5, vI b), (6, vI c)], [(100, some (.mrow 70 o.length 3 (trEl (trTs o))))]⟩
theorem rTriangulate (l : List Pt) (hap : apartB l = false) (ho : ∀ p ∈ l, okP p) (hl : l.length ≤ 64) : CallP Tryz.prog 10 [pts l] (trs (trTs (triR l))) := by
  refine callP_of_aw Tryz.func10 rfl rfl Tryz.call10 tab_ok rfl rfl (fun cx href => ?_)
  refine AW.seq (ex.sound (rc := []) tab_ok mix href _ ?_)
  refine AW.seq (ex.sound (rc := []) tab_ok mix href _ ?_)
  refine AW.cut (σ' := uS0 l l.length (triR l)) (ex.sound (rc := []) tab_ok mix href _ ?_) ?_
  · refine AW.loopI (fun a => uS0 l a (rA l a)) (fun a => a ≤ l.length) (fun a => l.length - a) 0 (Nat.zero_le _) ?_ ?_
    · exact SubI.of0 href [(100, 1000)] rfl ⟨⟨rfl, rfl⟩, trivial⟩ ⟨⟨rfl, LeQ.rfl⟩, ⟨rfl, LeQ.nil rfl⟩, ⟨rfl, LeQ.rfl⟩, trivial⟩
    · intro a ha
      have hal := rA_len l a
      have hal2 : (rA l a).length ≤ 262144 := by
        have : a * (l.length * l.length) ≤ 64 * (64 * 64) := Nat.mul_le_mul (by omega) (Nat.mul_le_mul hl hl)
        omega
      refine ex.sound (rc := []) tab_ok mix href _ ?_
      refine And.intro (fun h => ?_) (fun h => ?_)
      · have h : (a : Int) < l.length := decT h
        have ha' : a < l.length := by omega
        refine AW.loopI (fun j : Nat => uS1 l a (a + 1 + j) (rA l a ++ rB l a j)) (fun j => a + 1 + j ≤ l.length) (fun j => l.length - j) 0 (by omega) ?_ ?_
        · refine SubI.of0 href [] rfl ⟨⟨rfl, LeBx.of_eq (by show _ = Box.mrow 70 (rA l a ++ []).length 3 (trEl (trTs (rA l a ++ []))); rw [List.append_nil])⟩, trivial⟩ ⟨⟨rfl, LeQ.rfl⟩, ⟨rfl, LeQ.mm (by show _ = (rA l a ++ []).isEmpty; rw [List.append_nil])⟩, ⟨rfl, LeQ.rfl⟩, ⟨rfl, LeQ.int ((w64_of (by omega) (by omega)).trans (by omega))⟩, trivial⟩
        · intro j hjl
          have hbl := rB_len l a j
          have hbl2 : (rB l a j).length ≤ 4096 := by
            have : j * l.length ≤ 64 * 64 := Nat.mul_le_mul (by omega) hl
            omega
          refine AW.seq (ex.sound (rc := []) tab_ok mix href _ ?_)
          refine And.intro (fun h2 => ?_) (fun h2 => ?_)
          · have h2 : ((a + 1 + j : Nat) : Int) < l.length := decT h2
            refine AW.seq (AW.block (AW.seq (ex.sound (rc := []) tab_ok mix href _ (AW.block ?_))))
            have hb' : a + 1 + j < l.length := by omega
            generalize hb : a + 1 + j = b at h2 hb' ⊢
            generalize ho1 : rA l a ++ rB l a j = o
            have hol : o.length ≤ 300000 := by rw [← ho1, List.length_append]; omega
            refine AW.loopI (fun k : Nat => uS2 l a b (a + 1 + k) (o ++ rC l a b k)) (fun k => a + 1 + k ≤ l.length) (fun k => l.length - k) 0 (by omega) ?_ ?_
            · refine SubI.of0 href [] rfl ⟨⟨rfl, LeBx.of_eq (by show _ = Box.mrow 70 (o ++ []).length 3 (trEl (trTs (o ++ []))); rw [List.append_nil])⟩, trivial⟩ ⟨⟨rfl, LeQ.rfl⟩, ⟨rfl, LeQ.mm (by show _ = (o ++ []).isEmpty; rw [List.append_nil])⟩, ⟨rfl, LeQ.rfl⟩, ⟨rfl, LeQ.rfl⟩, ⟨rfl, LeQ.int ((w64_of (by omega) (by omega)).trans (by omega))⟩, trivial⟩
            · intro k hk
              have hcl := rC_len l a b k
              refine AW.seq (ex.sound (rc := []) tab_ok mix href _ ?_)
              refine And.intro (fun h3 => ?_) (fun h3 => ?_)
              · have h3 : ((a + 1 + k : Nat) : Int) < l.length := decT h3
                have hc' : a + 1 + k < l.length := by omega
                have hsucc := rC_succ l a b k
                generalize hc : a + 1 + k = c at h3 hc' hsucc ⊢
                generalize ho2 : o ++ rC l a b k = o2
                have hol2 : o2.length ≤ 400000 := by rw [← ho2, List.length_append]; omega
                have hla : l.getD a default ∈ l := by rw [getD_at ha']; exact List.getElem_mem ha'
                have hlb : l.getD b default ∈ l := by rw [getD_at hb']; exact List.getElem_mem hb'
                have hlc : l.getD c default ∈ l := by rw [getD_at hc']; exact List.getElem_mem hc'
                have hcr := cross_crs (ho _ hla) (ho _ hlb) (ho _ hlc)
                have hsg : decide (sgn (cross (l.getD a default) (l.getD b default) (l.getD c default)) > 0) = decide (0 < crs (l.getD a default) (l.getD b default) (l.getD c default)) := by
                  rw [hcr, Bool.eq_iff_iff]; unfold sgn; simp only [decide_eq_true_eq]; split
                  · constructor <;> intro <;> omega
                  · split
                    · constructor <;> intro <;> omega
                    · constructor <;> intro <;> omega
                refine AW.seq (AW.block (AW.seq (ex.sound (rc := []) tab_ok mix href _ ?_)))
                refine ex.sound (rc := []) tab_ok mix href _ ?_
                refine oi ⟨by omega, by omega⟩ ?_
                repeat first | refine sk ?_ | refine st ?_ | refine sg ?_ | refine sh ?_ | refine su ?_ | refine sn1 ?_ | refine sn0 ?_ | refine And.intro (show imp none (gimp _ none) from trivial) ?_
                refine oi ⟨by omega, by omega⟩ ?_
                repeat first | refine sk ?_ | refine st ?_ | refine sg ?_ | refine sh ?_ | refine su ?_ | refine sn1 ?_ | refine sn0 ?_ | refine And.intro (show imp none (gimp _ none) from trivial) ?_
                refine oi ⟨by omega, by omega⟩ ?_
                repeat first | refine sk ?_ | refine st ?_ | refine sg ?_ | refine sh ?_ | refine su ?_ | refine sn1 ?_ | refine sn0 ?_ | refine And.intro (show imp none (gimp _ none) from trivial) ?_
                refine callN (Orient (l.getD a default) (l.getD b default) (l.getD c default)) ?_
                repeat first | refine sk ?_ | refine st ?_ | refine sg ?_ | refine sh ?_ | refine su ?_ | refine sn1 ?_ | refine sn0 ?_ | refine And.intro (show imp none (gimp _ none) from trivial) ?_
                refine callGo (r := vB (belR l ⟨a, b, c⟩)) (fun hg => ?_) ?_
                · have hg : decide (sgn (cross (l.getD a default) (l.getD b default) (l.getD c default)) > 0) = true := hg
                  rw [hsg] at hg
                  exact rBelongs l ⟨a, b, c⟩ ha' hb' hc' (of_decide_eq_true hg) hap ho (by omega)
                repeat first | refine sk ?_ | refine st ?_ | refine sg ?_ | refine sh ?_ | refine su ?_ | refine sn1 ?_ | refine sn0 ?_ | refine And.intro (show imp none (gimp _ none) from trivial) ?_
                refine And.intro (by kernel_rfl) ?_
                refine And.intro (fun h4 => ?_) (fun h4 => ?_)
                · have h4 : (decide (sgn (cross (l.getD a default) (l.getD b default) (l.getD c default)) > 0) && belR l ⟨a, b, c⟩) = true := h4
                  rw [hsg, Bool.and_eq_true, decide_eq_true_iff] at h4
                  have hPs : refC l a b c = some ⟨a, b, c⟩ := by unfold refC; rw [if_pos h4]
                  refine ob (by decide) ?_
                  refine ob (by rw [bif_len]; show (o2.length + 1) * 24 ≤ 140737488355328; omega) ?_
                  refine ob (fun k j hk hj => ?_) ?_
                  · obtain rfl : k = 0 := by omega
                    match j, hj with
                    | 0, _ => rfl
                    | 1, _ => rfl
                    | 2, _ => rfl
                  refine ex.sound (rc := []) tab_ok mix href _ ?_
                  refine ⟨k + 1, by omega, by omega, ?_⟩
                  have e : o ++ rC l a b (k + 1) = o2 ++ [⟨a, b, c⟩] := by rw [hsucc, hPs, ← ho2, List.append_assoc]; rfl
                  show SubI cx _ _ (uS2 l a b (a + 1 + (k + 1)) (o ++ rC l a b (k + 1)))
                  rw [e]
                  exact SubI.of0 href [(100, 56)] rfl ⟨⟨rfl, LeBx.snocT (T := ⟨a, b, c⟩) fun j hj => match j, hj with
                    | 0, _ => rfl
                    | 1, _ => rfl
                    | 2, _ => rfl⟩, trivial⟩ ⟨⟨rfl, LeQ.rfl⟩, ⟨rfl, LeQ.mo (isEmpty_snoc _ _)⟩, ⟨rfl, LeQ.rfl⟩, ⟨rfl, LeQ.rfl⟩, ⟨rfl, LeQ.int ((w64_of (by omega) (by omega)).trans (by omega))⟩, trivial⟩
                · have h4 : (decide (sgn (cross (l.getD a default) (l.getD b default) (l.getD c default)) > 0) && belR l ⟨a, b, c⟩) = false := h4
                  rw [hsg] at h4
                  have hPn : refC l a b c = none := by
                    unfold refC
                    rw [if_neg]
                    rintro ⟨h5, h6⟩
                    rw [decide_eq_true h5, h6] at h4
                    cases h4
                  refine ex.sound (rc := []) tab_ok mix href _ ?_
                  refine ⟨k + 1, by omega, by omega, ?_⟩
                  have e : o ++ rC l a b (k + 1) = o2 := by rw [hsucc, hPn, ← ho2]; simp
                  show SubI cx _ _ (uS2 l a b (a + 1 + (k + 1)) (o ++ rC l a b (k + 1)))
                  rw [e]
                  exact SubI.of0 href [] rfl ⟨⟨rfl, LeBx.rfl⟩, trivial⟩ ⟨⟨rfl, LeQ.rfl⟩, ⟨rfl, LeQ.rfl⟩, ⟨rfl, LeQ.rfl⟩, ⟨rfl, LeQ.rfl⟩, ⟨rfl, LeQ.int ((w64_of (by omega) (by omega)).trans (by omega))⟩, trivial⟩
              · have h3 : ¬ ((a + 1 + k : Nat) : Int) < l.length := decF h3
                obtain rfl : k = l.length - (a + 1) := by omega
                refine ex.sound (rc := []) tab_ok mix href _ ?_
                refine ⟨j + 1, by omega, by omega, ?_⟩
                have e : rA l a ++ rB l a (j + 1) = o ++ rC l a b (l.length - (a + 1)) := by rw [rB_succ, ← List.append_assoc, ho1, hb]
                show SubI cx _ _ (uS1 l a (a + 1 + (j + 1)) (rA l a ++ rB l a (j + 1)))
                rw [e]
                exact SubI.of0 href [] rfl ⟨⟨rfl, LeBx.rfl⟩, trivial⟩ ⟨⟨rfl, LeQ.rfl⟩, ⟨rfl, LeQ.rfl⟩, ⟨rfl, LeQ.rfl⟩, ⟨rfl, LeQ.int ((w64_of (by omega) (by omega)).trans (by omega))⟩, trivial⟩
          · have h2 : ¬ ((a + 1 + j : Nat) : Int) < l.length := decF h2
            obtain rfl : j = l.length - (a + 1) := by omega
            refine ⟨a + 1, by omega, by omega, ?_⟩
            show SubI cx _ _ (uS0 l (a + 1) (rA l (a + 1)))
            rw [rA_succ]
            exact SubI.of0 href [] rfl ⟨⟨rfl, LeBx.rfl⟩, trivial⟩ ⟨⟨rfl, LeQ.rfl⟩, ⟨rfl, LeQ.rfl⟩, ⟨rfl, LeQ.int ((w64_of (by omega) (by omega)).trans (by omega))⟩, trivial⟩
      · have h : ¬ (a : Int) < l.length := decF h
        obtain rfl : a = l.length := by omega
        refine ⟨rfl, ?_⟩
        exact SubI.of0 href [] rfl ⟨⟨rfl, LeBx.rfl⟩, trivial⟩ ⟨⟨rfl, LeQ.rfl⟩, ⟨rfl, LeQ.rfl⟩, ⟨rfl, LeQ.rfl⟩, trivial⟩
  · generalize triR l = o
    cases hz : o.isEmpty with
    | true =>
      obtain rfl : o = [] := List.isEmpty_iff.1 hz
      refine AW.subI (σ' := ⟨[(3, .s (.d (.val (.slice none 0 0))))], []⟩) (SubI.of0 href [] rfl trivial ⟨⟨rfl, LeQ.toNil rfl⟩, trivial⟩) ?_
      refine ex.sound (rc := []) tab_ok mix href _ ?_
      exact SubR.le LeD.nil
    | false =>
      refine AW.subI (SubI.own (e := 70) (n := o.length) (s := 3) (f := trEl (trTs o)) (z := false) 3 100 ?_ rfl ?_) ?_
      · show AV.s (.mo o.isEmpty 100) = _
        rw [hz]
      · rfl
      refine ex.sound (rc := []) tab_ok mix href _ ?_
      refine SubR.le (LeD.slc' ?_ fun i j _ hj => LeD.refl _)
      unfold trTs; rw [List.length_map]
/-- What a patch without error says. -/
theorem patch_ok {l : List Pt} (h : patchE l = 0) : l.length ≤ 64 ∧ (∀ p ∈ l, okP p) ∧ Dist l ∧ apartB l = false := by
  unfold patchE at h
  cases h1 : errPts l != 0 with
  | true => rw [h1] at h; exact absurd h (by simpa using h1)
  | false =>
    rw [h1] at h
    have he : errPts l = 0 := by simpa using h1
    obtain ⟨a, b⟩ := errPts_ok he
    cases h2 : dupP l with
    | true => rw [h2] at h; cases h
    | false =>
      rw [h2] at h
      cases h3 : apartB l with
      | true => rw [h3] at h; cases h
      | false => exact ⟨a, b, dist_of (by rw [← dup_eq]; exact h2), rfl⟩
/-- geometry.Triangulate -/
theorem gTriangErr (l : List Pt) (hl : l.length ≤ 1000000) (h0 : patchE l ≠ 0) : CallP Tryz.prog 23 [pts l] (.t [.s (.d (.val (.slice none 0 0))), .s (.d (dI (patchE l)))]) := by
  refine callP_of_ex (rc := []) (N := 12) Tryz.func23 rfl rfl Tryz.call23 tab_ok mix rfl rfl (fun cx href => ?_)
  refine callN (gPatchErr l hl) ?_
  refine And.intro (fun h => ?_) (fun h => ?_)
  · exact SubR.refl _
  · have h : (patchE l != 0) = false := h
    exact absurd (by simpa using h) h0
theorem gTriangOk (l : List Pt) (h0 : patchE l = 0) : CallP Tryz.prog 23 [pts l] (.t [.s (.d (dTrs (trTs (triR l)))), .s (.d (dI 0))]) := by
  obtain ⟨hl, ho, hd, hap⟩ := patch_ok h0
  refine callP_of_ex (rc := []) (N := 12) Tryz.func23 rfl rfl Tryz.call23 tab_ok mix rfl rfl (fun cx href => ?_)
  refine callN (gPatchErr l (by omega)) ?_
  rw [h0]
  refine And.intro (fun h => ?_) (fun h => ?_)
  · exact absurd h (by decide)
  have ht := gTriangulate l hap ho hl
  rw [tri_sorted hd] at ht
  refine callN ht ?_
  exact SubR.refl _
end Go.Ch

/- bed.Triangulate. -/
namespace Go.Ch
open Go Go.Ax Go.Proofs Go.Proofs.Tryz Go.Hull
set_option maxRecDepth 100000
set_option pp.maxSteps 400
set_option maxHeartbeats 1000000

theorem CloneN (l : List Nd) (hl : l.length ≤ 1000000) : CallP Tryz.prog 24 [vNds l] (vNds l) := by
  refine callP_of_ex (rc := []) (N := 8) Tryz.func24 rfl rfl Tryz.call24 tab_ok mix rfl rfl (fun cx href => ?_)
  intro b hb
  refine And.intro (fun h => ?_) (fun h => ?_)
  · obtain rfl : l = [] := List.length_eq_zero_iff.1 (hb h)
    exact SubR.le LeD.nil
  · refine ob (show (0 + l.length) * 24 ≤ 140737488355328 by omega) ?_
    refine ob (fun k j hk hj => match j, hj with
      | 0, _ => rfl
      | 1, _ => rfl
      | 2, _ => rfl) ?_
    refine SubR.le (LeD.slc' (Nat.zero_add _) fun i j hi hj => LeD.of_eq ?_)
    show catF 0 _ (ndEl l) i j = _
    rw [catF0]
def badLv (n : Nd) : Bool := !within n.lv (-20000) 20000
theorem tri1 (n : Nd) : CallP Tryz.prog 20 [nd n] (vB (badLv n)) := by
  refine callP_of_ex (rc := []) (N := 7) Tryz.func20 rfl rfl Tryz.call20 tab_ok mix rfl rfl (fun cx href => ?_)
  refine callN (isLevel n.lv) ?_
  exact SubR.refl _
def ptsN (l : List Nd) : List Pt := l.map Nd.pt
abbrev rME (m : Mesh) (e : Int) : AV := .t [.g [.d (dNds m.nodes), .d (dTrs m.tris)], .s (.d (dI e))]
def triB (l : List Nd) : Mesh × Int := bif l.any badLv then (⟨[], []⟩, 2) else if patchE (ptsN l) = 0 then (⟨l, trTs (triR (ptsN l))⟩, 0) else (⟨[], []⟩, patchE (ptsN l))
theorem ptsN_take {l : List Nd} {i : Nat} (h : i < l.length) : ptsN (l.take (i + 1)) = ptsN (l.take i) ++ [(l.getD i default).pt] := by
  unfold ptsN
  rw [List.take_add_one, List.map_append, List.getElem?_eq_getElem h, List.getD_eq_getElem?_getD, List.getElem?_eq_getElem h]
  rfl
theorem ptsN_len {l : List Nd} {i : Nat} (h : i ≤ l.length) : (ptsN (l.take i)).length = i := by
  unfold ptsN; rw [List.length_map, List.length_take]; omega
abbrev bT (l : List Nd) (i : Nat) (o : List Pt) : St := ⟨[(0, vNds l), (2, .s (.ptr 2 0)), (4, .s (.mo o.isEmpty 100)), (12, vNds l), (13, vI l.length), (14, vI i)], [(2, some (.cells (zvs ty30.zero))), (100, some (.mrow 39 o.length 2 (ptEl o)))]⟩
theorem bTriangulate (l : List Nd) (hl : l.length ≤ 1000) : CallP Tryz.prog 6 [vNds l] (rME (triB l).1 (triB l).2) := by
  refine callP_of_aw Tryz.func6 rfl rfl Tryz.call6 tab_ok rfl rfl (fun cx href => ?_)
  refine AW.seq (ex.sound (rc := []) tab_ok mix href _ ?_)
  refine AW.seq (ex.sound (rc := []) tab_ok mix href _ ?_)
  refine callN (containsN l (by omega) 20 0 _ badLv (fun x _ => tri1 x)) ?_
  unfold triB
  refine And.intro (fun h => ?_) (fun h => ?_)
  · have h : (l.any badLv) = true := h
    rw [h]
    exact SubR.t ⟨⟨LeD.nil, LeD.nil, trivial⟩, LeD.refl _, trivial⟩
  have h : (l.any badLv) = false := h
  rw [h]
  refine AW.seq (ex.sound (rc := []) tab_ok mix href _ ?_)
  refine AW.cut (σ' := bT l l.length (ptsN l)) (ex.sound (rc := []) tab_ok mix href _ ?_) ?_
  · refine AW.loopI (fun i : Nat => bT l i (ptsN (l.take i))) (fun i => i ≤ l.length) (fun i => l.length - i) 0 (Nat.zero_le _) ?_ ?_
    · exact SubI.of0 href [(100, 1000)] rfl ⟨⟨rfl, LeBx.rfl⟩, ⟨rfl, rfl⟩, trivial⟩ ⟨⟨rfl, LeQ.rfl⟩, ⟨rfl, LeQ.rfl⟩, ⟨rfl, LeQ.nil rfl⟩, ⟨rfl, LeQ.rfl⟩, ⟨rfl, LeQ.rfl⟩, ⟨rfl, LeQ.rfl⟩, trivial⟩
    · intro i hi
      have hlen := ptsN_len hi
      refine ex.sound (rc := []) tab_ok mix href _ ?_
      refine And.intro (fun h => ?_) (fun h => ?_)
      · have h : (i : Int) < l.length := decT h
        have hi' : i < l.length := by omega
        refine oi ⟨by omega, by omega⟩ ?_
        refine callN (bplace (l.getD i default)) ?_
        refine ob (by decide) ?_
        refine ob (by rw [bif_len]; show ((ptsN (l.take i)).length + 1) * 16 ≤ 140737488355328; omega) ?_
        refine ob (fun k j hk hj => ?_) ?_
        · obtain rfl : k = 0 := by omega
          match j, hj with
          | 0, _ => rfl
          | 1, _ => rfl
        refine ⟨i + 1, by omega, by omega, ?_⟩
        show SubI cx _ _ (bT l (i + 1) (ptsN (l.take (i + 1))))
        rw [ptsN_take hi']
        exact SubI.of0 href [(100, 22)] rfl ⟨⟨rfl, LeBx.rfl⟩, ⟨rfl, LeBx.snoc (el := ptD) fun j hj => match j, hj with
          | 0, _ => rfl
          | 1, _ => rfl⟩, trivial⟩ ⟨⟨rfl, LeQ.rfl⟩, ⟨rfl, LeQ.rfl⟩, ⟨rfl, LeQ.mo (isEmpty_snoc _ _)⟩, ⟨rfl, LeQ.rfl⟩, ⟨rfl, LeQ.rfl⟩, ⟨rfl, LeQ.int (w64_of (by omega) (by omega))⟩, trivial⟩
      · have h : ¬ (i : Int) < l.length := decF h
        obtain rfl : i = l.length := by omega
        rw [List.take_length]
        exact ⟨rfl, SubI.of0 href [] rfl ⟨⟨rfl, LeBx.rfl⟩, ⟨rfl, LeBx.rfl⟩, trivial⟩ ⟨⟨rfl, LeQ.rfl⟩, ⟨rfl, LeQ.rfl⟩, ⟨rfl, LeQ.rfl⟩, ⟨rfl, LeQ.rfl⟩, ⟨rfl, LeQ.rfl⟩, ⟨rfl, LeQ.rfl⟩, trivial⟩⟩
  · have hlen : (ptsN l).length = l.length := by unfold ptsN; rw [List.length_map]
    cases hz : (ptsN l).isEmpty with
    | true =>
      have e0 : ptsN l = [] := List.isEmpty_iff.1 hz
      refine AW.subI (σ' := ⟨[(0, vNds l), (2, .s (.ptr 2 0)), (4, pts (ptsN l))], [(2, some (.cells (zvs ty30.zero)))]⟩) (SubI.of0 href [] rfl ⟨⟨rfl, LeBx.rfl⟩, trivial⟩ ⟨⟨rfl, LeQ.rfl⟩, ⟨rfl, LeQ.rfl⟩, ⟨rfl, ?_⟩, trivial⟩) ?_
      · show LeQ (.s (.mo (ptsN l).isEmpty 100)) (pts (ptsN l))
        rw [e0]
        exact fun M β v r => LeQ.d LeD.nil M β v (LeQ.toNil (z := true) rfl M β v r)
      refine ex.sound (rc := []) tab_ok mix href _ ?_
      by_cases h0 : patchE (ptsN l) = 0
      · rw [if_pos h0]
        refine callN (gTriangOk (ptsN l) h0) ?_
        refine And.intro (fun h2 => absurd h2 (show ¬ (false = true) by decide)) (fun _ => ?_)
        refine callN (CloneN l (by omega)) ?_
        exact SubR.refl _
      · rw [if_neg h0]
        refine callN (gTriangErr (ptsN l) (by omega) h0) ?_
        refine And.intro (fun h2 => ?_) (fun h2 => ?_)
        · exact SubR.t ⟨⟨LeD.nil, LeD.nil, trivial⟩, LeD.refl _, trivial⟩
        · have h2 : (patchE (ptsN l) != 0) = false := h2
          exact absurd (by simpa using h2) h0
    | false =>
      refine AW.subI (SubI.own (e := 39) (n := (ptsN l).length) (s := 2) (f := ptEl (ptsN l)) (z := false) 4 100 ?_ rfl ?_) ?_
      · show AV.s (.mo (ptsN l).isEmpty 100) = _
        rw [hz]
      · rfl
      refine AW.subM (σ' := ⟨[(0, vNds l), (2, .s (.ptr 2 0)), (4, pts (ptsN l))], [(2, some (.cells (zvs ty30.zero)))]⟩) (SubM.of href [] [100] rfl rfl rfl ⟨⟨rfl, LeBxf.rfl⟩, trivial⟩ ⟨⟨rfl, LeQf.rfl⟩, ⟨rfl, LeQf.rfl⟩, ⟨rfl, LeQf.own (by simp) rfl⟩, trivial⟩) ?_
      refine ex.sound (rc := []) tab_ok mix href _ ?_
      by_cases h0 : patchE (ptsN l) = 0
      · rw [if_pos h0]
        refine callN (gTriangOk (ptsN l) h0) ?_
        refine And.intro (fun h2 => absurd h2 (show ¬ (false = true) by decide)) (fun _ => ?_)
        refine callN (CloneN l (by omega)) ?_
        exact SubR.refl _
      · rw [if_neg h0]
        refine callN (gTriangErr (ptsN l) (by omega) h0) ?_
        refine And.intro (fun h2 => ?_) (fun h2 => ?_)
        · exact SubR.t ⟨⟨LeD.nil, LeD.nil, trivial⟩, LeD.refl _, trivial⟩
        · have h2 : (patchE (ptsN l) != 0) = false := h2
          exact absurd (by simpa using h2) h0
end Go.Ch

/- A mesh is the same as itself. -/
namespace Go.Ch
open Go Go.Ax Go.Proofs Go.Proofs.Tryz Go.Hull
set_option maxRecDepth 100000
set_option pp.maxSteps 400
set_option maxHeartbeats 1000000

theorem sameM (m : Mesh) (h1 : m.nodes.length ≤ 1000000) (h2 : m.tris.length ≤ 1000000) : CallP Tryz.prog 9 [mesh m, mesh m] (vB true) := by
  refine callP_of_ex (rc := []) (N := 59) Tryz.func9 rfl rfl Tryz.call9 tab_ok mix rfl rfl (fun cx href => ?_)
  repeat first | refine sk ?_ | refine st ?_ | refine sg ?_ | refine sh ?_ | refine su ?_ | refine sn1 ?_ | refine sn0 ?_ | refine And.intro (show imp none (gimp _ none) from trivial) ?_
  refine And.intro (fun h => ?_) (fun h => ?_)
  · have h : (((m.nodes.length : Int) != (m.nodes.length : Int)) || ((m.tris.length : Int) != (m.tris.length : Int))) = true := h
    simp at h
  refine AW.loopI (fun i : Nat => ⟨[(2, .s (.ptr 2 0)), (3, .s (.ptr 3 0)), (5, vI i)], [(2, some (meshB m)), (3, some (meshB m))]⟩) (fun i => i ≤ m.nodes.length) (fun i => m.nodes.length - i) 0 (Nat.zero_le _) ?_ ?_
  · exact SubI.of0 href [] rfl ⟨⟨rfl, LeBx.rfl⟩, ⟨rfl, LeBx.rfl⟩, trivial⟩ ⟨⟨rfl, LeQ.rfl⟩, ⟨rfl, LeQ.rfl⟩, ⟨rfl, LeQ.rfl⟩, trivial⟩
  · intro i hi
    refine ex.sound (rc := []) tab_ok mix href _ ?_
    refine And.intro (fun h => ?_) (fun h => ?_)
    · have h : (i : Int) < m.nodes.length := decT h
      refine oi ⟨by omega, by omega⟩ ?_
      repeat first | refine sk ?_ | refine st ?_ | refine sg ?_ | refine sh ?_ | refine su ?_ | refine sn1 ?_ | refine sn0 ?_ | refine And.intro (show imp none (gimp _ none) from trivial) ?_
      refine oi ⟨by omega, by omega⟩ ?_
      repeat first | refine sk ?_ | refine st ?_ | refine sg ?_ | refine sh ?_ | refine su ?_ | refine sn1 ?_ | refine sn0 ?_ | refine And.intro (show imp none (gimp _ none) from trivial) ?_
      refine And.intro (by kernel_rfl) ?_
      refine And.intro (fun h3 => ?_) (fun h3 => ?_)
      · have h3 : (!(((m.nodes.getD i default).x == (m.nodes.getD i default).x) && (((m.nodes.getD i default).y == (m.nodes.getD i default).y) && (((m.nodes.getD i default).lv == (m.nodes.getD i default).lv) && true)))) = true := h3
        simp at h3
      · refine ⟨i + 1, by omega, by omega, ?_⟩
        exact SubI.of0 href [] rfl ⟨⟨rfl, LeBx.rfl⟩, ⟨rfl, LeBx.rfl⟩, trivial⟩ ⟨⟨rfl, LeQ.rfl⟩, ⟨rfl, LeQ.rfl⟩, ⟨rfl, LeQ.int (w64_of (by omega) (by omega))⟩, trivial⟩
    · have h : ¬ (i : Int) < m.nodes.length := decF h
      refine AW.loopI (fun i : Nat => ⟨[(2, .s (.ptr 2 0)), (3, .s (.ptr 3 0)), (6, vI i)], [(2, some (meshB m)), (3, some (meshB m))]⟩) (fun i => i ≤ m.tris.length) (fun i => m.tris.length - i) 0 (Nat.zero_le _) ?_ ?_
      · exact SubI.of0 href [] rfl ⟨⟨rfl, LeBx.rfl⟩, ⟨rfl, LeBx.rfl⟩, trivial⟩ ⟨⟨rfl, LeQ.rfl⟩, ⟨rfl, LeQ.rfl⟩, ⟨rfl, LeQ.rfl⟩, trivial⟩
      · intro i hi
        refine ex.sound (rc := []) tab_ok mix href _ ?_
        refine And.intro (fun h => ?_) (fun h => ?_)
        · have h : (i : Int) < m.tris.length := decT h
          refine oi ⟨by omega, by omega⟩ ?_
          repeat first | refine sk ?_ | refine st ?_ | refine sg ?_ | refine sh ?_ | refine su ?_ | refine sn1 ?_ | refine sn0 ?_ | refine And.intro (show imp none (gimp _ none) from trivial) ?_
          refine oi ⟨by omega, by omega⟩ ?_
          repeat first | refine sk ?_ | refine st ?_ | refine sg ?_ | refine sh ?_ | refine su ?_ | refine sn1 ?_ | refine sn0 ?_ | refine And.intro (show imp none (gimp _ none) from trivial) ?_
          refine And.intro (by kernel_rfl) ?_
          refine And.intro (fun h3 => ?_) (fun h3 => ?_)
          · have h3 : (!(((m.tris.getD i default).a == (m.tris.getD i default).a) && (((m.tris.getD i default).b == (m.tris.getD i default).b) && (((m.tris.getD i default).c == (m.tris.getD i default).c) && true)))) = true := h3
            simp at h3
          · refine ⟨i + 1, by omega, by omega, ?_⟩
            exact SubI.of0 href [] rfl ⟨⟨rfl, LeBx.rfl⟩, ⟨rfl, LeBx.rfl⟩, trivial⟩ ⟨⟨rfl, LeQ.rfl⟩, ⟨rfl, LeQ.rfl⟩, ⟨rfl, LeQ.int (w64_of (by omega) (by omega))⟩, trivial⟩
        · exact SubR.lit rfl
end Go.Ch
