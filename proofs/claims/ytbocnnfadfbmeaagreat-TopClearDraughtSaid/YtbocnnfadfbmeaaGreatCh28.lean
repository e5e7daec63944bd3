/- Part Ch28: lemmas that the proofs of this seat share; by itself it claims nothing. -/
import Derived.Test.YtbocnnfadfbmeaaGreatCh25
/- What Clear finds, by ways alone. -/
namespace Go.Ch
open Go Go.Ax Go.Proofs Go.Proofs.Tryz
set_option maxRecDepth 100000
set_option maxHeartbeats 1000000

theorem most_lt {g : Grid} {x m : Int} (h : x < m) : ∀ i, okMost g x i = true → knownG g i = true ∧ levelAt g i < m := by
  intro i hi
  unfold okMost at hi
  simp only [Bool.and_eq_true, decide_eq_true_eq] at hi
  exact ⟨hi.1, by omega⟩
theorem clear_cases {g : Grid} (hg : GVal g) {fr to : List Int} (h0 : endsG g fr to = 0) :
    (∃ m, m ∈ levelsL g.levels ∧ clearG g fr to = (m, wayM g m fr to, barL g m g.levels.length, 0) ∧ wayM g m fr to ≠ [] ∧ canGo (okMost g m) (nearL g) fr to ∧ ∀ x, x < m → ¬ canGo (okMost g x) (nearL g) fr to) ∨
    (clearG g fr to = (0, [], [], 11) ∧ ∀ x, ¬ canGo (okMost g x) (nearL g) fr to) := by
  rw [clearG_zero h0]
  rcases clearL_spec g fr to (levelsL g.levels) with ⟨pre, m, suf, e1, e2, e3, e4⟩ | ⟨e1, e2⟩
  · refine .inl ⟨m, by rw [e1]; simp, e4, e3, (wayM_go hg m fr to).1 e3, fun x hx hgo => ?_⟩
    obtain ⟨y, hy, hym, hgy⟩ := lower_way (most_lt hx) hgo
    have := first_level hg e1 e2 hy hgy
    omega
  · refine .inr ⟨e2, fun x hgo => ?_⟩
    obtain ⟨y, hy, _, hgy⟩ := lower_way (most_lt (show x < x + 1 by omega)) hgo
    exact (wayM_go hg y fr to).2 hgy (e1 y hy)
theorem clear_at {g : Grid} (hg : GVal g) {fr to : List Int} (h0 : endsG g fr to = 0) {L : Int} (hgo : canGo (okMost g L) (nearL g) fr to) : (clearG g fr to).1 ≤ L ∧ (clearG g fr to).2.2.2 = 0 ∧ ((∀ x, x < L → ¬ canGo (okMost g x) (nearL g) fr to) → (clearG g fr to).1 = L) := by
  rcases clear_cases hg h0 with ⟨m, _, e, _, h1, h2⟩ | ⟨_, h⟩
  · rw [e]
    have hm : m ≤ L := by
      rcases Int.lt_or_le L m with h | h
      · exact absurd hgo (h2 L h)
      · exact h
    refine ⟨hm, rfl, fun hl => ?_⟩
    rcases Int.lt_or_le m L with h | h
    · exact absurd h1 (hl m h)
    · show m = L
      omega
  · exact absurd hgo (h L)
theorem clear_none {g : Grid} (hg : GVal g) {fr to : List Int} (h0 : endsG g fr to = 0) (h : ∀ x, ¬ canGo (okMost g x) (nearL g) fr to) : clearG g fr to = (0, [], [], 11) := by
  rcases clear_cases hg h0 with ⟨m, _, _, _, h1, _⟩ | ⟨e, _⟩
  · exact absurd h1 (h m)
  · exact e
theorem canGo_mono {ok ok' : Int → Bool} {nr : Int → List Int} {fr to : List Int} (h1 : ∀ i, ok i = true → ok' i = true) (h : canGo ok nr fr to) : canGo ok' nr fr to := by
  obtain ⟨t, ht, hr⟩ := h
  exact ⟨t, ht, Rch.mono h1 (fun _ h => h) hr⟩
end Go.Ch

/- The best route along the bottom. -/
namespace Go.Ch
open Go Go.Ax Go.Proofs Go.Proofs.Tryz
set_option maxRecDepth 100000
set_option pp.maxSteps 400
set_option maxHeartbeats 2000000

def nearQ (c : Chan) (g : Grid) (q i : Nat) : Bool := botI c g i && decide (span (axis c q).pt (centreG g i) ≤ w64 (2 * g.side))
def endsQ (c : Chan) (g : Grid) (q n : Nat) : List Int := (List.range n).filterMap fun i => bif nearQ c g q i then some (i : Int) else none
theorem endsQ_succ (c : Chan) (g : Grid) (q n : Nat) : endsQ c g q (n + 1) = bif nearQ c g q n then endsQ c g q n ++ [(n : Int)] else endsQ c g q n := by
  unfold endsQ
  rw [filterMap_range_succ]
  cases nearQ c g q n <;> simp
theorem endsQ_len (c : Chan) (g : Grid) (q n : Nat) : (endsQ c g q n).length ≤ n := by
  have := List.length_filterMap_le (fun k => bif nearQ c g q k then some (k : Int) else none) (List.range n)
  rw [List.length_range] at this
  exact this
theorem endsQ_mem {c : Chan} {g : Grid} {q n : Nat} {k : Int} (h : k ∈ endsQ c g q n) : 0 ≤ k ∧ k < n := by
  unfold endsQ at h
  simp only [List.mem_filterMap, List.mem_range] at h
  obtain ⟨j, hj, h⟩ := h
  cases h2 : nearQ c g q j with
  | false => rw [h2] at h; cases h
  | true => rw [h2] at h; simp at h; omega
def draughtG (c : Chan) (g : Grid) : RouteR :=
  bif withErr c [g] != 0 then (0, [], [], withErr c [g])
  else bif (endsQ c g 0 g.levels.length).isEmpty || (endsQ c g (c.axis.length - 1) g.levels.length).isEmpty then (0, [], [], 11)
  else clearG (floorG c g) (endsQ c g 0 g.levels.length) (endsQ c g (c.axis.length - 1) g.levels.length)
def drF (c : Chan) (g : Grid) (i : Nat) : Nat → Nat → DV := fun k _ => dI (if k < i ∧ botI c g k = true then g.levels.getD k 0 else 30000)
theorem floor_ok {c : Chan} {g : Grid} (hg : g.ok) : (floorG c g).ok := by
  obtain ⟨h1, h2, h3, h4, h5, h6, h7⟩ := hg
  refine ⟨h1, h2, h3, h4, h5, by simpa [floorG] using h6, ?_⟩
  intro a ha
  unfold floorG at ha
  simp only [List.mem_map, List.mem_range] at ha
  obtain ⟨k, hk, rfl⟩ := ha
  split
  · show (Lit.int .i64 30000).wf = true
    rfl
  · refine h7 _ ?_
    rw [getD_of hk]
    exact List.getElem_mem hk
abbrev drE (c : Chan) (g : Grid) (i : Nat) : List (Nat × AV) := [(2, .s (.ptr 2 0)), (3, .s (.ptr 3 0)), (4, .s (.ptr 4 0)), (7, .s (.ptr 7 0)), (8, .s (.mo (endsQ c g 0 i).isEmpty 100)), (9, .s (.mo (endsQ c g (c.axis.length - 1) i).isEmpty 101)), (10, .s (.ptr 10 0)), (11, .s (.ptr 11 0)), (39, vInts g.levels), (40, vI g.levels.length), (41, vI i)]
abbrev drB (c : Chan) (g : Grid) (i : Nat) : Boxes := [(2, some (chanB c)), (3, some (gridB g)), (4, some (.cells [.d (dI 0), nilS, nilS])), (7, some (.cells [.d (dI g.x), .d (dI g.y), .d (dI g.side), .d (dI g.cols), .d (dI g.rows), .own 601])),
  (10, some (.cells [.d (dI (axis c 0).pt.x), .d (dI (axis c 0).pt.y)])), (11, some (.cells [.d (dI (axis c (c.axis.length - 1)).pt.x), .d (dI (axis c (c.axis.length - 1)).pt.y)])), (100, some (.mrow 3 (endsQ c g 0 i).length 1 (intEl (endsQ c g 0 i)))), (101, some (.mrow 3 (endsQ c g (c.axis.length - 1) i).length 1 (intEl (endsQ c g (c.axis.length - 1) i)))), (601, some (.row 3 g.levels.length 1 (drF c g i)))]
attribute [local irreducible] errG errC small few in
theorem Draught (c : Chan) (g : Grid) (hc : c.ok) (hg : g.ok) (hk : errG g = 0 → g.levels.length ≤ 1000) : CallP Tryz.prog 8 [chan c, grid g] (rRoute (draughtG c g)) := by
  refine callP_of_aw Tryz.func8 rfl rfl Tryz.call8 tab_ok rfl rfl (fun cx href => ?_)
  refine AW.seq (ex.sound (rc := []) tab_ok mix href _ ?_)
  refine AW.seq (ex.sound (rc := []) tab_ok mix href _ ?_)
  refine callN (cboth c g hc hg) ?_
  refine And.intro (fun h1 => ?_) (fun h1 => ?_)
  · have h1 : (withErr c [g] != 0) = true := h1
    have e : draughtG c g = (0, [], [], withErr c [g]) := by unfold draughtG; rw [h1]; rfl
    rw [e]
    exact rRoute_nil rfl
  have h1 : (withErr c [g] != 0) = false := h1
  have h0 : withErr c [g] = 0 := by simpa using h1
  obtain ⟨e1, e2⟩ := withErr1_zero h0
  have hv := val_of c e1
  have gv := GVal.of e2
  have hn := gv.n
  have hax := hv.n2
  have hax2 := hv.n20
  have e : draughtG c g = bif (endsQ c g 0 g.levels.length).isEmpty || (endsQ c g (c.axis.length - 1) g.levels.length).isEmpty then (0, [], [], 11) else clearG (floorG c g) (endsQ c g 0 g.levels.length) (endsQ c g (c.axis.length - 1) g.levels.length) := by unfold draughtG; rw [h1]; rfl
  rw [e]
  clear e h1
  have hw : w64 ((c.axis.length : Int) - 1) = ((c.axis.length - 1 : Nat) : Int) := by rw [w64_of (by omega) (by omega)]; omega
  have ht : (w64 ((c.axis.length : Int) - 1)).toNat = c.axis.length - 1 := by rw [hw]; rfl
  refine AW.seq (ex.sound (rc := [26]) tab_ok mix href _ ?_)
  refine ⟨[(601, 601)], _, _, _, _, FrameO g gv, rfl, trivial, rfl, ?_⟩
  refine AW.seq (ex.sound (rc := []) tab_ok mix href _ ?_)
  refine AW.seq (ex.sound (rc := []) tab_ok mix href _ ?_)
  refine oi ⟨by omega, by omega⟩ ?_
  refine callN (place (axis c 0)) ?_
  refine oi ⟨by show 0 ≤ w64 ((c.axis.length : Int) - 1); omega, by show w64 ((c.axis.length : Int) - 1) < c.axis.length; omega⟩ ?_
  refine callN (place (axis c (w64 ((c.axis.length : Int) - 1)).toNat)) ?_
  refine And.intro (by kernel_rfl) ?_
  refine AW.cut (σ' := ⟨drE c g g.levels.length, drB c g g.levels.length⟩) (ex.sound (rc := []) tab_ok mix href _ ?_) ?_
  · refine AW.loopI (fun i : Nat => ⟨drE c g i, drB c g i⟩) (fun i => i ≤ g.levels.length) (fun i => g.levels.length - i) 0 (Nat.zero_le _) ?_ ?_
    · refine SubI.of0 href [(100, 1000), (101, 1001)] rfl ⟨⟨rfl, LeBx.rfl⟩, ⟨rfl, LeBx.rfl⟩, ⟨rfl, LeBx.rfl⟩, ⟨rfl, LeBx.rfl⟩, ⟨rfl, LeBx.rfl⟩, ⟨rfl, LeBx.cells ⟨LeQ.int (congrArg (fun k => (axis c k).pt.x) ht), LeQ.int (congrArg (fun k => (axis c k).pt.y) ht), trivial⟩⟩, ⟨rfl, rfl⟩, ⟨rfl, rfl⟩, ⟨rfl, LeBx.row rfl fun k j hk _ => LeD.of_eq ?_⟩, trivial⟩ ⟨⟨rfl, LeQ.rfl⟩, ⟨rfl, LeQ.rfl⟩, ⟨rfl, LeQ.rfl⟩, ⟨rfl, LeQ.rfl⟩, ⟨rfl, LeQ.nil rfl⟩, ⟨rfl, LeQ.nil rfl⟩, ⟨rfl, LeQ.rfl⟩, ⟨rfl, LeQ.rfl⟩, ⟨rfl, LeQ.rfl⟩, ⟨rfl, LeQ.rfl⟩, ⟨rfl, LeQ.rfl⟩, trivial⟩
      unfold fillF drF
      rw [if_pos hk, if_neg (by omega)]
    · intro i hi
      have hl0 := endsQ_len c g 0 i
      have hl1 := endsQ_len c g (c.axis.length - 1) i
      have hs0 := endsQ_succ c g 0 i
      have hs1 := endsQ_succ c g (c.axis.length - 1) i
      refine ex.sound (rc := []) tab_ok mix href _ ?_
      refine And.intro (fun h => ?_) (fun h => ?_)
      · have h : (i : Int) < g.levels.length := decT h
        have hi' : i < g.levels.length := by omega
        have hgd := (centre_good gv hi').1
        refine oi ⟨by omega, by omega⟩ ?_
        refine callN (ccentre g i e2 (by omega) h (by omega)) ?_
        refine callN (bottom c (centreG g i) hv hgd) ?_
        refine And.intro (fun h2 => ?_) (fun h2 => ?_)
        · have h2 : botI c g i = false := by
            have : (!botI c g i) = true := h2
            simpa using this
          have q0 : nearQ c g 0 i = false := by unfold nearQ; rw [h2]; rfl
          have q1 : nearQ c g (c.axis.length - 1) i = false := by unfold nearQ; rw [h2]; rfl
          rw [q0, cond_false] at hs0
          rw [q1, cond_false] at hs1
          refine ⟨i + 1, by omega, by omega, ?_⟩
          show SubI cx _ _ ⟨drE c g (i + 1), drB c g (i + 1)⟩
          unfold drE drB
          rw [hs0, hs1]
          refine SubI.of0 href [] rfl ⟨⟨rfl, LeBx.rfl⟩, ⟨rfl, LeBx.rfl⟩, ⟨rfl, LeBx.rfl⟩, ⟨rfl, LeBx.rfl⟩, ⟨rfl, LeBx.rfl⟩, ⟨rfl, LeBx.rfl⟩, ⟨rfl, LeBx.rfl⟩, ⟨rfl, LeBx.rfl⟩, ⟨rfl, LeBx.row rfl fun k j hk hj => LeD.of_eq ?_⟩, trivial⟩ ⟨⟨rfl, LeQ.rfl⟩, ⟨rfl, LeQ.rfl⟩, ⟨rfl, LeQ.rfl⟩, ⟨rfl, LeQ.rfl⟩, ⟨rfl, LeQ.rfl⟩, ⟨rfl, LeQ.rfl⟩, ⟨rfl, LeQ.rfl⟩, ⟨rfl, LeQ.rfl⟩, ⟨rfl, LeQ.rfl⟩, ⟨rfl, LeQ.rfl⟩, ⟨rfl, LeQ.int (w64_of (by omega) (by omega))⟩, trivial⟩
          unfold drF
          congr 1
          by_cases hki : k = i
          · subst hki; simp [h2]
          · have : k < i + 1 ↔ k < i := by omega
            simp [this]
        have h2 : botI c g i = true := by
          have : (!botI c g i) = false := h2
          simpa using this
        refine oi ⟨by omega, by omega⟩ ?_
        refine ob hi' ?_
        have hrow : ∀ k j, j < 1 → rowSet (drF c g i) i 0 [.d (dI (g.levels.getD i 0))] k j = drF c g (i + 1) k j := by
          intro k j hj
          obtain rfl : j = 0 := by omega
          by_cases hki : k = i
          · subst hki
            refine rowSet_self.trans ?_
            unfold drF
            rw [if_pos ⟨Nat.lt_succ_self _, h2⟩]
          · refine (rowSet_ne hki).trans ?_
            unfold drF
            have : k < i + 1 ↔ k < i := by omega
            simp [this]
        refine callN (gSpan (axis c 0).pt (centreG g i) (hv.pts 0 (by omega)) hgd) ?_
        refine And.intro (by kernel_rfl) ?_
        refine And.intro (fun h3 => ?_) (fun h3 => ?_)
        · have h3 : decide (span (axis c 0).pt (centreG g i) ≤ w64 (2 * g.side)) = true := h3
          have q0 : nearQ c g 0 i = true := by unfold nearQ; rw [h2, h3]; rfl
          rw [q0, cond_true] at hs0
          refine ob (by decide) ?_
          refine ob (by rw [bif_len]; show _ * 8 ≤ _; omega) ?_
          refine ob (fit1 (lt1 rfl)) ?_
          refine callN (gSpan (axis c (c.axis.length - 1)).pt (centreG g i) (hv.pts _ (by omega)) hgd) ?_
          refine And.intro (by kernel_rfl) ?_
          refine And.intro (fun h4 => ?_) (fun h4 => ?_)
          · have h4 : decide (span (axis c (c.axis.length - 1)).pt (centreG g i) ≤ w64 (2 * g.side)) = true := h4
            have q1 : nearQ c g (c.axis.length - 1) i = true := by unfold nearQ; rw [h2, h4]; rfl
            rw [q1, cond_true] at hs1
            refine ob (by decide) ?_
            refine ob (by rw [bif_len]; show _ * 8 ≤ _; omega) ?_
            refine ob (fit1 (lt1 rfl)) ?_
            refine ⟨i + 1, by omega, by omega, ?_⟩
            show SubI cx _ _ ⟨drE c g (i + 1), drB c g (i + 1)⟩
            unfold drE drB
            rw [hs0, hs1]
            exact SubI.of0 href [(100, 68), (101, 79)] rfl ⟨⟨rfl, LeBx.rfl⟩, ⟨rfl, LeBx.rfl⟩, ⟨rfl, LeBx.rfl⟩, ⟨rfl, LeBx.rfl⟩, ⟨rfl, LeBx.rfl⟩, ⟨rfl, LeBx.rfl⟩, ⟨rfl, nearRow intRow rfl⟩, ⟨rfl, nearRow intRow rfl⟩, ⟨rfl, LeBx.row rfl fun k j _ hj => LeD.of_eq (hrow k j hj)⟩, trivial⟩ ⟨⟨rfl, LeQ.rfl⟩, ⟨rfl, LeQ.rfl⟩, ⟨rfl, LeQ.rfl⟩, ⟨rfl, LeQ.rfl⟩, ⟨rfl, LeQ.mo (isEmpty_snoc _ _)⟩, ⟨rfl, LeQ.mo (isEmpty_snoc _ _)⟩, ⟨rfl, LeQ.rfl⟩, ⟨rfl, LeQ.rfl⟩, ⟨rfl, LeQ.rfl⟩, ⟨rfl, LeQ.rfl⟩, ⟨rfl, LeQ.int (w64_of (by omega) (by omega))⟩, trivial⟩
          · have h4 : decide (span (axis c (c.axis.length - 1)).pt (centreG g i) ≤ w64 (2 * g.side)) = false := h4
            have q1 : nearQ c g (c.axis.length - 1) i = false := by unfold nearQ; rw [h2, h4]; rfl
            rw [q1, cond_false] at hs1
            refine ⟨i + 1, by omega, by omega, ?_⟩
            show SubI cx _ _ ⟨drE c g (i + 1), drB c g (i + 1)⟩
            unfold drE drB
            rw [hs0, hs1]
            exact SubI.of0 href [(100, 68)] rfl ⟨⟨rfl, LeBx.rfl⟩, ⟨rfl, LeBx.rfl⟩, ⟨rfl, LeBx.rfl⟩, ⟨rfl, LeBx.rfl⟩, ⟨rfl, LeBx.rfl⟩, ⟨rfl, LeBx.rfl⟩, ⟨rfl, nearRow intRow rfl⟩, ⟨rfl, LeBx.rfl⟩, ⟨rfl, LeBx.row rfl fun k j _ hj => LeD.of_eq (hrow k j hj)⟩, trivial⟩ ⟨⟨rfl, LeQ.rfl⟩, ⟨rfl, LeQ.rfl⟩, ⟨rfl, LeQ.rfl⟩, ⟨rfl, LeQ.rfl⟩, ⟨rfl, LeQ.mo (isEmpty_snoc _ _)⟩, ⟨rfl, LeQ.rfl⟩, ⟨rfl, LeQ.rfl⟩, ⟨rfl, LeQ.rfl⟩, ⟨rfl, LeQ.rfl⟩, ⟨rfl, LeQ.rfl⟩, ⟨rfl, LeQ.int (w64_of (by omega) (by omega))⟩, trivial⟩
        · have h3 : decide (span (axis c 0).pt (centreG g i) ≤ w64 (2 * g.side)) = false := h3
          have q0 : nearQ c g 0 i = false := by unfold nearQ; rw [h2, h3]; rfl
          rw [q0, cond_false] at hs0
          refine callN (gSpan (axis c (c.axis.length - 1)).pt (centreG g i) (hv.pts _ (by omega)) hgd) ?_
          refine And.intro (by kernel_rfl) ?_
          refine And.intro (fun h4 => ?_) (fun h4 => ?_)
          · have h4 : decide (span (axis c (c.axis.length - 1)).pt (centreG g i) ≤ w64 (2 * g.side)) = true := h4
            have q1 : nearQ c g (c.axis.length - 1) i = true := by unfold nearQ; rw [h2, h4]; rfl
            rw [q1, cond_true] at hs1
            refine ob (by decide) ?_
            refine ob (by rw [bif_len]; show _ * 8 ≤ _; omega) ?_
            refine ob (fit1 (lt1 rfl)) ?_
            refine ⟨i + 1, by omega, by omega, ?_⟩
            show SubI cx _ _ ⟨drE c g (i + 1), drB c g (i + 1)⟩
            unfold drE drB
            rw [hs0, hs1]
            exact SubI.of0 href [(101, 79)] rfl ⟨⟨rfl, LeBx.rfl⟩, ⟨rfl, LeBx.rfl⟩, ⟨rfl, LeBx.rfl⟩, ⟨rfl, LeBx.rfl⟩, ⟨rfl, LeBx.rfl⟩, ⟨rfl, LeBx.rfl⟩, ⟨rfl, LeBx.rfl⟩, ⟨rfl, nearRow intRow rfl⟩, ⟨rfl, LeBx.row rfl fun k j _ hj => LeD.of_eq (hrow k j hj)⟩, trivial⟩ ⟨⟨rfl, LeQ.rfl⟩, ⟨rfl, LeQ.rfl⟩, ⟨rfl, LeQ.rfl⟩, ⟨rfl, LeQ.rfl⟩, ⟨rfl, LeQ.rfl⟩, ⟨rfl, LeQ.mo (isEmpty_snoc _ _)⟩, ⟨rfl, LeQ.rfl⟩, ⟨rfl, LeQ.rfl⟩, ⟨rfl, LeQ.rfl⟩, ⟨rfl, LeQ.rfl⟩, ⟨rfl, LeQ.int (w64_of (by omega) (by omega))⟩, trivial⟩
          · have h4 : decide (span (axis c (c.axis.length - 1)).pt (centreG g i) ≤ w64 (2 * g.side)) = false := h4
            have q1 : nearQ c g (c.axis.length - 1) i = false := by unfold nearQ; rw [h2, h4]; rfl
            rw [q1, cond_false] at hs1
            refine ⟨i + 1, by omega, by omega, ?_⟩
            show SubI cx _ _ ⟨drE c g (i + 1), drB c g (i + 1)⟩
            unfold drE drB
            rw [hs0, hs1]
            exact SubI.of0 href [] rfl ⟨⟨rfl, LeBx.rfl⟩, ⟨rfl, LeBx.rfl⟩, ⟨rfl, LeBx.rfl⟩, ⟨rfl, LeBx.rfl⟩, ⟨rfl, LeBx.rfl⟩, ⟨rfl, LeBx.rfl⟩, ⟨rfl, LeBx.rfl⟩, ⟨rfl, LeBx.rfl⟩, ⟨rfl, LeBx.row rfl fun k j _ hj => LeD.of_eq (hrow k j hj)⟩, trivial⟩ ⟨⟨rfl, LeQ.rfl⟩, ⟨rfl, LeQ.rfl⟩, ⟨rfl, LeQ.rfl⟩, ⟨rfl, LeQ.rfl⟩, ⟨rfl, LeQ.rfl⟩, ⟨rfl, LeQ.rfl⟩, ⟨rfl, LeQ.rfl⟩, ⟨rfl, LeQ.rfl⟩, ⟨rfl, LeQ.rfl⟩, ⟨rfl, LeQ.rfl⟩, ⟨rfl, LeQ.int (w64_of (by omega) (by omega))⟩, trivial⟩
      · have h : ¬ (i : Int) < g.levels.length := decF h
        obtain rfl : i = g.levels.length := by omega
        exact ⟨rfl, SubI.of0 href [] rfl ⟨⟨rfl, LeBx.rfl⟩, ⟨rfl, LeBx.rfl⟩, ⟨rfl, LeBx.rfl⟩, ⟨rfl, LeBx.rfl⟩, ⟨rfl, LeBx.rfl⟩, ⟨rfl, LeBx.rfl⟩, ⟨rfl, LeBx.rfl⟩, ⟨rfl, LeBx.rfl⟩, ⟨rfl, LeBx.rfl⟩, trivial⟩ ⟨⟨rfl, LeQ.rfl⟩, ⟨rfl, LeQ.rfl⟩, ⟨rfl, LeQ.rfl⟩, ⟨rfl, LeQ.rfl⟩, ⟨rfl, LeQ.rfl⟩, ⟨rfl, LeQ.rfl⟩, ⟨rfl, LeQ.rfl⟩, ⟨rfl, LeQ.rfl⟩, ⟨rfl, LeQ.rfl⟩, ⟨rfl, LeQ.rfl⟩, ⟨rfl, LeQ.rfl⟩, trivial⟩⟩
  have hl0 := endsQ_len c g 0 g.levels.length
  have hl1 := endsQ_len c g (c.axis.length - 1) g.levels.length
  refine AW.seq (ex.sound (rc := []) tab_ok mix href _ ?_)
  repeat first | refine sk ?_ | refine st ?_ | refine sg ?_ | refine sh ?_ | refine su ?_ | refine sn1 ?_ | refine sn0 ?_
  unfold drE drB
  have hfl : ∀ k j, k < g.levels.length → j < 1 → drF c g g.levels.length k j = intEl (floorG c g).levels k j := by
    intro k j hk hj
    unfold drF intEl
    congr 1
    simp only [floorG, List.getD_eq_getElem?_getD, List.getElem?_map, List.getElem?_range hk, Option.map_some, Option.getD_some]
    cases botI c g k <;> simp [hk]
  generalize endsQ c g 0 g.levels.length = fr at hl0 ⊢
  generalize endsQ c g (c.axis.length - 1) g.levels.length = to at hl1 ⊢
  refine And.intro (fun h => ?_) (fun h => ?_)
  · have h : (((bif fr.isEmpty then 0 else fr.length : Nat) : Int) == 0 || ((bif to.isEmpty then 0 else to.length : Nat) : Int) == 0) = true := h
    rw [bif_len, bif_len, len0, len0] at h
    rw [h, cond_true]
    exact rRoute_nil rfl
  have h : (((bif fr.isEmpty then 0 else fr.length : Nat) : Int) == 0 || ((bif to.isEmpty then 0 else to.length : Nat) : Int) == 0) = false := h
  rw [bif_len, bif_len, len0, len0] at h
  rw [h, cond_false]
  rw [Bool.or_eq_false_iff] at h
  refine AW.subI (SubI.own (e := 3) (n := fr.length) (s := 1) (f := intEl fr) (z := fr.isEmpty) 8 100 rfl h.1 rfl) ?_
  refine AW.subI (SubI.own (e := 3) (n := to.length) (s := 1) (f := intEl to) (z := to.isEmpty) 9 101 rfl h.2 rfl) ?_
  refine AW.subM (σ' := ⟨[(4, .s (.ptr 4 0)), (7, .s (.ptr 7 0)), (8, vInts fr), (9, vInts to)], [(4, some (.cells [.d (dI 0), nilS, nilS])), (7, some (gridB (floorG c g)))]⟩)
    (SubM.of href [] [100, 101, 601] rfl rfl rfl ⟨⟨rfl, LeBxf.rfl⟩, ⟨rfl, LeBxf.cells ⟨LeQf.rfl, LeQf.rfl, LeQf.rfl, LeQf.rfl, LeQf.rfl, (LeQf.own (by simp) rfl).then (LeQ.d (LeD.slc' (by simp [floorG]) fun k j hk hj => LeD.of_eq (hfl k j hk hj))), trivial⟩⟩, trivial⟩
      ⟨⟨rfl, LeQf.rfl⟩, ⟨rfl, LeQf.rfl⟩, ⟨rfl, LeQf.own (by simp) rfl⟩, ⟨rfl, LeQf.own (by simp) rfl⟩, trivial⟩) ?_
  refine ex.sound (rc := []) tab_ok mix href _ ?_
  have hk := hk e2
  refine callN (gClear (floorG c g) fr to (floor_ok hg) (by omega) (by omega)) ?_
  exact SubR.refl _

theorem filterMap_filter (p q : Nat → Bool) (n : Nat) : ((List.range n).filterMap fun i => bif p i then some (i : Int) else none).filter (fun k => q k.toNat) = (List.range n).filterMap fun i => bif p i && q i then some (i : Int) else none := by
  induction n with
  | zero => rfl
  | succ n ih =>
    rw [filterMap_range_succ, filterMap_range_succ, List.filter_append, ih]
    congr 1
    cases hp : p n <;> cases hq : q n <;> simp [hq]
def spanQ (c : Chan) (g : Grid) (q : Nat) (k : Int) : Bool := decide (span (axis c q).pt (centreG g k) ≤ w64 (2 * g.side))
theorem endsQ_bots (c : Chan) (g : Grid) (q n : Nat) : endsQ c g q n = (botsL c g n).filter fun k => spanQ c g q (k.toNat : Nat) := by
  unfold endsQ botsL
  rw [filterMap_filter (botI c g) (fun i => spanQ c g q (i : Nat))]
  rfl
def spanL (c : Chan) (g : Grid) (q : Nat) (l : List Int) (i : Nat) : List Int := (l.take i).filter (spanQ c g q)
theorem spanL_succ (c : Chan) (g : Grid) (q : Nat) {l : List Int} {i : Nat} (h : i < l.length) : spanL c g q l (i + 1) = bif spanQ c g q (l.getD i 0) then spanL c g q l i ++ [l.getD i 0] else spanL c g q l i := by
  unfold spanL
  rw [List.take_add_one, List.getElem?_eq_getElem h, List.filter_append]
  have e : l.getD i 0 = l[i] := by simp [List.getD_eq_getElem?_getD, h]
  rw [e]
  cases hq : spanQ c g q l[i] <;> simp [hq]
theorem spanL_len {c : Chan} {g : Grid} {q : Nat} {l : List Int} {i : Nat} : (spanL c g q l i).length ≤ l.length := by
  unfold spanL
  exact Nat.le_trans (List.length_filter_le _ _) (by rw [List.length_take]; omega)
abbrev enE (c : Chan) (g : Grid) (l : List Int) (i : Nat) : List (Nat × AV) := [(2, .s (.ptr 2 0)), (3, .s (.ptr 3 0)), (7, vInts l), (8, .s (.mo (spanL c g 0 l i).isEmpty 100)), (9, .s (.mo (spanL c g (c.axis.length - 1) l i).isEmpty 101)), (10, vI i)]
abbrev enB (c : Chan) (g : Grid) (l : List Int) (i : Nat) : Boxes := [(2, some (chanB c)), (3, some (gridB g)), (100, some (.mrow 3 (spanL c g 0 l i).length 1 (intEl (spanL c g 0 l i)))), (101, some (.mrow 3 (spanL c g (c.axis.length - 1) l i).length 1 (intEl (spanL c g (c.axis.length - 1) l i))))]
theorem rEnds (c : Chan) (g : Grid) (hv : Val c) (hg : GVal g) : CallP Tryz.prog 12 [chan c, grid g] (.t [.s (.d (dInts (endsQ c g 0 g.levels.length))), .s (.d (dInts (endsQ c g (c.axis.length - 1) g.levels.length)))]) := by
  have hn := hg.n
  have hax := hv.n2
  have hax2 := hv.n20
  have hcol := hg.cols
  have hw : w64 ((c.axis.length : Int) - 1) = ((c.axis.length - 1 : Nat) : Int) := by rw [w64_of (by omega) (by omega)]; omega
  have ht : (w64 ((c.axis.length : Int) - 1)).toNat = c.axis.length - 1 := by rw [hw]; rfl
  have hmem : ∀ i, i < (botsL c g g.levels.length).length → 0 ≤ (botsL c g g.levels.length).getD i 0 ∧ (botsL c g g.levels.length).getD i 0 < g.levels.length := by
    intro i hi
    have e : (botsL c g g.levels.length).getD i 0 = (botsL c g g.levels.length)[i] := by simp [List.getD_eq_getElem?_getD, hi]
    rw [e]
    exact botsL_mem (List.getElem_mem hi)
  have hfl : ∀ q, endsQ c g q g.levels.length = spanL c g q (botsL c g g.levels.length) (botsL c g g.levels.length).length := by
    intro q
    rw [endsQ_bots, spanL, List.take_length]
    refine List.filter_congr fun k hk => ?_
    have := botsL_mem hk
    rw [show ((k.toNat : Nat) : Int) = k by omega]
  rw [hfl, hfl]
  have hlen := botsL_len c g g.levels.length
  refine callP_of_ex (rc := []) (N := 70) Tryz.func12 rfl rfl Tryz.call12 tab_ok mix rfl rfl (fun cx href => ?_)
  refine callN (rFloor c g hv hg) ?_
  generalize botsL c g g.levels.length = l at *
  refine AW.loopI (fun i : Nat => ⟨enE c g l i, enB c g l i⟩) (fun i => i ≤ l.length) (fun i => l.length - i) 0 (Nat.zero_le _) ?_ ?_
  · exact SubI.of0 href [(100, 1000), (101, 1001)] rfl ⟨⟨rfl, LeBx.rfl⟩, ⟨rfl, LeBx.rfl⟩, ⟨rfl, rfl⟩, ⟨rfl, rfl⟩, trivial⟩ ⟨⟨rfl, LeQ.rfl⟩, ⟨rfl, LeQ.rfl⟩, ⟨rfl, LeQ.rfl⟩, ⟨rfl, LeQ.nil rfl⟩, ⟨rfl, LeQ.nil rfl⟩, ⟨rfl, LeQ.rfl⟩, trivial⟩
  · intro i hi
    have hl0 := spanL_len (c := c) (g := g) (q := 0) (l := l) (i := i)
    have hl1 := spanL_len (c := c) (g := g) (q := c.axis.length - 1) (l := l) (i := i)
    refine ex.sound (rc := []) tab_ok mix href _ ?_
    refine And.intro (fun h => ?_) (fun h => ?_)
    · have h : (i : Int) < l.length := decT h
      have hi' : i < l.length := by omega
      have hs0 := spanL_succ c g 0 hi'
      have hs1 := spanL_succ c g (c.axis.length - 1) hi'
      have hm := hmem i hi'
      have hcen : centreG g (l.getD i 0) = centreG g ((l.getD i 0).toNat : Nat) := by rw [show (((l.getD i 0).toNat : Nat) : Int) = l.getD i 0 by omega]
      have hgd : good (centreG g (l.getD i 0)) = true := by rw [hcen]; exact (centre_good hg (by omega)).1
      refine oi ⟨by omega, by omega⟩ ?_
      refine callN (Centre g (l.getD i 0) (by omega)) ?_
      refine And.intro (by kernel_rfl) ?_
      refine oi ⟨by omega, by omega⟩ ?_
      refine callN (Place (axis c 0)) ?_
      refine callN (rSpan (axis c 0).pt (centreG g (l.getD i 0)) (hv.pts 0 (by omega)) hgd) ?_
      refine And.intro (by kernel_rfl) ?_
      refine And.intro (fun h3 => ?_) (fun h3 => ?_)
      · have h3 : spanQ c g 0 (l.getD i 0) = true := h3
        rw [h3, cond_true] at hs0
        refine oi ⟨by omega, by omega⟩ ?_
        refine ob (by decide) ?_
        refine ob (by rw [bif_len]; show _ * 8 ≤ _; omega) ?_
        refine ob (fit1 (lt1 rfl)) ?_
        refine callN (Legs c) ?_
        refine oi ⟨by show 0 ≤ w64 ((c.axis.length : Int) - 1); omega, by show w64 ((c.axis.length : Int) - 1) < c.axis.length; omega⟩ ?_
        refine callN (Place (axis c (w64 ((c.axis.length : Int) - 1)).toNat)) ?_
        rw [ht]
        refine callN (rSpan (axis c (c.axis.length - 1)).pt (centreG g (l.getD i 0)) (hv.pts _ (by omega)) hgd) ?_
        refine And.intro (by kernel_rfl) ?_
        refine And.intro (fun h4 => ?_) (fun h4 => ?_)
        · have h4 : spanQ c g (c.axis.length - 1) (l.getD i 0) = true := h4
          rw [h4, cond_true] at hs1
          refine oi ⟨by omega, by omega⟩ ?_
          refine ob (by decide) ?_
          refine ob (by rw [bif_len]; show _ * 8 ≤ _; omega) ?_
          refine ob (fit1 (lt1 rfl)) ?_
          refine ⟨i + 1, by omega, by omega, ?_⟩
          show SubI cx _ _ ⟨enE c g l (i + 1), enB c g l (i + 1)⟩
          unfold enE enB
          rw [hs0, hs1]
          exact SubI.of0 href [(100, 47), (101, 67)] rfl ⟨⟨rfl, LeBx.rfl⟩, ⟨rfl, LeBx.rfl⟩, ⟨rfl, nearRow intRow rfl⟩, ⟨rfl, nearRow intRow rfl⟩, trivial⟩ ⟨⟨rfl, LeQ.rfl⟩, ⟨rfl, LeQ.rfl⟩, ⟨rfl, LeQ.rfl⟩, ⟨rfl, LeQ.mo (isEmpty_snoc _ _)⟩, ⟨rfl, LeQ.mo (isEmpty_snoc _ _)⟩, ⟨rfl, LeQ.int (w64_of (by omega) (by omega))⟩, trivial⟩
        · have h4 : spanQ c g (c.axis.length - 1) (l.getD i 0) = false := h4
          rw [h4, cond_false] at hs1
          refine ⟨i + 1, by omega, by omega, ?_⟩
          show SubI cx _ _ ⟨enE c g l (i + 1), enB c g l (i + 1)⟩
          unfold enE enB
          rw [hs0, hs1]
          exact SubI.of0 href [(100, 47)] rfl ⟨⟨rfl, LeBx.rfl⟩, ⟨rfl, LeBx.rfl⟩, ⟨rfl, nearRow intRow rfl⟩, ⟨rfl, LeBx.rfl⟩, trivial⟩ ⟨⟨rfl, LeQ.rfl⟩, ⟨rfl, LeQ.rfl⟩, ⟨rfl, LeQ.rfl⟩, ⟨rfl, LeQ.mo (isEmpty_snoc _ _)⟩, ⟨rfl, LeQ.rfl⟩, ⟨rfl, LeQ.int (w64_of (by omega) (by omega))⟩, trivial⟩
      · have h3 : spanQ c g 0 (l.getD i 0) = false := h3
        rw [h3, cond_false] at hs0
        refine callN (Legs c) ?_
        refine oi ⟨by show 0 ≤ w64 ((c.axis.length : Int) - 1); omega, by show w64 ((c.axis.length : Int) - 1) < c.axis.length; omega⟩ ?_
        refine callN (Place (axis c (w64 ((c.axis.length : Int) - 1)).toNat)) ?_
        rw [ht]
        refine callN (rSpan (axis c (c.axis.length - 1)).pt (centreG g (l.getD i 0)) (hv.pts _ (by omega)) hgd) ?_
        refine And.intro (by kernel_rfl) ?_
        refine And.intro (fun h4 => ?_) (fun h4 => ?_)
        · have h4 : spanQ c g (c.axis.length - 1) (l.getD i 0) = true := h4
          rw [h4, cond_true] at hs1
          refine oi ⟨by omega, by omega⟩ ?_
          refine ob (by decide) ?_
          refine ob (by rw [bif_len]; show _ * 8 ≤ _; omega) ?_
          refine ob (fit1 (lt1 rfl)) ?_
          refine ⟨i + 1, by omega, by omega, ?_⟩
          show SubI cx _ _ ⟨enE c g l (i + 1), enB c g l (i + 1)⟩
          unfold enE enB
          rw [hs0, hs1]
          exact SubI.of0 href [(101, 67)] rfl ⟨⟨rfl, LeBx.rfl⟩, ⟨rfl, LeBx.rfl⟩, ⟨rfl, LeBx.rfl⟩, ⟨rfl, nearRow intRow rfl⟩, trivial⟩ ⟨⟨rfl, LeQ.rfl⟩, ⟨rfl, LeQ.rfl⟩, ⟨rfl, LeQ.rfl⟩, ⟨rfl, LeQ.rfl⟩, ⟨rfl, LeQ.mo (isEmpty_snoc _ _)⟩, ⟨rfl, LeQ.int (w64_of (by omega) (by omega))⟩, trivial⟩
        · have h4 : spanQ c g (c.axis.length - 1) (l.getD i 0) = false := h4
          rw [h4, cond_false] at hs1
          refine ⟨i + 1, by omega, by omega, ?_⟩
          show SubI cx _ _ ⟨enE c g l (i + 1), enB c g l (i + 1)⟩
          unfold enE enB
          rw [hs0, hs1]
          exact SubI.of0 href [] rfl ⟨⟨rfl, LeBx.rfl⟩, ⟨rfl, LeBx.rfl⟩, ⟨rfl, LeBx.rfl⟩, ⟨rfl, LeBx.rfl⟩, trivial⟩ ⟨⟨rfl, LeQ.rfl⟩, ⟨rfl, LeQ.rfl⟩, ⟨rfl, LeQ.rfl⟩, ⟨rfl, LeQ.rfl⟩, ⟨rfl, LeQ.rfl⟩, ⟨rfl, LeQ.int (w64_of (by omega) (by omega))⟩, trivial⟩
    · have h : ¬ (i : Int) < l.length := decF h
      obtain rfl : i = l.length := by omega
      exact SubR.t ⟨LeD.slc' (bif_len _) fun _ _ _ _ => LeD.refl _, LeD.slc' (bif_len _) fun _ _ _ _ => LeD.refl _, trivial⟩
end Go.Ch

/- ChannelDraughts. -/
namespace Go.Ch
open Go Go.Ax Go.Proofs Go.Proofs.Tryz
set_option maxRecDepth 100000
set_option pp.maxSteps 400
set_option maxHeartbeats 2000000

/-- A grid with other levels. -/
theorem errG_lev {g h : Grid} (e : errG g = 0) (hx : h.x = g.x) (hy : h.y = g.y) (hs : h.side = g.side) (hc : h.cols = g.cols) (hr : h.rows = g.rows) (hl : h.levels.length = g.levels.length) (ha : ∀ a ∈ h.levels, badL a = false) : errG h = 0 := by
  obtain ⟨x, y, s, c, r, l⟩ := h
  simp only at hx hy hs hc hr hl ha
  subst hx hy hs hc hr
  unfold errG at e ⊢
  have hb : l.any badL = false := by
    rw [List.any_eq_false]
    intro a hm
    rw [ha a hm]; simp
  simp only [e1, hl, hb] at e ⊢
  generalize (!(within g.x (-1000000) 1000000) || !(within g.y (-1000000) 1000000) || !(within g.side 100 10000) || !(within g.cols 1 1024) || !(within g.rows 1 1024)) = b1 at e ⊢
  generalize decide (w64 (g.cols * g.rows) > 1024) = b2 at e ⊢
  generalize (decide (w64 (g.x + w64 (g.cols * g.side)) > 1000000) || decide (w64 (g.y + w64 (g.rows * g.side)) > 1000000)) = b3 at e ⊢
  generalize ((g.levels.length : Int) != w64 (g.cols * g.rows)) = b4 at e ⊢
  cases b1 <;> cases b2 <;> cases b3 <;> cases b4 <;> simp_all
theorem bad_of {g : Grid} (e : errG g = 0) : ∀ a ∈ g.levels, badL a = false := by
  intro a ha
  have := (GVal.of e).lev a ha
  unfold badL within
  rcases this with h | h
  · rw [h]; rfl
  · simp; omega
theorem floor_lv {c : Chan} {g : Grid} {k : Nat} (hk : k < g.levels.length) : (floorG c g).levels.getD k 0 = if botI c g k = false then 30000 else g.levels.getD k 0 := by
  simp only [floorG, List.getD_eq_getElem?_getD, List.getElem?_map, List.getElem?_range hk, Option.map_some, Option.getD_some]
theorem floor_len {c : Chan} {g : Grid} : (floorG c g).levels.length = g.levels.length := by simp [floorG]
theorem err_floor {c : Chan} {g : Grid} (e : errG g = 0) : errG (floorG c g) = 0 := by
  refine errG_lev e rfl rfl rfl rfl rfl floor_len ?_
  intro a ha
  unfold floorG at ha
  simp only [List.mem_map, List.mem_range] at ha
  obtain ⟨k, hk, rfl⟩ := ha
  split
  · rfl
  · refine bad_of e _ ?_
    rw [getD_of hk]
    exact List.getElem_mem hk
theorem ends_floor {c : Chan} {g : Grid} (e : errG g = 0) {p q : Nat} (h : ((endsQ c g p g.levels.length).isEmpty || (endsQ c g q g.levels.length).isEmpty) = false) : endsG (floorG c g) (endsQ c g p g.levels.length) (endsQ c g q g.levels.length) = 0 := by
  unfold endsG
  rw [err_floor e, h]
  have : ((endsQ c g p g.levels.length) ++ (endsQ c g q g.levels.length)).all (there (floorG c g)) = true := by
    rw [List.all_eq_true]
    intro x hx
    rw [there_iff, floor_len]
    rcases List.mem_append.1 hx with h | h
    · exact endsQ_mem h
    · exact endsQ_mem h
  unfold endsErr
  rw [this]; rfl
theorem contF_max (c : Chan) (g : Grid) : ∀ (i k : Nat), k < i → botI c g k = true → 0 ≤ (contF c g i).1 ∧ lv g k ≤ lv g (contF c g i).1
  | 0, k, h, _ => absurd h (Nat.not_lt_zero k)
  | i + 1, k, h, hb => by
    rw [contF]
    by_cases hk : k = i
    · subst hk
      rw [hb, Bool.not_true, cond_false]
      unfold stepC
      cases hs : decide ((contF c g k).1 < 0) || decide (lv g k > lv g (contF c g k).1) with
      | true => exact ⟨by simp, by simp⟩
      | false =>
        simp only [Bool.or_eq_false_iff, decide_eq_false_iff_not] at hs
        exact ⟨by simp only [cond_false]; omega, by simp only [cond_false]; omega⟩
    · obtain ⟨h1, h2⟩ := contF_max c g i k (by omega) hb
      cases hi : botI c g i with
      | false => rw [Bool.not_false, cond_true]; exact ⟨h1, h2⟩
      | true =>
        rw [Bool.not_true, cond_false]
        unfold stepC
        cases hs : decide ((contF c g i).1 < 0) || decide (lv g i > lv g (contF c g i).1) with
        | true =>
          simp only [Bool.or_eq_true, decide_eq_true_eq] at hs
          exact ⟨by simp, by simp only [cond_true]; omega⟩
        | false => exact ⟨h1, h2⟩
theorem lsF_congr (g : Grid) {q r : WayV} (h1 : q.fr = r.fr) (h2 : q.to = r.to) : ∀ n, lsF g q n = lsF g r n
  | 0 => rfl
  | n + 1 => by rw [lsF, lsF, lsF_congr g h1 h2 n]; unfold lsS lsReach; rw [h1, h2]
/-- The passage is not higher than the controlling cell. -/
theorem ctl_top {c : Chan} {g : Grid} (h0 : withErr c [g] = 0) {m : Int} (hm : m ∈ levelsL (floorG c g).levels) :
    (ctlR c g).2 = 12 ∨ ((ctlR c g).2 = 0 ∧ (0 ≤ (ctlR c g).1 ∧ (ctlR c g).1 < g.levels.length) ∧ m ≤ lv g (ctlR c g).1) := by
  obtain ⟨j, hj, hk, hl⟩ := level_cell hm
  rw [floor_len] at hj
  have hfl : levelAt (floorG c g) j = if botI c g j = false then 30000 else g.levels.getD j 0 := floor_lv hj
  have hb : botI c g j = true := by
    cases h : botI c g j with
    | true => rfl
    | false =>
      rw [h] at hfl
      unfold knownG at hk
      rw [hfl] at hk
      simp at hk
  rw [hb] at hfl
  have hlv : lv g j = m := by rw [← hl, hfl]; rfl
  obtain ⟨h1, h2⟩ := contF_max c g g.levels.length j hj hb
  have h3 := contF_in c g g.levels.length
  unfold ctlR
  rw [h0]
  cases hu : (contF c g g.levels.length).2 with
  | true =>
    left
    rw [decide_eq_false (by omega)]; rfl
  | false =>
    right
    rw [decide_eq_false (by omega)]
    exact ⟨rfl, ⟨h1, h3.2⟩, by rw [← hlv]; exact h2⟩
theorem few_n {g : Grid} (hf : few g = true) (e : errG g = 0) : g.levels.length ≤ 1000 := by
  have := few_len hf
  unfold few at hf
  rw [e] at hf
  simp at hf
  omega
attribute [local irreducible] withErr few small contF botsL endsQ lsF levelsL errG in
theorem Draughts (c : Chan) (g : Grid) (hc : c.ok) (hg : g.ok) : CallP Tryz.prog 3 [chan c, grid g] (vB true) := by
  refine callP_of_ex (rc := []) (N := 149) Tryz.func3 rfl rfl Tryz.call3 tab_ok mix rfl rfl (fun cx href => ?_)
  refine callN awake ?_
  refine And.intro (fun h => by cases h) (fun _ => ?_)
  refine callN (Small c hc) ?_
  repeat first | refine sk ?_ | refine st ?_ | refine sg ?_ | refine sh ?_ | refine su ?_ | refine sn1 ?_ | refine sn0 ?_
  refine callG (Few g hg.levels) ?_
  repeat first | refine sk ?_ | refine st ?_ | refine sg ?_ | refine sh ?_ | refine su ?_ | refine sn1 ?_ | refine sn0 ?_
  refine And.intro (fun _ => SubR.lit rfl) (fun h1 => ?_)
  have h1 : (!small c || !few g) = false := h1
  rw [Bool.or_eq_false_iff] at h1
  have hs : small c = true := by simpa using h1.1
  have hf : few g = true := by simpa using h1.2
  refine callN (Copied c (Sm.of hs)) ?_
  refine callN (Draught c g hc hg (few_n hf)) ?_
  refine And.intro (by kernel_rfl) ?_
  refine callN ((rWith c [g] hc (by intro x hx; simp at hx; subst hx; exact hg) (by simp)).conv (args' := _) ⟨⟨LeD.refl _, LeD.refl _, LeD.refl _, LeD.refl _, LeD.refl _, trivial⟩, LeD.slc' rfl fun i j hi hj => LeD.of_eq ?_, trivial⟩) ?_
  · match i, j, hi, hj with
    | 0, 0, _, _ => rfl
    | 0, 1, _, _ => rfl
    | 0, 2, _, _ => rfl
    | 0, 3, _, _ => rfl
    | 0, 4, _, _ => rfl
    | 0, 5, _, _ => rfl
  have bad : ∀ e : Int, vB ((((e == e) && ((0 : Int) == 0)) && ((0 : Int) == 0)) && ((0 : Int) == 0)) = vB true := by intro e; simp
  refine And.intro (fun h2 => ?_) (fun h2 => ?_)
  · have h2 : (withErr c [g] == 0) = true := h2
    have h0 : withErr c [g] = 0 := by simpa using h2
    obtain ⟨g1, g2⟩ := withErr1_zero h0
    have hv := val_of c g1
    have gv := GVal.of g2
    have hn := gv.n
    have hdr : draughtG c g = bif (endsQ c g 0 g.levels.length).isEmpty || (endsQ c g (c.axis.length - 1) g.levels.length).isEmpty then (0, [], [], 11) else clearG (floorG c g) (endsQ c g 0 g.levels.length) (endsQ c g (c.axis.length - 1) g.levels.length) := by unfold draughtG; rw [h0]; rfl
    refine callN (rFloor c g hv gv) ?_
    refine callN (rEnds c g hv gv) ?_
    repeat first | refine sk ?_ | refine st ?_ | refine sg ?_ | refine sh ?_ | refine su ?_ | refine sn1 ?_ | refine sn0 ?_
    have hef : ∀ h, endsG (floorG c g) (endsQ c g 0 g.levels.length) (endsQ c g (c.axis.length - 1) g.levels.length) = 0 := fun h => ends_floor (c := c) (p := 0) (q := c.axis.length - 1) g2 h
    have hl0 := endsQ_len c g 0 g.levels.length
    have hl1 := endsQ_len c g (c.axis.length - 1) g.levels.length
    have hm1 : ∀ k ∈ endsQ c g (c.axis.length - 1) g.levels.length, there (floorG c g) k = true := fun k hk => by rw [there_iff, floor_len]; exact endsQ_mem hk
    have hfew := few_n hf g2
    generalize endsQ c g 0 g.levels.length = fr at *
    generalize endsQ c g (c.axis.length - 1) g.levels.length = to at *
    refine And.intro (fun h3 => ?_) (fun h3 => ?_)
    · have h3 : (((fr.length : Int) == 0) || ((to.length : Int) == 0)) = true := h3
      rw [len0, len0] at h3
      rw [h3, cond_true] at hdr
      rw [hdr]
      refine And.intro (fun _ => ?_) (fun h => by cases h)
      repeat first | refine sk ?_ | refine st ?_ | refine sg ?_ | refine sh ?_ | refine su ?_ | refine sn1 ?_ | refine sn0 ?_
      exact SubR.of_eq (bad 11)
    have h3 : (((fr.length : Int) == 0) || ((to.length : Int) == 0)) = false := h3
    rw [len0, len0] at h3
    rw [h3, cond_false] at hdr
    have he := hef h3
    have gvf := GVal.of (err_floor (c := c) g2)
    have hsm : (⟨fr, to, 0, [], []⟩ : WayV).sm := ⟨by simp only; omega, by simp only; omega, by simp, by simp⟩
    have hsm2 := routeW_sm gvf (fr := fr) (to := to) (by omega) (by omega)
    refine callN ((rLeast (floorG c g) ⟨fr, to, 0, [], []⟩ gvf hsm hm1).conv (args' := _) ⟨⟨LeD.refl _, LeD.refl _, LeD.refl _, LeD.refl _, LeD.refl _, LeD.refl _, trivial⟩, ⟨LeD.refl _, LeD.refl _, LeD.refl _, LeD.nil, LeD.nil, trivial⟩, trivial⟩) ?_
    rw [lsF_congr (floorG c g) (q := ⟨fr, to, 0, [], []⟩) (r := routeW (floorG c g) fr to) rfl rfl]
    have hlv := clear_cases gvf he
    rcases route_all gvf he with ⟨c1, c2⟩ | ⟨c1, c3, c2, c4, _⟩
    · rw [c1]
      refine And.intro (fun _ => ?_) (fun h => by cases h)
      refine And.intro (fun _ => ?_) (fun h => by cases h)
      rw [hdr, c2]
      repeat first | refine sk ?_ | refine st ?_ | refine sg ?_ | refine sh ?_ | refine su ?_ | refine sn1 ?_ | refine sn0 ?_
      exact SubR.of_eq (bad 11)
    rw [c1]
    refine And.intro (fun h => by cases h) (fun _ => ?_)
    refine And.intro (fun h => ?_) (fun _ => ?_)
    · exfalso
      have h : (withErr c [g] != 0) = true := h
      rw [h0] at h; cases h
    rw [hdr]
    refine callN (rLeast (floorG c g) (routeW (floorG c g) fr to) gvf hsm2 hm1) ?_
    have hp : provedB (floorG c g) (routeW (floorG c g) fr to) = true := (provedB_iff gvf).2 c4
    repeat first | refine sk ?_ | refine st ?_ | refine sg ?_ | refine sh ?_ | refine su ?_ | refine sn1 ?_ | refine sn0 ?_
    refine callG (rProved (floorG c g) (routeW (floorG c g) fr to) gvf hsm2 hm1) ?_
    rw [hp]
    repeat first | refine sk ?_ | refine st ?_ | refine sg ?_ | refine sh ?_ | refine su ?_ | refine sn1 ?_ | refine sn0 ?_
    refine And.intro (fun h => ?_) (fun _ => ?_)
    · exfalso
      have h : (((clearG (floorG c g) fr to).2.2.2 != 0 || (clearG (floorG c g) fr to).1 != (lsF (floorG c g) (routeW (floorG c g) fr to) (floorG c g).levels.length).1) || !true) = true := h
      rw [c2, c3] at h
      simp at h
    refine callN (Controlling c g hc hg) ?_
    have htop : (ctlR c g).2 = 12 ∨ ((ctlR c g).2 = 0 ∧ (0 ≤ (ctlR c g).1 ∧ (ctlR c g).1 < g.levels.length) ∧ (clearG (floorG c g) fr to).1 ≤ lv g (ctlR c g).1) := by
      rcases hlv with ⟨m, hm, e, _⟩ | ⟨e, _⟩
      · rw [e]; exact ctl_top h0 hm
      · rw [e] at c2; cases c2
    repeat first | refine sk ?_ | refine st ?_ | refine sg ?_ | refine sh ?_ | refine su ?_ | refine sn1 ?_ | refine sn0 ?_
    refine og (fun hb => ?_) ?_
    · have hb : (!((ctlR c g).2 == 12) && (((ctlR c g).2 == 0 && decide ((ctlR c g).1 ≥ 0)) && decide ((ctlR c g).1 < (g.levels.length : Int)))) = true := hb
      simp only [Bool.and_eq_true, decide_eq_true_eq] at hb
      exact ⟨by omega, hb.2.2⟩
    repeat first | refine sk ?_ | refine st ?_ | refine sg ?_ | refine sh ?_ | refine su ?_ | refine sn1 ?_ | refine sn0 ?_
    refine And.intro (by kernel_rfl) ?_
    refine SubR.of_eq ?_
    show vB (((ctlR c g).2 == 12) || ((((ctlR c g).2 == 0 && decide ((ctlR c g).1 ≥ 0)) && decide ((ctlR c g).1 < (g.levels.length : Int))) && decide ((clearG (floorG c g) fr to).1 ≤ g.levels.getD (ctlR c g).1.toNat 0))) = vB true
    rcases htop with ht | ⟨t1, t2, t3⟩
    · rw [ht]; rfl
    · rw [t1, decide_eq_true t2.1, decide_eq_true t2.2, decide_eq_true (show (clearG (floorG c g) fr to).1 ≤ g.levels.getD (ctlR c g).1.toNat 0 from t3)]; rfl
  · have h2 : (withErr c [g] == 0) = false := h2
    have h2' : (withErr c [g] != 0) = true := by rw [bne, h2]; rfl
    have e : draughtG c g = (0, [], [], withErr c [g]) := by unfold draughtG; rw [h2']; rfl
    rw [e]
    refine And.intro (fun _ => ?_) (fun h => ?_)
    · repeat first | refine sk ?_ | refine st ?_ | refine sg ?_ | refine sh ?_ | refine su ?_ | refine sn1 ?_ | refine sn0 ?_
      exact SubR.of_eq (bad _)
    · exfalso
      have h : (withErr c [g] != 0) = false := h
      rw [h2'] at h; cases h
end Go.Ch

/- The level of the passage over beds that differ in their levels alone. -/
namespace Go.Ch
open Go Go.Ax Go.Proofs Go.Proofs.Tryz
set_option maxRecDepth 100000
set_option pp.maxSteps 400
set_option maxHeartbeats 2000000

abbrev reL (g : Grid) (l : List Int) : Grid := { g with levels := l }
theorem i64ok_of {a : Int} (h : badL a = false) : i64ok a := by
  have : a = 30000 ∨ (-20000 ≤ a ∧ a ≤ 20000) := by
    unfold badL within at h
    by_cases e : a = 30000
    · exact .inl e
    · right; simp [e] at h; omega
  show (decide (IntKind.i64.min ≤ a) && decide (a ≤ IntKind.i64.max)) = true
  have h1 : IntKind.i64.min = -9223372036854775808 := by decide
  have h2 : IntKind.i64.max = 9223372036854775807 := by decide
  rw [h1, h2, Bool.and_eq_true, decide_eq_true_eq, decide_eq_true_eq]
  omega
theorem reL_ok {g : Grid} (hg : g.ok) {l : List Int} (hl : l.length = g.levels.length) (hb : ∀ a ∈ l, badL a = false) : (reL g l).ok := by
  obtain ⟨h1, h2, h3, h4, h5, h6, h7⟩ := hg
  exact ⟨h1, h2, h3, h4, h5, by show l.length ≤ _; omega, fun a ha => i64ok_of (hb a ha)⟩
theorem err_re {g : Grid} (e : errG g = 0) {l : List Int} (hl : l.length = g.levels.length) (hb : ∀ a ∈ l, badL a = false) : errG (reL g l) = 0 :=
  errG_levels e hl (by rw [List.any_eq_false]; intro a ha; rw [hb a ha]; simp)
theorem withErr_re {c : Chan} {g : Grid} (e : withErr c [g] = 0) {l : List Int} (hl : l.length = g.levels.length) (hb : ∀ a ∈ l, badL a = false) : withErr c [reL g l] = 0 := by
  obtain ⟨e1, e2⟩ := withErr1_zero e
  rw [withErr1, e1, err_re e2 hl hb]; rfl
theorem nearL_congr {g h : Grid} (hc : h.cols = g.cols) (hl : h.levels.length = g.levels.length) : nearL h = nearL g := by
  funext i
  unfold nearL
  rw [hc, hl]
theorem okFloor {c : Chan} {g : Grid} {m i : Int} : okMost (floorG c g) m i = true ↔ (0 ≤ i ∧ i < g.levels.length) ∧ botI c g i.toNat = true ∧ g.levels.getD i.toNat 0 ≠ 30000 ∧ g.levels.getD i.toNat 0 ≤ m := by
  unfold okMost knownG
  simp only [Bool.and_eq_true, decide_eq_true_eq, there_iff, floor_len, bne_iff_ne]
  constructor
  · rintro ⟨⟨h1, h2⟩, h3⟩
    unfold levelAt at h2 h3
    rw [floor_lv (by omega)] at h2 h3
    cases hb : botI c g i.toNat with
    | false => rw [hb] at h2; simp at h2
    | true => rw [hb] at h2 h3; exact ⟨h1, rfl, by simpa using h2, by simpa using h3⟩
  · rintro ⟨h1, h2, h3, h4⟩
    unfold levelAt
    rw [floor_lv (by omega), h2]
    exact ⟨⟨h1, by simpa using h3⟩, by simpa using h4⟩
abbrev goE (c : Chan) (g : Grid) (ok : Int → Bool) : Prop := canGo ok (nearL (floorG c g)) (endsQ c g 0 g.levels.length) (endsQ c g (c.axis.length - 1) g.levels.length)
abbrev noEnds (c : Chan) (g : Grid) : Bool := (endsQ c g 0 g.levels.length).isEmpty || (endsQ c g (c.axis.length - 1) g.levels.length).isEmpty
theorem ends_re (c : Chan) (g : Grid) (l : List Int) (q n : Nat) : endsQ c (reL g l) q n = endsQ c g q n := rfl
theorem draught_eq {c : Chan} {g : Grid} (h0 : withErr c [g] = 0) : draughtG c g = bif noEnds c g then (0, [], [], 11) else clearG (floorG c g) (endsQ c g 0 g.levels.length) (endsQ c g (c.axis.length - 1) g.levels.length) := by
  unfold draughtG; rw [h0]; rfl
section
variable {c : Chan} {g : Grid} (h0 : withErr c [g] = 0) (hne : noEnds c g = false) {l : List Int} (hl : l.length = g.levels.length) (hb : ∀ a ∈ l, badL a = false)
include h0 hne hl hb
theorem draught_re : draughtG c (reL g l) = clearG (floorG c (reL g l)) (endsQ c g 0 g.levels.length) (endsQ c g (c.axis.length - 1) g.levels.length) ∧ GVal (floorG c (reL g l)) ∧
    endsG (floorG c (reL g l)) (endsQ c g 0 g.levels.length) (endsQ c g (c.axis.length - 1) g.levels.length) = 0 ∧ nearL (floorG c (reL g l)) = nearL (floorG c g) := by
  have e0 := withErr_re h0 hl hb
  have e1 := err_re (withErr1_zero h0).2 hl hb
  have hln : (reL g l).levels.length = g.levels.length := hl
  refine ⟨?_, GVal.of (err_floor e1), ?_, nearL_congr rfl (by rw [floor_len, floor_len]; exact hl)⟩
  · rw [draught_eq e0]
    unfold noEnds
    simp only [hln, ends_re]
    rw [show ((endsQ c g 0 g.levels.length).isEmpty || (endsQ c g (c.axis.length - 1) g.levels.length).isEmpty) = false from hne]
    rfl
  · have := ends_floor (c := c) (g := reL g l) e1 (p := 0) (q := c.axis.length - 1) (by simp only [hln, ends_re]; exact hne)
    simp only [hln, ends_re] at this
    exact this
theorem draught_at {L : Int} (hgo : goE c g (okMost (floorG c (reL g l)) L)) : (draughtG c (reL g l)).2.2.2 = 0 ∧ (draughtG c (reL g l)).1 ≤ L ∧ ((∀ x, x < L → ¬ goE c g (okMost (floorG c (reL g l)) x)) → (draughtG c (reL g l)).1 = L) := by
  obtain ⟨e, gv, he, hn⟩ := draught_re h0 hne hl hb
  rw [e]
  unfold goE at hgo ⊢
  rw [← hn] at hgo ⊢
  obtain ⟨h1, h2, h3⟩ := clear_at gv he hgo
  exact ⟨h2, h1, h3⟩
theorem draught_none (hgo : ∀ x, ¬ goE c g (okMost (floorG c (reL g l)) x)) : draughtG c (reL g l) = (0, [], [], 11) := by
  obtain ⟨e, gv, he, hn⟩ := draught_re h0 hne hl hb
  rw [e]
  unfold goE at hgo
  rw [← hn] at hgo
  exact clear_none gv he hgo
end
def hideL (g : Grid) (L : Int) : List Int := (List.range g.levels.length).map fun k => if g.levels.getD k 0 > L then 30000 else g.levels.getD k 0
def lowL (g : Grid) (bar : List Int) (v : Int) (i : Nat) (k : Nat) : Int := if (k : Int) ∈ bar.take i then v else g.levels.getD k 0
def deepL (g : Grid) (bar : List Int) (v : Int) : List Int := (List.range g.levels.length).map (lowL g bar v bar.length)
def topV (g : Grid) (L : Int) (k : Nat) : Int := if g.levels.getD k 0 ≠ 30000 ∧ g.levels.getD k 0 > L then L else g.levels.getD k 0
def otherL (g : Grid) (L : Int) : List Int := (List.range g.levels.length).map (topV g L)
theorem map_getD {f : Nat → Int} {n k : Nat} (hk : k < n) : ((List.range n).map f).getD k 0 = f k := by
  simp only [List.getD_eq_getElem?_getD, List.getElem?_map, List.getElem?_range hk, Option.map_some, Option.getD_some]
theorem map_bad {f : Nat → Int} {n : Nat} (h : ∀ k, k < n → badL (f k) = false) : ∀ a ∈ (List.range n).map f, badL a = false := by
  intro a ha
  simp only [List.mem_map, List.mem_range] at ha
  obtain ⟨k, hk, rfl⟩ := ha
  exact h k hk
theorem bad_at {g : Grid} (e : errG g = 0) {k : Nat} (hk : k < g.levels.length) : badL (g.levels.getD k 0) = false := by
  refine bad_of e _ ?_
  rw [getD_of hk]
  exact List.getElem_mem hk
theorem badL_iff {a : Int} : badL a = false ↔ a = 30000 ∨ (-20000 ≤ a ∧ a ≤ 20000) := by
  unfold badL within
  by_cases e : a = 30000
  · subst e; simp
  · simp [e]
theorem hide_len (g : Grid) (L : Int) : (hideL g L).length = g.levels.length := by simp [hideL]
theorem deep_len (g : Grid) (bar : List Int) (v : Int) : (deepL g bar v).length = g.levels.length := by simp [deepL]
theorem other_len (g : Grid) (L : Int) : (otherL g L).length = g.levels.length := by simp [otherL]
theorem okRe {c : Chan} {g : Grid} {l : List Int} (hl : l.length = g.levels.length) {m i : Int} : okMost (floorG c (reL g l)) m i = true ↔ (0 ≤ i ∧ i < g.levels.length) ∧ botI c g i.toNat = true ∧ l.getD i.toNat 0 ≠ 30000 ∧ l.getD i.toNat 0 ≤ m := by
  rw [okFloor]
  show ((0 ≤ i ∧ i < (l.length : Int)) ∧ _) ↔ _
  rw [hl]
  exact Iff.rfl
/-- What the statement asks of the passage and of the other beds. -/
structure Clr (c : Chan) (g : Grid) (L : Int) (path bar : List Int) : Prop where
  eq : draughtG c g = (L, path, bar, 0)
  hpath : path.isEmpty = false
  hbar : bar.isEmpty = false
  len : bar.length ≤ 1024
  known : ∀ k ∈ bar, (0 ≤ k ∧ k < g.levels.length) ∧ knownF g k = true
  lev : -20000 ≤ L ∧ L ≤ 20000
  at_ : (draughtG c (reL g (hideL g L))).2.2.2 = 0 ∧ (draughtG c (reL g (hideL g L))).1 = L
  under : (draughtG c (reL g (hideL g (L - 1)))).2.2.2 = 11
  deep : (draughtG c (reL g (deepL g bar (mm true (-20000) (L - 1))))).2.2.2 = 0 ∧ (draughtG c (reL g (deepL g bar (mm true (-20000) (L - 1))))).1 ≤ L
  other : (draughtG c (reL g (otherL g L))).2.2.2 = 0 ∧ (draughtG c (reL g (otherL g L))).1 = L
theorem hide_bad {g : Grid} (e : errG g = 0) (L : Int) : ∀ a ∈ hideL g L, badL a = false := map_bad fun k hk => by
  split
  · rfl
  · exact bad_at e hk
theorem deep_bad {g : Grid} (e : errG g = 0) (bar : List Int) {v : Int} (hv : badL v = false) : ∀ a ∈ deepL g bar v, badL a = false := map_bad fun k hk => by
  unfold lowL
  split
  · exact hv
  · exact bad_at e hk
theorem other_bad {g : Grid} (e : errG g = 0) {L : Int} (hL : badL L = false) : ∀ a ∈ otherL g L, badL a = false := map_bad fun k hk => by
  unfold topV
  split
  · exact hL
  · exact bad_at e hk
theorem clr_of {c : Chan} {g : Grid} (h0 : withErr c [g] = 0) : draughtG c g = (0, [], [], 11) ∨ ∃ L path bar, Clr c g L path bar := by
  obtain ⟨e1, e2⟩ := withErr1_zero h0
  have gv := GVal.of e2
  have hn := gv.n
  cases hne : noEnds c g with
  | true => left; rw [draught_eq h0, hne]; rfl
  | false =>
    have gvf := GVal.of (err_floor (c := c) e2)
    have he := ends_floor (c := c) (p := 0) (q := c.axis.length - 1) e2 hne
    have hd : draughtG c g = clearG (floorG c g) (endsQ c g 0 g.levels.length) (endsQ c g (c.axis.length - 1) g.levels.length) := by rw [draught_eq h0, hne]; rfl
    rcases clear_cases gvf he with ⟨L, hm, e, hp, hgo, hlow⟩ | ⟨e, _⟩
    · right
      obtain ⟨j, hj, hk, hlj⟩ := level_cell hm
      rw [floor_len] at hj
      have hL : L ≠ 30000 ∧ (-20000 ≤ L ∧ L ≤ 20000) := by
        have h1 : levelAt (floorG c g) j = (floorG c g).levels.getD j 0 := rfl
        have hne3 : levelAt (floorG c g) j ≠ 30000 := by
          unfold knownG at hk
          rw [Bool.and_eq_true] at hk
          simpa using hk.2
        rw [h1, floor_lv hj] at hne3 hlj
        rcases badL_iff.1 (bad_at e2 hj) with h | h
        · rw [h] at hne3; simp at hne3
        · cases hb : botI c g j with
          | false => rw [hb] at hne3; simp at hne3
          | true =>
            rw [hb] at hlj hne3
            have hlj : g.levels.getD j 0 = L := by simpa using hlj
            have hne3 : g.levels.getD j 0 ≠ 30000 := by simpa using hne3
            omega
      have hLb : badL L = false := badL_iff.2 (.inr hL.2)
      have hvb : badL (mm true (-20000) (L - 1)) = false := badL_iff.2 (.inr (by unfold mm; simp only; split <;> omega))
      have hvL : mm true (-20000) (L - 1) ≤ L := by unfold mm; simp only; split <;> omega
      have hmem : ∀ k ∈ barL (floorG c g) L (floorG c g).levels.length, (0 ≤ k ∧ k < g.levels.length) ∧ g.levels.getD k.toNat 0 ≠ 30000 := by
        intro k hk
        obtain ⟨b1, b2, b3, b4⟩ := (barL_mem (Nat.le_refl _)).1 hk
        rw [floor_len] at b2
        have h5 : okMost (floorG c g) (levelAt (floorG c g) k) k = true := by unfold okMost; rw [b3]; simp
        obtain ⟨_, _, h6, _⟩ := okFloor.1 h5
        exact ⟨⟨b1, b2⟩, h6⟩
      refine ⟨L, wayM (floorG c g) L (endsQ c g 0 g.levels.length) (endsQ c g (c.axis.length - 1) g.levels.length), barL (floorG c g) L (floorG c g).levels.length, ?_⟩
      refine ⟨by rw [hd, e], ?_, ?_, ?_, fun k hk => ⟨(hmem k hk).1, ?_⟩, hL.2, ?_, ?_, ?_, ?_⟩
      · cases h : wayM (floorG c g) L (endsQ c g 0 g.levels.length) (endsQ c g (c.axis.length - 1) g.levels.length) with
        | nil => exact absurd h hp
        | cons _ _ => rfl
      · have hb1 : (j : Int) ∈ barL (floorG c g) L (floorG c g).levels.length := (barL_mem (Nat.le_refl _)).2 ⟨by omega, by rw [floor_len]; omega, hk, by omega⟩
        cases h : barL (floorG c g) L (floorG c g).levels.length with
        | nil => rw [h] at hb1; cases hb1
        | cons _ _ => rfl
      · have := barL_len (floorG c g) L (floorG c g).levels.length
        rw [floor_len] at this ⊢
        omega
      · obtain ⟨⟨k1, k2⟩, k3⟩ := hmem k hk
        unfold knownF lv
        rw [decide_eq_true k1, decide_eq_true k2]
        simpa using k3
      · obtain ⟨q1, _, q3⟩ := draught_at h0 hne (hide_len g L) (hide_bad e2 L) (L := L) (canGo_mono (fun i hi => by
          obtain ⟨o1, o2, o3, o4⟩ := okFloor.1 hi
          refine (okRe (hide_len g L)).2 ⟨o1, o2, ?_⟩
          rw [hideL, map_getD (by omega), if_neg (by omega)]
          exact ⟨o3, o4⟩) hgo)
        refine ⟨q1, q3 fun x hx hgo2 => hlow x hx (canGo_mono (fun i hi => ?_) hgo2)⟩
        obtain ⟨o1, o2, o3, o4⟩ := (okRe (hide_len g L)).1 hi
        rw [hideL, map_getD (by omega)] at o3 o4
        refine okFloor.2 ⟨o1, o2, ?_⟩
        by_cases h : g.levels.getD i.toNat 0 > L
        · rw [if_pos h] at o3; exact absurd rfl o3
        · rw [if_neg h] at o3 o4; exact ⟨o3, o4⟩
      · rw [draught_none h0 hne (hide_len g (L - 1)) (hide_bad e2 (L - 1)) fun x hgo2 => hlow (L - 1) (by omega) (canGo_mono (fun i hi => ?_) hgo2)]
        obtain ⟨o1, o2, o3, o4⟩ := (okRe (hide_len g (L - 1))).1 hi
        rw [hideL, map_getD (by omega)] at o3 o4
        refine okFloor.2 ⟨o1, o2, ?_⟩
        by_cases h : g.levels.getD i.toNat 0 > L - 1
        · rw [if_pos h] at o3; exact absurd rfl o3
        · rw [if_neg h] at o3 o4; exact ⟨o3, by omega⟩
      · obtain ⟨q1, q2, _⟩ := draught_at h0 hne (deep_len g _ _) (deep_bad e2 (barL (floorG c g) L (floorG c g).levels.length) hvb) (L := L) (canGo_mono (fun i hi => by
          obtain ⟨o1, o2, o3, o4⟩ := okFloor.1 hi
          refine (okRe (deep_len g _ _)).2 ⟨o1, o2, ?_⟩
          rw [deepL, map_getD (by omega), lowL]
          split
          · exact ⟨by omega, hvL⟩
          · exact ⟨o3, o4⟩) hgo)
        exact ⟨q1, q2⟩
      · obtain ⟨q1, _, q3⟩ := draught_at h0 hne (other_len g L) (other_bad e2 hLb) (L := L) (canGo_mono (fun i hi => by
          obtain ⟨o1, o2, o3, o4⟩ := okFloor.1 hi
          refine (okRe (other_len g L)).2 ⟨o1, o2, ?_⟩
          rw [otherL, map_getD (by omega), topV, if_neg (by omega)]
          exact ⟨o3, o4⟩) hgo)
        refine ⟨q1, q3 fun x hx hgo2 => hlow x hx (canGo_mono (fun i hi => ?_) hgo2)⟩
        obtain ⟨o1, o2, o3, o4⟩ := (okRe (other_len g L)).1 hi
        rw [otherL, map_getD (by omega), topV] at o3 o4
        refine okFloor.2 ⟨o1, o2, ?_⟩
        by_cases h : g.levels.getD i.toNat 0 ≠ 30000 ∧ g.levels.getD i.toNat 0 > L
        · rw [if_pos h] at o4; omega
        · rw [if_neg h] at o3 o4; exact ⟨o3, o4⟩
    · left; rw [hd, e]
end Go.Ch

/- The clear draught. -/
namespace Go.Ch
open Go Go.Ax Go.Proofs Go.Proofs.Tryz
set_option maxRecDepth 100000
set_option pp.maxSteps 400
set_option maxHeartbeats 2000000

def reachC : Chan := ⟨⟨#[82, 101, 97, 99, 104]⟩, [⟨0, 0, 400, -1000, 3⟩, ⟨2000, 0, 400, -1000, 3⟩], 30, 0, []⟩
def shallowG : Grid := ⟨0, -200, 400, 5, 1, [-900, -950, -800, -1010, -990]⟩
theorem reach : CallP Tryz.prog 17 [] (chan reachC) := by
  refine callP_of_ex (rc := []) (N := 5) Tryz.func17 rfl rfl Tryz.call17 tab_ok mix rfl rfl (fun cx href => ?_)
  refine SubR.le ⟨LeD.refl _, LeD.slc' rfl fun i j hi hj => LeD.of_eq ?_, LeD.refl _, LeD.refl _, LeD.nil, trivial⟩
  match i, j, hi, hj with
  | 0, 0, _, _ => rfl
  | 0, 1, _, _ => rfl
  | 0, 2, _, _ => rfl
  | 0, 3, _, _ => rfl
  | 0, 4, _, _ => rfl
  | 1, 0, _, _ => rfl
  | 1, 1, _, _ => rfl
  | 1, 2, _, _ => rfl
  | 1, 3, _, _ => rfl
  | 1, 4, _, _ => rfl
theorem shallow : CallP Tryz.prog 18 [] (grid shallowG) := by
  refine callP_of_ex (rc := []) (N := 3) Tryz.func18 rfl rfl Tryz.call18 tab_ok mix rfl rfl (fun cx href => ?_)
  refine SubR.le ⟨LeD.refl _, LeD.refl _, LeD.refl _, LeD.refl _, LeD.refl _, LeD.slc' rfl fun i j hi hj => LeD.of_eq ?_, trivial⟩
  obtain rfl : j = 0 := by have : j < 1 := hj; omega
  match i, hi with
  | 0, _ => rfl
  | 1, _ => rfl
  | 2, _ => rfl
  | 3, _ => rfl
  | 4, _ => rfl
theorem reach_ok : reachC.ok := by
  refine ⟨by decide, by decide, ?_, by decide, by decide, by decide, by intro a ha; cases ha⟩
  intro a ha
  simp only [reachC, List.mem_cons, List.not_mem_nil, or_false] at ha
  rcases ha with rfl | rfl
  · exact ⟨by decide, by decide, by decide, by decide, by decide⟩
  · exact ⟨by decide, by decide, by decide, by decide, by decide⟩
theorem shallow_ok : shallowG.ok := by
  refine ⟨by decide, by decide, by decide, by decide, by decide, by decide, ?_⟩
  intro a ha
  simp only [shallowG, List.mem_cons, List.not_mem_nil, or_false] at ha
  rcases ha with rfl | rfl | rfl | rfl | rfl <;> decide
theorem reach_err : withErr reachC [shallowG] = 0 := by decide +kernel
theorem reach_0 : endsQ reachC shallowG 0 5 = [0, 1] := by decide +kernel
theorem reach_1 : endsQ reachC shallowG 1 5 = [3, 4] := by decide +kernel
theorem reach_go : (draughtG reachC shallowG).2.2.2 = 0 := by
  have hne : noEnds reachC shallowG = false := by
    show ((endsQ reachC shallowG 0 5).isEmpty || (endsQ reachC shallowG 1 5).isEmpty) = false
    rw [reach_0, reach_1]; rfl
  have gv := GVal.of (err_floor (c := reachC) (withErr1_zero reach_err).2)
  have he := ends_floor (c := reachC) (p := 0) (q := reachC.axis.length - 1) (withErr1_zero reach_err).2 hne
  rw [draught_eq reach_err, hne, cond_false]
  refine (clear_at gv he (L := -800) ?_).2.1
  show canGo (okMost (floorG reachC shallowG) (-800)) (nearL (floorG reachC shallowG)) (endsQ reachC shallowG 0 5) (endsQ reachC shallowG 1 5)
  rw [reach_0, reach_1]
  have ok : ∀ i : Int, i = 1 ∨ i = 2 ∨ i = 3 → okMost (floorG reachC shallowG) (-800) i = true := by
    rintro i (rfl | rfl | rfl) <;> decide +kernel
  have nr : ∀ i : Int, i = 1 ∨ i = 2 → i + 1 ∈ nearL (floorG reachC shallowG) i := by
    rintro i (rfl | rfl) <;> decide +kernel
  have r1 : Rch (okMost (floorG reachC shallowG) (-800)) (nearL (floorG reachC shallowG)) [0, 1] 1 := .start (by decide) (ok 1 (.inl rfl))
  have r2 : Rch (okMost (floorG reachC shallowG) (-800)) (nearL (floorG reachC shallowG)) [0, 1] 2 := .step r1 (nr 1 (.inl rfl)) (ok 2 (.inr (.inl rfl)))
  exact ⟨3, by decide, .step r2 (nr 2 (.inr rfl)) (ok 3 (.inr (.inr rfl)))⟩

def hdF (g : Grid) (L : Int) (i : Nat) : Nat → Nat → DV := fun k _ => dI (if k < i ∧ g.levels.getD k 0 > L then 30000 else g.levels.getD k 0)
theorem Hidden (g : Grid) (L : Int) (hn : g.levels.length ≤ 1024) : CallP Tryz.prog 45 [grid g, vI L] (grid (reL g (hideL g L))) := by
  refine callP_of_ex (rc := [34]) (N := 28) Tryz.func45 rfl rfl Tryz.call45 tab_ok mix rfl rfl (fun cx href => ?_)
  refine ⟨[(501, 601)], _, _, _, _, CopyGridO g (by omega), rfl, trivial, rfl, ?_⟩
  refine AW.loopI (fun i : Nat => ⟨[(1, vI L), (4, .s (.ptr 4 0)), (5, .s (.ptr 5 0)), (6, vI i)], [(4, some (.cells [.d (dI 0), .d (dI 0), .d (dI 0), .d (dI 0), .d (dI 0), nilS])), (5, some (.cells [.d (dI g.x), .d (dI g.y), .d (dI g.side), .d (dI g.cols), .d (dI g.rows), .own 601])), (601, some (.row 3 g.levels.length 1 (hdF g L i)))]⟩)
    (fun i => i ≤ g.levels.length) (fun i => g.levels.length - i) 0 (Nat.zero_le _) ?_ ?_
  · refine SubI.of0 href [] rfl ⟨⟨rfl, LeBx.rfl⟩, ⟨rfl, LeBx.rfl⟩, ⟨rfl, LeBx.row rfl fun k j _ _ => LeD.of_eq ?_⟩, trivial⟩ ⟨⟨rfl, LeQ.rfl⟩, ⟨rfl, LeQ.rfl⟩, ⟨rfl, LeQ.rfl⟩, ⟨rfl, LeQ.rfl⟩, trivial⟩
    unfold hdF
    rw [if_neg (by omega)]; rfl
  · intro i hi
    refine ex.sound (rc := [34]) tab_ok mix href _ ?_
    refine And.intro (fun h => ?_) (fun h => ?_)
    · have h : (i : Int) < g.levels.length := decT h
      have hi' : i < g.levels.length := by omega
      refine oi ⟨by omega, by omega⟩ ?_
      refine oi (show (i : Int).toNat < g.levels.length by omega) ?_
      have hkk : ∀ k, k ≠ i → hdF g L i k 0 = hdF g L (i + 1) k 0 := by
        intro k hk
        unfold hdF
        have : k < i + 1 ↔ k < i := by omega
        simp [this]
      refine And.intro (fun h2 => ?_) (fun h2 => ?_)
      · have h2 : decide ((if i < i ∧ g.levels.getD i 0 > L then 30000 else g.levels.getD i 0) > L) = true := h2
        rw [if_neg (by omega), decide_eq_true_eq] at h2
        refine oi ⟨by omega, by omega⟩ ?_
        refine ob (show (i : Int).toNat < g.levels.length by omega) ?_
        refine ⟨i + 1, by omega, by omega, ?_⟩
        refine SubI.of0 href [] rfl ⟨⟨rfl, LeBx.rfl⟩, ⟨rfl, LeBx.rfl⟩, ⟨rfl, LeBx.row rfl fun k j hk hj => LeD.of_eq ?_⟩, trivial⟩ ⟨⟨rfl, LeQ.rfl⟩, ⟨rfl, LeQ.rfl⟩, ⟨rfl, LeQ.rfl⟩, ⟨rfl, LeQ.int (w64_of (by omega) (by omega))⟩, trivial⟩
        have hj : j < 1 := hj
        obtain rfl : j = 0 := by omega
        by_cases hki : k = i
        · subst hki
          refine rowSet_self.trans ?_
          unfold hdF
          rw [if_pos ⟨Nat.lt_succ_self _, h2⟩]
        · exact (rowSet_ne hki).trans (hkk k hki)
      · have h2 : decide ((if i < i ∧ g.levels.getD i 0 > L then 30000 else g.levels.getD i 0) > L) = false := h2
        rw [if_neg (by omega), decide_eq_false_iff_not] at h2
        refine ⟨i + 1, by omega, by omega, ?_⟩
        refine SubI.of0 href [] rfl ⟨⟨rfl, LeBx.rfl⟩, ⟨rfl, LeBx.rfl⟩, ⟨rfl, LeBx.row rfl fun k j hk hj => LeD.of_eq ?_⟩, trivial⟩ ⟨⟨rfl, LeQ.rfl⟩, ⟨rfl, LeQ.rfl⟩, ⟨rfl, LeQ.rfl⟩, ⟨rfl, LeQ.int (w64_of (by omega) (by omega))⟩, trivial⟩
        obtain rfl : j = 0 := by omega
        by_cases hki : k = i
        · subst hki
          unfold hdF
          rw [if_neg (by omega), if_neg (by omega)]
        · exact hkk k hki
    · have h : ¬ (i : Int) < g.levels.length := decF h
      obtain rfl : i = g.levels.length := by omega
      refine SubR.le ⟨LeD.refl _, LeD.refl _, LeD.refl _, LeD.refl _, LeD.refl _, LeD.slc' (hide_len g L).symm fun k j hk hj => LeD.of_eq ?_, trivial⟩
      unfold hdF intEl
      rw [hideL, map_getD hk]
      simp [hk]

theorem take_mem {bar : List Int} {i : Nat} (hi : i < bar.length) {x : Int} : x ∈ bar.take (i + 1) ↔ x ∈ bar.take i ∨ x = bar.getD i 0 := by
  rw [List.take_add_one, List.getElem?_eq_getElem hi, List.mem_append]
  have e : bar.getD i 0 = bar[i] := by simp [List.getD_eq_getElem?_getD, hi]
  rw [e]; simp
def deF (g : Grid) (bar : List Int) (v : Int) (i : Nat) : Nat → Nat → DV := fun k _ => dI (lowL g bar v i k)
def otF (g : Grid) (L : Int) (i : Nat) : Nat → Nat → DV := fun k _ => dI (if k < i then topV g L k else g.levels.getD k 0)
theorem deF_step {g : Grid} {bar : List Int} {v : Int} {i : Nat} (hi : i < bar.length) (h0 : 0 ≤ bar.getD i 0) {w : Int} (hw : w = v) : ∀ k j, j < 1 → rowSet (deF g bar v i) (bar.getD i 0).toNat 0 [.d (dI w)] k j = deF g bar v (i + 1) k j := by
  subst hw
  intro k j hj
  obtain rfl : j = 0 := by omega
  by_cases hki : k = (bar.getD i 0).toNat
  · subst hki
    refine rowSet_self.trans ?_
    unfold deF lowL
    rw [if_pos ((take_mem hi).2 (.inr (by omega)))]
  · refine (rowSet_ne hki).trans ?_
    unfold deF lowL
    have : (k : Int) ∈ bar.take (i + 1) ↔ (k : Int) ∈ bar.take i := by
      rw [take_mem hi]
      constructor
      · rintro (h | h)
        · exact h
        · omega
      · exact .inl
    simp [this]
abbrev rouB (L : Int) (path bar : List Int) : Box := .cells [.d (dI L), .d (dInts path), .d (dInts bar)]
abbrev clrE (i : Nat) (t : Nat) : List (Nat × AV) := [(2, .s (.ptr 2 0)), (3, .s (.ptr 3 0)), (6, .s (.ptr 6 0)), (12, .s (.ptr 12 0)), (13, .s (.ptr 13 0)), (t, vI i)]
abbrev clrB (c : Chan) (g : Grid) (L : Int) (path bar : List Int) (p q : Nat → Nat → DV) : Boxes := [(2, some (chanB c)), (3, some (gridB g)), (6, some (rouB L path bar)), (12, some (.cells [.d (dI g.x), .d (dI g.y), .d (dI g.side), .d (dI g.cols), .d (dI g.rows), .own 601])), (13, some (.cells [.d (dI g.x), .d (dI g.y), .d (dI g.side), .d (dI g.cols), .d (dI g.rows), .own 602])),
  (601, some (.row 3 g.levels.length 1 p)), (602, some (.row 3 g.levels.length 1 q))]
theorem rc_eq {c : Chan} {g : Grid} {L : Int} (h : (draughtG c g).2.2.2 = 0 ∧ (draughtG c g).1 = L) : ∃ p b, draughtG c g = (L, p, b, 0) := ⟨_, _, Prod.ext h.2 (Prod.ext rfl (Prod.ext rfl h.1))⟩
attribute [local irreducible] errG errC small few draughtG hideL deepL otherL in
theorem Cleared (c : Chan) (g : Grid) (hc : c.ok) (hg : g.ok) (h0 : withErr c [g] = 0) (hk : g.levels.length ≤ 1000) :
    CallP Tryz.prog 16 [chan c, grid g] (.t [.s (.d (.val (.bool true))), .s (.d (.val (.bool ((draughtG c g).2.2.2 == 0))))]) := by
  obtain ⟨e1, e2⟩ := withErr1_zero h0
  refine callP_of_aw Tryz.func16 rfl rfl Tryz.call16 tab_ok rfl rfl (fun cx href => ?_)
  refine AW.seq (ex.sound (rc := []) tab_ok mix href _ ?_)
  refine AW.seq (ex.sound (rc := []) tab_ok mix href _ ?_)
  refine callN (Draught c g hc hg fun _ => hk) ?_
  rcases clr_of h0 with hD | ⟨L, path, bar, hclr⟩
  · rw [hD]
    refine AW.seq (ex.sound (rc := []) tab_ok mix href _ ?_)
    refine And.intro (fun _ => ?_) (fun h => by cases h)
    repeat first | refine sk ?_ | refine st ?_ | refine sg ?_ | refine sh ?_ | refine su ?_ | refine sn1 ?_ | refine sn0 ?_
    exact SubR.t ⟨LeD.refl _, LeDlit, trivial⟩
  obtain ⟨hD, hpath, hbar, hbl, hkn, hL, hat, hun, hde, hot⟩ := hclr
  have hLb : badL L = false := badL_iff.2 (.inr hL)
  have hvb : badL (mm true (-20000) (L - 1)) = false := badL_iff.2 (.inr (by unfold mm; simp only; split <;> omega))
  have hw1 : w64 (L - 1) = L - 1 := w64_of (by omega) (by omega)
  rw [hD]
  refine AW.seq (ex.sound (rc := []) tab_ok mix href _ ?_)
  refine And.intro (fun h => by cases h) (fun _ => ?_)
  refine AW.seq (ex.sound (rc := []) tab_ok mix href _ ?_)
  repeat first | refine sk ?_ | refine st ?_ | refine sg ?_ | refine sh ?_ | refine su ?_ | refine sn1 ?_ | refine sn0 ?_
  refine And.intro (fun h => ?_) (fun _ => ?_)
  · exfalso
    have h : (((path.length : Int) == 0) || ((bar.length : Int) == 0)) = true := h
    rw [len0, len0, hpath, hbar] at h
    cases h
  refine AW.seq (ex.sound (rc := []) tab_ok mix href _ ?_)
  refine callN (Hidden g L (by omega)) ?_
  refine callN (Draught c (reL g (hideL g L)) hc (reL_ok hg (hide_len g L) (hide_bad e2 L)) fun _ => by show (hideL g L).length ≤ 1000; rw [hide_len]; exact hk) ?_
  obtain ⟨p2, b2, h2⟩ := rc_eq hat
  rw [h2]
  refine And.intro (by kernel_rfl) ?_
  refine AW.seq (ex.sound (rc := []) tab_ok mix href _ ?_)
  refine callN (Hidden g (w64 (L - 1)) (by omega)) ?_
  rw [hw1]
  refine callN (Draught c (reL g (hideL g (L - 1))) hc (reL_ok hg (hide_len g (L - 1)) (hide_bad e2 (L - 1))) fun _ => by show (hideL g (L - 1)).length ≤ 1000; rw [hide_len]; exact hk) ?_
  refine And.intro (by kernel_rfl) ?_
  refine AW.seq (ex.sound (rc := []) tab_ok mix href _ ?_)
  repeat first | refine sk ?_ | refine st ?_ | refine sg ?_ | refine sh ?_ | refine su ?_ | refine sn1 ?_ | refine sn0 ?_
  refine And.intro (fun h => ?_) (fun _ => ?_)
  · exfalso
    have h : ((((0 : Int) != 0) || (L != L)) || ((draughtG c (reL g (hideL g (L - 1)))).2.2.2 != 11)) = true := h
    rw [hun] at h
    simp at h
  refine AW.cut (σ' := ⟨[(2, .s (.ptr 2 0)), (3, .s (.ptr 3 0)), (6, .s (.ptr 6 0)), (12, .s (.ptr 12 0)), (13, .s (.ptr 13 0))], clrB c g L path bar (deF g bar (mm true (-20000) (L - 1)) 0) (intEl g.levels)⟩) (ex.sound (rc := [1000034]) tab_ok mix href _ ?_) ?_
  · refine ⟨[(501, 601)], _, _, _, _, CopyGridO g (by omega), rfl, rfl, rfl, ?_⟩
    refine ⟨[(501, 602)], _, _, _, _, CopyGridO g (by omega), rfl, rfl, rfl, ?_⟩
    refine And.intro (by kernel_rfl) ?_
    refine ⟨rfl, SubI.of0 href [] rfl ⟨⟨rfl, LeBx.rfl⟩, ⟨rfl, LeBx.rfl⟩, ⟨rfl, LeBx.rfl⟩, ⟨rfl, LeBx.rfl⟩, ⟨rfl, LeBx.rfl⟩, ⟨rfl, LeBx.row rfl fun k j _ _ => LeD.of_eq ?_⟩, ⟨rfl, LeBx.rfl⟩, trivial⟩ ⟨⟨rfl, LeQ.rfl⟩, ⟨rfl, LeQ.rfl⟩, ⟨rfl, LeQ.rfl⟩, ⟨rfl, LeQ.rfl⟩, ⟨rfl, LeQ.rfl⟩, trivial⟩⟩
    unfold deF lowL
    rw [if_neg (by simp)]; rfl
  refine AW.cut (σ' := ⟨[(2, .s (.ptr 2 0)), (3, .s (.ptr 3 0)), (6, .s (.ptr 6 0)), (12, .s (.ptr 12 0)), (13, .s (.ptr 13 0))], clrB c g L path bar (deF g bar (mm true (-20000) (L - 1)) bar.length) (intEl g.levels)⟩) (ex.sound (rc := []) tab_ok mix href _ ?_) ?_
  · refine AW.loopI (fun i : Nat => ⟨clrE i 14, clrB c g L path bar (deF g bar (mm true (-20000) (L - 1)) i) (intEl g.levels)⟩) (fun i => i ≤ bar.length) (fun i => bar.length - i) 0 (Nat.zero_le _) ?_ ?_
    · exact SubI.of0 href [] rfl ⟨⟨rfl, LeBx.rfl⟩, ⟨rfl, LeBx.rfl⟩, ⟨rfl, LeBx.rfl⟩, ⟨rfl, LeBx.rfl⟩, ⟨rfl, LeBx.rfl⟩, ⟨rfl, LeBx.rfl⟩, ⟨rfl, LeBx.rfl⟩, trivial⟩ ⟨⟨rfl, LeQ.rfl⟩, ⟨rfl, LeQ.rfl⟩, ⟨rfl, LeQ.rfl⟩, ⟨rfl, LeQ.rfl⟩, ⟨rfl, LeQ.rfl⟩, ⟨rfl, LeQ.rfl⟩, trivial⟩
    · intro i hi
      refine ex.sound (rc := []) tab_ok mix href _ ?_
      refine And.intro (fun h => ?_) (fun h => ?_)
      · have h : (i : Int) < bar.length := decT h
        have hi' : i < bar.length := by omega
        have hm : bar.getD i 0 ∈ bar := by rw [getD_of hi']; exact List.getElem_mem hi'
        obtain ⟨⟨k1, k2⟩, k3⟩ := hkn _ hm
        refine oi ⟨by omega, by omega⟩ ?_
        refine callN (rKnown g (bar.getD i 0)) ?_
        refine And.intro (by kernel_rfl) ?_
        rw [k3]
        refine And.intro (fun h => by cases h) (fun _ => ?_)
        refine oi ⟨by omega, by omega⟩ ?_
        refine oi ⟨k1, k2⟩ ?_
        refine ob (show (bar.getD i 0).toNat < g.levels.length by omega) ?_
        refine And.intro (by kernel_rfl) ?_
        refine ⟨i + 1, by omega, by omega, ?_⟩
        exact SubI.of0 href [] rfl ⟨⟨rfl, LeBx.rfl⟩, ⟨rfl, LeBx.rfl⟩, ⟨rfl, LeBx.rfl⟩, ⟨rfl, LeBx.rfl⟩, ⟨rfl, LeBx.rfl⟩, ⟨rfl, LeBx.row rfl fun k j _ hj => LeD.of_eq (deF_step hi' k1 (congrArg (mm true (-20000)) hw1) k j hj)⟩, ⟨rfl, LeBx.rfl⟩, trivial⟩ ⟨⟨rfl, LeQ.rfl⟩, ⟨rfl, LeQ.rfl⟩, ⟨rfl, LeQ.rfl⟩, ⟨rfl, LeQ.rfl⟩, ⟨rfl, LeQ.rfl⟩, ⟨rfl, LeQ.int (w64_of (by omega) (by omega))⟩, trivial⟩
      · have h : ¬ (i : Int) < bar.length := decF h
        obtain rfl : i = bar.length := by omega
        exact ⟨rfl, SubI.of0 href [] rfl ⟨⟨rfl, LeBx.rfl⟩, ⟨rfl, LeBx.rfl⟩, ⟨rfl, LeBx.rfl⟩, ⟨rfl, LeBx.rfl⟩, ⟨rfl, LeBx.rfl⟩, ⟨rfl, LeBx.rfl⟩, ⟨rfl, LeBx.rfl⟩, trivial⟩ ⟨⟨rfl, LeQ.rfl⟩, ⟨rfl, LeQ.rfl⟩, ⟨rfl, LeQ.rfl⟩, ⟨rfl, LeQ.rfl⟩, ⟨rfl, LeQ.rfl⟩, trivial⟩⟩
  refine AW.cut (σ' := ⟨[(2, .s (.ptr 2 0)), (3, .s (.ptr 3 0)), (6, .s (.ptr 6 0)), (12, .s (.ptr 12 0)), (13, .s (.ptr 13 0))], clrB c g L path bar (deF g bar (mm true (-20000) (L - 1)) bar.length) (otF g L g.levels.length)⟩) (ex.sound (rc := []) tab_ok mix href _ ?_) ?_
  · refine AW.loopI (fun i : Nat => ⟨clrE i 15, clrB c g L path bar (deF g bar (mm true (-20000) (L - 1)) bar.length) (otF g L i)⟩) (fun i => i ≤ g.levels.length) (fun i => g.levels.length - i) 0 (Nat.zero_le _) ?_ ?_
    · refine SubI.of0 href [] rfl ⟨⟨rfl, LeBx.rfl⟩, ⟨rfl, LeBx.rfl⟩, ⟨rfl, LeBx.rfl⟩, ⟨rfl, LeBx.rfl⟩, ⟨rfl, LeBx.rfl⟩, ⟨rfl, LeBx.rfl⟩, ⟨rfl, LeBx.row rfl fun k j _ _ => LeD.of_eq ?_⟩, trivial⟩ ⟨⟨rfl, LeQ.rfl⟩, ⟨rfl, LeQ.rfl⟩, ⟨rfl, LeQ.rfl⟩, ⟨rfl, LeQ.rfl⟩, ⟨rfl, LeQ.rfl⟩, ⟨rfl, LeQ.rfl⟩, trivial⟩
      unfold otF
      rw [if_neg (by omega)]; rfl
    · intro i hi
      refine ex.sound (rc := []) tab_ok mix href _ ?_
      refine And.intro (fun h => ?_) (fun h => ?_)
      · have h : (i : Int) < g.levels.length := decT h
        have hi' : i < g.levels.length := by omega
        refine oi ⟨by omega, by omega⟩ ?_
        refine oi (show (i : Int).toNat < g.levels.length by omega) ?_
        repeat first | refine sk ?_ | refine st ?_ | refine sg ?_ | refine sh ?_ | refine su ?_ | refine sn1 ?_ | refine sn0 ?_
        refine og (fun _ => ⟨by omega, by omega⟩) ?_
        repeat first | refine sk ?_ | refine st ?_ | refine sg ?_ | refine sh ?_ | refine su ?_ | refine sn1 ?_ | refine sn0 ?_
        refine og (fun _ => show (i : Int).toNat < g.levels.length by omega) ?_
        repeat first | refine sk ?_ | refine st ?_ | refine sg ?_ | refine sh ?_ | refine su ?_ | refine sn1 ?_ | refine sn0 ?_
        refine And.intro (by kernel_rfl) ?_
        have hif : (if i < i then topV g L i else g.levels.getD i 0) = g.levels.getD i 0 := if_neg (by omega)
        have hkk : ∀ k, k ≠ i → otF g L i k 0 = otF g L (i + 1) k 0 := by
          intro k hk
          unfold otF
          have : k < i + 1 ↔ k < i := by omega
          simp [this]
        refine And.intro (fun h2 => ?_) (fun h2 => ?_)
        · have h2 : (((if i < i then topV g L i else g.levels.getD i 0) != 30000) && decide ((if i < i then topV g L i else g.levels.getD i 0) > L)) = true := h2
          rw [hif, Bool.and_eq_true, decide_eq_true_eq, bne_iff_ne] at h2
          refine oi ⟨by omega, by omega⟩ ?_
          refine ob (show (i : Int).toNat < g.levels.length by omega) ?_
          refine ⟨i + 1, by omega, by omega, ?_⟩
          refine SubI.of0 href [] rfl ⟨⟨rfl, LeBx.rfl⟩, ⟨rfl, LeBx.rfl⟩, ⟨rfl, LeBx.rfl⟩, ⟨rfl, LeBx.rfl⟩, ⟨rfl, LeBx.rfl⟩, ⟨rfl, LeBx.rfl⟩, ⟨rfl, LeBx.row rfl fun k j _ hj => LeD.of_eq ?_⟩, trivial⟩ ⟨⟨rfl, LeQ.rfl⟩, ⟨rfl, LeQ.rfl⟩, ⟨rfl, LeQ.rfl⟩, ⟨rfl, LeQ.rfl⟩, ⟨rfl, LeQ.rfl⟩, ⟨rfl, LeQ.int (w64_of (by omega) (by omega))⟩, trivial⟩
          have hj : j < 1 := hj
          obtain rfl : j = 0 := by omega
          by_cases hki : k = i
          · subst hki
            refine rowSet_self.trans ?_
            unfold otF topV
            rw [if_pos (Nat.lt_succ_self _), if_pos h2]
          · exact (rowSet_ne hki).trans (hkk k hki)
        · have h2 : (((if i < i then topV g L i else g.levels.getD i 0) != 30000) && decide ((if i < i then topV g L i else g.levels.getD i 0) > L)) = false := h2
          rw [hif] at h2
          have h3 : ¬ (g.levels.getD i 0 ≠ 30000 ∧ g.levels.getD i 0 > L) := by
            intro h3
            rw [bne_iff_ne.2 h3.1, decide_eq_true h3.2] at h2
            cases h2
          refine ⟨i + 1, by omega, by omega, ?_⟩
          refine SubI.of0 href [] rfl ⟨⟨rfl, LeBx.rfl⟩, ⟨rfl, LeBx.rfl⟩, ⟨rfl, LeBx.rfl⟩, ⟨rfl, LeBx.rfl⟩, ⟨rfl, LeBx.rfl⟩, ⟨rfl, LeBx.rfl⟩, ⟨rfl, LeBx.row rfl fun k j _ hj => LeD.of_eq ?_⟩, trivial⟩ ⟨⟨rfl, LeQ.rfl⟩, ⟨rfl, LeQ.rfl⟩, ⟨rfl, LeQ.rfl⟩, ⟨rfl, LeQ.rfl⟩, ⟨rfl, LeQ.rfl⟩, ⟨rfl, LeQ.int (w64_of (by omega) (by omega))⟩, trivial⟩
          obtain rfl : j = 0 := by omega
          by_cases hki : k = i
          · subst hki
            unfold otF topV
            rw [if_neg (by omega), if_pos (Nat.lt_succ_self _), if_neg h3]
          · exact hkk k hki
      · have h : ¬ (i : Int) < g.levels.length := decF h
        obtain rfl : i = g.levels.length := by omega
        exact ⟨rfl, SubI.of0 href [] rfl ⟨⟨rfl, LeBx.rfl⟩, ⟨rfl, LeBx.rfl⟩, ⟨rfl, LeBx.rfl⟩, ⟨rfl, LeBx.rfl⟩, ⟨rfl, LeBx.rfl⟩, ⟨rfl, LeBx.rfl⟩, ⟨rfl, LeBx.rfl⟩, trivial⟩ ⟨⟨rfl, LeQ.rfl⟩, ⟨rfl, LeQ.rfl⟩, ⟨rfl, LeQ.rfl⟩, ⟨rfl, LeQ.rfl⟩, ⟨rfl, LeQ.rfl⟩, trivial⟩⟩
  have hdeL : ∀ k j, k < g.levels.length → j < 1 → deF g bar (mm true (-20000) (L - 1)) bar.length k j = intEl (deepL g bar (mm true (-20000) (L - 1))) k j := by
    intro k j hk _
    unfold deF intEl
    rw [deepL, map_getD hk]
  have hotL : ∀ k j, k < g.levels.length → j < 1 → otF g L g.levels.length k j = intEl (otherL g L) k j := by
    intro k j hk _
    unfold otF intEl
    rw [otherL, map_getD hk, if_pos hk]
  refine AW.subM (σ' := ⟨[(2, .s (.ptr 2 0)), (6, .s (.ptr 6 0)), (12, .s (.ptr 12 0)), (13, .s (.ptr 13 0))], [(2, some (chanB c)), (6, some (rouB L path bar)), (12, some (gridB (reL g (deepL g bar (mm true (-20000) (L - 1)))))), (13, some (gridB (reL g (otherL g L))))]⟩)
    (SubM.of href [] [601, 602] rfl rfl rfl ⟨⟨rfl, LeBxf.rfl⟩, ⟨rfl, LeBxf.rfl⟩, ⟨rfl, LeBxf.cells ⟨LeQf.rfl, LeQf.rfl, LeQf.rfl, LeQf.rfl, LeQf.rfl, (LeQf.own (by simp) rfl).then (LeQ.d (LeD.slc' (deep_len g bar _).symm fun k j hk hj => LeD.of_eq (hdeL k j hk hj))), trivial⟩⟩, ⟨rfl, LeBxf.cells ⟨LeQf.rfl, LeQf.rfl, LeQf.rfl, LeQf.rfl, LeQf.rfl, (LeQf.own (by simp) rfl).then (LeQ.d (LeD.slc' (other_len g L).symm fun k j hk hj => LeD.of_eq (hotL k j hk hj))), trivial⟩⟩, trivial⟩
      ⟨⟨rfl, LeQf.rfl⟩, ⟨rfl, LeQf.rfl⟩, ⟨rfl, LeQf.rfl⟩, ⟨rfl, LeQf.rfl⟩, trivial⟩) ?_
  refine ex.sound (rc := []) tab_ok mix href _ ?_
  refine callN (Draught c (reL g (deepL g bar (mm true (-20000) (L - 1)))) hc (reL_ok hg (deep_len g bar _) (deep_bad e2 bar hvb)) fun _ => by show (deepL g bar _).length ≤ 1000; rw [deep_len]; exact hk) ?_
  refine callN (Draught c (reL g (otherL g L)) hc (reL_ok hg (other_len g L) (other_bad e2 hLb)) fun _ => by show (otherL g L).length ≤ 1000; rw [other_len]; exact hk) ?_
  repeat first | refine sk ?_ | refine st ?_ | refine sg ?_ | refine sh ?_ | refine su ?_ | refine sn1 ?_ | refine sn0 ?_
  refine SubR.t ⟨LeD.of_eq ?_, LeDlit, trivial⟩
  show DV.val (.bool (((((draughtG c (reL g (deepL g bar (mm true (-20000) (L - 1))))).2.2.2 == 0) && ((draughtG c (reL g (otherL g L))).2.2.2 == 0)) && decide ((draughtG c (reL g (deepL g bar (mm true (-20000) (L - 1))))).1 ≤ L)) && ((draughtG c (reL g (otherL g L))).1 == L))) = .val (.bool true)
  rw [hde.1, hot.1, hot.2, decide_eq_true hde.2]
  simp

attribute [local irreducible] errG errC small few draughtG in
theorem ClearDraught (c : Chan) (g : Grid) (hc : c.ok) (hg : g.ok) : CallP Tryz.prog 4 [chan c, grid g] (vB true) := by
  refine callP_of_ex (rc := []) (N := 43) Tryz.func4 rfl rfl Tryz.call4 tab_ok mix rfl rfl (fun cx href => ?_)
  refine callN reach ?_
  refine callN shallow ?_
  refine callN (Cleared reachC shallowG reach_ok shallow_ok reach_err (by decide)) ?_
  rw [reach_go]
  repeat first | refine sk ?_ | refine st ?_ | refine sg ?_ | refine sh ?_ | refine su ?_ | refine sn1 ?_ | refine sn0 ?_
  refine And.intro (fun h => by cases h) (fun _ => ?_)
  refine callN (Small c hc) ?_
  repeat first | refine sk ?_ | refine st ?_ | refine sg ?_ | refine sh ?_ | refine su ?_ | refine sn1 ?_ | refine sn0 ?_
  refine callG (Few g hg.levels) ?_
  repeat first | refine sk ?_ | refine st ?_ | refine sg ?_ | refine sh ?_ | refine su ?_ | refine sn1 ?_ | refine sn0 ?_
  refine And.intro (fun h1 => ?_) (fun _ => SubR.lit rfl)
  have h1' : (!small c || !few g) = false := h1
  rw [Bool.or_eq_false_iff] at h1'
  have hf : few g = true := by simpa using h1'.2
  refine ob (congrArg (gpol false) h1) ?_
  refine ob (congrArg (gpol false) h1) ?_
  refine callN ((rWith c [g] hc (by intro x hx; simp at hx; subst hx; exact hg) (by simp)).conv (args' := _) ⟨⟨LeD.refl _, LeD.refl _, LeD.refl _, LeD.refl _, LeD.refl _, trivial⟩, LeD.slc' rfl fun i j hi hj => LeD.of_eq ?_, trivial⟩) ?_
  · match i, j, hi, hj with
    | 0, 0, _, _ => rfl
    | 0, 1, _, _ => rfl
    | 0, 2, _, _ => rfl
    | 0, 3, _, _ => rfl
    | 0, 4, _, _ => rfl
    | 0, 5, _, _ => rfl
  refine And.intro (fun _ => SubR.lit rfl) (fun h2 => ?_)
  have h2 : (withErr c [g] != 0) = false := h2
  have h0 : withErr c [g] = 0 := by simpa using h2
  refine callN (Cleared c g hc hg h0 (few_n hf (withErr1_zero h0).2)) ?_
  exact SubR.refl _
end Go.Ch
