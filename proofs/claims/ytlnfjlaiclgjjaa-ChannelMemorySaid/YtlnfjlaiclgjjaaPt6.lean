/- Part 6: lemmas that the proofs of this seat share; by itself it claims nothing. -/
import Derived.Test.YtlnfjlaiclgjjaaPt5
/- ChannelMemory: the function of the law, by the number of regions. By a program (gen/genM5.py). -/
namespace Go.Ch
open Go Go.Ax Go.Proofs Go.Proofs.Try
set_option maxRecDepth 100000
set_option pp.maxSteps 400
set_option maxHeartbeats 2000000
attribute [local irreducible] errC errG few small

theorem mem20 (nm : ByteArray) (ax : List Ap) (ov bu : Int) (r0 r1 : Reg) (c : Chan) (hceq : c = ⟨nm, ax, ov, bu, [r0, r1]⟩) (g : Grid) (hc : c.ok) (hg : g.ok) (hs : small c = true) (hf : few g = true) (y0 : 0 < r0.corners.length) (m0 : r0.corners.length ≤ 45) (y1 : 0 < r1.corners.length) (m1 : r1.corners.length ≤ 45) (hB : errC c = 0 ∧ errC (boxC c 1) = 0) (hD : (∃ e, CallP Try.prog 20 [chan c, vI 1] (.t [.g (zvs ty25.zero), .s (.d (dI e))]))) : CallP Try.prog 6 [chan c, grid g] (vB true) := by
  have hsm : Sm c := Sm.of hs
  have hr : c.regions.length ≤ 1000 := by have := hsm.regions; omega
  have hax : c.axis.length ≤ 1000 := by have := hsm.axis; omega
  have hcr : ∀ i, i < c.regions.length → (c.regions.getD i default).corners.length ≤ 1000000 := fun i hi => by have := hsm.corners i hi; omega
  have hgl := few_len hf
  refine callP_of_aw Try.func6 rfl rfl Try.call6 tab_ok rfl rfl (fun cx href => ?_)
  refine AW.seq (ex.sound (rc := []) tab_ok mix href _ ?_)
  refine AW.seq (ex.sound (rc := []) tab_ok mix href _ ?_)
  refine callN awake ?_
  refine And.intro (fun h => by cases (show (!true) = true from h)) (fun _ => ?_)
  refine AW.seq (ex.sound (rc := []) tab_ok mix href _ ?_)
  refine callN (Small c hc) ?_
  repeat first | refine sk ?_ | refine st ?_ | refine sg ?_ | refine sh ?_ | refine su ?_ | refine sn1 ?_ | refine sn0 ?_ | refine And.intro (show imp none (gimp _ none) from trivial) ?_
  refine callG (Few g hg.levels) ?_
  repeat first | refine sk ?_ | refine st ?_ | refine sg ?_ | refine sh ?_ | refine su ?_ | refine sn1 ?_ | refine sn0 ?_ | refine And.intro (show imp none (gimp _ none) from trivial) ?_
  refine And.intro (fun h => ?_) (fun _ => ?_)
  · have h : (!small c || !few g) = true := h
    rw [hs, hf] at h; cases h
  refine AW.seq (ex.sound (rc := []) tab_ok mix href _ ?_)
  refine callN (Copied c hsm) ?_
  refine callN (CopyGrid g (by omega)) ?_
  refine And.intro (by kernel_rfl) ?_
  refine AW.cutE (fun q : Bool × Nat × ByteArray × Int × Int => ⟨[(2, .s (.ptr 2 0)), (3, .s (.ptr 3 0)), (5, .s (.ptr 5 0)), (6, .s (.ptr 6 0)), (7, .s (.ptr 7 0))], [(2, some (chanB c)), (3, some (gridB g)), (5, some (chanB c)), (6, some (gridB g)), (7, some (.cells [.d (dS q.2.2.1), .mo q.1 801, .d (dI q.2.2.2.1), .d (dI q.2.2.2.2), .osl 802 3 0 2])), (801, some (.mrow 58 q.2.1 5 junkF)), (802, some (.cells [.d .junk, .d .junk, .own 810, .d .junk, .d .junk, .own 811])), (810, some (.row 63 r0.corners.length 2 junkF)), (811, some (.row 63 r1.corners.length 2 junkF))]⟩) (fun q => q.2.1 ≤ 1000) ?_ ?_
  · subst hceq
    refine ex.sound (rc := [19]) tab_ok mix href _ ?_
    refine ⟨[(701, 801), (702, 802), (710, 810), (711, 811)], _, _, _, _, BoxO2 nm ax ov bu r0 r1 1 hc y0 (Nat.le_trans m0 (by decide)) y1 (Nat.le_trans m1 (by decide)) hB.1 (by decide) hB.2, rfl, trivial, rfl, ?_⟩
    exact ⟨rfl, (false, ax.length, nm, ov, bu), hax, SubI.of0 href [] rfl ⟨br, br, br, br, ⟨rfl, LeBx.cells ⟨LeQ.rfl, LeQ.mo rfl, LeQ.rfl, LeQ.rfl, LeQ.rfl, trivial⟩⟩, ⟨rfl, LeBx.rjunk⟩, ⟨rfl, LeBx.cells ⟨LeQ.junk, LeQ.junk, LeQ.rfl, LeQ.junk, LeQ.junk, LeQ.rfl, trivial⟩⟩, ⟨rfl, LeBx.jrow⟩, ⟨rfl, LeBx.jrow⟩, trivial⟩ ⟨er, er, er, er, er, trivial⟩⟩
  rintro ⟨z8, n8, s8, o8, u8⟩ hq8
  simp only at hq8 ⊢
  refine AW.cutE (fun q : Bool × Nat × ByteArray × Int × Int => ⟨[(2, .s (.ptr 2 0)), (3, .s (.ptr 3 0)), (5, .s (.ptr 5 0)), (6, .s (.ptr 6 0)), (7, .s (.ptr 7 0)), (9, .s (.ptr 9 0))], [(2, some (chanB c)), (3, some (gridB g)), (5, some (chanB c)), (6, some (gridB g)), (7, some (.cells [.d (dS s8), .mo z8 801, .d (dI o8), .d (dI u8), .osl 802 3 0 2])), (801, some (.mrow 58 n8 5 junkF)), (802, some (.cells [.d .junk, .d .junk, .own 810, .d .junk, .d .junk, .own 811])), (810, some (.row 63 r0.corners.length 2 junkF)), (811, some (.row 63 r1.corners.length 2 junkF)), (9, some (.cells [.d (dS q.2.2.1), .mo q.1 901, .d (dI q.2.2.2.1), .d (dI q.2.2.2.2), .d (.slc 0 3 junkF)])), (901, some (.mrow 58 q.2.1 5 junkF))]⟩) (fun q => q.2.1 ≤ 1000) ?_ ?_
  · obtain ⟨e, hx⟩ := hD
    refine ex.sound (rc := []) tab_ok mix href _ ?_
    refine callN hx ?_
    exact ⟨rfl, (true, 0, ⟨#[]⟩, 0, 0), Nat.zero_le _, SubI.of0 href [(901, 1000)] rfl ⟨br, br, br, br, br, br, br, br, br, ⟨rfl, LeBx.cells ⟨LeQ.rfl, LeQ.nil rfl, LeQ.rfl, LeQ.rfl, LeQ.d LeD.nil, trivial⟩⟩, ⟨rfl, rfl⟩, trivial⟩ ⟨er, er, er, er, er, er, trivial⟩⟩
  rintro ⟨z9, n9, s9, o9, u9⟩ hq9
  simp only at hq9 ⊢
  refine AW.cutE (fun q : Bool × Nat × Grid => ⟨[(2, .s (.ptr 2 0)), (3, .s (.ptr 3 0)), (5, .s (.ptr 5 0)), (6, .s (.ptr 6 0)), (7, .s (.ptr 7 0)), (9, .s (.ptr 9 0)), (11, .s (.ptr 11 0))], [(2, some (chanB c)), (3, some (gridB g)), (5, some (chanB c)), (6, some (gridB g)), (7, some (.cells [.d (dS s8), .mo z8 801, .d (dI o8), .d (dI u8), .osl 802 3 0 2])), (801, some (.mrow 58 n8 5 junkF)), (802, some (.cells [.d .junk, .d .junk, .own 810, .d .junk, .d .junk, .own 811])), (810, some (.row 63 r0.corners.length 2 junkF)), (811, some (.row 63 r1.corners.length 2 junkF)), (9, some (.cells [.d (dS s9), .mo z9 901, .d (dI o9), .d (dI u9), .d (.slc 0 3 junkF)])), (901, some (.mrow 58 n9 5 junkF)), (11, some (.cells [.d (dI q.2.2.x), .d (dI q.2.2.y), .d (dI q.2.2.side), .d (dI q.2.2.cols), .d (dI q.2.2.rows), .mo q.1 1001])), (1001, some (.mrow 3 q.2.1 1 junkF))]⟩) (fun q => q.2.1 ≤ 2000) ?_ ?_
  · by_cases he : withErr c [g] = 0
    · refine ex.sound (rc := [27]) tab_ok mix href _ ?_
      refine ⟨[(701, 1001)], _, _, _, _, DesignGridO c g hc hg he, rfl, trivial, rfl, ?_⟩
      exact ⟨rfl, (false, g.levels.length, g), by simp only; omega, SubI.of0 href [] rfl ⟨br, br, br, br, br, br, br, br, br, br, br, ⟨rfl, LeBx.cells ⟨LeQ.rfl, LeQ.rfl, LeQ.rfl, LeQ.rfl, LeQ.rfl, LeQ.mo rfl, trivial⟩⟩, ⟨rfl, LeBx.rjunk⟩, trivial⟩ ⟨er, er, er, er, er, er, er, trivial⟩⟩
    · refine ex.sound (rc := []) tab_ok mix href _ ?_
      refine callN (DesignGridE c g hc hg he) ?_
      exact ⟨rfl, (true, 0, zeroG), Nat.zero_le _, SubI.of0 href [(1001, 1000)] rfl ⟨br, br, br, br, br, br, br, br, br, br, br, ⟨rfl, LeBx.cells ⟨LeQ.rfl, LeQ.rfl, LeQ.rfl, LeQ.rfl, LeQ.rfl, LeQ.nil rfl, trivial⟩⟩, ⟨rfl, rfl⟩, trivial⟩ ⟨er, er, er, er, er, er, er, trivial⟩⟩
  rintro ⟨zd, nd, Gd⟩ hqnd
  simp only at hqnd ⊢
  refine AW.cutE (fun q : Bool × Nat × Grid => ⟨[(2, .s (.ptr 2 0)), (3, .s (.ptr 3 0)), (5, .s (.ptr 5 0)), (6, .s (.ptr 6 0)), (7, .s (.ptr 7 0)), (9, .s (.ptr 9 0)), (11, .s (.ptr 11 0)), (13, .s (.ptr 13 0))], [(2, some (chanB c)), (3, some (gridB g)), (5, some (chanB c)), (6, some (gridB g)), (7, some (.cells [.d (dS s8), .mo z8 801, .d (dI o8), .d (dI u8), .osl 802 3 0 2])), (801, some (.mrow 58 n8 5 junkF)), (802, some (.cells [.d .junk, .d .junk, .own 810, .d .junk, .d .junk, .own 811])), (810, some (.row 63 r0.corners.length 2 junkF)), (811, some (.row 63 r1.corners.length 2 junkF)), (9, some (.cells [.d (dS s9), .mo z9 901, .d (dI o9), .d (dI u9), .d (.slc 0 3 junkF)])), (901, some (.mrow 58 n9 5 junkF)), (11, some (.cells [.d (dI Gd.x), .d (dI Gd.y), .d (dI Gd.side), .d (dI Gd.cols), .d (dI Gd.rows), .mo zd 1001])), (1001, some (.mrow 3 nd 1 junkF)), (13, some (.cells [.d (dI q.2.2.x), .d (dI q.2.2.y), .d (dI q.2.2.side), .d (dI q.2.2.cols), .d (dI q.2.2.rows), .mo q.1 1002])), (1002, some (.mrow 3 q.2.1 1 junkF))]⟩) (fun q => q.2.1 ≤ 2000) ?_ ?_
  · by_cases he : withErr c [g] = 0
    · refine ex.sound (rc := [28]) tab_ok mix href _ ?_
      refine ⟨[(701, 1002)], _, _, _, _, ToleranceGridO c g hc hg he, rfl, trivial, rfl, ?_⟩
      exact ⟨rfl, (false, g.levels.length, g), by simp only; omega, SubI.of0 href [] rfl ⟨br, br, br, br, br, br, br, br, br, br, br, br, br, ⟨rfl, LeBx.cells ⟨LeQ.rfl, LeQ.rfl, LeQ.rfl, LeQ.rfl, LeQ.rfl, LeQ.mo rfl, trivial⟩⟩, ⟨rfl, LeBx.rjunk⟩, trivial⟩ ⟨er, er, er, er, er, er, er, er, trivial⟩⟩
    · refine ex.sound (rc := []) tab_ok mix href _ ?_
      refine callN (ToleranceGridE c g hc hg he) ?_
      exact ⟨rfl, (true, 0, zeroG), Nat.zero_le _, SubI.of0 href [(1002, 1000)] rfl ⟨br, br, br, br, br, br, br, br, br, br, br, br, br, ⟨rfl, LeBx.cells ⟨LeQ.rfl, LeQ.rfl, LeQ.rfl, LeQ.rfl, LeQ.rfl, LeQ.nil rfl, trivial⟩⟩, ⟨rfl, rfl⟩, trivial⟩ ⟨er, er, er, er, er, er, er, er, trivial⟩⟩
  rintro ⟨zt, nt, Gt⟩ hqnt
  simp only at hqnt ⊢
  refine AW.cut (σ' := ⟨bE ++ [], bB c g zd zt nd nt Gd Gt ++ []⟩) (ex.sound (rc := []) tab_ok mix href _ ?_) ?_
  · refine AW.loopI (fun i : Nat => match i with | 0 => (⟨bE ++ [(61, .g [.d (dS s8), .mo z8 801, .d (dI o8), .d (dI u8), .osl 802 3 0 2, .d (dS s9), .mo z9 901, .d (dI o9), .d (dI u9), .d (.slc 0 3 junkF)]), (62, vI 0)], bB c g zd zt nd nt Gd Gt ++ [(801, some (.mrow 58 n8 5 junkF)), (802, some (.cells [.d .junk, .d .junk, .own 810, .d .junk, .d .junk, .own 811])), (810, some (.row 63 r0.corners.length 2 junkF)), (811, some (.row 63 r1.corners.length 2 junkF)), (901, some (.mrow 58 n9 5 junkF))]⟩ : St) | 1 => ⟨bE ++ [(61, .g [.d .junk, .d .junk, .d .junk, .d .junk, .d .junk, .d (dS s9), .mo z9 901, .d (dI o9), .d (dI u9), .d (.slc 0 3 junkF)]), (62, vI 1)], bB c g zd zt nd nt Gd Gt ++ [(901, some (.mrow 58 n9 5 junkF))]⟩ | _ => ⟨bE ++ [(62, vI 2)], bB c g zd zt nd nt Gd Gt ++ []⟩) (fun i => i ≤ 2) (fun i => 2 - i) 0 (Nat.zero_le _) ?_ ?_
    · exact SubI.of0 href [] rfl ⟨br, br, br, br, br, br, br, br, br, br, br, br, br, trivial⟩ ⟨er, er, er, er, er, er, er, er, trivial⟩
    · intro i hi
      match i, hi with
      | 0, _ =>
        refine AW.seq (ex.sound (rc := []) tab_ok mix href _ ?_)
        refine AW.seq (ex.sound (rc := []) tab_ok mix href _ ?_)
        refine And.intro (fun _ => ?_) (fun h => by cases (show (decide ((0 : Int) < 2)) = false from h))
        refine AW.seq (AW.block (AW.seq (ex.sound (rc := []) tab_ok mix href _ ?_)))
        refine oi ⟨by decide, by decide⟩ ?_
        have hzn := bif_le (z := z8) (n := n8)
        refine AW.cut (σ' := ⟨bE ++ [(61, .g [.d .junk, .d .junk, .d .junk, .d .junk, .d .junk, .d (dS s9), .mo z9 901, .d (dI o9), .d (dI u9), .d (.slc 0 3 junkF)]), (62, vI 0), (16, .s (.ptr 16 0))], bB c g zd zt nd nt Gd Gt ++ [(16, some (.cells [.d (dS s8), .mo z8 801, .d (dI o8), .d (dI u8), .osl 802 3 0 2])), (801, some (.mrow 58 n8 5 junkF)), (802, some (.cells [.d .junk, .d .junk, .own 810, .d .junk, .d .junk, .own 811])), (810, some (.row 63 r0.corners.length 2 junkF)), (811, some (.row 63 r1.corners.length 2 junkF)), (901, some (.mrow 58 n9 5 junkF))]⟩) (ex.sound (rc := []) tab_ok mix href _ ?_) ?_
        · refine AW.loopI (fun m : Nat => (⟨bE ++ [(61, .g [.d .junk, .d .junk, .d .junk, .d .junk, .d .junk, .d (dS s9), .mo z9 901, .d (dI o9), .d (dI u9), .d (.slc 0 3 junkF)]), (62, vI 0), (16, .s (.ptr 16 0)), (17, vI m)], bB c g zd zt nd nt Gd Gt ++ [(16, some (.cells [.d (dS s8), .mo z8 801, .d (dI o8), .d (dI u8), .osl 802 3 0 2])), (801, some (.mrow 58 n8 5 junkF)), (802, some (.cells [.d .junk, .d .junk, .own 810, .d .junk, .d .junk, .own 811])), (810, some (.row 63 r0.corners.length 2 junkF)), (811, some (.row 63 r1.corners.length 2 junkF)), (901, some (.mrow 58 n9 5 junkF))]⟩ : St)) (fun m => m ≤ (bif z8 then 0 else n8)) (fun m => (bif z8 then 0 else n8) - m) 0 (Nat.zero_le _) ?_ ?_
          · exact SubI.of0 href [] rfl ⟨br, br, br, br, br, br, br, br, br, br, br, br, br, br, trivial⟩ ⟨er, er, er, er, er, er, ⟨rfl, LeQ.g ⟨LeQ.junk, LeQ.junk, LeQ.junk, LeQ.junk, LeQ.junk, LeQ.rfl, LeQ.rfl, LeQ.rfl, LeQ.rfl, LeQ.rfl, trivial⟩⟩, er, er, er, trivial⟩
          · intro m hm
            refine ex.sound (rc := []) tab_ok mix href _ ?_
            refine And.intro (fun h => ?_) (fun h => ?_)
            · have h : (m : Int) < ((bif z8 then 0 else n8 : Nat) : Int) := decT h
              refine oi ⟨by omega, by show (m : Int) < ((bif z8 then 0 else n8 : Nat) : Int); omega⟩ ?_
              refine ob (show (m : Int).toNat < n8 by omega) ?_
              refine ⟨m + 1, by omega, by omega, ?_⟩
              exact SubI.of0 href [] rfl ⟨br, br, br, br, br, br, br, br, br, ⟨rfl, LeBx.junk⟩, br, br, br, br, trivial⟩ ⟨er, er, er, er, er, er, er, er, er, ⟨rfl, LeQ.int (w64_of (by omega) (by omega))⟩, trivial⟩
            · exact ⟨rfl, SubI.of0 href [] rfl ⟨br, br, br, br, br, br, br, br, br, br, br, br, br, br, trivial⟩ ⟨er, er, er, er, er, er, er, er, er, trivial⟩⟩
        refine AW.seq (ex.sound (rc := []) tab_ok mix href _ ?_)
        refine ex.sound (rc := []) tab_ok mix href _ ?_
        refine AW.loopI (fun j : Nat => (⟨bE ++ [(61, .g [.d .junk, .d .junk, .d .junk, .d .junk, .d .junk, .d (dS s9), .mo z9 901, .d (dI o9), .d (dI u9), .d (.slc 0 3 junkF)]), (62, vI 0), (16, .s (.ptr 16 0)), (18, vI j)], bB c g zd zt nd nt Gd Gt ++ [(16, some (.cells [.d (dS s8), .mo z8 801, .d (dI o8), .d (dI u8), .osl 802 3 0 2])), (801, some (.mrow 58 n8 5 junkF)), (802, some (.cells [.d .junk, .d .junk, .own 810, .d .junk, .d .junk, .own 811])), (810, some (.row 63 r0.corners.length 2 junkF)), (811, some (.row 63 r1.corners.length 2 junkF)), (901, some (.mrow 58 n9 5 junkF))]⟩ : St)) (fun j => j ≤ 2) (fun j => 2 - j) 0 (Nat.zero_le _) ?_ ?_
        · exact SubI.of0 href [] rfl ⟨br, br, br, br, br, br, br, br, br, br, br, br, br, br, trivial⟩ ⟨er, er, er, er, er, er, er, er, er, er, trivial⟩
        · intro j hj
          match j, hj with
          | 0, _ =>
            refine AW.seq (ex.sound (rc := []) tab_ok mix href _ ?_)
            refine And.intro (fun _ => ?_) (fun h => by cases (show (decide ((0 : Int) < 2)) = false from h))
            refine AW.seq (AW.block ?_)
            refine AW.cut (σ' := ⟨bE ++ [(61, .g [.d .junk, .d .junk, .d .junk, .d .junk, .d .junk, .d (dS s9), .mo z9 901, .d (dI o9), .d (dI u9), .d (.slc 0 3 junkF)]), (62, vI 0), (16, .s (.ptr 16 0)), (18, vI 0)], bB c g zd zt nd nt Gd Gt ++ [(16, some (.cells [.d (dS s8), .mo z8 801, .d (dI o8), .d (dI u8), .osl 802 3 0 2])), (801, some (.mrow 58 n8 5 junkF)), (802, some (.cells [.d .junk, .d .junk, .own 810, .d .junk, .d .junk, .own 811])), (810, some (.row 63 r0.corners.length 2 junkF)), (811, some (.row 63 r1.corners.length 2 junkF)), (901, some (.mrow 58 n9 5 junkF))]⟩) (ex.sound (rc := []) tab_ok mix href _ ?_) ?_
            · refine AW.loopI (fun m : Nat => (⟨bE ++ [(61, .g [.d .junk, .d .junk, .d .junk, .d .junk, .d .junk, .d (dS s9), .mo z9 901, .d (dI o9), .d (dI u9), .d (.slc 0 3 junkF)]), (62, vI 0), (16, .s (.ptr 16 0)), (18, vI 0), (19, vI m)], bB c g zd zt nd nt Gd Gt ++ [(16, some (.cells [.d (dS s8), .mo z8 801, .d (dI o8), .d (dI u8), .osl 802 3 0 2])), (801, some (.mrow 58 n8 5 junkF)), (802, some (.cells [.d .junk, .d .junk, .own 810, .d .junk, .d .junk, .own 811])), (810, some (.row 63 r0.corners.length 2 junkF)), (811, some (.row 63 r1.corners.length 2 junkF)), (901, some (.mrow 58 n9 5 junkF))]⟩ : St)) (fun m => m ≤ r0.corners.length) (fun m => r0.corners.length - m) 0 (Nat.zero_le _) ?_ ?_
              · exact SubI.of0 href [] rfl ⟨br, br, br, br, br, br, br, br, br, br, br, br, br, br, trivial⟩ ⟨er, er, er, er, er, er, er, er, er, er, er, trivial⟩
              · intro m hm
                refine ex.sound (rc := []) tab_ok mix href _ ?_
                refine oi ⟨by decide, by decide⟩ ?_
                refine And.intro (fun h => ?_) (fun h => ?_)
                · have h : (m : Int) < (r0.corners.length : Int) := decT h
                  refine oi ⟨by decide, by decide⟩ ?_
                  refine oi ⟨by omega, by omega⟩ ?_
                  refine ob (show (m : Int).toNat < r0.corners.length by omega) ?_
                  refine ⟨m + 1, by omega, by omega, ?_⟩
                  exact SubI.of0 href [] rfl ⟨br, br, br, br, br, br, br, br, br, br, br, ⟨rfl, LeBx.jrow⟩, br, br, trivial⟩ ⟨er, er, er, er, er, er, er, er, er, er, ⟨rfl, LeQ.int (w64_of (by omega) (by omega))⟩, trivial⟩
                · exact ⟨rfl, SubI.of0 href [] rfl ⟨br, br, br, br, br, br, br, br, br, br, br, br, br, br, trivial⟩ ⟨er, er, er, er, er, er, er, er, er, er, trivial⟩⟩
            · refine ex.sound (rc := []) tab_ok mix href _ ?_
              refine oi ⟨by decide, by decide⟩ ?_
              refine ex.sound (rc := []) tab_ok mix href _ ?_
              refine ⟨1, by decide, by decide, ?_⟩
              exact SubI.of0 href [] rfl ⟨br, br, br, br, br, br, br, br, br, br, ⟨rfl, LeBx.cells ⟨LeQ.junk, LeQ.junk, LeQ.rfl, LeQ.junk, LeQ.junk, LeQ.rfl, trivial⟩⟩, br, br, br, trivial⟩ ⟨er, er, er, er, er, er, er, er, er, er, trivial⟩
          | 1, _ =>
            refine AW.seq (ex.sound (rc := []) tab_ok mix href _ ?_)
            refine And.intro (fun _ => ?_) (fun h => by cases (show (decide ((1 : Int) < 2)) = false from h))
            refine AW.seq (AW.block ?_)
            refine AW.cut (σ' := ⟨bE ++ [(61, .g [.d .junk, .d .junk, .d .junk, .d .junk, .d .junk, .d (dS s9), .mo z9 901, .d (dI o9), .d (dI u9), .d (.slc 0 3 junkF)]), (62, vI 0), (16, .s (.ptr 16 0)), (18, vI 1)], bB c g zd zt nd nt Gd Gt ++ [(16, some (.cells [.d (dS s8), .mo z8 801, .d (dI o8), .d (dI u8), .osl 802 3 0 2])), (801, some (.mrow 58 n8 5 junkF)), (802, some (.cells [.d .junk, .d .junk, .own 810, .d .junk, .d .junk, .own 811])), (810, some (.row 63 r0.corners.length 2 junkF)), (811, some (.row 63 r1.corners.length 2 junkF)), (901, some (.mrow 58 n9 5 junkF))]⟩) (ex.sound (rc := []) tab_ok mix href _ ?_) ?_
            · refine AW.loopI (fun m : Nat => (⟨bE ++ [(61, .g [.d .junk, .d .junk, .d .junk, .d .junk, .d .junk, .d (dS s9), .mo z9 901, .d (dI o9), .d (dI u9), .d (.slc 0 3 junkF)]), (62, vI 0), (16, .s (.ptr 16 0)), (18, vI 1), (19, vI m)], bB c g zd zt nd nt Gd Gt ++ [(16, some (.cells [.d (dS s8), .mo z8 801, .d (dI o8), .d (dI u8), .osl 802 3 0 2])), (801, some (.mrow 58 n8 5 junkF)), (802, some (.cells [.d .junk, .d .junk, .own 810, .d .junk, .d .junk, .own 811])), (810, some (.row 63 r0.corners.length 2 junkF)), (811, some (.row 63 r1.corners.length 2 junkF)), (901, some (.mrow 58 n9 5 junkF))]⟩ : St)) (fun m => m ≤ r1.corners.length) (fun m => r1.corners.length - m) 0 (Nat.zero_le _) ?_ ?_
              · exact SubI.of0 href [] rfl ⟨br, br, br, br, br, br, br, br, br, br, br, br, br, br, trivial⟩ ⟨er, er, er, er, er, er, er, er, er, er, er, trivial⟩
              · intro m hm
                refine ex.sound (rc := []) tab_ok mix href _ ?_
                refine oi ⟨by decide, by decide⟩ ?_
                refine And.intro (fun h => ?_) (fun h => ?_)
                · have h : (m : Int) < (r1.corners.length : Int) := decT h
                  refine oi ⟨by decide, by decide⟩ ?_
                  refine oi ⟨by omega, by omega⟩ ?_
                  refine ob (show (m : Int).toNat < r1.corners.length by omega) ?_
                  refine ⟨m + 1, by omega, by omega, ?_⟩
                  exact SubI.of0 href [] rfl ⟨br, br, br, br, br, br, br, br, br, br, br, br, ⟨rfl, LeBx.jrow⟩, br, trivial⟩ ⟨er, er, er, er, er, er, er, er, er, er, ⟨rfl, LeQ.int (w64_of (by omega) (by omega))⟩, trivial⟩
                · exact ⟨rfl, SubI.of0 href [] rfl ⟨br, br, br, br, br, br, br, br, br, br, br, br, br, br, trivial⟩ ⟨er, er, er, er, er, er, er, er, er, er, trivial⟩⟩
            · refine ex.sound (rc := []) tab_ok mix href _ ?_
              refine oi ⟨by decide, by decide⟩ ?_
              refine ex.sound (rc := []) tab_ok mix href _ ?_
              refine ⟨2, by decide, by decide, ?_⟩
              exact SubI.of0 href [] rfl ⟨br, br, br, br, br, br, br, br, br, br, ⟨rfl, LeBx.cells ⟨LeQ.junk, LeQ.junk, LeQ.rfl, LeQ.junk, LeQ.junk, LeQ.rfl, trivial⟩⟩, br, br, br, trivial⟩ ⟨er, er, er, er, er, er, er, er, er, er, trivial⟩
          | 2, _ =>
            refine ex.sound (rc := []) tab_ok mix href _ ?_
            refine And.intro (fun h => by cases (show (decide ((2 : Int) < 2)) = true from h)) (fun _ => ?_)
            refine ex.sound (rc := []) tab_ok mix href _ ?_
            refine ⟨1, by decide, by decide, ?_⟩
            exact SubI.of0 href [] rfl ⟨br, br, br, br, br, br, br, br, br, trivial⟩ ⟨er, er, er, er, er, er, er, er, trivial⟩
      | 1, _ =>
        refine AW.seq (ex.sound (rc := []) tab_ok mix href _ ?_)
        refine AW.seq (ex.sound (rc := []) tab_ok mix href _ ?_)
        refine And.intro (fun _ => ?_) (fun h => by cases (show (decide ((1 : Int) < 2)) = false from h))
        refine AW.seq (AW.block (AW.seq (ex.sound (rc := []) tab_ok mix href _ ?_)))
        refine oi ⟨by decide, by decide⟩ ?_
        have hzn := bif_le (z := z9) (n := n9)
        refine AW.cut (σ' := ⟨bE ++ [(62, vI 1), (16, .s (.ptr 16 0))], bB c g zd zt nd nt Gd Gt ++ [(16, some (.cells [.d (dS s9), .mo z9 901, .d (dI o9), .d (dI u9), .d (.slc 0 3 junkF)])), (901, some (.mrow 58 n9 5 junkF))]⟩) (ex.sound (rc := []) tab_ok mix href _ ?_) ?_
        · refine AW.loopI (fun m : Nat => (⟨bE ++ [(62, vI 1), (16, .s (.ptr 16 0)), (17, vI m)], bB c g zd zt nd nt Gd Gt ++ [(16, some (.cells [.d (dS s9), .mo z9 901, .d (dI o9), .d (dI u9), .d (.slc 0 3 junkF)])), (901, some (.mrow 58 n9 5 junkF))]⟩ : St)) (fun m => m ≤ (bif z9 then 0 else n9)) (fun m => (bif z9 then 0 else n9) - m) 0 (Nat.zero_le _) ?_ ?_
          · exact SubI.of0 href [] rfl ⟨br, br, br, br, br, br, br, br, br, br, trivial⟩ ⟨er, er, er, er, er, er, er, er, er, trivial⟩
          · intro m hm
            refine ex.sound (rc := []) tab_ok mix href _ ?_
            refine And.intro (fun h => ?_) (fun h => ?_)
            · have h : (m : Int) < ((bif z9 then 0 else n9 : Nat) : Int) := decT h
              refine oi ⟨by omega, by show (m : Int) < ((bif z9 then 0 else n9 : Nat) : Int); omega⟩ ?_
              refine ob (show (m : Int).toNat < n9 by omega) ?_
              refine ⟨m + 1, by omega, by omega, ?_⟩
              exact SubI.of0 href [] rfl ⟨br, br, br, br, br, br, br, br, br, ⟨rfl, LeBx.junk⟩, trivial⟩ ⟨er, er, er, er, er, er, er, er, ⟨rfl, LeQ.int (w64_of (by omega) (by omega))⟩, trivial⟩
            · exact ⟨rfl, SubI.of0 href [] rfl ⟨br, br, br, br, br, br, br, br, br, br, trivial⟩ ⟨er, er, er, er, er, er, er, er, trivial⟩⟩
        refine AW.seq (ex.sound (rc := []) tab_ok mix href _ ?_)
        refine ex.sound (rc := []) tab_ok mix href _ ?_
        refine AW.loopI (fun j : Nat => (⟨bE ++ [(62, vI 1), (16, .s (.ptr 16 0)), (18, vI j)], bB c g zd zt nd nt Gd Gt ++ [(16, some (.cells [.d (dS s9), .mo z9 901, .d (dI o9), .d (dI u9), .d (.slc 0 3 junkF)])), (901, some (.mrow 58 n9 5 junkF))]⟩ : St)) (fun j => j ≤ 0) (fun j => 0 - j) 0 (Nat.zero_le _) ?_ ?_
        · exact SubI.of0 href [] rfl ⟨br, br, br, br, br, br, br, br, br, br, trivial⟩ ⟨er, er, er, er, er, er, er, er, er, trivial⟩
        · intro j hj
          match j, hj with
          | 0, _ =>
            refine ex.sound (rc := []) tab_ok mix href _ ?_
            refine And.intro (fun h => by cases (show (decide ((0 : Int) < 0)) = true from h)) (fun _ => ?_)
            refine ex.sound (rc := []) tab_ok mix href _ ?_
            refine ⟨2, by decide, by decide, ?_⟩
            exact SubI.of0 href [] rfl ⟨br, br, br, br, br, br, br, br, trivial⟩ ⟨er, er, er, er, er, er, er, trivial⟩
      | 2, _ =>
        refine ex.sound (rc := []) tab_ok mix href _ ?_
        refine And.intro (fun h => by cases (show (decide ((2 : Int) < 2)) = true from h)) (fun _ => ?_)
        exact ⟨rfl, SubI.of0 href [] rfl ⟨br, br, br, br, br, br, br, br, trivial⟩ ⟨er, er, er, er, er, er, trivial⟩⟩
  refine AW.cut (σ' := ⟨[(2, .s (.ptr 2 0)), (3, .s (.ptr 3 0)), (5, .s (.ptr 5 0)), (6, .s (.ptr 6 0))], [(2, some (chanB c)), (3, some (gridB g)), (5, some (chanB c)), (6, some (gridB g))]⟩) (ex.sound (rc := []) tab_ok mix href _ ?_) ?_
  · refine AW.loopI (fun i : Nat => match i with | 0 => (⟨[(2, .s (.ptr 2 0)), (3, .s (.ptr 3 0)), (5, .s (.ptr 5 0)), (6, .s (.ptr 6 0)), (112, .g [.d (dI Gd.x), .d (dI Gd.y), .d (dI Gd.side), .d (dI Gd.cols), .d (dI Gd.rows), .mo zd 1001, .d (dI Gt.x), .d (dI Gt.y), .d (dI Gt.side), .d (dI Gt.cols), .d (dI Gt.rows), .mo zt 1002]), (113, vI 0)], [(2, some (chanB c)), (3, some (gridB g)), (5, some (chanB c)), (6, some (gridB g)), (1001, some (.mrow 3 nd 1 junkF)), (1002, some (.mrow 3 nt 1 junkF))]⟩ : St) | 1 => ⟨[(2, .s (.ptr 2 0)), (3, .s (.ptr 3 0)), (5, .s (.ptr 5 0)), (6, .s (.ptr 6 0)), (112, .g [.d (dI Gd.x), .d (dI Gd.y), .d (dI Gd.side), .d (dI Gd.cols), .d (dI Gd.rows), .mo zd 1001, .d (dI Gt.x), .d (dI Gt.y), .d (dI Gt.side), .d (dI Gt.cols), .d (dI Gt.rows), .mo zt 1002]), (113, vI 1)], [(2, some (chanB c)), (3, some (gridB g)), (5, some (chanB c)), (6, some (gridB g)), (1001, some (.mrow 3 nd 1 junkF)), (1002, some (.mrow 3 nt 1 junkF))]⟩ | _ => ⟨[(2, .s (.ptr 2 0)), (3, .s (.ptr 3 0)), (5, .s (.ptr 5 0)), (6, .s (.ptr 6 0)), (113, vI 2)], [(2, some (chanB c)), (3, some (gridB g)), (5, some (chanB c)), (6, some (gridB g)), (1001, some (.mrow 3 nd 1 junkF)), (1002, some (.mrow 3 nt 1 junkF))]⟩) (fun i => i ≤ 2) (fun i => 2 - i) 0 (Nat.zero_le _) ?_ ?_
    · exact SubI.of0 href [] rfl ⟨br, br, br, br, br, br, trivial⟩ ⟨er, er, er, er, er, er, trivial⟩
    · intro i hi
      match i, hi with
      | 0, _ =>
        refine ex.sound (rc := []) tab_ok mix href _ ?_
        refine And.intro (fun _ => ?_) (fun h => by cases (show (decide ((0 : Int) < 2)) = false from h))
        refine oi ⟨by decide, by decide⟩ ?_
        have hzn := bif_le (z := zd) (n := nd)
        refine AW.loopI (fun m : Nat => (⟨[(2, .s (.ptr 2 0)), (3, .s (.ptr 3 0)), (5, .s (.ptr 5 0)), (6, .s (.ptr 6 0)), (112, .g [.d (dI Gd.x), .d (dI Gd.y), .d (dI Gd.side), .d (dI Gd.cols), .d (dI Gd.rows), .mo zd 1001, .d (dI Gt.x), .d (dI Gt.y), .d (dI Gt.side), .d (dI Gt.cols), .d (dI Gt.rows), .mo zt 1002]), (113, vI 0), (21, .s (.ptr 21 0)), (22, vI m)], [(2, some (chanB c)), (3, some (gridB g)), (5, some (chanB c)), (6, some (gridB g)), (1001, some (.mrow 3 nd 1 junkF)), (1002, some (.mrow 3 nt 1 junkF)), (21, some (.cells [.d (dI Gd.x), .d (dI Gd.y), .d (dI Gd.side), .d (dI Gd.cols), .d (dI Gd.rows), .mo zd 1001]))]⟩ : St)) (fun m => m ≤ (bif zd then 0 else nd)) (fun m => (bif zd then 0 else nd) - m) 0 (Nat.zero_le _) ?_ ?_
        · exact SubI.of0 href [] rfl ⟨br, br, br, br, br, br, br, trivial⟩ ⟨er, er, er, er, er, er, er, er, trivial⟩
        · intro m hm
          refine ex.sound (rc := []) tab_ok mix href _ ?_
          refine And.intro (fun h => ?_) (fun h => ?_)
          · have h : (m : Int) < ((bif zd then 0 else nd : Nat) : Int) := decT h
            refine oi ⟨by omega, by show (m : Int) < ((bif zd then 0 else nd : Nat) : Int); omega⟩ ?_
            refine ob (show (m : Int).toNat < nd by omega) ?_
            refine ⟨m + 1, by omega, by omega, ?_⟩
            exact SubI.of0 href [] rfl ⟨br, br, br, br, ⟨rfl, LeBx.junk⟩, br, br, trivial⟩ ⟨er, er, er, er, er, er, er, ⟨rfl, LeQ.int (w64_of (by omega) (by omega))⟩, trivial⟩
          · refine ⟨1, by decide, by decide, ?_⟩
            exact SubI.of0 href [] rfl ⟨br, br, br, br, br, br, trivial⟩ ⟨er, er, er, er, er, er, trivial⟩
      | 1, _ =>
        refine ex.sound (rc := []) tab_ok mix href _ ?_
        refine And.intro (fun _ => ?_) (fun h => by cases (show (decide ((1 : Int) < 2)) = false from h))
        refine oi ⟨by decide, by decide⟩ ?_
        have hzn := bif_le (z := zt) (n := nt)
        refine AW.loopI (fun m : Nat => (⟨[(2, .s (.ptr 2 0)), (3, .s (.ptr 3 0)), (5, .s (.ptr 5 0)), (6, .s (.ptr 6 0)), (112, .g [.d (dI Gd.x), .d (dI Gd.y), .d (dI Gd.side), .d (dI Gd.cols), .d (dI Gd.rows), .mo zd 1001, .d (dI Gt.x), .d (dI Gt.y), .d (dI Gt.side), .d (dI Gt.cols), .d (dI Gt.rows), .mo zt 1002]), (113, vI 1), (21, .s (.ptr 21 0)), (22, vI m)], [(2, some (chanB c)), (3, some (gridB g)), (5, some (chanB c)), (6, some (gridB g)), (1001, some (.mrow 3 nd 1 junkF)), (1002, some (.mrow 3 nt 1 junkF)), (21, some (.cells [.d (dI Gt.x), .d (dI Gt.y), .d (dI Gt.side), .d (dI Gt.cols), .d (dI Gt.rows), .mo zt 1002]))]⟩ : St)) (fun m => m ≤ (bif zt then 0 else nt)) (fun m => (bif zt then 0 else nt) - m) 0 (Nat.zero_le _) ?_ ?_
        · exact SubI.of0 href [] rfl ⟨br, br, br, br, br, br, br, trivial⟩ ⟨er, er, er, er, er, er, er, er, trivial⟩
        · intro m hm
          refine ex.sound (rc := []) tab_ok mix href _ ?_
          refine And.intro (fun h => ?_) (fun h => ?_)
          · have h : (m : Int) < ((bif zt then 0 else nt : Nat) : Int) := decT h
            refine oi ⟨by omega, by show (m : Int) < ((bif zt then 0 else nt : Nat) : Int); omega⟩ ?_
            refine ob (show (m : Int).toNat < nt by omega) ?_
            refine ⟨m + 1, by omega, by omega, ?_⟩
            exact SubI.of0 href [] rfl ⟨br, br, br, br, br, ⟨rfl, LeBx.junk⟩, br, trivial⟩ ⟨er, er, er, er, er, er, er, ⟨rfl, LeQ.int (w64_of (by omega) (by omega))⟩, trivial⟩
          · refine ⟨2, by decide, by decide, ?_⟩
            exact SubI.of0 href [] rfl ⟨br, br, br, br, br, br, trivial⟩ ⟨er, er, er, er, er, trivial⟩
      | 2, _ =>
        refine ex.sound (rc := []) tab_ok mix href _ ?_
        refine And.intro (fun h => by cases (show (decide ((2 : Int) < 2)) = true from h)) (fun _ => ?_)
        exact ⟨rfl, SubI.of0 href [] rfl ⟨br, br, br, br, trivial⟩ ⟨er, er, er, er, trivial⟩⟩
  · refine ex.sound (rc := []) tab_ok mix href _ ?_
    refine callN (rSameEq c (by omega) (by omega) hcr) ?_
    repeat first | refine sk ?_ | refine st ?_ | refine sg ?_ | refine sh ?_ | refine su ?_ | refine sn1 ?_ | refine sn0 ?_ | refine And.intro (show imp none (gimp _ none) from trivial) ?_
    refine callG (sameGrid g (by omega)) ?_
    repeat first | refine sk ?_ | refine st ?_ | refine sg ?_ | refine sh ?_ | refine su ?_ | refine sn1 ?_ | refine sn0 ?_ | refine And.intro (show imp none (gimp _ none) from trivial) ?_
    exact SubR.lit rfl
theorem mem02 (nm : ByteArray) (ax : List Ap) (ov bu : Int) (r0 r1 : Reg) (c : Chan) (hceq : c = ⟨nm, ax, ov, bu, [r0, r1]⟩) (g : Grid) (hc : c.ok) (hg : g.ok) (hs : small c = true) (hf : few g = true) (y0 : 0 < r0.corners.length) (m0 : r0.corners.length ≤ 45) (y1 : 0 < r1.corners.length) (m1 : r1.corners.length ≤ 45) (hB : (∃ e, CallP Try.prog 19 [chan c, vI 1] (.t [.g (zvs ty25.zero), .s (.d (dI e))]))) (hD : errC c = 0 ∧ errC (deepC c 1) = 0) : CallP Try.prog 6 [chan c, grid g] (vB true) := by
  have hsm : Sm c := Sm.of hs
  have hr : c.regions.length ≤ 1000 := by have := hsm.regions; omega
  have hax : c.axis.length ≤ 1000 := by have := hsm.axis; omega
  have hcr : ∀ i, i < c.regions.length → (c.regions.getD i default).corners.length ≤ 1000000 := fun i hi => by have := hsm.corners i hi; omega
  have hgl := few_len hf
  refine callP_of_aw Try.func6 rfl rfl Try.call6 tab_ok rfl rfl (fun cx href => ?_)
  refine AW.seq (ex.sound (rc := []) tab_ok mix href _ ?_)
  refine AW.seq (ex.sound (rc := []) tab_ok mix href _ ?_)
  refine callN awake ?_
  refine And.intro (fun h => by cases (show (!true) = true from h)) (fun _ => ?_)
  refine AW.seq (ex.sound (rc := []) tab_ok mix href _ ?_)
  refine callN (Small c hc) ?_
  repeat first | refine sk ?_ | refine st ?_ | refine sg ?_ | refine sh ?_ | refine su ?_ | refine sn1 ?_ | refine sn0 ?_ | refine And.intro (show imp none (gimp _ none) from trivial) ?_
  refine callG (Few g hg.levels) ?_
  repeat first | refine sk ?_ | refine st ?_ | refine sg ?_ | refine sh ?_ | refine su ?_ | refine sn1 ?_ | refine sn0 ?_ | refine And.intro (show imp none (gimp _ none) from trivial) ?_
  refine And.intro (fun h => ?_) (fun _ => ?_)
  · have h : (!small c || !few g) = true := h
    rw [hs, hf] at h; cases h
  refine AW.seq (ex.sound (rc := []) tab_ok mix href _ ?_)
  refine callN (Copied c hsm) ?_
  refine callN (CopyGrid g (by omega)) ?_
  refine And.intro (by kernel_rfl) ?_
  refine AW.cutE (fun q : Bool × Nat × ByteArray × Int × Int => ⟨[(2, .s (.ptr 2 0)), (3, .s (.ptr 3 0)), (5, .s (.ptr 5 0)), (6, .s (.ptr 6 0)), (7, .s (.ptr 7 0))], [(2, some (chanB c)), (3, some (gridB g)), (5, some (chanB c)), (6, some (gridB g)), (7, some (.cells [.d (dS q.2.2.1), .mo q.1 801, .d (dI q.2.2.2.1), .d (dI q.2.2.2.2), .d (.slc 0 3 junkF)])), (801, some (.mrow 58 q.2.1 5 junkF))]⟩) (fun q => q.2.1 ≤ 1000) ?_ ?_
  · obtain ⟨e, hx⟩ := hB
    refine ex.sound (rc := []) tab_ok mix href _ ?_
    refine callN hx ?_
    exact ⟨rfl, (true, 0, ⟨#[]⟩, 0, 0), Nat.zero_le _, SubI.of0 href [(801, 1000)] rfl ⟨br, br, br, br, ⟨rfl, LeBx.cells ⟨LeQ.rfl, LeQ.nil rfl, LeQ.rfl, LeQ.rfl, LeQ.d LeD.nil, trivial⟩⟩, ⟨rfl, rfl⟩, trivial⟩ ⟨er, er, er, er, er, trivial⟩⟩
  rintro ⟨z8, n8, s8, o8, u8⟩ hq8
  simp only at hq8 ⊢
  refine AW.cutE (fun q : Bool × Nat × ByteArray × Int × Int => ⟨[(2, .s (.ptr 2 0)), (3, .s (.ptr 3 0)), (5, .s (.ptr 5 0)), (6, .s (.ptr 6 0)), (7, .s (.ptr 7 0)), (9, .s (.ptr 9 0))], [(2, some (chanB c)), (3, some (gridB g)), (5, some (chanB c)), (6, some (gridB g)), (7, some (.cells [.d (dS s8), .mo z8 801, .d (dI o8), .d (dI u8), .d (.slc 0 3 junkF)])), (801, some (.mrow 58 n8 5 junkF)), (9, some (.cells [.d (dS q.2.2.1), .mo q.1 901, .d (dI q.2.2.2.1), .d (dI q.2.2.2.2), .osl 902 3 0 2])), (901, some (.mrow 58 q.2.1 5 junkF)), (902, some (.cells [.d .junk, .d .junk, .own 910, .d .junk, .d .junk, .own 911])), (910, some (.row 63 r0.corners.length 2 junkF)), (911, some (.row 63 r1.corners.length 2 junkF))]⟩) (fun q => q.2.1 ≤ 1000) ?_ ?_
  · subst hceq
    refine ex.sound (rc := [20]) tab_ok mix href _ ?_
    refine ⟨[(701, 901), (702, 902), (710, 910), (711, 911)], _, _, _, _, DeepO2 nm ax ov bu r0 r1 1 hc y0 (Nat.le_trans m0 (by decide)) y1 (Nat.le_trans m1 (by decide)) hD.1 (by decide) hD.2, rfl, trivial, rfl, ?_⟩
    exact ⟨rfl, (false, ax.length, nm, ov, bu), hax, SubI.of0 href [] rfl ⟨br, br, br, br, br, br, ⟨rfl, LeBx.cells ⟨LeQ.rfl, LeQ.mo rfl, LeQ.rfl, LeQ.rfl, LeQ.rfl, trivial⟩⟩, ⟨rfl, LeBx.rjunk⟩, ⟨rfl, LeBx.cells ⟨LeQ.junk, LeQ.junk, LeQ.rfl, LeQ.junk, LeQ.junk, LeQ.rfl, trivial⟩⟩, ⟨rfl, LeBx.jrow⟩, ⟨rfl, LeBx.jrow⟩, trivial⟩ ⟨er, er, er, er, er, er, trivial⟩⟩
  rintro ⟨z9, n9, s9, o9, u9⟩ hq9
  simp only at hq9 ⊢
  refine AW.cutE (fun q : Bool × Nat × Grid => ⟨[(2, .s (.ptr 2 0)), (3, .s (.ptr 3 0)), (5, .s (.ptr 5 0)), (6, .s (.ptr 6 0)), (7, .s (.ptr 7 0)), (9, .s (.ptr 9 0)), (11, .s (.ptr 11 0))], [(2, some (chanB c)), (3, some (gridB g)), (5, some (chanB c)), (6, some (gridB g)), (7, some (.cells [.d (dS s8), .mo z8 801, .d (dI o8), .d (dI u8), .d (.slc 0 3 junkF)])), (801, some (.mrow 58 n8 5 junkF)), (9, some (.cells [.d (dS s9), .mo z9 901, .d (dI o9), .d (dI u9), .osl 902 3 0 2])), (901, some (.mrow 58 n9 5 junkF)), (902, some (.cells [.d .junk, .d .junk, .own 910, .d .junk, .d .junk, .own 911])), (910, some (.row 63 r0.corners.length 2 junkF)), (911, some (.row 63 r1.corners.length 2 junkF)), (11, some (.cells [.d (dI q.2.2.x), .d (dI q.2.2.y), .d (dI q.2.2.side), .d (dI q.2.2.cols), .d (dI q.2.2.rows), .mo q.1 1001])), (1001, some (.mrow 3 q.2.1 1 junkF))]⟩) (fun q => q.2.1 ≤ 2000) ?_ ?_
  · by_cases he : withErr c [g] = 0
    · refine ex.sound (rc := [27]) tab_ok mix href _ ?_
      refine ⟨[(701, 1001)], _, _, _, _, DesignGridO c g hc hg he, rfl, trivial, rfl, ?_⟩
      exact ⟨rfl, (false, g.levels.length, g), by simp only; omega, SubI.of0 href [] rfl ⟨br, br, br, br, br, br, br, br, br, br, br, ⟨rfl, LeBx.cells ⟨LeQ.rfl, LeQ.rfl, LeQ.rfl, LeQ.rfl, LeQ.rfl, LeQ.mo rfl, trivial⟩⟩, ⟨rfl, LeBx.rjunk⟩, trivial⟩ ⟨er, er, er, er, er, er, er, trivial⟩⟩
    · refine ex.sound (rc := []) tab_ok mix href _ ?_
      refine callN (DesignGridE c g hc hg he) ?_
      exact ⟨rfl, (true, 0, zeroG), Nat.zero_le _, SubI.of0 href [(1001, 1000)] rfl ⟨br, br, br, br, br, br, br, br, br, br, br, ⟨rfl, LeBx.cells ⟨LeQ.rfl, LeQ.rfl, LeQ.rfl, LeQ.rfl, LeQ.rfl, LeQ.nil rfl, trivial⟩⟩, ⟨rfl, rfl⟩, trivial⟩ ⟨er, er, er, er, er, er, er, trivial⟩⟩
  rintro ⟨zd, nd, Gd⟩ hqnd
  simp only at hqnd ⊢
  refine AW.cutE (fun q : Bool × Nat × Grid => ⟨[(2, .s (.ptr 2 0)), (3, .s (.ptr 3 0)), (5, .s (.ptr 5 0)), (6, .s (.ptr 6 0)), (7, .s (.ptr 7 0)), (9, .s (.ptr 9 0)), (11, .s (.ptr 11 0)), (13, .s (.ptr 13 0))], [(2, some (chanB c)), (3, some (gridB g)), (5, some (chanB c)), (6, some (gridB g)), (7, some (.cells [.d (dS s8), .mo z8 801, .d (dI o8), .d (dI u8), .d (.slc 0 3 junkF)])), (801, some (.mrow 58 n8 5 junkF)), (9, some (.cells [.d (dS s9), .mo z9 901, .d (dI o9), .d (dI u9), .osl 902 3 0 2])), (901, some (.mrow 58 n9 5 junkF)), (902, some (.cells [.d .junk, .d .junk, .own 910, .d .junk, .d .junk, .own 911])), (910, some (.row 63 r0.corners.length 2 junkF)), (911, some (.row 63 r1.corners.length 2 junkF)), (11, some (.cells [.d (dI Gd.x), .d (dI Gd.y), .d (dI Gd.side), .d (dI Gd.cols), .d (dI Gd.rows), .mo zd 1001])), (1001, some (.mrow 3 nd 1 junkF)), (13, some (.cells [.d (dI q.2.2.x), .d (dI q.2.2.y), .d (dI q.2.2.side), .d (dI q.2.2.cols), .d (dI q.2.2.rows), .mo q.1 1002])), (1002, some (.mrow 3 q.2.1 1 junkF))]⟩) (fun q => q.2.1 ≤ 2000) ?_ ?_
  · by_cases he : withErr c [g] = 0
    · refine ex.sound (rc := [28]) tab_ok mix href _ ?_
      refine ⟨[(701, 1002)], _, _, _, _, ToleranceGridO c g hc hg he, rfl, trivial, rfl, ?_⟩
      exact ⟨rfl, (false, g.levels.length, g), by simp only; omega, SubI.of0 href [] rfl ⟨br, br, br, br, br, br, br, br, br, br, br, br, br, ⟨rfl, LeBx.cells ⟨LeQ.rfl, LeQ.rfl, LeQ.rfl, LeQ.rfl, LeQ.rfl, LeQ.mo rfl, trivial⟩⟩, ⟨rfl, LeBx.rjunk⟩, trivial⟩ ⟨er, er, er, er, er, er, er, er, trivial⟩⟩
    · refine ex.sound (rc := []) tab_ok mix href _ ?_
      refine callN (ToleranceGridE c g hc hg he) ?_
      exact ⟨rfl, (true, 0, zeroG), Nat.zero_le _, SubI.of0 href [(1002, 1000)] rfl ⟨br, br, br, br, br, br, br, br, br, br, br, br, br, ⟨rfl, LeBx.cells ⟨LeQ.rfl, LeQ.rfl, LeQ.rfl, LeQ.rfl, LeQ.rfl, LeQ.nil rfl, trivial⟩⟩, ⟨rfl, rfl⟩, trivial⟩ ⟨er, er, er, er, er, er, er, er, trivial⟩⟩
  rintro ⟨zt, nt, Gt⟩ hqnt
  simp only at hqnt ⊢
  refine AW.cut (σ' := ⟨bE ++ [], bB c g zd zt nd nt Gd Gt ++ []⟩) (ex.sound (rc := []) tab_ok mix href _ ?_) ?_
  · refine AW.loopI (fun i : Nat => match i with | 0 => (⟨bE ++ [(61, .g [.d (dS s8), .mo z8 801, .d (dI o8), .d (dI u8), .d (.slc 0 3 junkF), .d (dS s9), .mo z9 901, .d (dI o9), .d (dI u9), .osl 902 3 0 2]), (62, vI 0)], bB c g zd zt nd nt Gd Gt ++ [(801, some (.mrow 58 n8 5 junkF)), (901, some (.mrow 58 n9 5 junkF)), (902, some (.cells [.d .junk, .d .junk, .own 910, .d .junk, .d .junk, .own 911])), (910, some (.row 63 r0.corners.length 2 junkF)), (911, some (.row 63 r1.corners.length 2 junkF))]⟩ : St) | 1 => ⟨bE ++ [(61, .g [.d .junk, .d .junk, .d .junk, .d .junk, .d .junk, .d (dS s9), .mo z9 901, .d (dI o9), .d (dI u9), .osl 902 3 0 2]), (62, vI 1)], bB c g zd zt nd nt Gd Gt ++ [(901, some (.mrow 58 n9 5 junkF)), (902, some (.cells [.d .junk, .d .junk, .own 910, .d .junk, .d .junk, .own 911])), (910, some (.row 63 r0.corners.length 2 junkF)), (911, some (.row 63 r1.corners.length 2 junkF))]⟩ | _ => ⟨bE ++ [(62, vI 2)], bB c g zd zt nd nt Gd Gt ++ []⟩) (fun i => i ≤ 2) (fun i => 2 - i) 0 (Nat.zero_le _) ?_ ?_
    · exact SubI.of0 href [] rfl ⟨br, br, br, br, br, br, br, br, br, br, br, br, br, trivial⟩ ⟨er, er, er, er, er, er, er, er, trivial⟩
    · intro i hi
      match i, hi with
      | 0, _ =>
        refine AW.seq (ex.sound (rc := []) tab_ok mix href _ ?_)
        refine AW.seq (ex.sound (rc := []) tab_ok mix href _ ?_)
        refine And.intro (fun _ => ?_) (fun h => by cases (show (decide ((0 : Int) < 2)) = false from h))
        refine AW.seq (AW.block (AW.seq (ex.sound (rc := []) tab_ok mix href _ ?_)))
        refine oi ⟨by decide, by decide⟩ ?_
        have hzn := bif_le (z := z8) (n := n8)
        refine AW.cut (σ' := ⟨bE ++ [(61, .g [.d .junk, .d .junk, .d .junk, .d .junk, .d .junk, .d (dS s9), .mo z9 901, .d (dI o9), .d (dI u9), .osl 902 3 0 2]), (62, vI 0), (16, .s (.ptr 16 0))], bB c g zd zt nd nt Gd Gt ++ [(16, some (.cells [.d (dS s8), .mo z8 801, .d (dI o8), .d (dI u8), .d (.slc 0 3 junkF)])), (801, some (.mrow 58 n8 5 junkF)), (901, some (.mrow 58 n9 5 junkF)), (902, some (.cells [.d .junk, .d .junk, .own 910, .d .junk, .d .junk, .own 911])), (910, some (.row 63 r0.corners.length 2 junkF)), (911, some (.row 63 r1.corners.length 2 junkF))]⟩) (ex.sound (rc := []) tab_ok mix href _ ?_) ?_
        · refine AW.loopI (fun m : Nat => (⟨bE ++ [(61, .g [.d .junk, .d .junk, .d .junk, .d .junk, .d .junk, .d (dS s9), .mo z9 901, .d (dI o9), .d (dI u9), .osl 902 3 0 2]), (62, vI 0), (16, .s (.ptr 16 0)), (17, vI m)], bB c g zd zt nd nt Gd Gt ++ [(16, some (.cells [.d (dS s8), .mo z8 801, .d (dI o8), .d (dI u8), .d (.slc 0 3 junkF)])), (801, some (.mrow 58 n8 5 junkF)), (901, some (.mrow 58 n9 5 junkF)), (902, some (.cells [.d .junk, .d .junk, .own 910, .d .junk, .d .junk, .own 911])), (910, some (.row 63 r0.corners.length 2 junkF)), (911, some (.row 63 r1.corners.length 2 junkF))]⟩ : St)) (fun m => m ≤ (bif z8 then 0 else n8)) (fun m => (bif z8 then 0 else n8) - m) 0 (Nat.zero_le _) ?_ ?_
          · exact SubI.of0 href [] rfl ⟨br, br, br, br, br, br, br, br, br, br, br, br, br, br, trivial⟩ ⟨er, er, er, er, er, er, ⟨rfl, LeQ.g ⟨LeQ.junk, LeQ.junk, LeQ.junk, LeQ.junk, LeQ.junk, LeQ.rfl, LeQ.rfl, LeQ.rfl, LeQ.rfl, LeQ.rfl, trivial⟩⟩, er, er, er, trivial⟩
          · intro m hm
            refine ex.sound (rc := []) tab_ok mix href _ ?_
            refine And.intro (fun h => ?_) (fun h => ?_)
            · have h : (m : Int) < ((bif z8 then 0 else n8 : Nat) : Int) := decT h
              refine oi ⟨by omega, by show (m : Int) < ((bif z8 then 0 else n8 : Nat) : Int); omega⟩ ?_
              refine ob (show (m : Int).toNat < n8 by omega) ?_
              refine ⟨m + 1, by omega, by omega, ?_⟩
              exact SubI.of0 href [] rfl ⟨br, br, br, br, br, br, br, br, br, ⟨rfl, LeBx.junk⟩, br, br, br, br, trivial⟩ ⟨er, er, er, er, er, er, er, er, er, ⟨rfl, LeQ.int (w64_of (by omega) (by omega))⟩, trivial⟩
            · exact ⟨rfl, SubI.of0 href [] rfl ⟨br, br, br, br, br, br, br, br, br, br, br, br, br, br, trivial⟩ ⟨er, er, er, er, er, er, er, er, er, trivial⟩⟩
        refine AW.seq (ex.sound (rc := []) tab_ok mix href _ ?_)
        refine ex.sound (rc := []) tab_ok mix href _ ?_
        refine AW.loopI (fun j : Nat => (⟨bE ++ [(61, .g [.d .junk, .d .junk, .d .junk, .d .junk, .d .junk, .d (dS s9), .mo z9 901, .d (dI o9), .d (dI u9), .osl 902 3 0 2]), (62, vI 0), (16, .s (.ptr 16 0)), (18, vI j)], bB c g zd zt nd nt Gd Gt ++ [(16, some (.cells [.d (dS s8), .mo z8 801, .d (dI o8), .d (dI u8), .d (.slc 0 3 junkF)])), (801, some (.mrow 58 n8 5 junkF)), (901, some (.mrow 58 n9 5 junkF)), (902, some (.cells [.d .junk, .d .junk, .own 910, .d .junk, .d .junk, .own 911])), (910, some (.row 63 r0.corners.length 2 junkF)), (911, some (.row 63 r1.corners.length 2 junkF))]⟩ : St)) (fun j => j ≤ 0) (fun j => 0 - j) 0 (Nat.zero_le _) ?_ ?_
        · exact SubI.of0 href [] rfl ⟨br, br, br, br, br, br, br, br, br, br, br, br, br, br, trivial⟩ ⟨er, er, er, er, er, er, er, er, er, er, trivial⟩
        · intro j hj
          match j, hj with
          | 0, _ =>
            refine ex.sound (rc := []) tab_ok mix href _ ?_
            refine And.intro (fun h => by cases (show (decide ((0 : Int) < 0)) = true from h)) (fun _ => ?_)
            refine ex.sound (rc := []) tab_ok mix href _ ?_
            refine ⟨1, by decide, by decide, ?_⟩
            exact SubI.of0 href [] rfl ⟨br, br, br, br, br, br, br, br, br, br, br, br, trivial⟩ ⟨er, er, er, er, er, er, er, er, trivial⟩
      | 1, _ =>
        refine AW.seq (ex.sound (rc := []) tab_ok mix href _ ?_)
        refine AW.seq (ex.sound (rc := []) tab_ok mix href _ ?_)
        refine And.intro (fun _ => ?_) (fun h => by cases (show (decide ((1 : Int) < 2)) = false from h))
        refine AW.seq (AW.block (AW.seq (ex.sound (rc := []) tab_ok mix href _ ?_)))
        refine oi ⟨by decide, by decide⟩ ?_
        have hzn := bif_le (z := z9) (n := n9)
        refine AW.cut (σ' := ⟨bE ++ [(62, vI 1), (16, .s (.ptr 16 0))], bB c g zd zt nd nt Gd Gt ++ [(16, some (.cells [.d (dS s9), .mo z9 901, .d (dI o9), .d (dI u9), .osl 902 3 0 2])), (901, some (.mrow 58 n9 5 junkF)), (902, some (.cells [.d .junk, .d .junk, .own 910, .d .junk, .d .junk, .own 911])), (910, some (.row 63 r0.corners.length 2 junkF)), (911, some (.row 63 r1.corners.length 2 junkF))]⟩) (ex.sound (rc := []) tab_ok mix href _ ?_) ?_
        · refine AW.loopI (fun m : Nat => (⟨bE ++ [(62, vI 1), (16, .s (.ptr 16 0)), (17, vI m)], bB c g zd zt nd nt Gd Gt ++ [(16, some (.cells [.d (dS s9), .mo z9 901, .d (dI o9), .d (dI u9), .osl 902 3 0 2])), (901, some (.mrow 58 n9 5 junkF)), (902, some (.cells [.d .junk, .d .junk, .own 910, .d .junk, .d .junk, .own 911])), (910, some (.row 63 r0.corners.length 2 junkF)), (911, some (.row 63 r1.corners.length 2 junkF))]⟩ : St)) (fun m => m ≤ (bif z9 then 0 else n9)) (fun m => (bif z9 then 0 else n9) - m) 0 (Nat.zero_le _) ?_ ?_
          · exact SubI.of0 href [] rfl ⟨br, br, br, br, br, br, br, br, br, br, br, br, br, trivial⟩ ⟨er, er, er, er, er, er, er, er, er, trivial⟩
          · intro m hm
            refine ex.sound (rc := []) tab_ok mix href _ ?_
            refine And.intro (fun h => ?_) (fun h => ?_)
            · have h : (m : Int) < ((bif z9 then 0 else n9 : Nat) : Int) := decT h
              refine oi ⟨by omega, by show (m : Int) < ((bif z9 then 0 else n9 : Nat) : Int); omega⟩ ?_
              refine ob (show (m : Int).toNat < n9 by omega) ?_
              refine ⟨m + 1, by omega, by omega, ?_⟩
              exact SubI.of0 href [] rfl ⟨br, br, br, br, br, br, br, br, br, ⟨rfl, LeBx.junk⟩, br, br, br, trivial⟩ ⟨er, er, er, er, er, er, er, er, ⟨rfl, LeQ.int (w64_of (by omega) (by omega))⟩, trivial⟩
            · exact ⟨rfl, SubI.of0 href [] rfl ⟨br, br, br, br, br, br, br, br, br, br, br, br, br, trivial⟩ ⟨er, er, er, er, er, er, er, er, trivial⟩⟩
        refine AW.seq (ex.sound (rc := []) tab_ok mix href _ ?_)
        refine ex.sound (rc := []) tab_ok mix href _ ?_
        refine AW.loopI (fun j : Nat => (⟨bE ++ [(62, vI 1), (16, .s (.ptr 16 0)), (18, vI j)], bB c g zd zt nd nt Gd Gt ++ [(16, some (.cells [.d (dS s9), .mo z9 901, .d (dI o9), .d (dI u9), .osl 902 3 0 2])), (901, some (.mrow 58 n9 5 junkF)), (902, some (.cells [.d .junk, .d .junk, .own 910, .d .junk, .d .junk, .own 911])), (910, some (.row 63 r0.corners.length 2 junkF)), (911, some (.row 63 r1.corners.length 2 junkF))]⟩ : St)) (fun j => j ≤ 2) (fun j => 2 - j) 0 (Nat.zero_le _) ?_ ?_
        · exact SubI.of0 href [] rfl ⟨br, br, br, br, br, br, br, br, br, br, br, br, br, trivial⟩ ⟨er, er, er, er, er, er, er, er, er, trivial⟩
        · intro j hj
          match j, hj with
          | 0, _ =>
            refine AW.seq (ex.sound (rc := []) tab_ok mix href _ ?_)
            refine And.intro (fun _ => ?_) (fun h => by cases (show (decide ((0 : Int) < 2)) = false from h))
            refine AW.seq (AW.block ?_)
            refine AW.cut (σ' := ⟨bE ++ [(62, vI 1), (16, .s (.ptr 16 0)), (18, vI 0)], bB c g zd zt nd nt Gd Gt ++ [(16, some (.cells [.d (dS s9), .mo z9 901, .d (dI o9), .d (dI u9), .osl 902 3 0 2])), (901, some (.mrow 58 n9 5 junkF)), (902, some (.cells [.d .junk, .d .junk, .own 910, .d .junk, .d .junk, .own 911])), (910, some (.row 63 r0.corners.length 2 junkF)), (911, some (.row 63 r1.corners.length 2 junkF))]⟩) (ex.sound (rc := []) tab_ok mix href _ ?_) ?_
            · refine AW.loopI (fun m : Nat => (⟨bE ++ [(62, vI 1), (16, .s (.ptr 16 0)), (18, vI 0), (19, vI m)], bB c g zd zt nd nt Gd Gt ++ [(16, some (.cells [.d (dS s9), .mo z9 901, .d (dI o9), .d (dI u9), .osl 902 3 0 2])), (901, some (.mrow 58 n9 5 junkF)), (902, some (.cells [.d .junk, .d .junk, .own 910, .d .junk, .d .junk, .own 911])), (910, some (.row 63 r0.corners.length 2 junkF)), (911, some (.row 63 r1.corners.length 2 junkF))]⟩ : St)) (fun m => m ≤ r0.corners.length) (fun m => r0.corners.length - m) 0 (Nat.zero_le _) ?_ ?_
              · exact SubI.of0 href [] rfl ⟨br, br, br, br, br, br, br, br, br, br, br, br, br, trivial⟩ ⟨er, er, er, er, er, er, er, er, er, er, trivial⟩
              · intro m hm
                refine ex.sound (rc := []) tab_ok mix href _ ?_
                refine oi ⟨by decide, by decide⟩ ?_
                refine And.intro (fun h => ?_) (fun h => ?_)
                · have h : (m : Int) < (r0.corners.length : Int) := decT h
                  refine oi ⟨by decide, by decide⟩ ?_
                  refine oi ⟨by omega, by omega⟩ ?_
                  refine ob (show (m : Int).toNat < r0.corners.length by omega) ?_
                  refine ⟨m + 1, by omega, by omega, ?_⟩
                  exact SubI.of0 href [] rfl ⟨br, br, br, br, br, br, br, br, br, br, br, ⟨rfl, LeBx.jrow⟩, br, trivial⟩ ⟨er, er, er, er, er, er, er, er, er, ⟨rfl, LeQ.int (w64_of (by omega) (by omega))⟩, trivial⟩
                · exact ⟨rfl, SubI.of0 href [] rfl ⟨br, br, br, br, br, br, br, br, br, br, br, br, br, trivial⟩ ⟨er, er, er, er, er, er, er, er, er, trivial⟩⟩
            · refine ex.sound (rc := []) tab_ok mix href _ ?_
              refine oi ⟨by decide, by decide⟩ ?_
              refine ex.sound (rc := []) tab_ok mix href _ ?_
              refine ⟨1, by decide, by decide, ?_⟩
              exact SubI.of0 href [] rfl ⟨br, br, br, br, br, br, br, br, br, br, ⟨rfl, LeBx.cells ⟨LeQ.junk, LeQ.junk, LeQ.rfl, LeQ.junk, LeQ.junk, LeQ.rfl, trivial⟩⟩, br, br, trivial⟩ ⟨er, er, er, er, er, er, er, er, er, trivial⟩
          | 1, _ =>
            refine AW.seq (ex.sound (rc := []) tab_ok mix href _ ?_)
            refine And.intro (fun _ => ?_) (fun h => by cases (show (decide ((1 : Int) < 2)) = false from h))
            refine AW.seq (AW.block ?_)
            refine AW.cut (σ' := ⟨bE ++ [(62, vI 1), (16, .s (.ptr 16 0)), (18, vI 1)], bB c g zd zt nd nt Gd Gt ++ [(16, some (.cells [.d (dS s9), .mo z9 901, .d (dI o9), .d (dI u9), .osl 902 3 0 2])), (901, some (.mrow 58 n9 5 junkF)), (902, some (.cells [.d .junk, .d .junk, .own 910, .d .junk, .d .junk, .own 911])), (910, some (.row 63 r0.corners.length 2 junkF)), (911, some (.row 63 r1.corners.length 2 junkF))]⟩) (ex.sound (rc := []) tab_ok mix href _ ?_) ?_
            · refine AW.loopI (fun m : Nat => (⟨bE ++ [(62, vI 1), (16, .s (.ptr 16 0)), (18, vI 1), (19, vI m)], bB c g zd zt nd nt Gd Gt ++ [(16, some (.cells [.d (dS s9), .mo z9 901, .d (dI o9), .d (dI u9), .osl 902 3 0 2])), (901, some (.mrow 58 n9 5 junkF)), (902, some (.cells [.d .junk, .d .junk, .own 910, .d .junk, .d .junk, .own 911])), (910, some (.row 63 r0.corners.length 2 junkF)), (911, some (.row 63 r1.corners.length 2 junkF))]⟩ : St)) (fun m => m ≤ r1.corners.length) (fun m => r1.corners.length - m) 0 (Nat.zero_le _) ?_ ?_
              · exact SubI.of0 href [] rfl ⟨br, br, br, br, br, br, br, br, br, br, br, br, br, trivial⟩ ⟨er, er, er, er, er, er, er, er, er, er, trivial⟩
              · intro m hm
                refine ex.sound (rc := []) tab_ok mix href _ ?_
                refine oi ⟨by decide, by decide⟩ ?_
                refine And.intro (fun h => ?_) (fun h => ?_)
                · have h : (m : Int) < (r1.corners.length : Int) := decT h
                  refine oi ⟨by decide, by decide⟩ ?_
                  refine oi ⟨by omega, by omega⟩ ?_
                  refine ob (show (m : Int).toNat < r1.corners.length by omega) ?_
                  refine ⟨m + 1, by omega, by omega, ?_⟩
                  exact SubI.of0 href [] rfl ⟨br, br, br, br, br, br, br, br, br, br, br, br, ⟨rfl, LeBx.jrow⟩, trivial⟩ ⟨er, er, er, er, er, er, er, er, er, ⟨rfl, LeQ.int (w64_of (by omega) (by omega))⟩, trivial⟩
                · exact ⟨rfl, SubI.of0 href [] rfl ⟨br, br, br, br, br, br, br, br, br, br, br, br, br, trivial⟩ ⟨er, er, er, er, er, er, er, er, er, trivial⟩⟩
            · refine ex.sound (rc := []) tab_ok mix href _ ?_
              refine oi ⟨by decide, by decide⟩ ?_
              refine ex.sound (rc := []) tab_ok mix href _ ?_
              refine ⟨2, by decide, by decide, ?_⟩
              exact SubI.of0 href [] rfl ⟨br, br, br, br, br, br, br, br, br, br, ⟨rfl, LeBx.cells ⟨LeQ.junk, LeQ.junk, LeQ.rfl, LeQ.junk, LeQ.junk, LeQ.rfl, trivial⟩⟩, br, br, trivial⟩ ⟨er, er, er, er, er, er, er, er, er, trivial⟩
          | 2, _ =>
            refine ex.sound (rc := []) tab_ok mix href _ ?_
            refine And.intro (fun h => by cases (show (decide ((2 : Int) < 2)) = true from h)) (fun _ => ?_)
            refine ex.sound (rc := []) tab_ok mix href _ ?_
            refine ⟨2, by decide, by decide, ?_⟩
            exact SubI.of0 href [] rfl ⟨br, br, br, br, br, br, br, br, trivial⟩ ⟨er, er, er, er, er, er, er, trivial⟩
      | 2, _ =>
        refine ex.sound (rc := []) tab_ok mix href _ ?_
        refine And.intro (fun h => by cases (show (decide ((2 : Int) < 2)) = true from h)) (fun _ => ?_)
        exact ⟨rfl, SubI.of0 href [] rfl ⟨br, br, br, br, br, br, br, br, trivial⟩ ⟨er, er, er, er, er, er, trivial⟩⟩
  refine AW.cut (σ' := ⟨[(2, .s (.ptr 2 0)), (3, .s (.ptr 3 0)), (5, .s (.ptr 5 0)), (6, .s (.ptr 6 0))], [(2, some (chanB c)), (3, some (gridB g)), (5, some (chanB c)), (6, some (gridB g))]⟩) (ex.sound (rc := []) tab_ok mix href _ ?_) ?_
  · refine AW.loopI (fun i : Nat => match i with | 0 => (⟨[(2, .s (.ptr 2 0)), (3, .s (.ptr 3 0)), (5, .s (.ptr 5 0)), (6, .s (.ptr 6 0)), (112, .g [.d (dI Gd.x), .d (dI Gd.y), .d (dI Gd.side), .d (dI Gd.cols), .d (dI Gd.rows), .mo zd 1001, .d (dI Gt.x), .d (dI Gt.y), .d (dI Gt.side), .d (dI Gt.cols), .d (dI Gt.rows), .mo zt 1002]), (113, vI 0)], [(2, some (chanB c)), (3, some (gridB g)), (5, some (chanB c)), (6, some (gridB g)), (1001, some (.mrow 3 nd 1 junkF)), (1002, some (.mrow 3 nt 1 junkF))]⟩ : St) | 1 => ⟨[(2, .s (.ptr 2 0)), (3, .s (.ptr 3 0)), (5, .s (.ptr 5 0)), (6, .s (.ptr 6 0)), (112, .g [.d (dI Gd.x), .d (dI Gd.y), .d (dI Gd.side), .d (dI Gd.cols), .d (dI Gd.rows), .mo zd 1001, .d (dI Gt.x), .d (dI Gt.y), .d (dI Gt.side), .d (dI Gt.cols), .d (dI Gt.rows), .mo zt 1002]), (113, vI 1)], [(2, some (chanB c)), (3, some (gridB g)), (5, some (chanB c)), (6, some (gridB g)), (1001, some (.mrow 3 nd 1 junkF)), (1002, some (.mrow 3 nt 1 junkF))]⟩ | _ => ⟨[(2, .s (.ptr 2 0)), (3, .s (.ptr 3 0)), (5, .s (.ptr 5 0)), (6, .s (.ptr 6 0)), (113, vI 2)], [(2, some (chanB c)), (3, some (gridB g)), (5, some (chanB c)), (6, some (gridB g)), (1001, some (.mrow 3 nd 1 junkF)), (1002, some (.mrow 3 nt 1 junkF))]⟩) (fun i => i ≤ 2) (fun i => 2 - i) 0 (Nat.zero_le _) ?_ ?_
    · exact SubI.of0 href [] rfl ⟨br, br, br, br, br, br, trivial⟩ ⟨er, er, er, er, er, er, trivial⟩
    · intro i hi
      match i, hi with
      | 0, _ =>
        refine ex.sound (rc := []) tab_ok mix href _ ?_
        refine And.intro (fun _ => ?_) (fun h => by cases (show (decide ((0 : Int) < 2)) = false from h))
        refine oi ⟨by decide, by decide⟩ ?_
        have hzn := bif_le (z := zd) (n := nd)
        refine AW.loopI (fun m : Nat => (⟨[(2, .s (.ptr 2 0)), (3, .s (.ptr 3 0)), (5, .s (.ptr 5 0)), (6, .s (.ptr 6 0)), (112, .g [.d (dI Gd.x), .d (dI Gd.y), .d (dI Gd.side), .d (dI Gd.cols), .d (dI Gd.rows), .mo zd 1001, .d (dI Gt.x), .d (dI Gt.y), .d (dI Gt.side), .d (dI Gt.cols), .d (dI Gt.rows), .mo zt 1002]), (113, vI 0), (21, .s (.ptr 21 0)), (22, vI m)], [(2, some (chanB c)), (3, some (gridB g)), (5, some (chanB c)), (6, some (gridB g)), (1001, some (.mrow 3 nd 1 junkF)), (1002, some (.mrow 3 nt 1 junkF)), (21, some (.cells [.d (dI Gd.x), .d (dI Gd.y), .d (dI Gd.side), .d (dI Gd.cols), .d (dI Gd.rows), .mo zd 1001]))]⟩ : St)) (fun m => m ≤ (bif zd then 0 else nd)) (fun m => (bif zd then 0 else nd) - m) 0 (Nat.zero_le _) ?_ ?_
        · exact SubI.of0 href [] rfl ⟨br, br, br, br, br, br, br, trivial⟩ ⟨er, er, er, er, er, er, er, er, trivial⟩
        · intro m hm
          refine ex.sound (rc := []) tab_ok mix href _ ?_
          refine And.intro (fun h => ?_) (fun h => ?_)
          · have h : (m : Int) < ((bif zd then 0 else nd : Nat) : Int) := decT h
            refine oi ⟨by omega, by show (m : Int) < ((bif zd then 0 else nd : Nat) : Int); omega⟩ ?_
            refine ob (show (m : Int).toNat < nd by omega) ?_
            refine ⟨m + 1, by omega, by omega, ?_⟩
            exact SubI.of0 href [] rfl ⟨br, br, br, br, ⟨rfl, LeBx.junk⟩, br, br, trivial⟩ ⟨er, er, er, er, er, er, er, ⟨rfl, LeQ.int (w64_of (by omega) (by omega))⟩, trivial⟩
          · refine ⟨1, by decide, by decide, ?_⟩
            exact SubI.of0 href [] rfl ⟨br, br, br, br, br, br, trivial⟩ ⟨er, er, er, er, er, er, trivial⟩
      | 1, _ =>
        refine ex.sound (rc := []) tab_ok mix href _ ?_
        refine And.intro (fun _ => ?_) (fun h => by cases (show (decide ((1 : Int) < 2)) = false from h))
        refine oi ⟨by decide, by decide⟩ ?_
        have hzn := bif_le (z := zt) (n := nt)
        refine AW.loopI (fun m : Nat => (⟨[(2, .s (.ptr 2 0)), (3, .s (.ptr 3 0)), (5, .s (.ptr 5 0)), (6, .s (.ptr 6 0)), (112, .g [.d (dI Gd.x), .d (dI Gd.y), .d (dI Gd.side), .d (dI Gd.cols), .d (dI Gd.rows), .mo zd 1001, .d (dI Gt.x), .d (dI Gt.y), .d (dI Gt.side), .d (dI Gt.cols), .d (dI Gt.rows), .mo zt 1002]), (113, vI 1), (21, .s (.ptr 21 0)), (22, vI m)], [(2, some (chanB c)), (3, some (gridB g)), (5, some (chanB c)), (6, some (gridB g)), (1001, some (.mrow 3 nd 1 junkF)), (1002, some (.mrow 3 nt 1 junkF)), (21, some (.cells [.d (dI Gt.x), .d (dI Gt.y), .d (dI Gt.side), .d (dI Gt.cols), .d (dI Gt.rows), .mo zt 1002]))]⟩ : St)) (fun m => m ≤ (bif zt then 0 else nt)) (fun m => (bif zt then 0 else nt) - m) 0 (Nat.zero_le _) ?_ ?_
        · exact SubI.of0 href [] rfl ⟨br, br, br, br, br, br, br, trivial⟩ ⟨er, er, er, er, er, er, er, er, trivial⟩
        · intro m hm
          refine ex.sound (rc := []) tab_ok mix href _ ?_
          refine And.intro (fun h => ?_) (fun h => ?_)
          · have h : (m : Int) < ((bif zt then 0 else nt : Nat) : Int) := decT h
            refine oi ⟨by omega, by show (m : Int) < ((bif zt then 0 else nt : Nat) : Int); omega⟩ ?_
            refine ob (show (m : Int).toNat < nt by omega) ?_
            refine ⟨m + 1, by omega, by omega, ?_⟩
            exact SubI.of0 href [] rfl ⟨br, br, br, br, br, ⟨rfl, LeBx.junk⟩, br, trivial⟩ ⟨er, er, er, er, er, er, er, ⟨rfl, LeQ.int (w64_of (by omega) (by omega))⟩, trivial⟩
          · refine ⟨2, by decide, by decide, ?_⟩
            exact SubI.of0 href [] rfl ⟨br, br, br, br, br, br, trivial⟩ ⟨er, er, er, er, er, trivial⟩
      | 2, _ =>
        refine ex.sound (rc := []) tab_ok mix href _ ?_
        refine And.intro (fun h => by cases (show (decide ((2 : Int) < 2)) = true from h)) (fun _ => ?_)
        exact ⟨rfl, SubI.of0 href [] rfl ⟨br, br, br, br, trivial⟩ ⟨er, er, er, er, trivial⟩⟩
  · refine ex.sound (rc := []) tab_ok mix href _ ?_
    refine callN (rSameEq c (by omega) (by omega) hcr) ?_
    repeat first | refine sk ?_ | refine st ?_ | refine sg ?_ | refine sh ?_ | refine su ?_ | refine sn1 ?_ | refine sn0 ?_ | refine And.intro (show imp none (gimp _ none) from trivial) ?_
    refine callG (sameGrid g (by omega)) ?_
    repeat first | refine sk ?_ | refine st ?_ | refine sg ?_ | refine sh ?_ | refine su ?_ | refine sn1 ?_ | refine sn0 ?_ | refine And.intro (show imp none (gimp _ none) from trivial) ?_
    exact SubR.lit rfl
theorem mem22 (nm : ByteArray) (ax : List Ap) (ov bu : Int) (r0 r1 : Reg) (c : Chan) (hceq : c = ⟨nm, ax, ov, bu, [r0, r1]⟩) (g : Grid) (hc : c.ok) (hg : g.ok) (hs : small c = true) (hf : few g = true) (y0 : 0 < r0.corners.length) (m0 : r0.corners.length ≤ 45) (y1 : 0 < r1.corners.length) (m1 : r1.corners.length ≤ 45) (hB : errC c = 0 ∧ errC (boxC c 1) = 0) (hD : errC c = 0 ∧ errC (deepC c 1) = 0) : CallP Try.prog 6 [chan c, grid g] (vB true) := by
  have hsm : Sm c := Sm.of hs
  have hr : c.regions.length ≤ 1000 := by have := hsm.regions; omega
  have hax : c.axis.length ≤ 1000 := by have := hsm.axis; omega
  have hcr : ∀ i, i < c.regions.length → (c.regions.getD i default).corners.length ≤ 1000000 := fun i hi => by have := hsm.corners i hi; omega
  have hgl := few_len hf
  refine callP_of_aw Try.func6 rfl rfl Try.call6 tab_ok rfl rfl (fun cx href => ?_)
  refine AW.seq (ex.sound (rc := []) tab_ok mix href _ ?_)
  refine AW.seq (ex.sound (rc := []) tab_ok mix href _ ?_)
  refine callN awake ?_
  refine And.intro (fun h => by cases (show (!true) = true from h)) (fun _ => ?_)
  refine AW.seq (ex.sound (rc := []) tab_ok mix href _ ?_)
  refine callN (Small c hc) ?_
  repeat first | refine sk ?_ | refine st ?_ | refine sg ?_ | refine sh ?_ | refine su ?_ | refine sn1 ?_ | refine sn0 ?_ | refine And.intro (show imp none (gimp _ none) from trivial) ?_
  refine callG (Few g hg.levels) ?_
  repeat first | refine sk ?_ | refine st ?_ | refine sg ?_ | refine sh ?_ | refine su ?_ | refine sn1 ?_ | refine sn0 ?_ | refine And.intro (show imp none (gimp _ none) from trivial) ?_
  refine And.intro (fun h => ?_) (fun _ => ?_)
  · have h : (!small c || !few g) = true := h
    rw [hs, hf] at h; cases h
  refine AW.seq (ex.sound (rc := []) tab_ok mix href _ ?_)
  refine callN (Copied c hsm) ?_
  refine callN (CopyGrid g (by omega)) ?_
  refine And.intro (by kernel_rfl) ?_
  refine AW.cutE (fun q : Bool × Nat × ByteArray × Int × Int => ⟨[(2, .s (.ptr 2 0)), (3, .s (.ptr 3 0)), (5, .s (.ptr 5 0)), (6, .s (.ptr 6 0)), (7, .s (.ptr 7 0))], [(2, some (chanB c)), (3, some (gridB g)), (5, some (chanB c)), (6, some (gridB g)), (7, some (.cells [.d (dS q.2.2.1), .mo q.1 801, .d (dI q.2.2.2.1), .d (dI q.2.2.2.2), .osl 802 3 0 2])), (801, some (.mrow 58 q.2.1 5 junkF)), (802, some (.cells [.d .junk, .d .junk, .own 810, .d .junk, .d .junk, .own 811])), (810, some (.row 63 r0.corners.length 2 junkF)), (811, some (.row 63 r1.corners.length 2 junkF))]⟩) (fun q => q.2.1 ≤ 1000) ?_ ?_
  · subst hceq
    refine ex.sound (rc := [19]) tab_ok mix href _ ?_
    refine ⟨[(701, 801), (702, 802), (710, 810), (711, 811)], _, _, _, _, BoxO2 nm ax ov bu r0 r1 1 hc y0 (Nat.le_trans m0 (by decide)) y1 (Nat.le_trans m1 (by decide)) hB.1 (by decide) hB.2, rfl, trivial, rfl, ?_⟩
    exact ⟨rfl, (false, ax.length, nm, ov, bu), hax, SubI.of0 href [] rfl ⟨br, br, br, br, ⟨rfl, LeBx.cells ⟨LeQ.rfl, LeQ.mo rfl, LeQ.rfl, LeQ.rfl, LeQ.rfl, trivial⟩⟩, ⟨rfl, LeBx.rjunk⟩, ⟨rfl, LeBx.cells ⟨LeQ.junk, LeQ.junk, LeQ.rfl, LeQ.junk, LeQ.junk, LeQ.rfl, trivial⟩⟩, ⟨rfl, LeBx.jrow⟩, ⟨rfl, LeBx.jrow⟩, trivial⟩ ⟨er, er, er, er, er, trivial⟩⟩
  rintro ⟨z8, n8, s8, o8, u8⟩ hq8
  simp only at hq8 ⊢
  refine AW.cutE (fun q : Bool × Nat × ByteArray × Int × Int => ⟨[(2, .s (.ptr 2 0)), (3, .s (.ptr 3 0)), (5, .s (.ptr 5 0)), (6, .s (.ptr 6 0)), (7, .s (.ptr 7 0)), (9, .s (.ptr 9 0))], [(2, some (chanB c)), (3, some (gridB g)), (5, some (chanB c)), (6, some (gridB g)), (7, some (.cells [.d (dS s8), .mo z8 801, .d (dI o8), .d (dI u8), .osl 802 3 0 2])), (801, some (.mrow 58 n8 5 junkF)), (802, some (.cells [.d .junk, .d .junk, .own 810, .d .junk, .d .junk, .own 811])), (810, some (.row 63 r0.corners.length 2 junkF)), (811, some (.row 63 r1.corners.length 2 junkF)), (9, some (.cells [.d (dS q.2.2.1), .mo q.1 901, .d (dI q.2.2.2.1), .d (dI q.2.2.2.2), .osl 902 3 0 2])), (901, some (.mrow 58 q.2.1 5 junkF)), (902, some (.cells [.d .junk, .d .junk, .own 910, .d .junk, .d .junk, .own 911])), (910, some (.row 63 r0.corners.length 2 junkF)), (911, some (.row 63 r1.corners.length 2 junkF))]⟩) (fun q => q.2.1 ≤ 1000) ?_ ?_
  · subst hceq
    refine ex.sound (rc := [20]) tab_ok mix href _ ?_
    refine ⟨[(701, 901), (702, 902), (710, 910), (711, 911)], _, _, _, _, DeepO2 nm ax ov bu r0 r1 1 hc y0 (Nat.le_trans m0 (by decide)) y1 (Nat.le_trans m1 (by decide)) hD.1 (by decide) hD.2, rfl, trivial, rfl, ?_⟩
    exact ⟨rfl, (false, ax.length, nm, ov, bu), hax, SubI.of0 href [] rfl ⟨br, br, br, br, br, br, br, br, br, ⟨rfl, LeBx.cells ⟨LeQ.rfl, LeQ.mo rfl, LeQ.rfl, LeQ.rfl, LeQ.rfl, trivial⟩⟩, ⟨rfl, LeBx.rjunk⟩, ⟨rfl, LeBx.cells ⟨LeQ.junk, LeQ.junk, LeQ.rfl, LeQ.junk, LeQ.junk, LeQ.rfl, trivial⟩⟩, ⟨rfl, LeBx.jrow⟩, ⟨rfl, LeBx.jrow⟩, trivial⟩ ⟨er, er, er, er, er, er, trivial⟩⟩
  rintro ⟨z9, n9, s9, o9, u9⟩ hq9
  simp only at hq9 ⊢
  refine AW.cutE (fun q : Bool × Nat × Grid => ⟨[(2, .s (.ptr 2 0)), (3, .s (.ptr 3 0)), (5, .s (.ptr 5 0)), (6, .s (.ptr 6 0)), (7, .s (.ptr 7 0)), (9, .s (.ptr 9 0)), (11, .s (.ptr 11 0))], [(2, some (chanB c)), (3, some (gridB g)), (5, some (chanB c)), (6, some (gridB g)), (7, some (.cells [.d (dS s8), .mo z8 801, .d (dI o8), .d (dI u8), .osl 802 3 0 2])), (801, some (.mrow 58 n8 5 junkF)), (802, some (.cells [.d .junk, .d .junk, .own 810, .d .junk, .d .junk, .own 811])), (810, some (.row 63 r0.corners.length 2 junkF)), (811, some (.row 63 r1.corners.length 2 junkF)), (9, some (.cells [.d (dS s9), .mo z9 901, .d (dI o9), .d (dI u9), .osl 902 3 0 2])), (901, some (.mrow 58 n9 5 junkF)), (902, some (.cells [.d .junk, .d .junk, .own 910, .d .junk, .d .junk, .own 911])), (910, some (.row 63 r0.corners.length 2 junkF)), (911, some (.row 63 r1.corners.length 2 junkF)), (11, some (.cells [.d (dI q.2.2.x), .d (dI q.2.2.y), .d (dI q.2.2.side), .d (dI q.2.2.cols), .d (dI q.2.2.rows), .mo q.1 1001])), (1001, some (.mrow 3 q.2.1 1 junkF))]⟩) (fun q => q.2.1 ≤ 2000) ?_ ?_
  · by_cases he : withErr c [g] = 0
    · refine ex.sound (rc := [27]) tab_ok mix href _ ?_
      refine ⟨[(701, 1001)], _, _, _, _, DesignGridO c g hc hg he, rfl, trivial, rfl, ?_⟩
      exact ⟨rfl, (false, g.levels.length, g), by simp only; omega, SubI.of0 href [] rfl ⟨br, br, br, br, br, br, br, br, br, br, br, br, br, br, ⟨rfl, LeBx.cells ⟨LeQ.rfl, LeQ.rfl, LeQ.rfl, LeQ.rfl, LeQ.rfl, LeQ.mo rfl, trivial⟩⟩, ⟨rfl, LeBx.rjunk⟩, trivial⟩ ⟨er, er, er, er, er, er, er, trivial⟩⟩
    · refine ex.sound (rc := []) tab_ok mix href _ ?_
      refine callN (DesignGridE c g hc hg he) ?_
      exact ⟨rfl, (true, 0, zeroG), Nat.zero_le _, SubI.of0 href [(1001, 1000)] rfl ⟨br, br, br, br, br, br, br, br, br, br, br, br, br, br, ⟨rfl, LeBx.cells ⟨LeQ.rfl, LeQ.rfl, LeQ.rfl, LeQ.rfl, LeQ.rfl, LeQ.nil rfl, trivial⟩⟩, ⟨rfl, rfl⟩, trivial⟩ ⟨er, er, er, er, er, er, er, trivial⟩⟩
  rintro ⟨zd, nd, Gd⟩ hqnd
  simp only at hqnd ⊢
  refine AW.cutE (fun q : Bool × Nat × Grid => ⟨[(2, .s (.ptr 2 0)), (3, .s (.ptr 3 0)), (5, .s (.ptr 5 0)), (6, .s (.ptr 6 0)), (7, .s (.ptr 7 0)), (9, .s (.ptr 9 0)), (11, .s (.ptr 11 0)), (13, .s (.ptr 13 0))], [(2, some (chanB c)), (3, some (gridB g)), (5, some (chanB c)), (6, some (gridB g)), (7, some (.cells [.d (dS s8), .mo z8 801, .d (dI o8), .d (dI u8), .osl 802 3 0 2])), (801, some (.mrow 58 n8 5 junkF)), (802, some (.cells [.d .junk, .d .junk, .own 810, .d .junk, .d .junk, .own 811])), (810, some (.row 63 r0.corners.length 2 junkF)), (811, some (.row 63 r1.corners.length 2 junkF)), (9, some (.cells [.d (dS s9), .mo z9 901, .d (dI o9), .d (dI u9), .osl 902 3 0 2])), (901, some (.mrow 58 n9 5 junkF)), (902, some (.cells [.d .junk, .d .junk, .own 910, .d .junk, .d .junk, .own 911])), (910, some (.row 63 r0.corners.length 2 junkF)), (911, some (.row 63 r1.corners.length 2 junkF)), (11, some (.cells [.d (dI Gd.x), .d (dI Gd.y), .d (dI Gd.side), .d (dI Gd.cols), .d (dI Gd.rows), .mo zd 1001])), (1001, some (.mrow 3 nd 1 junkF)), (13, some (.cells [.d (dI q.2.2.x), .d (dI q.2.2.y), .d (dI q.2.2.side), .d (dI q.2.2.cols), .d (dI q.2.2.rows), .mo q.1 1002])), (1002, some (.mrow 3 q.2.1 1 junkF))]⟩) (fun q => q.2.1 ≤ 2000) ?_ ?_
  · by_cases he : withErr c [g] = 0
    · refine ex.sound (rc := [28]) tab_ok mix href _ ?_
      refine ⟨[(701, 1002)], _, _, _, _, ToleranceGridO c g hc hg he, rfl, trivial, rfl, ?_⟩
      exact ⟨rfl, (false, g.levels.length, g), by simp only; omega, SubI.of0 href [] rfl ⟨br, br, br, br, br, br, br, br, br, br, br, br, br, br, br, br, ⟨rfl, LeBx.cells ⟨LeQ.rfl, LeQ.rfl, LeQ.rfl, LeQ.rfl, LeQ.rfl, LeQ.mo rfl, trivial⟩⟩, ⟨rfl, LeBx.rjunk⟩, trivial⟩ ⟨er, er, er, er, er, er, er, er, trivial⟩⟩
    · refine ex.sound (rc := []) tab_ok mix href _ ?_
      refine callN (ToleranceGridE c g hc hg he) ?_
      exact ⟨rfl, (true, 0, zeroG), Nat.zero_le _, SubI.of0 href [(1002, 1000)] rfl ⟨br, br, br, br, br, br, br, br, br, br, br, br, br, br, br, br, ⟨rfl, LeBx.cells ⟨LeQ.rfl, LeQ.rfl, LeQ.rfl, LeQ.rfl, LeQ.rfl, LeQ.nil rfl, trivial⟩⟩, ⟨rfl, rfl⟩, trivial⟩ ⟨er, er, er, er, er, er, er, er, trivial⟩⟩
  rintro ⟨zt, nt, Gt⟩ hqnt
  simp only at hqnt ⊢
  refine AW.cut (σ' := ⟨bE ++ [], bB c g zd zt nd nt Gd Gt ++ []⟩) (ex.sound (rc := []) tab_ok mix href _ ?_) ?_
  · refine AW.loopI (fun i : Nat => match i with | 0 => (⟨bE ++ [(61, .g [.d (dS s8), .mo z8 801, .d (dI o8), .d (dI u8), .osl 802 3 0 2, .d (dS s9), .mo z9 901, .d (dI o9), .d (dI u9), .osl 902 3 0 2]), (62, vI 0)], bB c g zd zt nd nt Gd Gt ++ [(801, some (.mrow 58 n8 5 junkF)), (802, some (.cells [.d .junk, .d .junk, .own 810, .d .junk, .d .junk, .own 811])), (810, some (.row 63 r0.corners.length 2 junkF)), (811, some (.row 63 r1.corners.length 2 junkF)), (901, some (.mrow 58 n9 5 junkF)), (902, some (.cells [.d .junk, .d .junk, .own 910, .d .junk, .d .junk, .own 911])), (910, some (.row 63 r0.corners.length 2 junkF)), (911, some (.row 63 r1.corners.length 2 junkF))]⟩ : St) | 1 => ⟨bE ++ [(61, .g [.d .junk, .d .junk, .d .junk, .d .junk, .d .junk, .d (dS s9), .mo z9 901, .d (dI o9), .d (dI u9), .osl 902 3 0 2]), (62, vI 1)], bB c g zd zt nd nt Gd Gt ++ [(901, some (.mrow 58 n9 5 junkF)), (902, some (.cells [.d .junk, .d .junk, .own 910, .d .junk, .d .junk, .own 911])), (910, some (.row 63 r0.corners.length 2 junkF)), (911, some (.row 63 r1.corners.length 2 junkF))]⟩ | _ => ⟨bE ++ [(62, vI 2)], bB c g zd zt nd nt Gd Gt ++ []⟩) (fun i => i ≤ 2) (fun i => 2 - i) 0 (Nat.zero_le _) ?_ ?_
    · exact SubI.of0 href [] rfl ⟨br, br, br, br, br, br, br, br, br, br, br, br, br, br, br, br, trivial⟩ ⟨er, er, er, er, er, er, er, er, trivial⟩
    · intro i hi
      match i, hi with
      | 0, _ =>
        refine AW.seq (ex.sound (rc := []) tab_ok mix href _ ?_)
        refine AW.seq (ex.sound (rc := []) tab_ok mix href _ ?_)
        refine And.intro (fun _ => ?_) (fun h => by cases (show (decide ((0 : Int) < 2)) = false from h))
        refine AW.seq (AW.block (AW.seq (ex.sound (rc := []) tab_ok mix href _ ?_)))
        refine oi ⟨by decide, by decide⟩ ?_
        have hzn := bif_le (z := z8) (n := n8)
        refine AW.cut (σ' := ⟨bE ++ [(61, .g [.d .junk, .d .junk, .d .junk, .d .junk, .d .junk, .d (dS s9), .mo z9 901, .d (dI o9), .d (dI u9), .osl 902 3 0 2]), (62, vI 0), (16, .s (.ptr 16 0))], bB c g zd zt nd nt Gd Gt ++ [(16, some (.cells [.d (dS s8), .mo z8 801, .d (dI o8), .d (dI u8), .osl 802 3 0 2])), (801, some (.mrow 58 n8 5 junkF)), (802, some (.cells [.d .junk, .d .junk, .own 810, .d .junk, .d .junk, .own 811])), (810, some (.row 63 r0.corners.length 2 junkF)), (811, some (.row 63 r1.corners.length 2 junkF)), (901, some (.mrow 58 n9 5 junkF)), (902, some (.cells [.d .junk, .d .junk, .own 910, .d .junk, .d .junk, .own 911])), (910, some (.row 63 r0.corners.length 2 junkF)), (911, some (.row 63 r1.corners.length 2 junkF))]⟩) (ex.sound (rc := []) tab_ok mix href _ ?_) ?_
        · refine AW.loopI (fun m : Nat => (⟨bE ++ [(61, .g [.d .junk, .d .junk, .d .junk, .d .junk, .d .junk, .d (dS s9), .mo z9 901, .d (dI o9), .d (dI u9), .osl 902 3 0 2]), (62, vI 0), (16, .s (.ptr 16 0)), (17, vI m)], bB c g zd zt nd nt Gd Gt ++ [(16, some (.cells [.d (dS s8), .mo z8 801, .d (dI o8), .d (dI u8), .osl 802 3 0 2])), (801, some (.mrow 58 n8 5 junkF)), (802, some (.cells [.d .junk, .d .junk, .own 810, .d .junk, .d .junk, .own 811])), (810, some (.row 63 r0.corners.length 2 junkF)), (811, some (.row 63 r1.corners.length 2 junkF)), (901, some (.mrow 58 n9 5 junkF)), (902, some (.cells [.d .junk, .d .junk, .own 910, .d .junk, .d .junk, .own 911])), (910, some (.row 63 r0.corners.length 2 junkF)), (911, some (.row 63 r1.corners.length 2 junkF))]⟩ : St)) (fun m => m ≤ (bif z8 then 0 else n8)) (fun m => (bif z8 then 0 else n8) - m) 0 (Nat.zero_le _) ?_ ?_
          · exact SubI.of0 href [] rfl ⟨br, br, br, br, br, br, br, br, br, br, br, br, br, br, br, br, br, trivial⟩ ⟨er, er, er, er, er, er, ⟨rfl, LeQ.g ⟨LeQ.junk, LeQ.junk, LeQ.junk, LeQ.junk, LeQ.junk, LeQ.rfl, LeQ.rfl, LeQ.rfl, LeQ.rfl, LeQ.rfl, trivial⟩⟩, er, er, er, trivial⟩
          · intro m hm
            refine ex.sound (rc := []) tab_ok mix href _ ?_
            refine And.intro (fun h => ?_) (fun h => ?_)
            · have h : (m : Int) < ((bif z8 then 0 else n8 : Nat) : Int) := decT h
              refine oi ⟨by omega, by show (m : Int) < ((bif z8 then 0 else n8 : Nat) : Int); omega⟩ ?_
              refine ob (show (m : Int).toNat < n8 by omega) ?_
              refine ⟨m + 1, by omega, by omega, ?_⟩
              exact SubI.of0 href [] rfl ⟨br, br, br, br, br, br, br, br, br, ⟨rfl, LeBx.junk⟩, br, br, br, br, br, br, br, trivial⟩ ⟨er, er, er, er, er, er, er, er, er, ⟨rfl, LeQ.int (w64_of (by omega) (by omega))⟩, trivial⟩
            · exact ⟨rfl, SubI.of0 href [] rfl ⟨br, br, br, br, br, br, br, br, br, br, br, br, br, br, br, br, br, trivial⟩ ⟨er, er, er, er, er, er, er, er, er, trivial⟩⟩
        refine AW.seq (ex.sound (rc := []) tab_ok mix href _ ?_)
        refine ex.sound (rc := []) tab_ok mix href _ ?_
        refine AW.loopI (fun j : Nat => (⟨bE ++ [(61, .g [.d .junk, .d .junk, .d .junk, .d .junk, .d .junk, .d (dS s9), .mo z9 901, .d (dI o9), .d (dI u9), .osl 902 3 0 2]), (62, vI 0), (16, .s (.ptr 16 0)), (18, vI j)], bB c g zd zt nd nt Gd Gt ++ [(16, some (.cells [.d (dS s8), .mo z8 801, .d (dI o8), .d (dI u8), .osl 802 3 0 2])), (801, some (.mrow 58 n8 5 junkF)), (802, some (.cells [.d .junk, .d .junk, .own 810, .d .junk, .d .junk, .own 811])), (810, some (.row 63 r0.corners.length 2 junkF)), (811, some (.row 63 r1.corners.length 2 junkF)), (901, some (.mrow 58 n9 5 junkF)), (902, some (.cells [.d .junk, .d .junk, .own 910, .d .junk, .d .junk, .own 911])), (910, some (.row 63 r0.corners.length 2 junkF)), (911, some (.row 63 r1.corners.length 2 junkF))]⟩ : St)) (fun j => j ≤ 2) (fun j => 2 - j) 0 (Nat.zero_le _) ?_ ?_
        · exact SubI.of0 href [] rfl ⟨br, br, br, br, br, br, br, br, br, br, br, br, br, br, br, br, br, trivial⟩ ⟨er, er, er, er, er, er, er, er, er, er, trivial⟩
        · intro j hj
          match j, hj with
          | 0, _ =>
            refine AW.seq (ex.sound (rc := []) tab_ok mix href _ ?_)
            refine And.intro (fun _ => ?_) (fun h => by cases (show (decide ((0 : Int) < 2)) = false from h))
            refine AW.seq (AW.block ?_)
            refine AW.cut (σ' := ⟨bE ++ [(61, .g [.d .junk, .d .junk, .d .junk, .d .junk, .d .junk, .d (dS s9), .mo z9 901, .d (dI o9), .d (dI u9), .osl 902 3 0 2]), (62, vI 0), (16, .s (.ptr 16 0)), (18, vI 0)], bB c g zd zt nd nt Gd Gt ++ [(16, some (.cells [.d (dS s8), .mo z8 801, .d (dI o8), .d (dI u8), .osl 802 3 0 2])), (801, some (.mrow 58 n8 5 junkF)), (802, some (.cells [.d .junk, .d .junk, .own 810, .d .junk, .d .junk, .own 811])), (810, some (.row 63 r0.corners.length 2 junkF)), (811, some (.row 63 r1.corners.length 2 junkF)), (901, some (.mrow 58 n9 5 junkF)), (902, some (.cells [.d .junk, .d .junk, .own 910, .d .junk, .d .junk, .own 911])), (910, some (.row 63 r0.corners.length 2 junkF)), (911, some (.row 63 r1.corners.length 2 junkF))]⟩) (ex.sound (rc := []) tab_ok mix href _ ?_) ?_
            · refine AW.loopI (fun m : Nat => (⟨bE ++ [(61, .g [.d .junk, .d .junk, .d .junk, .d .junk, .d .junk, .d (dS s9), .mo z9 901, .d (dI o9), .d (dI u9), .osl 902 3 0 2]), (62, vI 0), (16, .s (.ptr 16 0)), (18, vI 0), (19, vI m)], bB c g zd zt nd nt Gd Gt ++ [(16, some (.cells [.d (dS s8), .mo z8 801, .d (dI o8), .d (dI u8), .osl 802 3 0 2])), (801, some (.mrow 58 n8 5 junkF)), (802, some (.cells [.d .junk, .d .junk, .own 810, .d .junk, .d .junk, .own 811])), (810, some (.row 63 r0.corners.length 2 junkF)), (811, some (.row 63 r1.corners.length 2 junkF)), (901, some (.mrow 58 n9 5 junkF)), (902, some (.cells [.d .junk, .d .junk, .own 910, .d .junk, .d .junk, .own 911])), (910, some (.row 63 r0.corners.length 2 junkF)), (911, some (.row 63 r1.corners.length 2 junkF))]⟩ : St)) (fun m => m ≤ r0.corners.length) (fun m => r0.corners.length - m) 0 (Nat.zero_le _) ?_ ?_
              · exact SubI.of0 href [] rfl ⟨br, br, br, br, br, br, br, br, br, br, br, br, br, br, br, br, br, trivial⟩ ⟨er, er, er, er, er, er, er, er, er, er, er, trivial⟩
              · intro m hm
                refine ex.sound (rc := []) tab_ok mix href _ ?_
                refine oi ⟨by decide, by decide⟩ ?_
                refine And.intro (fun h => ?_) (fun h => ?_)
                · have h : (m : Int) < (r0.corners.length : Int) := decT h
                  refine oi ⟨by decide, by decide⟩ ?_
                  refine oi ⟨by omega, by omega⟩ ?_
                  refine ob (show (m : Int).toNat < r0.corners.length by omega) ?_
                  refine ⟨m + 1, by omega, by omega, ?_⟩
                  exact SubI.of0 href [] rfl ⟨br, br, br, br, br, br, br, br, br, br, br, ⟨rfl, LeBx.jrow⟩, br, br, br, br, br, trivial⟩ ⟨er, er, er, er, er, er, er, er, er, er, ⟨rfl, LeQ.int (w64_of (by omega) (by omega))⟩, trivial⟩
                · exact ⟨rfl, SubI.of0 href [] rfl ⟨br, br, br, br, br, br, br, br, br, br, br, br, br, br, br, br, br, trivial⟩ ⟨er, er, er, er, er, er, er, er, er, er, trivial⟩⟩
            · refine ex.sound (rc := []) tab_ok mix href _ ?_
              refine oi ⟨by decide, by decide⟩ ?_
              refine ex.sound (rc := []) tab_ok mix href _ ?_
              refine ⟨1, by decide, by decide, ?_⟩
              exact SubI.of0 href [] rfl ⟨br, br, br, br, br, br, br, br, br, br, ⟨rfl, LeBx.cells ⟨LeQ.junk, LeQ.junk, LeQ.rfl, LeQ.junk, LeQ.junk, LeQ.rfl, trivial⟩⟩, br, br, br, br, br, br, trivial⟩ ⟨er, er, er, er, er, er, er, er, er, er, trivial⟩
          | 1, _ =>
            refine AW.seq (ex.sound (rc := []) tab_ok mix href _ ?_)
            refine And.intro (fun _ => ?_) (fun h => by cases (show (decide ((1 : Int) < 2)) = false from h))
            refine AW.seq (AW.block ?_)
            refine AW.cut (σ' := ⟨bE ++ [(61, .g [.d .junk, .d .junk, .d .junk, .d .junk, .d .junk, .d (dS s9), .mo z9 901, .d (dI o9), .d (dI u9), .osl 902 3 0 2]), (62, vI 0), (16, .s (.ptr 16 0)), (18, vI 1)], bB c g zd zt nd nt Gd Gt ++ [(16, some (.cells [.d (dS s8), .mo z8 801, .d (dI o8), .d (dI u8), .osl 802 3 0 2])), (801, some (.mrow 58 n8 5 junkF)), (802, some (.cells [.d .junk, .d .junk, .own 810, .d .junk, .d .junk, .own 811])), (810, some (.row 63 r0.corners.length 2 junkF)), (811, some (.row 63 r1.corners.length 2 junkF)), (901, some (.mrow 58 n9 5 junkF)), (902, some (.cells [.d .junk, .d .junk, .own 910, .d .junk, .d .junk, .own 911])), (910, some (.row 63 r0.corners.length 2 junkF)), (911, some (.row 63 r1.corners.length 2 junkF))]⟩) (ex.sound (rc := []) tab_ok mix href _ ?_) ?_
            · refine AW.loopI (fun m : Nat => (⟨bE ++ [(61, .g [.d .junk, .d .junk, .d .junk, .d .junk, .d .junk, .d (dS s9), .mo z9 901, .d (dI o9), .d (dI u9), .osl 902 3 0 2]), (62, vI 0), (16, .s (.ptr 16 0)), (18, vI 1), (19, vI m)], bB c g zd zt nd nt Gd Gt ++ [(16, some (.cells [.d (dS s8), .mo z8 801, .d (dI o8), .d (dI u8), .osl 802 3 0 2])), (801, some (.mrow 58 n8 5 junkF)), (802, some (.cells [.d .junk, .d .junk, .own 810, .d .junk, .d .junk, .own 811])), (810, some (.row 63 r0.corners.length 2 junkF)), (811, some (.row 63 r1.corners.length 2 junkF)), (901, some (.mrow 58 n9 5 junkF)), (902, some (.cells [.d .junk, .d .junk, .own 910, .d .junk, .d .junk, .own 911])), (910, some (.row 63 r0.corners.length 2 junkF)), (911, some (.row 63 r1.corners.length 2 junkF))]⟩ : St)) (fun m => m ≤ r1.corners.length) (fun m => r1.corners.length - m) 0 (Nat.zero_le _) ?_ ?_
              · exact SubI.of0 href [] rfl ⟨br, br, br, br, br, br, br, br, br, br, br, br, br, br, br, br, br, trivial⟩ ⟨er, er, er, er, er, er, er, er, er, er, er, trivial⟩
              · intro m hm
                refine ex.sound (rc := []) tab_ok mix href _ ?_
                refine oi ⟨by decide, by decide⟩ ?_
                refine And.intro (fun h => ?_) (fun h => ?_)
                · have h : (m : Int) < (r1.corners.length : Int) := decT h
                  refine oi ⟨by decide, by decide⟩ ?_
                  refine oi ⟨by omega, by omega⟩ ?_
                  refine ob (show (m : Int).toNat < r1.corners.length by omega) ?_
                  refine ⟨m + 1, by omega, by omega, ?_⟩
                  exact SubI.of0 href [] rfl ⟨br, br, br, br, br, br, br, br, br, br, br, br, ⟨rfl, LeBx.jrow⟩, br, br, br, br, trivial⟩ ⟨er, er, er, er, er, er, er, er, er, er, ⟨rfl, LeQ.int (w64_of (by omega) (by omega))⟩, trivial⟩
                · exact ⟨rfl, SubI.of0 href [] rfl ⟨br, br, br, br, br, br, br, br, br, br, br, br, br, br, br, br, br, trivial⟩ ⟨er, er, er, er, er, er, er, er, er, er, trivial⟩⟩
            · refine ex.sound (rc := []) tab_ok mix href _ ?_
              refine oi ⟨by decide, by decide⟩ ?_
              refine ex.sound (rc := []) tab_ok mix href _ ?_
              refine ⟨2, by decide, by decide, ?_⟩
              exact SubI.of0 href [] rfl ⟨br, br, br, br, br, br, br, br, br, br, ⟨rfl, LeBx.cells ⟨LeQ.junk, LeQ.junk, LeQ.rfl, LeQ.junk, LeQ.junk, LeQ.rfl, trivial⟩⟩, br, br, br, br, br, br, trivial⟩ ⟨er, er, er, er, er, er, er, er, er, er, trivial⟩
          | 2, _ =>
            refine ex.sound (rc := []) tab_ok mix href _ ?_
            refine And.intro (fun h => by cases (show (decide ((2 : Int) < 2)) = true from h)) (fun _ => ?_)
            refine ex.sound (rc := []) tab_ok mix href _ ?_
            refine ⟨1, by decide, by decide, ?_⟩
            exact SubI.of0 href [] rfl ⟨br, br, br, br, br, br, br, br, br, br, br, br, trivial⟩ ⟨er, er, er, er, er, er, er, er, trivial⟩
      | 1, _ =>
        refine AW.seq (ex.sound (rc := []) tab_ok mix href _ ?_)
        refine AW.seq (ex.sound (rc := []) tab_ok mix href _ ?_)
        refine And.intro (fun _ => ?_) (fun h => by cases (show (decide ((1 : Int) < 2)) = false from h))
        refine AW.seq (AW.block (AW.seq (ex.sound (rc := []) tab_ok mix href _ ?_)))
        refine oi ⟨by decide, by decide⟩ ?_
        have hzn := bif_le (z := z9) (n := n9)
        refine AW.cut (σ' := ⟨bE ++ [(62, vI 1), (16, .s (.ptr 16 0))], bB c g zd zt nd nt Gd Gt ++ [(16, some (.cells [.d (dS s9), .mo z9 901, .d (dI o9), .d (dI u9), .osl 902 3 0 2])), (901, some (.mrow 58 n9 5 junkF)), (902, some (.cells [.d .junk, .d .junk, .own 910, .d .junk, .d .junk, .own 911])), (910, some (.row 63 r0.corners.length 2 junkF)), (911, some (.row 63 r1.corners.length 2 junkF))]⟩) (ex.sound (rc := []) tab_ok mix href _ ?_) ?_
        · refine AW.loopI (fun m : Nat => (⟨bE ++ [(62, vI 1), (16, .s (.ptr 16 0)), (17, vI m)], bB c g zd zt nd nt Gd Gt ++ [(16, some (.cells [.d (dS s9), .mo z9 901, .d (dI o9), .d (dI u9), .osl 902 3 0 2])), (901, some (.mrow 58 n9 5 junkF)), (902, some (.cells [.d .junk, .d .junk, .own 910, .d .junk, .d .junk, .own 911])), (910, some (.row 63 r0.corners.length 2 junkF)), (911, some (.row 63 r1.corners.length 2 junkF))]⟩ : St)) (fun m => m ≤ (bif z9 then 0 else n9)) (fun m => (bif z9 then 0 else n9) - m) 0 (Nat.zero_le _) ?_ ?_
          · exact SubI.of0 href [] rfl ⟨br, br, br, br, br, br, br, br, br, br, br, br, br, trivial⟩ ⟨er, er, er, er, er, er, er, er, er, trivial⟩
          · intro m hm
            refine ex.sound (rc := []) tab_ok mix href _ ?_
            refine And.intro (fun h => ?_) (fun h => ?_)
            · have h : (m : Int) < ((bif z9 then 0 else n9 : Nat) : Int) := decT h
              refine oi ⟨by omega, by show (m : Int) < ((bif z9 then 0 else n9 : Nat) : Int); omega⟩ ?_
              refine ob (show (m : Int).toNat < n9 by omega) ?_
              refine ⟨m + 1, by omega, by omega, ?_⟩
              exact SubI.of0 href [] rfl ⟨br, br, br, br, br, br, br, br, br, ⟨rfl, LeBx.junk⟩, br, br, br, trivial⟩ ⟨er, er, er, er, er, er, er, er, ⟨rfl, LeQ.int (w64_of (by omega) (by omega))⟩, trivial⟩
            · exact ⟨rfl, SubI.of0 href [] rfl ⟨br, br, br, br, br, br, br, br, br, br, br, br, br, trivial⟩ ⟨er, er, er, er, er, er, er, er, trivial⟩⟩
        refine AW.seq (ex.sound (rc := []) tab_ok mix href _ ?_)
        refine ex.sound (rc := []) tab_ok mix href _ ?_
        refine AW.loopI (fun j : Nat => (⟨bE ++ [(62, vI 1), (16, .s (.ptr 16 0)), (18, vI j)], bB c g zd zt nd nt Gd Gt ++ [(16, some (.cells [.d (dS s9), .mo z9 901, .d (dI o9), .d (dI u9), .osl 902 3 0 2])), (901, some (.mrow 58 n9 5 junkF)), (902, some (.cells [.d .junk, .d .junk, .own 910, .d .junk, .d .junk, .own 911])), (910, some (.row 63 r0.corners.length 2 junkF)), (911, some (.row 63 r1.corners.length 2 junkF))]⟩ : St)) (fun j => j ≤ 2) (fun j => 2 - j) 0 (Nat.zero_le _) ?_ ?_
        · exact SubI.of0 href [] rfl ⟨br, br, br, br, br, br, br, br, br, br, br, br, br, trivial⟩ ⟨er, er, er, er, er, er, er, er, er, trivial⟩
        · intro j hj
          match j, hj with
          | 0, _ =>
            refine AW.seq (ex.sound (rc := []) tab_ok mix href _ ?_)
            refine And.intro (fun _ => ?_) (fun h => by cases (show (decide ((0 : Int) < 2)) = false from h))
            refine AW.seq (AW.block ?_)
            refine AW.cut (σ' := ⟨bE ++ [(62, vI 1), (16, .s (.ptr 16 0)), (18, vI 0)], bB c g zd zt nd nt Gd Gt ++ [(16, some (.cells [.d (dS s9), .mo z9 901, .d (dI o9), .d (dI u9), .osl 902 3 0 2])), (901, some (.mrow 58 n9 5 junkF)), (902, some (.cells [.d .junk, .d .junk, .own 910, .d .junk, .d .junk, .own 911])), (910, some (.row 63 r0.corners.length 2 junkF)), (911, some (.row 63 r1.corners.length 2 junkF))]⟩) (ex.sound (rc := []) tab_ok mix href _ ?_) ?_
            · refine AW.loopI (fun m : Nat => (⟨bE ++ [(62, vI 1), (16, .s (.ptr 16 0)), (18, vI 0), (19, vI m)], bB c g zd zt nd nt Gd Gt ++ [(16, some (.cells [.d (dS s9), .mo z9 901, .d (dI o9), .d (dI u9), .osl 902 3 0 2])), (901, some (.mrow 58 n9 5 junkF)), (902, some (.cells [.d .junk, .d .junk, .own 910, .d .junk, .d .junk, .own 911])), (910, some (.row 63 r0.corners.length 2 junkF)), (911, some (.row 63 r1.corners.length 2 junkF))]⟩ : St)) (fun m => m ≤ r0.corners.length) (fun m => r0.corners.length - m) 0 (Nat.zero_le _) ?_ ?_
              · exact SubI.of0 href [] rfl ⟨br, br, br, br, br, br, br, br, br, br, br, br, br, trivial⟩ ⟨er, er, er, er, er, er, er, er, er, er, trivial⟩
              · intro m hm
                refine ex.sound (rc := []) tab_ok mix href _ ?_
                refine oi ⟨by decide, by decide⟩ ?_
                refine And.intro (fun h => ?_) (fun h => ?_)
                · have h : (m : Int) < (r0.corners.length : Int) := decT h
                  refine oi ⟨by decide, by decide⟩ ?_
                  refine oi ⟨by omega, by omega⟩ ?_
                  refine ob (show (m : Int).toNat < r0.corners.length by omega) ?_
                  refine ⟨m + 1, by omega, by omega, ?_⟩
                  exact SubI.of0 href [] rfl ⟨br, br, br, br, br, br, br, br, br, br, br, ⟨rfl, LeBx.jrow⟩, br, trivial⟩ ⟨er, er, er, er, er, er, er, er, er, ⟨rfl, LeQ.int (w64_of (by omega) (by omega))⟩, trivial⟩
                · exact ⟨rfl, SubI.of0 href [] rfl ⟨br, br, br, br, br, br, br, br, br, br, br, br, br, trivial⟩ ⟨er, er, er, er, er, er, er, er, er, trivial⟩⟩
            · refine ex.sound (rc := []) tab_ok mix href _ ?_
              refine oi ⟨by decide, by decide⟩ ?_
              refine ex.sound (rc := []) tab_ok mix href _ ?_
              refine ⟨1, by decide, by decide, ?_⟩
              exact SubI.of0 href [] rfl ⟨br, br, br, br, br, br, br, br, br, br, ⟨rfl, LeBx.cells ⟨LeQ.junk, LeQ.junk, LeQ.rfl, LeQ.junk, LeQ.junk, LeQ.rfl, trivial⟩⟩, br, br, trivial⟩ ⟨er, er, er, er, er, er, er, er, er, trivial⟩
          | 1, _ =>
            refine AW.seq (ex.sound (rc := []) tab_ok mix href _ ?_)
            refine And.intro (fun _ => ?_) (fun h => by cases (show (decide ((1 : Int) < 2)) = false from h))
            refine AW.seq (AW.block ?_)
            refine AW.cut (σ' := ⟨bE ++ [(62, vI 1), (16, .s (.ptr 16 0)), (18, vI 1)], bB c g zd zt nd nt Gd Gt ++ [(16, some (.cells [.d (dS s9), .mo z9 901, .d (dI o9), .d (dI u9), .osl 902 3 0 2])), (901, some (.mrow 58 n9 5 junkF)), (902, some (.cells [.d .junk, .d .junk, .own 910, .d .junk, .d .junk, .own 911])), (910, some (.row 63 r0.corners.length 2 junkF)), (911, some (.row 63 r1.corners.length 2 junkF))]⟩) (ex.sound (rc := []) tab_ok mix href _ ?_) ?_
            · refine AW.loopI (fun m : Nat => (⟨bE ++ [(62, vI 1), (16, .s (.ptr 16 0)), (18, vI 1), (19, vI m)], bB c g zd zt nd nt Gd Gt ++ [(16, some (.cells [.d (dS s9), .mo z9 901, .d (dI o9), .d (dI u9), .osl 902 3 0 2])), (901, some (.mrow 58 n9 5 junkF)), (902, some (.cells [.d .junk, .d .junk, .own 910, .d .junk, .d .junk, .own 911])), (910, some (.row 63 r0.corners.length 2 junkF)), (911, some (.row 63 r1.corners.length 2 junkF))]⟩ : St)) (fun m => m ≤ r1.corners.length) (fun m => r1.corners.length - m) 0 (Nat.zero_le _) ?_ ?_
              · exact SubI.of0 href [] rfl ⟨br, br, br, br, br, br, br, br, br, br, br, br, br, trivial⟩ ⟨er, er, er, er, er, er, er, er, er, er, trivial⟩
              · intro m hm
                refine ex.sound (rc := []) tab_ok mix href _ ?_
                refine oi ⟨by decide, by decide⟩ ?_
                refine And.intro (fun h => ?_) (fun h => ?_)
                · have h : (m : Int) < (r1.corners.length : Int) := decT h
                  refine oi ⟨by decide, by decide⟩ ?_
                  refine oi ⟨by omega, by omega⟩ ?_
                  refine ob (show (m : Int).toNat < r1.corners.length by omega) ?_
                  refine ⟨m + 1, by omega, by omega, ?_⟩
                  exact SubI.of0 href [] rfl ⟨br, br, br, br, br, br, br, br, br, br, br, br, ⟨rfl, LeBx.jrow⟩, trivial⟩ ⟨er, er, er, er, er, er, er, er, er, ⟨rfl, LeQ.int (w64_of (by omega) (by omega))⟩, trivial⟩
                · exact ⟨rfl, SubI.of0 href [] rfl ⟨br, br, br, br, br, br, br, br, br, br, br, br, br, trivial⟩ ⟨er, er, er, er, er, er, er, er, er, trivial⟩⟩
            · refine ex.sound (rc := []) tab_ok mix href _ ?_
              refine oi ⟨by decide, by decide⟩ ?_
              refine ex.sound (rc := []) tab_ok mix href _ ?_
              refine ⟨2, by decide, by decide, ?_⟩
              exact SubI.of0 href [] rfl ⟨br, br, br, br, br, br, br, br, br, br, ⟨rfl, LeBx.cells ⟨LeQ.junk, LeQ.junk, LeQ.rfl, LeQ.junk, LeQ.junk, LeQ.rfl, trivial⟩⟩, br, br, trivial⟩ ⟨er, er, er, er, er, er, er, er, er, trivial⟩
          | 2, _ =>
            refine ex.sound (rc := []) tab_ok mix href _ ?_
            refine And.intro (fun h => by cases (show (decide ((2 : Int) < 2)) = true from h)) (fun _ => ?_)
            refine ex.sound (rc := []) tab_ok mix href _ ?_
            refine ⟨2, by decide, by decide, ?_⟩
            exact SubI.of0 href [] rfl ⟨br, br, br, br, br, br, br, br, trivial⟩ ⟨er, er, er, er, er, er, er, trivial⟩
      | 2, _ =>
        refine ex.sound (rc := []) tab_ok mix href _ ?_
        refine And.intro (fun h => by cases (show (decide ((2 : Int) < 2)) = true from h)) (fun _ => ?_)
        exact ⟨rfl, SubI.of0 href [] rfl ⟨br, br, br, br, br, br, br, br, trivial⟩ ⟨er, er, er, er, er, er, trivial⟩⟩
  refine AW.cut (σ' := ⟨[(2, .s (.ptr 2 0)), (3, .s (.ptr 3 0)), (5, .s (.ptr 5 0)), (6, .s (.ptr 6 0))], [(2, some (chanB c)), (3, some (gridB g)), (5, some (chanB c)), (6, some (gridB g))]⟩) (ex.sound (rc := []) tab_ok mix href _ ?_) ?_
  · refine AW.loopI (fun i : Nat => match i with | 0 => (⟨[(2, .s (.ptr 2 0)), (3, .s (.ptr 3 0)), (5, .s (.ptr 5 0)), (6, .s (.ptr 6 0)), (112, .g [.d (dI Gd.x), .d (dI Gd.y), .d (dI Gd.side), .d (dI Gd.cols), .d (dI Gd.rows), .mo zd 1001, .d (dI Gt.x), .d (dI Gt.y), .d (dI Gt.side), .d (dI Gt.cols), .d (dI Gt.rows), .mo zt 1002]), (113, vI 0)], [(2, some (chanB c)), (3, some (gridB g)), (5, some (chanB c)), (6, some (gridB g)), (1001, some (.mrow 3 nd 1 junkF)), (1002, some (.mrow 3 nt 1 junkF))]⟩ : St) | 1 => ⟨[(2, .s (.ptr 2 0)), (3, .s (.ptr 3 0)), (5, .s (.ptr 5 0)), (6, .s (.ptr 6 0)), (112, .g [.d (dI Gd.x), .d (dI Gd.y), .d (dI Gd.side), .d (dI Gd.cols), .d (dI Gd.rows), .mo zd 1001, .d (dI Gt.x), .d (dI Gt.y), .d (dI Gt.side), .d (dI Gt.cols), .d (dI Gt.rows), .mo zt 1002]), (113, vI 1)], [(2, some (chanB c)), (3, some (gridB g)), (5, some (chanB c)), (6, some (gridB g)), (1001, some (.mrow 3 nd 1 junkF)), (1002, some (.mrow 3 nt 1 junkF))]⟩ | _ => ⟨[(2, .s (.ptr 2 0)), (3, .s (.ptr 3 0)), (5, .s (.ptr 5 0)), (6, .s (.ptr 6 0)), (113, vI 2)], [(2, some (chanB c)), (3, some (gridB g)), (5, some (chanB c)), (6, some (gridB g)), (1001, some (.mrow 3 nd 1 junkF)), (1002, some (.mrow 3 nt 1 junkF))]⟩) (fun i => i ≤ 2) (fun i => 2 - i) 0 (Nat.zero_le _) ?_ ?_
    · exact SubI.of0 href [] rfl ⟨br, br, br, br, br, br, trivial⟩ ⟨er, er, er, er, er, er, trivial⟩
    · intro i hi
      match i, hi with
      | 0, _ =>
        refine ex.sound (rc := []) tab_ok mix href _ ?_
        refine And.intro (fun _ => ?_) (fun h => by cases (show (decide ((0 : Int) < 2)) = false from h))
        refine oi ⟨by decide, by decide⟩ ?_
        have hzn := bif_le (z := zd) (n := nd)
        refine AW.loopI (fun m : Nat => (⟨[(2, .s (.ptr 2 0)), (3, .s (.ptr 3 0)), (5, .s (.ptr 5 0)), (6, .s (.ptr 6 0)), (112, .g [.d (dI Gd.x), .d (dI Gd.y), .d (dI Gd.side), .d (dI Gd.cols), .d (dI Gd.rows), .mo zd 1001, .d (dI Gt.x), .d (dI Gt.y), .d (dI Gt.side), .d (dI Gt.cols), .d (dI Gt.rows), .mo zt 1002]), (113, vI 0), (21, .s (.ptr 21 0)), (22, vI m)], [(2, some (chanB c)), (3, some (gridB g)), (5, some (chanB c)), (6, some (gridB g)), (1001, some (.mrow 3 nd 1 junkF)), (1002, some (.mrow 3 nt 1 junkF)), (21, some (.cells [.d (dI Gd.x), .d (dI Gd.y), .d (dI Gd.side), .d (dI Gd.cols), .d (dI Gd.rows), .mo zd 1001]))]⟩ : St)) (fun m => m ≤ (bif zd then 0 else nd)) (fun m => (bif zd then 0 else nd) - m) 0 (Nat.zero_le _) ?_ ?_
        · exact SubI.of0 href [] rfl ⟨br, br, br, br, br, br, br, trivial⟩ ⟨er, er, er, er, er, er, er, er, trivial⟩
        · intro m hm
          refine ex.sound (rc := []) tab_ok mix href _ ?_
          refine And.intro (fun h => ?_) (fun h => ?_)
          · have h : (m : Int) < ((bif zd then 0 else nd : Nat) : Int) := decT h
            refine oi ⟨by omega, by show (m : Int) < ((bif zd then 0 else nd : Nat) : Int); omega⟩ ?_
            refine ob (show (m : Int).toNat < nd by omega) ?_
            refine ⟨m + 1, by omega, by omega, ?_⟩
            exact SubI.of0 href [] rfl ⟨br, br, br, br, ⟨rfl, LeBx.junk⟩, br, br, trivial⟩ ⟨er, er, er, er, er, er, er, ⟨rfl, LeQ.int (w64_of (by omega) (by omega))⟩, trivial⟩
          · refine ⟨1, by decide, by decide, ?_⟩
            exact SubI.of0 href [] rfl ⟨br, br, br, br, br, br, trivial⟩ ⟨er, er, er, er, er, er, trivial⟩
      | 1, _ =>
        refine ex.sound (rc := []) tab_ok mix href _ ?_
        refine And.intro (fun _ => ?_) (fun h => by cases (show (decide ((1 : Int) < 2)) = false from h))
        refine oi ⟨by decide, by decide⟩ ?_
        have hzn := bif_le (z := zt) (n := nt)
        refine AW.loopI (fun m : Nat => (⟨[(2, .s (.ptr 2 0)), (3, .s (.ptr 3 0)), (5, .s (.ptr 5 0)), (6, .s (.ptr 6 0)), (112, .g [.d (dI Gd.x), .d (dI Gd.y), .d (dI Gd.side), .d (dI Gd.cols), .d (dI Gd.rows), .mo zd 1001, .d (dI Gt.x), .d (dI Gt.y), .d (dI Gt.side), .d (dI Gt.cols), .d (dI Gt.rows), .mo zt 1002]), (113, vI 1), (21, .s (.ptr 21 0)), (22, vI m)], [(2, some (chanB c)), (3, some (gridB g)), (5, some (chanB c)), (6, some (gridB g)), (1001, some (.mrow 3 nd 1 junkF)), (1002, some (.mrow 3 nt 1 junkF)), (21, some (.cells [.d (dI Gt.x), .d (dI Gt.y), .d (dI Gt.side), .d (dI Gt.cols), .d (dI Gt.rows), .mo zt 1002]))]⟩ : St)) (fun m => m ≤ (bif zt then 0 else nt)) (fun m => (bif zt then 0 else nt) - m) 0 (Nat.zero_le _) ?_ ?_
        · exact SubI.of0 href [] rfl ⟨br, br, br, br, br, br, br, trivial⟩ ⟨er, er, er, er, er, er, er, er, trivial⟩
        · intro m hm
          refine ex.sound (rc := []) tab_ok mix href _ ?_
          refine And.intro (fun h => ?_) (fun h => ?_)
          · have h : (m : Int) < ((bif zt then 0 else nt : Nat) : Int) := decT h
            refine oi ⟨by omega, by show (m : Int) < ((bif zt then 0 else nt : Nat) : Int); omega⟩ ?_
            refine ob (show (m : Int).toNat < nt by omega) ?_
            refine ⟨m + 1, by omega, by omega, ?_⟩
            exact SubI.of0 href [] rfl ⟨br, br, br, br, br, ⟨rfl, LeBx.junk⟩, br, trivial⟩ ⟨er, er, er, er, er, er, er, ⟨rfl, LeQ.int (w64_of (by omega) (by omega))⟩, trivial⟩
          · refine ⟨2, by decide, by decide, ?_⟩
            exact SubI.of0 href [] rfl ⟨br, br, br, br, br, br, trivial⟩ ⟨er, er, er, er, er, trivial⟩
      | 2, _ =>
        refine ex.sound (rc := []) tab_ok mix href _ ?_
        refine And.intro (fun h => by cases (show (decide ((2 : Int) < 2)) = true from h)) (fun _ => ?_)
        exact ⟨rfl, SubI.of0 href [] rfl ⟨br, br, br, br, trivial⟩ ⟨er, er, er, er, trivial⟩⟩
  · refine ex.sound (rc := []) tab_ok mix href _ ?_
    refine callN (rSameEq c (by omega) (by omega) hcr) ?_
    repeat first | refine sk ?_ | refine st ?_ | refine sg ?_ | refine sh ?_ | refine su ?_ | refine sn1 ?_ | refine sn0 ?_ | refine And.intro (show imp none (gimp _ none) from trivial) ?_
    refine callG (sameGrid g (by omega)) ?_
    repeat first | refine sk ?_ | refine st ?_ | refine sg ?_ | refine sh ?_ | refine su ?_ | refine sn1 ?_ | refine sn0 ?_ | refine And.intro (show imp none (gimp _ none) from trivial) ?_
    exact SubR.lit rfl
end Go.Ch

/- ChannelMemory: the function of the law, by the number of regions. By a program (gen/genM5.py). -/
namespace Go.Ch
open Go Go.Ax Go.Proofs Go.Proofs.Try
set_option maxRecDepth 100000
set_option pp.maxSteps 400
set_option maxHeartbeats 2000000
attribute [local irreducible] errC errG few small

theorem mem30 (nm : ByteArray) (ax : List Ap) (ov bu : Int) (r0 r1 r2 : Reg) (c : Chan) (hceq : c = ⟨nm, ax, ov, bu, [r0, r1, r2]⟩) (g : Grid) (hc : c.ok) (hg : g.ok) (hs : small c = true) (hf : few g = true) (y0 : 0 < r0.corners.length) (m0 : r0.corners.length ≤ 45) (y1 : 0 < r1.corners.length) (m1 : r1.corners.length ≤ 45) (y2 : 0 < r2.corners.length) (m2 : r2.corners.length ≤ 45) (hB : errC c = 0 ∧ errC (boxC c 1) = 0) (hD : (∃ e, CallP Try.prog 20 [chan c, vI 1] (.t [.g (zvs ty25.zero), .s (.d (dI e))]))) : CallP Try.prog 6 [chan c, grid g] (vB true) := by
  have hsm : Sm c := Sm.of hs
  have hr : c.regions.length ≤ 1000 := by have := hsm.regions; omega
  have hax : c.axis.length ≤ 1000 := by have := hsm.axis; omega
  have hcr : ∀ i, i < c.regions.length → (c.regions.getD i default).corners.length ≤ 1000000 := fun i hi => by have := hsm.corners i hi; omega
  have hgl := few_len hf
  refine callP_of_aw Try.func6 rfl rfl Try.call6 tab_ok rfl rfl (fun cx href => ?_)
  refine AW.seq (ex.sound (rc := []) tab_ok mix href _ ?_)
  refine AW.seq (ex.sound (rc := []) tab_ok mix href _ ?_)
  refine callN awake ?_
  refine And.intro (fun h => by cases (show (!true) = true from h)) (fun _ => ?_)
  refine AW.seq (ex.sound (rc := []) tab_ok mix href _ ?_)
  refine callN (Small c hc) ?_
  repeat first | refine sk ?_ | refine st ?_ | refine sg ?_ | refine sh ?_ | refine su ?_ | refine sn1 ?_ | refine sn0 ?_ | refine And.intro (show imp none (gimp _ none) from trivial) ?_
  refine callG (Few g hg.levels) ?_
  repeat first | refine sk ?_ | refine st ?_ | refine sg ?_ | refine sh ?_ | refine su ?_ | refine sn1 ?_ | refine sn0 ?_ | refine And.intro (show imp none (gimp _ none) from trivial) ?_
  refine And.intro (fun h => ?_) (fun _ => ?_)
  · have h : (!small c || !few g) = true := h
    rw [hs, hf] at h; cases h
  refine AW.seq (ex.sound (rc := []) tab_ok mix href _ ?_)
  refine callN (Copied c hsm) ?_
  refine callN (CopyGrid g (by omega)) ?_
  refine And.intro (by kernel_rfl) ?_
  refine AW.cutE (fun q : Bool × Nat × ByteArray × Int × Int => ⟨[(2, .s (.ptr 2 0)), (3, .s (.ptr 3 0)), (5, .s (.ptr 5 0)), (6, .s (.ptr 6 0)), (7, .s (.ptr 7 0))], [(2, some (chanB c)), (3, some (gridB g)), (5, some (chanB c)), (6, some (gridB g)), (7, some (.cells [.d (dS q.2.2.1), .mo q.1 801, .d (dI q.2.2.2.1), .d (dI q.2.2.2.2), .osl 802 3 0 3])), (801, some (.mrow 58 q.2.1 5 junkF)), (802, some (.cells [.d .junk, .d .junk, .own 810, .d .junk, .d .junk, .own 811, .d .junk, .d .junk, .own 812])), (810, some (.row 63 r0.corners.length 2 junkF)), (811, some (.row 63 r1.corners.length 2 junkF)), (812, some (.row 63 r2.corners.length 2 junkF))]⟩) (fun q => q.2.1 ≤ 1000) ?_ ?_
  · subst hceq
    refine ex.sound (rc := [19]) tab_ok mix href _ ?_
    refine ⟨[(701, 801), (702, 802), (710, 810), (711, 811), (712, 812)], _, _, _, _, BoxO3 nm ax ov bu r0 r1 r2 1 hc y0 (Nat.le_trans m0 (by decide)) y1 (Nat.le_trans m1 (by decide)) y2 (Nat.le_trans m2 (by decide)) hB.1 (by decide) hB.2, rfl, trivial, rfl, ?_⟩
    exact ⟨rfl, (false, ax.length, nm, ov, bu), hax, SubI.of0 href [] rfl ⟨br, br, br, br, ⟨rfl, LeBx.cells ⟨LeQ.rfl, LeQ.mo rfl, LeQ.rfl, LeQ.rfl, LeQ.rfl, trivial⟩⟩, ⟨rfl, LeBx.rjunk⟩, ⟨rfl, LeBx.cells ⟨LeQ.junk, LeQ.junk, LeQ.rfl, LeQ.junk, LeQ.junk, LeQ.rfl, LeQ.junk, LeQ.junk, LeQ.rfl, trivial⟩⟩, ⟨rfl, LeBx.jrow⟩, ⟨rfl, LeBx.jrow⟩, ⟨rfl, LeBx.jrow⟩, trivial⟩ ⟨er, er, er, er, er, trivial⟩⟩
  rintro ⟨z8, n8, s8, o8, u8⟩ hq8
  simp only at hq8 ⊢
  refine AW.cutE (fun q : Bool × Nat × ByteArray × Int × Int => ⟨[(2, .s (.ptr 2 0)), (3, .s (.ptr 3 0)), (5, .s (.ptr 5 0)), (6, .s (.ptr 6 0)), (7, .s (.ptr 7 0)), (9, .s (.ptr 9 0))], [(2, some (chanB c)), (3, some (gridB g)), (5, some (chanB c)), (6, some (gridB g)), (7, some (.cells [.d (dS s8), .mo z8 801, .d (dI o8), .d (dI u8), .osl 802 3 0 3])), (801, some (.mrow 58 n8 5 junkF)), (802, some (.cells [.d .junk, .d .junk, .own 810, .d .junk, .d .junk, .own 811, .d .junk, .d .junk, .own 812])), (810, some (.row 63 r0.corners.length 2 junkF)), (811, some (.row 63 r1.corners.length 2 junkF)), (812, some (.row 63 r2.corners.length 2 junkF)), (9, some (.cells [.d (dS q.2.2.1), .mo q.1 901, .d (dI q.2.2.2.1), .d (dI q.2.2.2.2), .d (.slc 0 3 junkF)])), (901, some (.mrow 58 q.2.1 5 junkF))]⟩) (fun q => q.2.1 ≤ 1000) ?_ ?_
  · obtain ⟨e, hx⟩ := hD
    refine ex.sound (rc := []) tab_ok mix href _ ?_
    refine callN hx ?_
    exact ⟨rfl, (true, 0, ⟨#[]⟩, 0, 0), Nat.zero_le _, SubI.of0 href [(901, 1000)] rfl ⟨br, br, br, br, br, br, br, br, br, br, ⟨rfl, LeBx.cells ⟨LeQ.rfl, LeQ.nil rfl, LeQ.rfl, LeQ.rfl, LeQ.d LeD.nil, trivial⟩⟩, ⟨rfl, rfl⟩, trivial⟩ ⟨er, er, er, er, er, er, trivial⟩⟩
  rintro ⟨z9, n9, s9, o9, u9⟩ hq9
  simp only at hq9 ⊢
  refine AW.cutE (fun q : Bool × Nat × Grid => ⟨[(2, .s (.ptr 2 0)), (3, .s (.ptr 3 0)), (5, .s (.ptr 5 0)), (6, .s (.ptr 6 0)), (7, .s (.ptr 7 0)), (9, .s (.ptr 9 0)), (11, .s (.ptr 11 0))], [(2, some (chanB c)), (3, some (gridB g)), (5, some (chanB c)), (6, some (gridB g)), (7, some (.cells [.d (dS s8), .mo z8 801, .d (dI o8), .d (dI u8), .osl 802 3 0 3])), (801, some (.mrow 58 n8 5 junkF)), (802, some (.cells [.d .junk, .d .junk, .own 810, .d .junk, .d .junk, .own 811, .d .junk, .d .junk, .own 812])), (810, some (.row 63 r0.corners.length 2 junkF)), (811, some (.row 63 r1.corners.length 2 junkF)), (812, some (.row 63 r2.corners.length 2 junkF)), (9, some (.cells [.d (dS s9), .mo z9 901, .d (dI o9), .d (dI u9), .d (.slc 0 3 junkF)])), (901, some (.mrow 58 n9 5 junkF)), (11, some (.cells [.d (dI q.2.2.x), .d (dI q.2.2.y), .d (dI q.2.2.side), .d (dI q.2.2.cols), .d (dI q.2.2.rows), .mo q.1 1001])), (1001, some (.mrow 3 q.2.1 1 junkF))]⟩) (fun q => q.2.1 ≤ 2000) ?_ ?_
  · by_cases he : withErr c [g] = 0
    · refine ex.sound (rc := [27]) tab_ok mix href _ ?_
      refine ⟨[(701, 1001)], _, _, _, _, DesignGridO c g hc hg he, rfl, trivial, rfl, ?_⟩
      exact ⟨rfl, (false, g.levels.length, g), by simp only; omega, SubI.of0 href [] rfl ⟨br, br, br, br, br, br, br, br, br, br, br, br, ⟨rfl, LeBx.cells ⟨LeQ.rfl, LeQ.rfl, LeQ.rfl, LeQ.rfl, LeQ.rfl, LeQ.mo rfl, trivial⟩⟩, ⟨rfl, LeBx.rjunk⟩, trivial⟩ ⟨er, er, er, er, er, er, er, trivial⟩⟩
    · refine ex.sound (rc := []) tab_ok mix href _ ?_
      refine callN (DesignGridE c g hc hg he) ?_
      exact ⟨rfl, (true, 0, zeroG), Nat.zero_le _, SubI.of0 href [(1001, 1000)] rfl ⟨br, br, br, br, br, br, br, br, br, br, br, br, ⟨rfl, LeBx.cells ⟨LeQ.rfl, LeQ.rfl, LeQ.rfl, LeQ.rfl, LeQ.rfl, LeQ.nil rfl, trivial⟩⟩, ⟨rfl, rfl⟩, trivial⟩ ⟨er, er, er, er, er, er, er, trivial⟩⟩
  rintro ⟨zd, nd, Gd⟩ hqnd
  simp only at hqnd ⊢
  refine AW.cutE (fun q : Bool × Nat × Grid => ⟨[(2, .s (.ptr 2 0)), (3, .s (.ptr 3 0)), (5, .s (.ptr 5 0)), (6, .s (.ptr 6 0)), (7, .s (.ptr 7 0)), (9, .s (.ptr 9 0)), (11, .s (.ptr 11 0)), (13, .s (.ptr 13 0))], [(2, some (chanB c)), (3, some (gridB g)), (5, some (chanB c)), (6, some (gridB g)), (7, some (.cells [.d (dS s8), .mo z8 801, .d (dI o8), .d (dI u8), .osl 802 3 0 3])), (801, some (.mrow 58 n8 5 junkF)), (802, some (.cells [.d .junk, .d .junk, .own 810, .d .junk, .d .junk, .own 811, .d .junk, .d .junk, .own 812])), (810, some (.row 63 r0.corners.length 2 junkF)), (811, some (.row 63 r1.corners.length 2 junkF)), (812, some (.row 63 r2.corners.length 2 junkF)), (9, some (.cells [.d (dS s9), .mo z9 901, .d (dI o9), .d (dI u9), .d (.slc 0 3 junkF)])), (901, some (.mrow 58 n9 5 junkF)), (11, some (.cells [.d (dI Gd.x), .d (dI Gd.y), .d (dI Gd.side), .d (dI Gd.cols), .d (dI Gd.rows), .mo zd 1001])), (1001, some (.mrow 3 nd 1 junkF)), (13, some (.cells [.d (dI q.2.2.x), .d (dI q.2.2.y), .d (dI q.2.2.side), .d (dI q.2.2.cols), .d (dI q.2.2.rows), .mo q.1 1002])), (1002, some (.mrow 3 q.2.1 1 junkF))]⟩) (fun q => q.2.1 ≤ 2000) ?_ ?_
  · by_cases he : withErr c [g] = 0
    · refine ex.sound (rc := [28]) tab_ok mix href _ ?_
      refine ⟨[(701, 1002)], _, _, _, _, ToleranceGridO c g hc hg he, rfl, trivial, rfl, ?_⟩
      exact ⟨rfl, (false, g.levels.length, g), by simp only; omega, SubI.of0 href [] rfl ⟨br, br, br, br, br, br, br, br, br, br, br, br, br, br, ⟨rfl, LeBx.cells ⟨LeQ.rfl, LeQ.rfl, LeQ.rfl, LeQ.rfl, LeQ.rfl, LeQ.mo rfl, trivial⟩⟩, ⟨rfl, LeBx.rjunk⟩, trivial⟩ ⟨er, er, er, er, er, er, er, er, trivial⟩⟩
    · refine ex.sound (rc := []) tab_ok mix href _ ?_
      refine callN (ToleranceGridE c g hc hg he) ?_
      exact ⟨rfl, (true, 0, zeroG), Nat.zero_le _, SubI.of0 href [(1002, 1000)] rfl ⟨br, br, br, br, br, br, br, br, br, br, br, br, br, br, ⟨rfl, LeBx.cells ⟨LeQ.rfl, LeQ.rfl, LeQ.rfl, LeQ.rfl, LeQ.rfl, LeQ.nil rfl, trivial⟩⟩, ⟨rfl, rfl⟩, trivial⟩ ⟨er, er, er, er, er, er, er, er, trivial⟩⟩
  rintro ⟨zt, nt, Gt⟩ hqnt
  simp only at hqnt ⊢
  refine AW.cut (σ' := ⟨bE ++ [], bB c g zd zt nd nt Gd Gt ++ []⟩) (ex.sound (rc := []) tab_ok mix href _ ?_) ?_
  · refine AW.loopI (fun i : Nat => match i with | 0 => (⟨bE ++ [(61, .g [.d (dS s8), .mo z8 801, .d (dI o8), .d (dI u8), .osl 802 3 0 3, .d (dS s9), .mo z9 901, .d (dI o9), .d (dI u9), .d (.slc 0 3 junkF)]), (62, vI 0)], bB c g zd zt nd nt Gd Gt ++ [(801, some (.mrow 58 n8 5 junkF)), (802, some (.cells [.d .junk, .d .junk, .own 810, .d .junk, .d .junk, .own 811, .d .junk, .d .junk, .own 812])), (810, some (.row 63 r0.corners.length 2 junkF)), (811, some (.row 63 r1.corners.length 2 junkF)), (812, some (.row 63 r2.corners.length 2 junkF)), (901, some (.mrow 58 n9 5 junkF))]⟩ : St) | 1 => ⟨bE ++ [(61, .g [.d .junk, .d .junk, .d .junk, .d .junk, .d .junk, .d (dS s9), .mo z9 901, .d (dI o9), .d (dI u9), .d (.slc 0 3 junkF)]), (62, vI 1)], bB c g zd zt nd nt Gd Gt ++ [(901, some (.mrow 58 n9 5 junkF))]⟩ | _ => ⟨bE ++ [(62, vI 2)], bB c g zd zt nd nt Gd Gt ++ []⟩) (fun i => i ≤ 2) (fun i => 2 - i) 0 (Nat.zero_le _) ?_ ?_
    · exact SubI.of0 href [] rfl ⟨br, br, br, br, br, br, br, br, br, br, br, br, br, br, trivial⟩ ⟨er, er, er, er, er, er, er, er, trivial⟩
    · intro i hi
      match i, hi with
      | 0, _ =>
        refine AW.seq (ex.sound (rc := []) tab_ok mix href _ ?_)
        refine AW.seq (ex.sound (rc := []) tab_ok mix href _ ?_)
        refine And.intro (fun _ => ?_) (fun h => by cases (show (decide ((0 : Int) < 2)) = false from h))
        refine AW.seq (AW.block (AW.seq (ex.sound (rc := []) tab_ok mix href _ ?_)))
        refine oi ⟨by decide, by decide⟩ ?_
        have hzn := bif_le (z := z8) (n := n8)
        refine AW.cut (σ' := ⟨bE ++ [(61, .g [.d .junk, .d .junk, .d .junk, .d .junk, .d .junk, .d (dS s9), .mo z9 901, .d (dI o9), .d (dI u9), .d (.slc 0 3 junkF)]), (62, vI 0), (16, .s (.ptr 16 0))], bB c g zd zt nd nt Gd Gt ++ [(16, some (.cells [.d (dS s8), .mo z8 801, .d (dI o8), .d (dI u8), .osl 802 3 0 3])), (801, some (.mrow 58 n8 5 junkF)), (802, some (.cells [.d .junk, .d .junk, .own 810, .d .junk, .d .junk, .own 811, .d .junk, .d .junk, .own 812])), (810, some (.row 63 r0.corners.length 2 junkF)), (811, some (.row 63 r1.corners.length 2 junkF)), (812, some (.row 63 r2.corners.length 2 junkF)), (901, some (.mrow 58 n9 5 junkF))]⟩) (ex.sound (rc := []) tab_ok mix href _ ?_) ?_
        · refine AW.loopI (fun m : Nat => (⟨bE ++ [(61, .g [.d .junk, .d .junk, .d .junk, .d .junk, .d .junk, .d (dS s9), .mo z9 901, .d (dI o9), .d (dI u9), .d (.slc 0 3 junkF)]), (62, vI 0), (16, .s (.ptr 16 0)), (17, vI m)], bB c g zd zt nd nt Gd Gt ++ [(16, some (.cells [.d (dS s8), .mo z8 801, .d (dI o8), .d (dI u8), .osl 802 3 0 3])), (801, some (.mrow 58 n8 5 junkF)), (802, some (.cells [.d .junk, .d .junk, .own 810, .d .junk, .d .junk, .own 811, .d .junk, .d .junk, .own 812])), (810, some (.row 63 r0.corners.length 2 junkF)), (811, some (.row 63 r1.corners.length 2 junkF)), (812, some (.row 63 r2.corners.length 2 junkF)), (901, some (.mrow 58 n9 5 junkF))]⟩ : St)) (fun m => m ≤ (bif z8 then 0 else n8)) (fun m => (bif z8 then 0 else n8) - m) 0 (Nat.zero_le _) ?_ ?_
          · exact SubI.of0 href [] rfl ⟨br, br, br, br, br, br, br, br, br, br, br, br, br, br, br, trivial⟩ ⟨er, er, er, er, er, er, ⟨rfl, LeQ.g ⟨LeQ.junk, LeQ.junk, LeQ.junk, LeQ.junk, LeQ.junk, LeQ.rfl, LeQ.rfl, LeQ.rfl, LeQ.rfl, LeQ.rfl, trivial⟩⟩, er, er, er, trivial⟩
          · intro m hm
            refine ex.sound (rc := []) tab_ok mix href _ ?_
            refine And.intro (fun h => ?_) (fun h => ?_)
            · have h : (m : Int) < ((bif z8 then 0 else n8 : Nat) : Int) := decT h
              refine oi ⟨by omega, by show (m : Int) < ((bif z8 then 0 else n8 : Nat) : Int); omega⟩ ?_
              refine ob (show (m : Int).toNat < n8 by omega) ?_
              refine ⟨m + 1, by omega, by omega, ?_⟩
              exact SubI.of0 href [] rfl ⟨br, br, br, br, br, br, br, br, br, ⟨rfl, LeBx.junk⟩, br, br, br, br, br, trivial⟩ ⟨er, er, er, er, er, er, er, er, er, ⟨rfl, LeQ.int (w64_of (by omega) (by omega))⟩, trivial⟩
            · exact ⟨rfl, SubI.of0 href [] rfl ⟨br, br, br, br, br, br, br, br, br, br, br, br, br, br, br, trivial⟩ ⟨er, er, er, er, er, er, er, er, er, trivial⟩⟩
        refine AW.seq (ex.sound (rc := []) tab_ok mix href _ ?_)
        refine ex.sound (rc := []) tab_ok mix href _ ?_
        refine AW.loopI (fun j : Nat => (⟨bE ++ [(61, .g [.d .junk, .d .junk, .d .junk, .d .junk, .d .junk, .d (dS s9), .mo z9 901, .d (dI o9), .d (dI u9), .d (.slc 0 3 junkF)]), (62, vI 0), (16, .s (.ptr 16 0)), (18, vI j)], bB c g zd zt nd nt Gd Gt ++ [(16, some (.cells [.d (dS s8), .mo z8 801, .d (dI o8), .d (dI u8), .osl 802 3 0 3])), (801, some (.mrow 58 n8 5 junkF)), (802, some (.cells [.d .junk, .d .junk, .own 810, .d .junk, .d .junk, .own 811, .d .junk, .d .junk, .own 812])), (810, some (.row 63 r0.corners.length 2 junkF)), (811, some (.row 63 r1.corners.length 2 junkF)), (812, some (.row 63 r2.corners.length 2 junkF)), (901, some (.mrow 58 n9 5 junkF))]⟩ : St)) (fun j => j ≤ 3) (fun j => 3 - j) 0 (Nat.zero_le _) ?_ ?_
        · exact SubI.of0 href [] rfl ⟨br, br, br, br, br, br, br, br, br, br, br, br, br, br, br, trivial⟩ ⟨er, er, er, er, er, er, er, er, er, er, trivial⟩
        · intro j hj
          match j, hj with
          | 0, _ =>
            refine AW.seq (ex.sound (rc := []) tab_ok mix href _ ?_)
            refine And.intro (fun _ => ?_) (fun h => by cases (show (decide ((0 : Int) < 3)) = false from h))
            refine AW.seq (AW.block ?_)
            refine AW.cut (σ' := ⟨bE ++ [(61, .g [.d .junk, .d .junk, .d .junk, .d .junk, .d .junk, .d (dS s9), .mo z9 901, .d (dI o9), .d (dI u9), .d (.slc 0 3 junkF)]), (62, vI 0), (16, .s (.ptr 16 0)), (18, vI 0)], bB c g zd zt nd nt Gd Gt ++ [(16, some (.cells [.d (dS s8), .mo z8 801, .d (dI o8), .d (dI u8), .osl 802 3 0 3])), (801, some (.mrow 58 n8 5 junkF)), (802, some (.cells [.d .junk, .d .junk, .own 810, .d .junk, .d .junk, .own 811, .d .junk, .d .junk, .own 812])), (810, some (.row 63 r0.corners.length 2 junkF)), (811, some (.row 63 r1.corners.length 2 junkF)), (812, some (.row 63 r2.corners.length 2 junkF)), (901, some (.mrow 58 n9 5 junkF))]⟩) (ex.sound (rc := []) tab_ok mix href _ ?_) ?_
            · refine AW.loopI (fun m : Nat => (⟨bE ++ [(61, .g [.d .junk, .d .junk, .d .junk, .d .junk, .d .junk, .d (dS s9), .mo z9 901, .d (dI o9), .d (dI u9), .d (.slc 0 3 junkF)]), (62, vI 0), (16, .s (.ptr 16 0)), (18, vI 0), (19, vI m)], bB c g zd zt nd nt Gd Gt ++ [(16, some (.cells [.d (dS s8), .mo z8 801, .d (dI o8), .d (dI u8), .osl 802 3 0 3])), (801, some (.mrow 58 n8 5 junkF)), (802, some (.cells [.d .junk, .d .junk, .own 810, .d .junk, .d .junk, .own 811, .d .junk, .d .junk, .own 812])), (810, some (.row 63 r0.corners.length 2 junkF)), (811, some (.row 63 r1.corners.length 2 junkF)), (812, some (.row 63 r2.corners.length 2 junkF)), (901, some (.mrow 58 n9 5 junkF))]⟩ : St)) (fun m => m ≤ r0.corners.length) (fun m => r0.corners.length - m) 0 (Nat.zero_le _) ?_ ?_
              · exact SubI.of0 href [] rfl ⟨br, br, br, br, br, br, br, br, br, br, br, br, br, br, br, trivial⟩ ⟨er, er, er, er, er, er, er, er, er, er, er, trivial⟩
              · intro m hm
                refine ex.sound (rc := []) tab_ok mix href _ ?_
                refine oi ⟨by decide, by decide⟩ ?_
                refine And.intro (fun h => ?_) (fun h => ?_)
                · have h : (m : Int) < (r0.corners.length : Int) := decT h
                  refine oi ⟨by decide, by decide⟩ ?_
                  refine oi ⟨by omega, by omega⟩ ?_
                  refine ob (show (m : Int).toNat < r0.corners.length by omega) ?_
                  refine ⟨m + 1, by omega, by omega, ?_⟩
                  exact SubI.of0 href [] rfl ⟨br, br, br, br, br, br, br, br, br, br, br, ⟨rfl, LeBx.jrow⟩, br, br, br, trivial⟩ ⟨er, er, er, er, er, er, er, er, er, er, ⟨rfl, LeQ.int (w64_of (by omega) (by omega))⟩, trivial⟩
                · exact ⟨rfl, SubI.of0 href [] rfl ⟨br, br, br, br, br, br, br, br, br, br, br, br, br, br, br, trivial⟩ ⟨er, er, er, er, er, er, er, er, er, er, trivial⟩⟩
            · refine ex.sound (rc := []) tab_ok mix href _ ?_
              refine oi ⟨by decide, by decide⟩ ?_
              refine ex.sound (rc := []) tab_ok mix href _ ?_
              refine ⟨1, by decide, by decide, ?_⟩
              exact SubI.of0 href [] rfl ⟨br, br, br, br, br, br, br, br, br, br, ⟨rfl, LeBx.cells ⟨LeQ.junk, LeQ.junk, LeQ.rfl, LeQ.junk, LeQ.junk, LeQ.rfl, LeQ.junk, LeQ.junk, LeQ.rfl, trivial⟩⟩, br, br, br, br, trivial⟩ ⟨er, er, er, er, er, er, er, er, er, er, trivial⟩
          | 1, _ =>
            refine AW.seq (ex.sound (rc := []) tab_ok mix href _ ?_)
            refine And.intro (fun _ => ?_) (fun h => by cases (show (decide ((1 : Int) < 3)) = false from h))
            refine AW.seq (AW.block ?_)
            refine AW.cut (σ' := ⟨bE ++ [(61, .g [.d .junk, .d .junk, .d .junk, .d .junk, .d .junk, .d (dS s9), .mo z9 901, .d (dI o9), .d (dI u9), .d (.slc 0 3 junkF)]), (62, vI 0), (16, .s (.ptr 16 0)), (18, vI 1)], bB c g zd zt nd nt Gd Gt ++ [(16, some (.cells [.d (dS s8), .mo z8 801, .d (dI o8), .d (dI u8), .osl 802 3 0 3])), (801, some (.mrow 58 n8 5 junkF)), (802, some (.cells [.d .junk, .d .junk, .own 810, .d .junk, .d .junk, .own 811, .d .junk, .d .junk, .own 812])), (810, some (.row 63 r0.corners.length 2 junkF)), (811, some (.row 63 r1.corners.length 2 junkF)), (812, some (.row 63 r2.corners.length 2 junkF)), (901, some (.mrow 58 n9 5 junkF))]⟩) (ex.sound (rc := []) tab_ok mix href _ ?_) ?_
            · refine AW.loopI (fun m : Nat => (⟨bE ++ [(61, .g [.d .junk, .d .junk, .d .junk, .d .junk, .d .junk, .d (dS s9), .mo z9 901, .d (dI o9), .d (dI u9), .d (.slc 0 3 junkF)]), (62, vI 0), (16, .s (.ptr 16 0)), (18, vI 1), (19, vI m)], bB c g zd zt nd nt Gd Gt ++ [(16, some (.cells [.d (dS s8), .mo z8 801, .d (dI o8), .d (dI u8), .osl 802 3 0 3])), (801, some (.mrow 58 n8 5 junkF)), (802, some (.cells [.d .junk, .d .junk, .own 810, .d .junk, .d .junk, .own 811, .d .junk, .d .junk, .own 812])), (810, some (.row 63 r0.corners.length 2 junkF)), (811, some (.row 63 r1.corners.length 2 junkF)), (812, some (.row 63 r2.corners.length 2 junkF)), (901, some (.mrow 58 n9 5 junkF))]⟩ : St)) (fun m => m ≤ r1.corners.length) (fun m => r1.corners.length - m) 0 (Nat.zero_le _) ?_ ?_
              · exact SubI.of0 href [] rfl ⟨br, br, br, br, br, br, br, br, br, br, br, br, br, br, br, trivial⟩ ⟨er, er, er, er, er, er, er, er, er, er, er, trivial⟩
              · intro m hm
                refine ex.sound (rc := []) tab_ok mix href _ ?_
                refine oi ⟨by decide, by decide⟩ ?_
                refine And.intro (fun h => ?_) (fun h => ?_)
                · have h : (m : Int) < (r1.corners.length : Int) := decT h
                  refine oi ⟨by decide, by decide⟩ ?_
                  refine oi ⟨by omega, by omega⟩ ?_
                  refine ob (show (m : Int).toNat < r1.corners.length by omega) ?_
                  refine ⟨m + 1, by omega, by omega, ?_⟩
                  exact SubI.of0 href [] rfl ⟨br, br, br, br, br, br, br, br, br, br, br, br, ⟨rfl, LeBx.jrow⟩, br, br, trivial⟩ ⟨er, er, er, er, er, er, er, er, er, er, ⟨rfl, LeQ.int (w64_of (by omega) (by omega))⟩, trivial⟩
                · exact ⟨rfl, SubI.of0 href [] rfl ⟨br, br, br, br, br, br, br, br, br, br, br, br, br, br, br, trivial⟩ ⟨er, er, er, er, er, er, er, er, er, er, trivial⟩⟩
            · refine ex.sound (rc := []) tab_ok mix href _ ?_
              refine oi ⟨by decide, by decide⟩ ?_
              refine ex.sound (rc := []) tab_ok mix href _ ?_
              refine ⟨2, by decide, by decide, ?_⟩
              exact SubI.of0 href [] rfl ⟨br, br, br, br, br, br, br, br, br, br, ⟨rfl, LeBx.cells ⟨LeQ.junk, LeQ.junk, LeQ.rfl, LeQ.junk, LeQ.junk, LeQ.rfl, LeQ.junk, LeQ.junk, LeQ.rfl, trivial⟩⟩, br, br, br, br, trivial⟩ ⟨er, er, er, er, er, er, er, er, er, er, trivial⟩
          | 2, _ =>
            refine AW.seq (ex.sound (rc := []) tab_ok mix href _ ?_)
            refine And.intro (fun _ => ?_) (fun h => by cases (show (decide ((2 : Int) < 3)) = false from h))
            refine AW.seq (AW.block ?_)
            refine AW.cut (σ' := ⟨bE ++ [(61, .g [.d .junk, .d .junk, .d .junk, .d .junk, .d .junk, .d (dS s9), .mo z9 901, .d (dI o9), .d (dI u9), .d (.slc 0 3 junkF)]), (62, vI 0), (16, .s (.ptr 16 0)), (18, vI 2)], bB c g zd zt nd nt Gd Gt ++ [(16, some (.cells [.d (dS s8), .mo z8 801, .d (dI o8), .d (dI u8), .osl 802 3 0 3])), (801, some (.mrow 58 n8 5 junkF)), (802, some (.cells [.d .junk, .d .junk, .own 810, .d .junk, .d .junk, .own 811, .d .junk, .d .junk, .own 812])), (810, some (.row 63 r0.corners.length 2 junkF)), (811, some (.row 63 r1.corners.length 2 junkF)), (812, some (.row 63 r2.corners.length 2 junkF)), (901, some (.mrow 58 n9 5 junkF))]⟩) (ex.sound (rc := []) tab_ok mix href _ ?_) ?_
            · refine AW.loopI (fun m : Nat => (⟨bE ++ [(61, .g [.d .junk, .d .junk, .d .junk, .d .junk, .d .junk, .d (dS s9), .mo z9 901, .d (dI o9), .d (dI u9), .d (.slc 0 3 junkF)]), (62, vI 0), (16, .s (.ptr 16 0)), (18, vI 2), (19, vI m)], bB c g zd zt nd nt Gd Gt ++ [(16, some (.cells [.d (dS s8), .mo z8 801, .d (dI o8), .d (dI u8), .osl 802 3 0 3])), (801, some (.mrow 58 n8 5 junkF)), (802, some (.cells [.d .junk, .d .junk, .own 810, .d .junk, .d .junk, .own 811, .d .junk, .d .junk, .own 812])), (810, some (.row 63 r0.corners.length 2 junkF)), (811, some (.row 63 r1.corners.length 2 junkF)), (812, some (.row 63 r2.corners.length 2 junkF)), (901, some (.mrow 58 n9 5 junkF))]⟩ : St)) (fun m => m ≤ r2.corners.length) (fun m => r2.corners.length - m) 0 (Nat.zero_le _) ?_ ?_
              · exact SubI.of0 href [] rfl ⟨br, br, br, br, br, br, br, br, br, br, br, br, br, br, br, trivial⟩ ⟨er, er, er, er, er, er, er, er, er, er, er, trivial⟩
              · intro m hm
                refine ex.sound (rc := []) tab_ok mix href _ ?_
                refine oi ⟨by decide, by decide⟩ ?_
                refine And.intro (fun h => ?_) (fun h => ?_)
                · have h : (m : Int) < (r2.corners.length : Int) := decT h
                  refine oi ⟨by decide, by decide⟩ ?_
                  refine oi ⟨by omega, by omega⟩ ?_
                  refine ob (show (m : Int).toNat < r2.corners.length by omega) ?_
                  refine ⟨m + 1, by omega, by omega, ?_⟩
                  exact SubI.of0 href [] rfl ⟨br, br, br, br, br, br, br, br, br, br, br, br, br, ⟨rfl, LeBx.jrow⟩, br, trivial⟩ ⟨er, er, er, er, er, er, er, er, er, er, ⟨rfl, LeQ.int (w64_of (by omega) (by omega))⟩, trivial⟩
                · exact ⟨rfl, SubI.of0 href [] rfl ⟨br, br, br, br, br, br, br, br, br, br, br, br, br, br, br, trivial⟩ ⟨er, er, er, er, er, er, er, er, er, er, trivial⟩⟩
            · refine ex.sound (rc := []) tab_ok mix href _ ?_
              refine oi ⟨by decide, by decide⟩ ?_
              refine ex.sound (rc := []) tab_ok mix href _ ?_
              refine ⟨3, by decide, by decide, ?_⟩
              exact SubI.of0 href [] rfl ⟨br, br, br, br, br, br, br, br, br, br, ⟨rfl, LeBx.cells ⟨LeQ.junk, LeQ.junk, LeQ.rfl, LeQ.junk, LeQ.junk, LeQ.rfl, LeQ.junk, LeQ.junk, LeQ.rfl, trivial⟩⟩, br, br, br, br, trivial⟩ ⟨er, er, er, er, er, er, er, er, er, er, trivial⟩
          | 3, _ =>
            refine ex.sound (rc := []) tab_ok mix href _ ?_
            refine And.intro (fun h => by cases (show (decide ((3 : Int) < 3)) = true from h)) (fun _ => ?_)
            refine ex.sound (rc := []) tab_ok mix href _ ?_
            refine ⟨1, by decide, by decide, ?_⟩
            exact SubI.of0 href [] rfl ⟨br, br, br, br, br, br, br, br, br, trivial⟩ ⟨er, er, er, er, er, er, er, er, trivial⟩
      | 1, _ =>
        refine AW.seq (ex.sound (rc := []) tab_ok mix href _ ?_)
        refine AW.seq (ex.sound (rc := []) tab_ok mix href _ ?_)
        refine And.intro (fun _ => ?_) (fun h => by cases (show (decide ((1 : Int) < 2)) = false from h))
        refine AW.seq (AW.block (AW.seq (ex.sound (rc := []) tab_ok mix href _ ?_)))
        refine oi ⟨by decide, by decide⟩ ?_
        have hzn := bif_le (z := z9) (n := n9)
        refine AW.cut (σ' := ⟨bE ++ [(62, vI 1), (16, .s (.ptr 16 0))], bB c g zd zt nd nt Gd Gt ++ [(16, some (.cells [.d (dS s9), .mo z9 901, .d (dI o9), .d (dI u9), .d (.slc 0 3 junkF)])), (901, some (.mrow 58 n9 5 junkF))]⟩) (ex.sound (rc := []) tab_ok mix href _ ?_) ?_
        · refine AW.loopI (fun m : Nat => (⟨bE ++ [(62, vI 1), (16, .s (.ptr 16 0)), (17, vI m)], bB c g zd zt nd nt Gd Gt ++ [(16, some (.cells [.d (dS s9), .mo z9 901, .d (dI o9), .d (dI u9), .d (.slc 0 3 junkF)])), (901, some (.mrow 58 n9 5 junkF))]⟩ : St)) (fun m => m ≤ (bif z9 then 0 else n9)) (fun m => (bif z9 then 0 else n9) - m) 0 (Nat.zero_le _) ?_ ?_
          · exact SubI.of0 href [] rfl ⟨br, br, br, br, br, br, br, br, br, br, trivial⟩ ⟨er, er, er, er, er, er, er, er, er, trivial⟩
          · intro m hm
            refine ex.sound (rc := []) tab_ok mix href _ ?_
            refine And.intro (fun h => ?_) (fun h => ?_)
            · have h : (m : Int) < ((bif z9 then 0 else n9 : Nat) : Int) := decT h
              refine oi ⟨by omega, by show (m : Int) < ((bif z9 then 0 else n9 : Nat) : Int); omega⟩ ?_
              refine ob (show (m : Int).toNat < n9 by omega) ?_
              refine ⟨m + 1, by omega, by omega, ?_⟩
              exact SubI.of0 href [] rfl ⟨br, br, br, br, br, br, br, br, br, ⟨rfl, LeBx.junk⟩, trivial⟩ ⟨er, er, er, er, er, er, er, er, ⟨rfl, LeQ.int (w64_of (by omega) (by omega))⟩, trivial⟩
            · exact ⟨rfl, SubI.of0 href [] rfl ⟨br, br, br, br, br, br, br, br, br, br, trivial⟩ ⟨er, er, er, er, er, er, er, er, trivial⟩⟩
        refine AW.seq (ex.sound (rc := []) tab_ok mix href _ ?_)
        refine ex.sound (rc := []) tab_ok mix href _ ?_
        refine AW.loopI (fun j : Nat => (⟨bE ++ [(62, vI 1), (16, .s (.ptr 16 0)), (18, vI j)], bB c g zd zt nd nt Gd Gt ++ [(16, some (.cells [.d (dS s9), .mo z9 901, .d (dI o9), .d (dI u9), .d (.slc 0 3 junkF)])), (901, some (.mrow 58 n9 5 junkF))]⟩ : St)) (fun j => j ≤ 0) (fun j => 0 - j) 0 (Nat.zero_le _) ?_ ?_
        · exact SubI.of0 href [] rfl ⟨br, br, br, br, br, br, br, br, br, br, trivial⟩ ⟨er, er, er, er, er, er, er, er, er, trivial⟩
        · intro j hj
          match j, hj with
          | 0, _ =>
            refine ex.sound (rc := []) tab_ok mix href _ ?_
            refine And.intro (fun h => by cases (show (decide ((0 : Int) < 0)) = true from h)) (fun _ => ?_)
            refine ex.sound (rc := []) tab_ok mix href _ ?_
            refine ⟨2, by decide, by decide, ?_⟩
            exact SubI.of0 href [] rfl ⟨br, br, br, br, br, br, br, br, trivial⟩ ⟨er, er, er, er, er, er, er, trivial⟩
      | 2, _ =>
        refine ex.sound (rc := []) tab_ok mix href _ ?_
        refine And.intro (fun h => by cases (show (decide ((2 : Int) < 2)) = true from h)) (fun _ => ?_)
        exact ⟨rfl, SubI.of0 href [] rfl ⟨br, br, br, br, br, br, br, br, trivial⟩ ⟨er, er, er, er, er, er, trivial⟩⟩
  refine AW.cut (σ' := ⟨[(2, .s (.ptr 2 0)), (3, .s (.ptr 3 0)), (5, .s (.ptr 5 0)), (6, .s (.ptr 6 0))], [(2, some (chanB c)), (3, some (gridB g)), (5, some (chanB c)), (6, some (gridB g))]⟩) (ex.sound (rc := []) tab_ok mix href _ ?_) ?_
  · refine AW.loopI (fun i : Nat => match i with | 0 => (⟨[(2, .s (.ptr 2 0)), (3, .s (.ptr 3 0)), (5, .s (.ptr 5 0)), (6, .s (.ptr 6 0)), (112, .g [.d (dI Gd.x), .d (dI Gd.y), .d (dI Gd.side), .d (dI Gd.cols), .d (dI Gd.rows), .mo zd 1001, .d (dI Gt.x), .d (dI Gt.y), .d (dI Gt.side), .d (dI Gt.cols), .d (dI Gt.rows), .mo zt 1002]), (113, vI 0)], [(2, some (chanB c)), (3, some (gridB g)), (5, some (chanB c)), (6, some (gridB g)), (1001, some (.mrow 3 nd 1 junkF)), (1002, some (.mrow 3 nt 1 junkF))]⟩ : St) | 1 => ⟨[(2, .s (.ptr 2 0)), (3, .s (.ptr 3 0)), (5, .s (.ptr 5 0)), (6, .s (.ptr 6 0)), (112, .g [.d (dI Gd.x), .d (dI Gd.y), .d (dI Gd.side), .d (dI Gd.cols), .d (dI Gd.rows), .mo zd 1001, .d (dI Gt.x), .d (dI Gt.y), .d (dI Gt.side), .d (dI Gt.cols), .d (dI Gt.rows), .mo zt 1002]), (113, vI 1)], [(2, some (chanB c)), (3, some (gridB g)), (5, some (chanB c)), (6, some (gridB g)), (1001, some (.mrow 3 nd 1 junkF)), (1002, some (.mrow 3 nt 1 junkF))]⟩ | _ => ⟨[(2, .s (.ptr 2 0)), (3, .s (.ptr 3 0)), (5, .s (.ptr 5 0)), (6, .s (.ptr 6 0)), (113, vI 2)], [(2, some (chanB c)), (3, some (gridB g)), (5, some (chanB c)), (6, some (gridB g)), (1001, some (.mrow 3 nd 1 junkF)), (1002, some (.mrow 3 nt 1 junkF))]⟩) (fun i => i ≤ 2) (fun i => 2 - i) 0 (Nat.zero_le _) ?_ ?_
    · exact SubI.of0 href [] rfl ⟨br, br, br, br, br, br, trivial⟩ ⟨er, er, er, er, er, er, trivial⟩
    · intro i hi
      match i, hi with
      | 0, _ =>
        refine ex.sound (rc := []) tab_ok mix href _ ?_
        refine And.intro (fun _ => ?_) (fun h => by cases (show (decide ((0 : Int) < 2)) = false from h))
        refine oi ⟨by decide, by decide⟩ ?_
        have hzn := bif_le (z := zd) (n := nd)
        refine AW.loopI (fun m : Nat => (⟨[(2, .s (.ptr 2 0)), (3, .s (.ptr 3 0)), (5, .s (.ptr 5 0)), (6, .s (.ptr 6 0)), (112, .g [.d (dI Gd.x), .d (dI Gd.y), .d (dI Gd.side), .d (dI Gd.cols), .d (dI Gd.rows), .mo zd 1001, .d (dI Gt.x), .d (dI Gt.y), .d (dI Gt.side), .d (dI Gt.cols), .d (dI Gt.rows), .mo zt 1002]), (113, vI 0), (21, .s (.ptr 21 0)), (22, vI m)], [(2, some (chanB c)), (3, some (gridB g)), (5, some (chanB c)), (6, some (gridB g)), (1001, some (.mrow 3 nd 1 junkF)), (1002, some (.mrow 3 nt 1 junkF)), (21, some (.cells [.d (dI Gd.x), .d (dI Gd.y), .d (dI Gd.side), .d (dI Gd.cols), .d (dI Gd.rows), .mo zd 1001]))]⟩ : St)) (fun m => m ≤ (bif zd then 0 else nd)) (fun m => (bif zd then 0 else nd) - m) 0 (Nat.zero_le _) ?_ ?_
        · exact SubI.of0 href [] rfl ⟨br, br, br, br, br, br, br, trivial⟩ ⟨er, er, er, er, er, er, er, er, trivial⟩
        · intro m hm
          refine ex.sound (rc := []) tab_ok mix href _ ?_
          refine And.intro (fun h => ?_) (fun h => ?_)
          · have h : (m : Int) < ((bif zd then 0 else nd : Nat) : Int) := decT h
            refine oi ⟨by omega, by show (m : Int) < ((bif zd then 0 else nd : Nat) : Int); omega⟩ ?_
            refine ob (show (m : Int).toNat < nd by omega) ?_
            refine ⟨m + 1, by omega, by omega, ?_⟩
            exact SubI.of0 href [] rfl ⟨br, br, br, br, ⟨rfl, LeBx.junk⟩, br, br, trivial⟩ ⟨er, er, er, er, er, er, er, ⟨rfl, LeQ.int (w64_of (by omega) (by omega))⟩, trivial⟩
          · refine ⟨1, by decide, by decide, ?_⟩
            exact SubI.of0 href [] rfl ⟨br, br, br, br, br, br, trivial⟩ ⟨er, er, er, er, er, er, trivial⟩
      | 1, _ =>
        refine ex.sound (rc := []) tab_ok mix href _ ?_
        refine And.intro (fun _ => ?_) (fun h => by cases (show (decide ((1 : Int) < 2)) = false from h))
        refine oi ⟨by decide, by decide⟩ ?_
        have hzn := bif_le (z := zt) (n := nt)
        refine AW.loopI (fun m : Nat => (⟨[(2, .s (.ptr 2 0)), (3, .s (.ptr 3 0)), (5, .s (.ptr 5 0)), (6, .s (.ptr 6 0)), (112, .g [.d (dI Gd.x), .d (dI Gd.y), .d (dI Gd.side), .d (dI Gd.cols), .d (dI Gd.rows), .mo zd 1001, .d (dI Gt.x), .d (dI Gt.y), .d (dI Gt.side), .d (dI Gt.cols), .d (dI Gt.rows), .mo zt 1002]), (113, vI 1), (21, .s (.ptr 21 0)), (22, vI m)], [(2, some (chanB c)), (3, some (gridB g)), (5, some (chanB c)), (6, some (gridB g)), (1001, some (.mrow 3 nd 1 junkF)), (1002, some (.mrow 3 nt 1 junkF)), (21, some (.cells [.d (dI Gt.x), .d (dI Gt.y), .d (dI Gt.side), .d (dI Gt.cols), .d (dI Gt.rows), .mo zt 1002]))]⟩ : St)) (fun m => m ≤ (bif zt then 0 else nt)) (fun m => (bif zt then 0 else nt) - m) 0 (Nat.zero_le _) ?_ ?_
        · exact SubI.of0 href [] rfl ⟨br, br, br, br, br, br, br, trivial⟩ ⟨er, er, er, er, er, er, er, er, trivial⟩
        · intro m hm
          refine ex.sound (rc := []) tab_ok mix href _ ?_
          refine And.intro (fun h => ?_) (fun h => ?_)
          · have h : (m : Int) < ((bif zt then 0 else nt : Nat) : Int) := decT h
            refine oi ⟨by omega, by show (m : Int) < ((bif zt then 0 else nt : Nat) : Int); omega⟩ ?_
            refine ob (show (m : Int).toNat < nt by omega) ?_
            refine ⟨m + 1, by omega, by omega, ?_⟩
            exact SubI.of0 href [] rfl ⟨br, br, br, br, br, ⟨rfl, LeBx.junk⟩, br, trivial⟩ ⟨er, er, er, er, er, er, er, ⟨rfl, LeQ.int (w64_of (by omega) (by omega))⟩, trivial⟩
          · refine ⟨2, by decide, by decide, ?_⟩
            exact SubI.of0 href [] rfl ⟨br, br, br, br, br, br, trivial⟩ ⟨er, er, er, er, er, trivial⟩
      | 2, _ =>
        refine ex.sound (rc := []) tab_ok mix href _ ?_
        refine And.intro (fun h => by cases (show (decide ((2 : Int) < 2)) = true from h)) (fun _ => ?_)
        exact ⟨rfl, SubI.of0 href [] rfl ⟨br, br, br, br, trivial⟩ ⟨er, er, er, er, trivial⟩⟩
  · refine ex.sound (rc := []) tab_ok mix href _ ?_
    refine callN (rSameEq c (by omega) (by omega) hcr) ?_
    repeat first | refine sk ?_ | refine st ?_ | refine sg ?_ | refine sh ?_ | refine su ?_ | refine sn1 ?_ | refine sn0 ?_ | refine And.intro (show imp none (gimp _ none) from trivial) ?_
    refine callG (sameGrid g (by omega)) ?_
    repeat first | refine sk ?_ | refine st ?_ | refine sg ?_ | refine sh ?_ | refine su ?_ | refine sn1 ?_ | refine sn0 ?_ | refine And.intro (show imp none (gimp _ none) from trivial) ?_
    exact SubR.lit rfl
theorem mem03 (nm : ByteArray) (ax : List Ap) (ov bu : Int) (r0 r1 r2 : Reg) (c : Chan) (hceq : c = ⟨nm, ax, ov, bu, [r0, r1, r2]⟩) (g : Grid) (hc : c.ok) (hg : g.ok) (hs : small c = true) (hf : few g = true) (y0 : 0 < r0.corners.length) (m0 : r0.corners.length ≤ 45) (y1 : 0 < r1.corners.length) (m1 : r1.corners.length ≤ 45) (y2 : 0 < r2.corners.length) (m2 : r2.corners.length ≤ 45) (hB : (∃ e, CallP Try.prog 19 [chan c, vI 1] (.t [.g (zvs ty25.zero), .s (.d (dI e))]))) (hD : errC c = 0 ∧ errC (deepC c 1) = 0) : CallP Try.prog 6 [chan c, grid g] (vB true) := by
  have hsm : Sm c := Sm.of hs
  have hr : c.regions.length ≤ 1000 := by have := hsm.regions; omega
  have hax : c.axis.length ≤ 1000 := by have := hsm.axis; omega
  have hcr : ∀ i, i < c.regions.length → (c.regions.getD i default).corners.length ≤ 1000000 := fun i hi => by have := hsm.corners i hi; omega
  have hgl := few_len hf
  refine callP_of_aw Try.func6 rfl rfl Try.call6 tab_ok rfl rfl (fun cx href => ?_)
  refine AW.seq (ex.sound (rc := []) tab_ok mix href _ ?_)
  refine AW.seq (ex.sound (rc := []) tab_ok mix href _ ?_)
  refine callN awake ?_
  refine And.intro (fun h => by cases (show (!true) = true from h)) (fun _ => ?_)
  refine AW.seq (ex.sound (rc := []) tab_ok mix href _ ?_)
  refine callN (Small c hc) ?_
  repeat first | refine sk ?_ | refine st ?_ | refine sg ?_ | refine sh ?_ | refine su ?_ | refine sn1 ?_ | refine sn0 ?_ | refine And.intro (show imp none (gimp _ none) from trivial) ?_
  refine callG (Few g hg.levels) ?_
  repeat first | refine sk ?_ | refine st ?_ | refine sg ?_ | refine sh ?_ | refine su ?_ | refine sn1 ?_ | refine sn0 ?_ | refine And.intro (show imp none (gimp _ none) from trivial) ?_
  refine And.intro (fun h => ?_) (fun _ => ?_)
  · have h : (!small c || !few g) = true := h
    rw [hs, hf] at h; cases h
  refine AW.seq (ex.sound (rc := []) tab_ok mix href _ ?_)
  refine callN (Copied c hsm) ?_
  refine callN (CopyGrid g (by omega)) ?_
  refine And.intro (by kernel_rfl) ?_
  refine AW.cutE (fun q : Bool × Nat × ByteArray × Int × Int => ⟨[(2, .s (.ptr 2 0)), (3, .s (.ptr 3 0)), (5, .s (.ptr 5 0)), (6, .s (.ptr 6 0)), (7, .s (.ptr 7 0))], [(2, some (chanB c)), (3, some (gridB g)), (5, some (chanB c)), (6, some (gridB g)), (7, some (.cells [.d (dS q.2.2.1), .mo q.1 801, .d (dI q.2.2.2.1), .d (dI q.2.2.2.2), .d (.slc 0 3 junkF)])), (801, some (.mrow 58 q.2.1 5 junkF))]⟩) (fun q => q.2.1 ≤ 1000) ?_ ?_
  · obtain ⟨e, hx⟩ := hB
    refine ex.sound (rc := []) tab_ok mix href _ ?_
    refine callN hx ?_
    exact ⟨rfl, (true, 0, ⟨#[]⟩, 0, 0), Nat.zero_le _, SubI.of0 href [(801, 1000)] rfl ⟨br, br, br, br, ⟨rfl, LeBx.cells ⟨LeQ.rfl, LeQ.nil rfl, LeQ.rfl, LeQ.rfl, LeQ.d LeD.nil, trivial⟩⟩, ⟨rfl, rfl⟩, trivial⟩ ⟨er, er, er, er, er, trivial⟩⟩
  rintro ⟨z8, n8, s8, o8, u8⟩ hq8
  simp only at hq8 ⊢
  refine AW.cutE (fun q : Bool × Nat × ByteArray × Int × Int => ⟨[(2, .s (.ptr 2 0)), (3, .s (.ptr 3 0)), (5, .s (.ptr 5 0)), (6, .s (.ptr 6 0)), (7, .s (.ptr 7 0)), (9, .s (.ptr 9 0))], [(2, some (chanB c)), (3, some (gridB g)), (5, some (chanB c)), (6, some (gridB g)), (7, some (.cells [.d (dS s8), .mo z8 801, .d (dI o8), .d (dI u8), .d (.slc 0 3 junkF)])), (801, some (.mrow 58 n8 5 junkF)), (9, some (.cells [.d (dS q.2.2.1), .mo q.1 901, .d (dI q.2.2.2.1), .d (dI q.2.2.2.2), .osl 902 3 0 3])), (901, some (.mrow 58 q.2.1 5 junkF)), (902, some (.cells [.d .junk, .d .junk, .own 910, .d .junk, .d .junk, .own 911, .d .junk, .d .junk, .own 912])), (910, some (.row 63 r0.corners.length 2 junkF)), (911, some (.row 63 r1.corners.length 2 junkF)), (912, some (.row 63 r2.corners.length 2 junkF))]⟩) (fun q => q.2.1 ≤ 1000) ?_ ?_
  · subst hceq
    refine ex.sound (rc := [20]) tab_ok mix href _ ?_
    refine ⟨[(701, 901), (702, 902), (710, 910), (711, 911), (712, 912)], _, _, _, _, DeepO3 nm ax ov bu r0 r1 r2 1 hc y0 (Nat.le_trans m0 (by decide)) y1 (Nat.le_trans m1 (by decide)) y2 (Nat.le_trans m2 (by decide)) hD.1 (by decide) hD.2, rfl, trivial, rfl, ?_⟩
    exact ⟨rfl, (false, ax.length, nm, ov, bu), hax, SubI.of0 href [] rfl ⟨br, br, br, br, br, br, ⟨rfl, LeBx.cells ⟨LeQ.rfl, LeQ.mo rfl, LeQ.rfl, LeQ.rfl, LeQ.rfl, trivial⟩⟩, ⟨rfl, LeBx.rjunk⟩, ⟨rfl, LeBx.cells ⟨LeQ.junk, LeQ.junk, LeQ.rfl, LeQ.junk, LeQ.junk, LeQ.rfl, LeQ.junk, LeQ.junk, LeQ.rfl, trivial⟩⟩, ⟨rfl, LeBx.jrow⟩, ⟨rfl, LeBx.jrow⟩, ⟨rfl, LeBx.jrow⟩, trivial⟩ ⟨er, er, er, er, er, er, trivial⟩⟩
  rintro ⟨z9, n9, s9, o9, u9⟩ hq9
  simp only at hq9 ⊢
  refine AW.cutE (fun q : Bool × Nat × Grid => ⟨[(2, .s (.ptr 2 0)), (3, .s (.ptr 3 0)), (5, .s (.ptr 5 0)), (6, .s (.ptr 6 0)), (7, .s (.ptr 7 0)), (9, .s (.ptr 9 0)), (11, .s (.ptr 11 0))], [(2, some (chanB c)), (3, some (gridB g)), (5, some (chanB c)), (6, some (gridB g)), (7, some (.cells [.d (dS s8), .mo z8 801, .d (dI o8), .d (dI u8), .d (.slc 0 3 junkF)])), (801, some (.mrow 58 n8 5 junkF)), (9, some (.cells [.d (dS s9), .mo z9 901, .d (dI o9), .d (dI u9), .osl 902 3 0 3])), (901, some (.mrow 58 n9 5 junkF)), (902, some (.cells [.d .junk, .d .junk, .own 910, .d .junk, .d .junk, .own 911, .d .junk, .d .junk, .own 912])), (910, some (.row 63 r0.corners.length 2 junkF)), (911, some (.row 63 r1.corners.length 2 junkF)), (912, some (.row 63 r2.corners.length 2 junkF)), (11, some (.cells [.d (dI q.2.2.x), .d (dI q.2.2.y), .d (dI q.2.2.side), .d (dI q.2.2.cols), .d (dI q.2.2.rows), .mo q.1 1001])), (1001, some (.mrow 3 q.2.1 1 junkF))]⟩) (fun q => q.2.1 ≤ 2000) ?_ ?_
  · by_cases he : withErr c [g] = 0
    · refine ex.sound (rc := [27]) tab_ok mix href _ ?_
      refine ⟨[(701, 1001)], _, _, _, _, DesignGridO c g hc hg he, rfl, trivial, rfl, ?_⟩
      exact ⟨rfl, (false, g.levels.length, g), by simp only; omega, SubI.of0 href [] rfl ⟨br, br, br, br, br, br, br, br, br, br, br, br, ⟨rfl, LeBx.cells ⟨LeQ.rfl, LeQ.rfl, LeQ.rfl, LeQ.rfl, LeQ.rfl, LeQ.mo rfl, trivial⟩⟩, ⟨rfl, LeBx.rjunk⟩, trivial⟩ ⟨er, er, er, er, er, er, er, trivial⟩⟩
    · refine ex.sound (rc := []) tab_ok mix href _ ?_
      refine callN (DesignGridE c g hc hg he) ?_
      exact ⟨rfl, (true, 0, zeroG), Nat.zero_le _, SubI.of0 href [(1001, 1000)] rfl ⟨br, br, br, br, br, br, br, br, br, br, br, br, ⟨rfl, LeBx.cells ⟨LeQ.rfl, LeQ.rfl, LeQ.rfl, LeQ.rfl, LeQ.rfl, LeQ.nil rfl, trivial⟩⟩, ⟨rfl, rfl⟩, trivial⟩ ⟨er, er, er, er, er, er, er, trivial⟩⟩
  rintro ⟨zd, nd, Gd⟩ hqnd
  simp only at hqnd ⊢
  refine AW.cutE (fun q : Bool × Nat × Grid => ⟨[(2, .s (.ptr 2 0)), (3, .s (.ptr 3 0)), (5, .s (.ptr 5 0)), (6, .s (.ptr 6 0)), (7, .s (.ptr 7 0)), (9, .s (.ptr 9 0)), (11, .s (.ptr 11 0)), (13, .s (.ptr 13 0))], [(2, some (chanB c)), (3, some (gridB g)), (5, some (chanB c)), (6, some (gridB g)), (7, some (.cells [.d (dS s8), .mo z8 801, .d (dI o8), .d (dI u8), .d (.slc 0 3 junkF)])), (801, some (.mrow 58 n8 5 junkF)), (9, some (.cells [.d (dS s9), .mo z9 901, .d (dI o9), .d (dI u9), .osl 902 3 0 3])), (901, some (.mrow 58 n9 5 junkF)), (902, some (.cells [.d .junk, .d .junk, .own 910, .d .junk, .d .junk, .own 911, .d .junk, .d .junk, .own 912])), (910, some (.row 63 r0.corners.length 2 junkF)), (911, some (.row 63 r1.corners.length 2 junkF)), (912, some (.row 63 r2.corners.length 2 junkF)), (11, some (.cells [.d (dI Gd.x), .d (dI Gd.y), .d (dI Gd.side), .d (dI Gd.cols), .d (dI Gd.rows), .mo zd 1001])), (1001, some (.mrow 3 nd 1 junkF)), (13, some (.cells [.d (dI q.2.2.x), .d (dI q.2.2.y), .d (dI q.2.2.side), .d (dI q.2.2.cols), .d (dI q.2.2.rows), .mo q.1 1002])), (1002, some (.mrow 3 q.2.1 1 junkF))]⟩) (fun q => q.2.1 ≤ 2000) ?_ ?_
  · by_cases he : withErr c [g] = 0
    · refine ex.sound (rc := [28]) tab_ok mix href _ ?_
      refine ⟨[(701, 1002)], _, _, _, _, ToleranceGridO c g hc hg he, rfl, trivial, rfl, ?_⟩
      exact ⟨rfl, (false, g.levels.length, g), by simp only; omega, SubI.of0 href [] rfl ⟨br, br, br, br, br, br, br, br, br, br, br, br, br, br, ⟨rfl, LeBx.cells ⟨LeQ.rfl, LeQ.rfl, LeQ.rfl, LeQ.rfl, LeQ.rfl, LeQ.mo rfl, trivial⟩⟩, ⟨rfl, LeBx.rjunk⟩, trivial⟩ ⟨er, er, er, er, er, er, er, er, trivial⟩⟩
    · refine ex.sound (rc := []) tab_ok mix href _ ?_
      refine callN (ToleranceGridE c g hc hg he) ?_
      exact ⟨rfl, (true, 0, zeroG), Nat.zero_le _, SubI.of0 href [(1002, 1000)] rfl ⟨br, br, br, br, br, br, br, br, br, br, br, br, br, br, ⟨rfl, LeBx.cells ⟨LeQ.rfl, LeQ.rfl, LeQ.rfl, LeQ.rfl, LeQ.rfl, LeQ.nil rfl, trivial⟩⟩, ⟨rfl, rfl⟩, trivial⟩ ⟨er, er, er, er, er, er, er, er, trivial⟩⟩
  rintro ⟨zt, nt, Gt⟩ hqnt
  simp only at hqnt ⊢
  refine AW.cut (σ' := ⟨bE ++ [], bB c g zd zt nd nt Gd Gt ++ []⟩) (ex.sound (rc := []) tab_ok mix href _ ?_) ?_
  · refine AW.loopI (fun i : Nat => match i with | 0 => (⟨bE ++ [(61, .g [.d (dS s8), .mo z8 801, .d (dI o8), .d (dI u8), .d (.slc 0 3 junkF), .d (dS s9), .mo z9 901, .d (dI o9), .d (dI u9), .osl 902 3 0 3]), (62, vI 0)], bB c g zd zt nd nt Gd Gt ++ [(801, some (.mrow 58 n8 5 junkF)), (901, some (.mrow 58 n9 5 junkF)), (902, some (.cells [.d .junk, .d .junk, .own 910, .d .junk, .d .junk, .own 911, .d .junk, .d .junk, .own 912])), (910, some (.row 63 r0.corners.length 2 junkF)), (911, some (.row 63 r1.corners.length 2 junkF)), (912, some (.row 63 r2.corners.length 2 junkF))]⟩ : St) | 1 => ⟨bE ++ [(61, .g [.d .junk, .d .junk, .d .junk, .d .junk, .d .junk, .d (dS s9), .mo z9 901, .d (dI o9), .d (dI u9), .osl 902 3 0 3]), (62, vI 1)], bB c g zd zt nd nt Gd Gt ++ [(901, some (.mrow 58 n9 5 junkF)), (902, some (.cells [.d .junk, .d .junk, .own 910, .d .junk, .d .junk, .own 911, .d .junk, .d .junk, .own 912])), (910, some (.row 63 r0.corners.length 2 junkF)), (911, some (.row 63 r1.corners.length 2 junkF)), (912, some (.row 63 r2.corners.length 2 junkF))]⟩ | _ => ⟨bE ++ [(62, vI 2)], bB c g zd zt nd nt Gd Gt ++ []⟩) (fun i => i ≤ 2) (fun i => 2 - i) 0 (Nat.zero_le _) ?_ ?_
    · exact SubI.of0 href [] rfl ⟨br, br, br, br, br, br, br, br, br, br, br, br, br, br, trivial⟩ ⟨er, er, er, er, er, er, er, er, trivial⟩
    · intro i hi
      match i, hi with
      | 0, _ =>
        refine AW.seq (ex.sound (rc := []) tab_ok mix href _ ?_)
        refine AW.seq (ex.sound (rc := []) tab_ok mix href _ ?_)
        refine And.intro (fun _ => ?_) (fun h => by cases (show (decide ((0 : Int) < 2)) = false from h))
        refine AW.seq (AW.block (AW.seq (ex.sound (rc := []) tab_ok mix href _ ?_)))
        refine oi ⟨by decide, by decide⟩ ?_
        have hzn := bif_le (z := z8) (n := n8)
        refine AW.cut (σ' := ⟨bE ++ [(61, .g [.d .junk, .d .junk, .d .junk, .d .junk, .d .junk, .d (dS s9), .mo z9 901, .d (dI o9), .d (dI u9), .osl 902 3 0 3]), (62, vI 0), (16, .s (.ptr 16 0))], bB c g zd zt nd nt Gd Gt ++ [(16, some (.cells [.d (dS s8), .mo z8 801, .d (dI o8), .d (dI u8), .d (.slc 0 3 junkF)])), (801, some (.mrow 58 n8 5 junkF)), (901, some (.mrow 58 n9 5 junkF)), (902, some (.cells [.d .junk, .d .junk, .own 910, .d .junk, .d .junk, .own 911, .d .junk, .d .junk, .own 912])), (910, some (.row 63 r0.corners.length 2 junkF)), (911, some (.row 63 r1.corners.length 2 junkF)), (912, some (.row 63 r2.corners.length 2 junkF))]⟩) (ex.sound (rc := []) tab_ok mix href _ ?_) ?_
        · refine AW.loopI (fun m : Nat => (⟨bE ++ [(61, .g [.d .junk, .d .junk, .d .junk, .d .junk, .d .junk, .d (dS s9), .mo z9 901, .d (dI o9), .d (dI u9), .osl 902 3 0 3]), (62, vI 0), (16, .s (.ptr 16 0)), (17, vI m)], bB c g zd zt nd nt Gd Gt ++ [(16, some (.cells [.d (dS s8), .mo z8 801, .d (dI o8), .d (dI u8), .d (.slc 0 3 junkF)])), (801, some (.mrow 58 n8 5 junkF)), (901, some (.mrow 58 n9 5 junkF)), (902, some (.cells [.d .junk, .d .junk, .own 910, .d .junk, .d .junk, .own 911, .d .junk, .d .junk, .own 912])), (910, some (.row 63 r0.corners.length 2 junkF)), (911, some (.row 63 r1.corners.length 2 junkF)), (912, some (.row 63 r2.corners.length 2 junkF))]⟩ : St)) (fun m => m ≤ (bif z8 then 0 else n8)) (fun m => (bif z8 then 0 else n8) - m) 0 (Nat.zero_le _) ?_ ?_
          · exact SubI.of0 href [] rfl ⟨br, br, br, br, br, br, br, br, br, br, br, br, br, br, br, trivial⟩ ⟨er, er, er, er, er, er, ⟨rfl, LeQ.g ⟨LeQ.junk, LeQ.junk, LeQ.junk, LeQ.junk, LeQ.junk, LeQ.rfl, LeQ.rfl, LeQ.rfl, LeQ.rfl, LeQ.rfl, trivial⟩⟩, er, er, er, trivial⟩
          · intro m hm
            refine ex.sound (rc := []) tab_ok mix href _ ?_
            refine And.intro (fun h => ?_) (fun h => ?_)
            · have h : (m : Int) < ((bif z8 then 0 else n8 : Nat) : Int) := decT h
              refine oi ⟨by omega, by show (m : Int) < ((bif z8 then 0 else n8 : Nat) : Int); omega⟩ ?_
              refine ob (show (m : Int).toNat < n8 by omega) ?_
              refine ⟨m + 1, by omega, by omega, ?_⟩
              exact SubI.of0 href [] rfl ⟨br, br, br, br, br, br, br, br, br, ⟨rfl, LeBx.junk⟩, br, br, br, br, br, trivial⟩ ⟨er, er, er, er, er, er, er, er, er, ⟨rfl, LeQ.int (w64_of (by omega) (by omega))⟩, trivial⟩
            · exact ⟨rfl, SubI.of0 href [] rfl ⟨br, br, br, br, br, br, br, br, br, br, br, br, br, br, br, trivial⟩ ⟨er, er, er, er, er, er, er, er, er, trivial⟩⟩
        refine AW.seq (ex.sound (rc := []) tab_ok mix href _ ?_)
        refine ex.sound (rc := []) tab_ok mix href _ ?_
        refine AW.loopI (fun j : Nat => (⟨bE ++ [(61, .g [.d .junk, .d .junk, .d .junk, .d .junk, .d .junk, .d (dS s9), .mo z9 901, .d (dI o9), .d (dI u9), .osl 902 3 0 3]), (62, vI 0), (16, .s (.ptr 16 0)), (18, vI j)], bB c g zd zt nd nt Gd Gt ++ [(16, some (.cells [.d (dS s8), .mo z8 801, .d (dI o8), .d (dI u8), .d (.slc 0 3 junkF)])), (801, some (.mrow 58 n8 5 junkF)), (901, some (.mrow 58 n9 5 junkF)), (902, some (.cells [.d .junk, .d .junk, .own 910, .d .junk, .d .junk, .own 911, .d .junk, .d .junk, .own 912])), (910, some (.row 63 r0.corners.length 2 junkF)), (911, some (.row 63 r1.corners.length 2 junkF)), (912, some (.row 63 r2.corners.length 2 junkF))]⟩ : St)) (fun j => j ≤ 0) (fun j => 0 - j) 0 (Nat.zero_le _) ?_ ?_
        · exact SubI.of0 href [] rfl ⟨br, br, br, br, br, br, br, br, br, br, br, br, br, br, br, trivial⟩ ⟨er, er, er, er, er, er, er, er, er, er, trivial⟩
        · intro j hj
          match j, hj with
          | 0, _ =>
            refine ex.sound (rc := []) tab_ok mix href _ ?_
            refine And.intro (fun h => by cases (show (decide ((0 : Int) < 0)) = true from h)) (fun _ => ?_)
            refine ex.sound (rc := []) tab_ok mix href _ ?_
            refine ⟨1, by decide, by decide, ?_⟩
            exact SubI.of0 href [] rfl ⟨br, br, br, br, br, br, br, br, br, br, br, br, br, trivial⟩ ⟨er, er, er, er, er, er, er, er, trivial⟩
      | 1, _ =>
        refine AW.seq (ex.sound (rc := []) tab_ok mix href _ ?_)
        refine AW.seq (ex.sound (rc := []) tab_ok mix href _ ?_)
        refine And.intro (fun _ => ?_) (fun h => by cases (show (decide ((1 : Int) < 2)) = false from h))
        refine AW.seq (AW.block (AW.seq (ex.sound (rc := []) tab_ok mix href _ ?_)))
        refine oi ⟨by decide, by decide⟩ ?_
        have hzn := bif_le (z := z9) (n := n9)
        refine AW.cut (σ' := ⟨bE ++ [(62, vI 1), (16, .s (.ptr 16 0))], bB c g zd zt nd nt Gd Gt ++ [(16, some (.cells [.d (dS s9), .mo z9 901, .d (dI o9), .d (dI u9), .osl 902 3 0 3])), (901, some (.mrow 58 n9 5 junkF)), (902, some (.cells [.d .junk, .d .junk, .own 910, .d .junk, .d .junk, .own 911, .d .junk, .d .junk, .own 912])), (910, some (.row 63 r0.corners.length 2 junkF)), (911, some (.row 63 r1.corners.length 2 junkF)), (912, some (.row 63 r2.corners.length 2 junkF))]⟩) (ex.sound (rc := []) tab_ok mix href _ ?_) ?_
        · refine AW.loopI (fun m : Nat => (⟨bE ++ [(62, vI 1), (16, .s (.ptr 16 0)), (17, vI m)], bB c g zd zt nd nt Gd Gt ++ [(16, some (.cells [.d (dS s9), .mo z9 901, .d (dI o9), .d (dI u9), .osl 902 3 0 3])), (901, some (.mrow 58 n9 5 junkF)), (902, some (.cells [.d .junk, .d .junk, .own 910, .d .junk, .d .junk, .own 911, .d .junk, .d .junk, .own 912])), (910, some (.row 63 r0.corners.length 2 junkF)), (911, some (.row 63 r1.corners.length 2 junkF)), (912, some (.row 63 r2.corners.length 2 junkF))]⟩ : St)) (fun m => m ≤ (bif z9 then 0 else n9)) (fun m => (bif z9 then 0 else n9) - m) 0 (Nat.zero_le _) ?_ ?_
          · exact SubI.of0 href [] rfl ⟨br, br, br, br, br, br, br, br, br, br, br, br, br, br, trivial⟩ ⟨er, er, er, er, er, er, er, er, er, trivial⟩
          · intro m hm
            refine ex.sound (rc := []) tab_ok mix href _ ?_
            refine And.intro (fun h => ?_) (fun h => ?_)
            · have h : (m : Int) < ((bif z9 then 0 else n9 : Nat) : Int) := decT h
              refine oi ⟨by omega, by show (m : Int) < ((bif z9 then 0 else n9 : Nat) : Int); omega⟩ ?_
              refine ob (show (m : Int).toNat < n9 by omega) ?_
              refine ⟨m + 1, by omega, by omega, ?_⟩
              exact SubI.of0 href [] rfl ⟨br, br, br, br, br, br, br, br, br, ⟨rfl, LeBx.junk⟩, br, br, br, br, trivial⟩ ⟨er, er, er, er, er, er, er, er, ⟨rfl, LeQ.int (w64_of (by omega) (by omega))⟩, trivial⟩
            · exact ⟨rfl, SubI.of0 href [] rfl ⟨br, br, br, br, br, br, br, br, br, br, br, br, br, br, trivial⟩ ⟨er, er, er, er, er, er, er, er, trivial⟩⟩
        refine AW.seq (ex.sound (rc := []) tab_ok mix href _ ?_)
        refine ex.sound (rc := []) tab_ok mix href _ ?_
        refine AW.loopI (fun j : Nat => (⟨bE ++ [(62, vI 1), (16, .s (.ptr 16 0)), (18, vI j)], bB c g zd zt nd nt Gd Gt ++ [(16, some (.cells [.d (dS s9), .mo z9 901, .d (dI o9), .d (dI u9), .osl 902 3 0 3])), (901, some (.mrow 58 n9 5 junkF)), (902, some (.cells [.d .junk, .d .junk, .own 910, .d .junk, .d .junk, .own 911, .d .junk, .d .junk, .own 912])), (910, some (.row 63 r0.corners.length 2 junkF)), (911, some (.row 63 r1.corners.length 2 junkF)), (912, some (.row 63 r2.corners.length 2 junkF))]⟩ : St)) (fun j => j ≤ 3) (fun j => 3 - j) 0 (Nat.zero_le _) ?_ ?_
        · exact SubI.of0 href [] rfl ⟨br, br, br, br, br, br, br, br, br, br, br, br, br, br, trivial⟩ ⟨er, er, er, er, er, er, er, er, er, trivial⟩
        · intro j hj
          match j, hj with
          | 0, _ =>
            refine AW.seq (ex.sound (rc := []) tab_ok mix href _ ?_)
            refine And.intro (fun _ => ?_) (fun h => by cases (show (decide ((0 : Int) < 3)) = false from h))
            refine AW.seq (AW.block ?_)
            refine AW.cut (σ' := ⟨bE ++ [(62, vI 1), (16, .s (.ptr 16 0)), (18, vI 0)], bB c g zd zt nd nt Gd Gt ++ [(16, some (.cells [.d (dS s9), .mo z9 901, .d (dI o9), .d (dI u9), .osl 902 3 0 3])), (901, some (.mrow 58 n9 5 junkF)), (902, some (.cells [.d .junk, .d .junk, .own 910, .d .junk, .d .junk, .own 911, .d .junk, .d .junk, .own 912])), (910, some (.row 63 r0.corners.length 2 junkF)), (911, some (.row 63 r1.corners.length 2 junkF)), (912, some (.row 63 r2.corners.length 2 junkF))]⟩) (ex.sound (rc := []) tab_ok mix href _ ?_) ?_
            · refine AW.loopI (fun m : Nat => (⟨bE ++ [(62, vI 1), (16, .s (.ptr 16 0)), (18, vI 0), (19, vI m)], bB c g zd zt nd nt Gd Gt ++ [(16, some (.cells [.d (dS s9), .mo z9 901, .d (dI o9), .d (dI u9), .osl 902 3 0 3])), (901, some (.mrow 58 n9 5 junkF)), (902, some (.cells [.d .junk, .d .junk, .own 910, .d .junk, .d .junk, .own 911, .d .junk, .d .junk, .own 912])), (910, some (.row 63 r0.corners.length 2 junkF)), (911, some (.row 63 r1.corners.length 2 junkF)), (912, some (.row 63 r2.corners.length 2 junkF))]⟩ : St)) (fun m => m ≤ r0.corners.length) (fun m => r0.corners.length - m) 0 (Nat.zero_le _) ?_ ?_
              · exact SubI.of0 href [] rfl ⟨br, br, br, br, br, br, br, br, br, br, br, br, br, br, trivial⟩ ⟨er, er, er, er, er, er, er, er, er, er, trivial⟩
              · intro m hm
                refine ex.sound (rc := []) tab_ok mix href _ ?_
                refine oi ⟨by decide, by decide⟩ ?_
                refine And.intro (fun h => ?_) (fun h => ?_)
                · have h : (m : Int) < (r0.corners.length : Int) := decT h
                  refine oi ⟨by decide, by decide⟩ ?_
                  refine oi ⟨by omega, by omega⟩ ?_
                  refine ob (show (m : Int).toNat < r0.corners.length by omega) ?_
                  refine ⟨m + 1, by omega, by omega, ?_⟩
                  exact SubI.of0 href [] rfl ⟨br, br, br, br, br, br, br, br, br, br, br, ⟨rfl, LeBx.jrow⟩, br, br, trivial⟩ ⟨er, er, er, er, er, er, er, er, er, ⟨rfl, LeQ.int (w64_of (by omega) (by omega))⟩, trivial⟩
                · exact ⟨rfl, SubI.of0 href [] rfl ⟨br, br, br, br, br, br, br, br, br, br, br, br, br, br, trivial⟩ ⟨er, er, er, er, er, er, er, er, er, trivial⟩⟩
            · refine ex.sound (rc := []) tab_ok mix href _ ?_
              refine oi ⟨by decide, by decide⟩ ?_
              refine ex.sound (rc := []) tab_ok mix href _ ?_
              refine ⟨1, by decide, by decide, ?_⟩
              exact SubI.of0 href [] rfl ⟨br, br, br, br, br, br, br, br, br, br, ⟨rfl, LeBx.cells ⟨LeQ.junk, LeQ.junk, LeQ.rfl, LeQ.junk, LeQ.junk, LeQ.rfl, LeQ.junk, LeQ.junk, LeQ.rfl, trivial⟩⟩, br, br, br, trivial⟩ ⟨er, er, er, er, er, er, er, er, er, trivial⟩
          | 1, _ =>
            refine AW.seq (ex.sound (rc := []) tab_ok mix href _ ?_)
            refine And.intro (fun _ => ?_) (fun h => by cases (show (decide ((1 : Int) < 3)) = false from h))
            refine AW.seq (AW.block ?_)
            refine AW.cut (σ' := ⟨bE ++ [(62, vI 1), (16, .s (.ptr 16 0)), (18, vI 1)], bB c g zd zt nd nt Gd Gt ++ [(16, some (.cells [.d (dS s9), .mo z9 901, .d (dI o9), .d (dI u9), .osl 902 3 0 3])), (901, some (.mrow 58 n9 5 junkF)), (902, some (.cells [.d .junk, .d .junk, .own 910, .d .junk, .d .junk, .own 911, .d .junk, .d .junk, .own 912])), (910, some (.row 63 r0.corners.length 2 junkF)), (911, some (.row 63 r1.corners.length 2 junkF)), (912, some (.row 63 r2.corners.length 2 junkF))]⟩) (ex.sound (rc := []) tab_ok mix href _ ?_) ?_
            · refine AW.loopI (fun m : Nat => (⟨bE ++ [(62, vI 1), (16, .s (.ptr 16 0)), (18, vI 1), (19, vI m)], bB c g zd zt nd nt Gd Gt ++ [(16, some (.cells [.d (dS s9), .mo z9 901, .d (dI o9), .d (dI u9), .osl 902 3 0 3])), (901, some (.mrow 58 n9 5 junkF)), (902, some (.cells [.d .junk, .d .junk, .own 910, .d .junk, .d .junk, .own 911, .d .junk, .d .junk, .own 912])), (910, some (.row 63 r0.corners.length 2 junkF)), (911, some (.row 63 r1.corners.length 2 junkF)), (912, some (.row 63 r2.corners.length 2 junkF))]⟩ : St)) (fun m => m ≤ r1.corners.length) (fun m => r1.corners.length - m) 0 (Nat.zero_le _) ?_ ?_
              · exact SubI.of0 href [] rfl ⟨br, br, br, br, br, br, br, br, br, br, br, br, br, br, trivial⟩ ⟨er, er, er, er, er, er, er, er, er, er, trivial⟩
              · intro m hm
                refine ex.sound (rc := []) tab_ok mix href _ ?_
                refine oi ⟨by decide, by decide⟩ ?_
                refine And.intro (fun h => ?_) (fun h => ?_)
                · have h : (m : Int) < (r1.corners.length : Int) := decT h
                  refine oi ⟨by decide, by decide⟩ ?_
                  refine oi ⟨by omega, by omega⟩ ?_
                  refine ob (show (m : Int).toNat < r1.corners.length by omega) ?_
                  refine ⟨m + 1, by omega, by omega, ?_⟩
                  exact SubI.of0 href [] rfl ⟨br, br, br, br, br, br, br, br, br, br, br, br, ⟨rfl, LeBx.jrow⟩, br, trivial⟩ ⟨er, er, er, er, er, er, er, er, er, ⟨rfl, LeQ.int (w64_of (by omega) (by omega))⟩, trivial⟩
                · exact ⟨rfl, SubI.of0 href [] rfl ⟨br, br, br, br, br, br, br, br, br, br, br, br, br, br, trivial⟩ ⟨er, er, er, er, er, er, er, er, er, trivial⟩⟩
            · refine ex.sound (rc := []) tab_ok mix href _ ?_
              refine oi ⟨by decide, by decide⟩ ?_
              refine ex.sound (rc := []) tab_ok mix href _ ?_
              refine ⟨2, by decide, by decide, ?_⟩
              exact SubI.of0 href [] rfl ⟨br, br, br, br, br, br, br, br, br, br, ⟨rfl, LeBx.cells ⟨LeQ.junk, LeQ.junk, LeQ.rfl, LeQ.junk, LeQ.junk, LeQ.rfl, LeQ.junk, LeQ.junk, LeQ.rfl, trivial⟩⟩, br, br, br, trivial⟩ ⟨er, er, er, er, er, er, er, er, er, trivial⟩
          | 2, _ =>
            refine AW.seq (ex.sound (rc := []) tab_ok mix href _ ?_)
            refine And.intro (fun _ => ?_) (fun h => by cases (show (decide ((2 : Int) < 3)) = false from h))
            refine AW.seq (AW.block ?_)
            refine AW.cut (σ' := ⟨bE ++ [(62, vI 1), (16, .s (.ptr 16 0)), (18, vI 2)], bB c g zd zt nd nt Gd Gt ++ [(16, some (.cells [.d (dS s9), .mo z9 901, .d (dI o9), .d (dI u9), .osl 902 3 0 3])), (901, some (.mrow 58 n9 5 junkF)), (902, some (.cells [.d .junk, .d .junk, .own 910, .d .junk, .d .junk, .own 911, .d .junk, .d .junk, .own 912])), (910, some (.row 63 r0.corners.length 2 junkF)), (911, some (.row 63 r1.corners.length 2 junkF)), (912, some (.row 63 r2.corners.length 2 junkF))]⟩) (ex.sound (rc := []) tab_ok mix href _ ?_) ?_
            · refine AW.loopI (fun m : Nat => (⟨bE ++ [(62, vI 1), (16, .s (.ptr 16 0)), (18, vI 2), (19, vI m)], bB c g zd zt nd nt Gd Gt ++ [(16, some (.cells [.d (dS s9), .mo z9 901, .d (dI o9), .d (dI u9), .osl 902 3 0 3])), (901, some (.mrow 58 n9 5 junkF)), (902, some (.cells [.d .junk, .d .junk, .own 910, .d .junk, .d .junk, .own 911, .d .junk, .d .junk, .own 912])), (910, some (.row 63 r0.corners.length 2 junkF)), (911, some (.row 63 r1.corners.length 2 junkF)), (912, some (.row 63 r2.corners.length 2 junkF))]⟩ : St)) (fun m => m ≤ r2.corners.length) (fun m => r2.corners.length - m) 0 (Nat.zero_le _) ?_ ?_
              · exact SubI.of0 href [] rfl ⟨br, br, br, br, br, br, br, br, br, br, br, br, br, br, trivial⟩ ⟨er, er, er, er, er, er, er, er, er, er, trivial⟩
              · intro m hm
                refine ex.sound (rc := []) tab_ok mix href _ ?_
                refine oi ⟨by decide, by decide⟩ ?_
                refine And.intro (fun h => ?_) (fun h => ?_)
                · have h : (m : Int) < (r2.corners.length : Int) := decT h
                  refine oi ⟨by decide, by decide⟩ ?_
                  refine oi ⟨by omega, by omega⟩ ?_
                  refine ob (show (m : Int).toNat < r2.corners.length by omega) ?_
                  refine ⟨m + 1, by omega, by omega, ?_⟩
                  exact SubI.of0 href [] rfl ⟨br, br, br, br, br, br, br, br, br, br, br, br, br, ⟨rfl, LeBx.jrow⟩, trivial⟩ ⟨er, er, er, er, er, er, er, er, er, ⟨rfl, LeQ.int (w64_of (by omega) (by omega))⟩, trivial⟩
                · exact ⟨rfl, SubI.of0 href [] rfl ⟨br, br, br, br, br, br, br, br, br, br, br, br, br, br, trivial⟩ ⟨er, er, er, er, er, er, er, er, er, trivial⟩⟩
            · refine ex.sound (rc := []) tab_ok mix href _ ?_
              refine oi ⟨by decide, by decide⟩ ?_
              refine ex.sound (rc := []) tab_ok mix href _ ?_
              refine ⟨3, by decide, by decide, ?_⟩
              exact SubI.of0 href [] rfl ⟨br, br, br, br, br, br, br, br, br, br, ⟨rfl, LeBx.cells ⟨LeQ.junk, LeQ.junk, LeQ.rfl, LeQ.junk, LeQ.junk, LeQ.rfl, LeQ.junk, LeQ.junk, LeQ.rfl, trivial⟩⟩, br, br, br, trivial⟩ ⟨er, er, er, er, er, er, er, er, er, trivial⟩
          | 3, _ =>
            refine ex.sound (rc := []) tab_ok mix href _ ?_
            refine And.intro (fun h => by cases (show (decide ((3 : Int) < 3)) = true from h)) (fun _ => ?_)
            refine ex.sound (rc := []) tab_ok mix href _ ?_
            refine ⟨2, by decide, by decide, ?_⟩
            exact SubI.of0 href [] rfl ⟨br, br, br, br, br, br, br, br, trivial⟩ ⟨er, er, er, er, er, er, er, trivial⟩
      | 2, _ =>
        refine ex.sound (rc := []) tab_ok mix href _ ?_
        refine And.intro (fun h => by cases (show (decide ((2 : Int) < 2)) = true from h)) (fun _ => ?_)
        exact ⟨rfl, SubI.of0 href [] rfl ⟨br, br, br, br, br, br, br, br, trivial⟩ ⟨er, er, er, er, er, er, trivial⟩⟩
  refine AW.cut (σ' := ⟨[(2, .s (.ptr 2 0)), (3, .s (.ptr 3 0)), (5, .s (.ptr 5 0)), (6, .s (.ptr 6 0))], [(2, some (chanB c)), (3, some (gridB g)), (5, some (chanB c)), (6, some (gridB g))]⟩) (ex.sound (rc := []) tab_ok mix href _ ?_) ?_
  · refine AW.loopI (fun i : Nat => match i with | 0 => (⟨[(2, .s (.ptr 2 0)), (3, .s (.ptr 3 0)), (5, .s (.ptr 5 0)), (6, .s (.ptr 6 0)), (112, .g [.d (dI Gd.x), .d (dI Gd.y), .d (dI Gd.side), .d (dI Gd.cols), .d (dI Gd.rows), .mo zd 1001, .d (dI Gt.x), .d (dI Gt.y), .d (dI Gt.side), .d (dI Gt.cols), .d (dI Gt.rows), .mo zt 1002]), (113, vI 0)], [(2, some (chanB c)), (3, some (gridB g)), (5, some (chanB c)), (6, some (gridB g)), (1001, some (.mrow 3 nd 1 junkF)), (1002, some (.mrow 3 nt 1 junkF))]⟩ : St) | 1 => ⟨[(2, .s (.ptr 2 0)), (3, .s (.ptr 3 0)), (5, .s (.ptr 5 0)), (6, .s (.ptr 6 0)), (112, .g [.d (dI Gd.x), .d (dI Gd.y), .d (dI Gd.side), .d (dI Gd.cols), .d (dI Gd.rows), .mo zd 1001, .d (dI Gt.x), .d (dI Gt.y), .d (dI Gt.side), .d (dI Gt.cols), .d (dI Gt.rows), .mo zt 1002]), (113, vI 1)], [(2, some (chanB c)), (3, some (gridB g)), (5, some (chanB c)), (6, some (gridB g)), (1001, some (.mrow 3 nd 1 junkF)), (1002, some (.mrow 3 nt 1 junkF))]⟩ | _ => ⟨[(2, .s (.ptr 2 0)), (3, .s (.ptr 3 0)), (5, .s (.ptr 5 0)), (6, .s (.ptr 6 0)), (113, vI 2)], [(2, some (chanB c)), (3, some (gridB g)), (5, some (chanB c)), (6, some (gridB g)), (1001, some (.mrow 3 nd 1 junkF)), (1002, some (.mrow 3 nt 1 junkF))]⟩) (fun i => i ≤ 2) (fun i => 2 - i) 0 (Nat.zero_le _) ?_ ?_
    · exact SubI.of0 href [] rfl ⟨br, br, br, br, br, br, trivial⟩ ⟨er, er, er, er, er, er, trivial⟩
    · intro i hi
      match i, hi with
      | 0, _ =>
        refine ex.sound (rc := []) tab_ok mix href _ ?_
        refine And.intro (fun _ => ?_) (fun h => by cases (show (decide ((0 : Int) < 2)) = false from h))
        refine oi ⟨by decide, by decide⟩ ?_
        have hzn := bif_le (z := zd) (n := nd)
        refine AW.loopI (fun m : Nat => (⟨[(2, .s (.ptr 2 0)), (3, .s (.ptr 3 0)), (5, .s (.ptr 5 0)), (6, .s (.ptr 6 0)), (112, .g [.d (dI Gd.x), .d (dI Gd.y), .d (dI Gd.side), .d (dI Gd.cols), .d (dI Gd.rows), .mo zd 1001, .d (dI Gt.x), .d (dI Gt.y), .d (dI Gt.side), .d (dI Gt.cols), .d (dI Gt.rows), .mo zt 1002]), (113, vI 0), (21, .s (.ptr 21 0)), (22, vI m)], [(2, some (chanB c)), (3, some (gridB g)), (5, some (chanB c)), (6, some (gridB g)), (1001, some (.mrow 3 nd 1 junkF)), (1002, some (.mrow 3 nt 1 junkF)), (21, some (.cells [.d (dI Gd.x), .d (dI Gd.y), .d (dI Gd.side), .d (dI Gd.cols), .d (dI Gd.rows), .mo zd 1001]))]⟩ : St)) (fun m => m ≤ (bif zd then 0 else nd)) (fun m => (bif zd then 0 else nd) - m) 0 (Nat.zero_le _) ?_ ?_
        · exact SubI.of0 href [] rfl ⟨br, br, br, br, br, br, br, trivial⟩ ⟨er, er, er, er, er, er, er, er, trivial⟩
        · intro m hm
          refine ex.sound (rc := []) tab_ok mix href _ ?_
          refine And.intro (fun h => ?_) (fun h => ?_)
          · have h : (m : Int) < ((bif zd then 0 else nd : Nat) : Int) := decT h
            refine oi ⟨by omega, by show (m : Int) < ((bif zd then 0 else nd : Nat) : Int); omega⟩ ?_
            refine ob (show (m : Int).toNat < nd by omega) ?_
            refine ⟨m + 1, by omega, by omega, ?_⟩
            exact SubI.of0 href [] rfl ⟨br, br, br, br, ⟨rfl, LeBx.junk⟩, br, br, trivial⟩ ⟨er, er, er, er, er, er, er, ⟨rfl, LeQ.int (w64_of (by omega) (by omega))⟩, trivial⟩
          · refine ⟨1, by decide, by decide, ?_⟩
            exact SubI.of0 href [] rfl ⟨br, br, br, br, br, br, trivial⟩ ⟨er, er, er, er, er, er, trivial⟩
      | 1, _ =>
        refine ex.sound (rc := []) tab_ok mix href _ ?_
        refine And.intro (fun _ => ?_) (fun h => by cases (show (decide ((1 : Int) < 2)) = false from h))
        refine oi ⟨by decide, by decide⟩ ?_
        have hzn := bif_le (z := zt) (n := nt)
        refine AW.loopI (fun m : Nat => (⟨[(2, .s (.ptr 2 0)), (3, .s (.ptr 3 0)), (5, .s (.ptr 5 0)), (6, .s (.ptr 6 0)), (112, .g [.d (dI Gd.x), .d (dI Gd.y), .d (dI Gd.side), .d (dI Gd.cols), .d (dI Gd.rows), .mo zd 1001, .d (dI Gt.x), .d (dI Gt.y), .d (dI Gt.side), .d (dI Gt.cols), .d (dI Gt.rows), .mo zt 1002]), (113, vI 1), (21, .s (.ptr 21 0)), (22, vI m)], [(2, some (chanB c)), (3, some (gridB g)), (5, some (chanB c)), (6, some (gridB g)), (1001, some (.mrow 3 nd 1 junkF)), (1002, some (.mrow 3 nt 1 junkF)), (21, some (.cells [.d (dI Gt.x), .d (dI Gt.y), .d (dI Gt.side), .d (dI Gt.cols), .d (dI Gt.rows), .mo zt 1002]))]⟩ : St)) (fun m => m ≤ (bif zt then 0 else nt)) (fun m => (bif zt then 0 else nt) - m) 0 (Nat.zero_le _) ?_ ?_
        · exact SubI.of0 href [] rfl ⟨br, br, br, br, br, br, br, trivial⟩ ⟨er, er, er, er, er, er, er, er, trivial⟩
        · intro m hm
          refine ex.sound (rc := []) tab_ok mix href _ ?_
          refine And.intro (fun h => ?_) (fun h => ?_)
          · have h : (m : Int) < ((bif zt then 0 else nt : Nat) : Int) := decT h
            refine oi ⟨by omega, by show (m : Int) < ((bif zt then 0 else nt : Nat) : Int); omega⟩ ?_
            refine ob (show (m : Int).toNat < nt by omega) ?_
            refine ⟨m + 1, by omega, by omega, ?_⟩
            exact SubI.of0 href [] rfl ⟨br, br, br, br, br, ⟨rfl, LeBx.junk⟩, br, trivial⟩ ⟨er, er, er, er, er, er, er, ⟨rfl, LeQ.int (w64_of (by omega) (by omega))⟩, trivial⟩
          · refine ⟨2, by decide, by decide, ?_⟩
            exact SubI.of0 href [] rfl ⟨br, br, br, br, br, br, trivial⟩ ⟨er, er, er, er, er, trivial⟩
      | 2, _ =>
        refine ex.sound (rc := []) tab_ok mix href _ ?_
        refine And.intro (fun h => by cases (show (decide ((2 : Int) < 2)) = true from h)) (fun _ => ?_)
        exact ⟨rfl, SubI.of0 href [] rfl ⟨br, br, br, br, trivial⟩ ⟨er, er, er, er, trivial⟩⟩
  · refine ex.sound (rc := []) tab_ok mix href _ ?_
    refine callN (rSameEq c (by omega) (by omega) hcr) ?_
    repeat first | refine sk ?_ | refine st ?_ | refine sg ?_ | refine sh ?_ | refine su ?_ | refine sn1 ?_ | refine sn0 ?_ | refine And.intro (show imp none (gimp _ none) from trivial) ?_
    refine callG (sameGrid g (by omega)) ?_
    repeat first | refine sk ?_ | refine st ?_ | refine sg ?_ | refine sh ?_ | refine su ?_ | refine sn1 ?_ | refine sn0 ?_ | refine And.intro (show imp none (gimp _ none) from trivial) ?_
    exact SubR.lit rfl
theorem mem33 (nm : ByteArray) (ax : List Ap) (ov bu : Int) (r0 r1 r2 : Reg) (c : Chan) (hceq : c = ⟨nm, ax, ov, bu, [r0, r1, r2]⟩) (g : Grid) (hc : c.ok) (hg : g.ok) (hs : small c = true) (hf : few g = true) (y0 : 0 < r0.corners.length) (m0 : r0.corners.length ≤ 45) (y1 : 0 < r1.corners.length) (m1 : r1.corners.length ≤ 45) (y2 : 0 < r2.corners.length) (m2 : r2.corners.length ≤ 45) (hB : errC c = 0 ∧ errC (boxC c 1) = 0) (hD : errC c = 0 ∧ errC (deepC c 1) = 0) : CallP Try.prog 6 [chan c, grid g] (vB true) := by
  have hsm : Sm c := Sm.of hs
  have hr : c.regions.length ≤ 1000 := by have := hsm.regions; omega
  have hax : c.axis.length ≤ 1000 := by have := hsm.axis; omega
  have hcr : ∀ i, i < c.regions.length → (c.regions.getD i default).corners.length ≤ 1000000 := fun i hi => by have := hsm.corners i hi; omega
  have hgl := few_len hf
  refine callP_of_aw Try.func6 rfl rfl Try.call6 tab_ok rfl rfl (fun cx href => ?_)
  refine AW.seq (ex.sound (rc := []) tab_ok mix href _ ?_)
  refine AW.seq (ex.sound (rc := []) tab_ok mix href _ ?_)
  refine callN awake ?_
  refine And.intro (fun h => by cases (show (!true) = true from h)) (fun _ => ?_)
  refine AW.seq (ex.sound (rc := []) tab_ok mix href _ ?_)
  refine callN (Small c hc) ?_
  repeat first | refine sk ?_ | refine st ?_ | refine sg ?_ | refine sh ?_ | refine su ?_ | refine sn1 ?_ | refine sn0 ?_ | refine And.intro (show imp none (gimp _ none) from trivial) ?_
  refine callG (Few g hg.levels) ?_
  repeat first | refine sk ?_ | refine st ?_ | refine sg ?_ | refine sh ?_ | refine su ?_ | refine sn1 ?_ | refine sn0 ?_ | refine And.intro (show imp none (gimp _ none) from trivial) ?_
  refine And.intro (fun h => ?_) (fun _ => ?_)
  · have h : (!small c || !few g) = true := h
    rw [hs, hf] at h; cases h
  refine AW.seq (ex.sound (rc := []) tab_ok mix href _ ?_)
  refine callN (Copied c hsm) ?_
  refine callN (CopyGrid g (by omega)) ?_
  refine And.intro (by kernel_rfl) ?_
  refine AW.cutE (fun q : Bool × Nat × ByteArray × Int × Int => ⟨[(2, .s (.ptr 2 0)), (3, .s (.ptr 3 0)), (5, .s (.ptr 5 0)), (6, .s (.ptr 6 0)), (7, .s (.ptr 7 0))], [(2, some (chanB c)), (3, some (gridB g)), (5, some (chanB c)), (6, some (gridB g)), (7, some (.cells [.d (dS q.2.2.1), .mo q.1 801, .d (dI q.2.2.2.1), .d (dI q.2.2.2.2), .osl 802 3 0 3])), (801, some (.mrow 58 q.2.1 5 junkF)), (802, some (.cells [.d .junk, .d .junk, .own 810, .d .junk, .d .junk, .own 811, .d .junk, .d .junk, .own 812])), (810, some (.row 63 r0.corners.length 2 junkF)), (811, some (.row 63 r1.corners.length 2 junkF)), (812, some (.row 63 r2.corners.length 2 junkF))]⟩) (fun q => q.2.1 ≤ 1000) ?_ ?_
  · subst hceq
    refine ex.sound (rc := [19]) tab_ok mix href _ ?_
    refine ⟨[(701, 801), (702, 802), (710, 810), (711, 811), (712, 812)], _, _, _, _, BoxO3 nm ax ov bu r0 r1 r2 1 hc y0 (Nat.le_trans m0 (by decide)) y1 (Nat.le_trans m1 (by decide)) y2 (Nat.le_trans m2 (by decide)) hB.1 (by decide) hB.2, rfl, trivial, rfl, ?_⟩
    exact ⟨rfl, (false, ax.length, nm, ov, bu), hax, SubI.of0 href [] rfl ⟨br, br, br, br, ⟨rfl, LeBx.cells ⟨LeQ.rfl, LeQ.mo rfl, LeQ.rfl, LeQ.rfl, LeQ.rfl, trivial⟩⟩, ⟨rfl, LeBx.rjunk⟩, ⟨rfl, LeBx.cells ⟨LeQ.junk, LeQ.junk, LeQ.rfl, LeQ.junk, LeQ.junk, LeQ.rfl, LeQ.junk, LeQ.junk, LeQ.rfl, trivial⟩⟩, ⟨rfl, LeBx.jrow⟩, ⟨rfl, LeBx.jrow⟩, ⟨rfl, LeBx.jrow⟩, trivial⟩ ⟨er, er, er, er, er, trivial⟩⟩
  rintro ⟨z8, n8, s8, o8, u8⟩ hq8
  simp only at hq8 ⊢
  refine AW.cutE (fun q : Bool × Nat × ByteArray × Int × Int => ⟨[(2, .s (.ptr 2 0)), (3, .s (.ptr 3 0)), (5, .s (.ptr 5 0)), (6, .s (.ptr 6 0)), (7, .s (.ptr 7 0)), (9, .s (.ptr 9 0))], [(2, some (chanB c)), (3, some (gridB g)), (5, some (chanB c)), (6, some (gridB g)), (7, some (.cells [.d (dS s8), .mo z8 801, .d (dI o8), .d (dI u8), .osl 802 3 0 3])), (801, some (.mrow 58 n8 5 junkF)), (802, some (.cells [.d .junk, .d .junk, .own 810, .d .junk, .d .junk, .own 811, .d .junk, .d .junk, .own 812])), (810, some (.row 63 r0.corners.length 2 junkF)), (811, some (.row 63 r1.corners.length 2 junkF)), (812, some (.row 63 r2.corners.length 2 junkF)), (9, some (.cells [.d (dS q.2.2.1), .mo q.1 901, .d (dI q.2.2.2.1), .d (dI q.2.2.2.2), .osl 902 3 0 3])), (901, some (.mrow 58 q.2.1 5 junkF)), (902, some (.cells [.d .junk, .d .junk, .own 910, .d .junk, .d .junk, .own 911, .d .junk, .d .junk, .own 912])), (910, some (.row 63 r0.corners.length 2 junkF)), (911, some (.row 63 r1.corners.length 2 junkF)), (912, some (.row 63 r2.corners.length 2 junkF))]⟩) (fun q => q.2.1 ≤ 1000) ?_ ?_
  · subst hceq
    refine ex.sound (rc := [20]) tab_ok mix href _ ?_
    refine ⟨[(701, 901), (702, 902), (710, 910), (711, 911), (712, 912)], _, _, _, _, DeepO3 nm ax ov bu r0 r1 r2 1 hc y0 (Nat.le_trans m0 (by decide)) y1 (Nat.le_trans m1 (by decide)) y2 (Nat.le_trans m2 (by decide)) hD.1 (by decide) hD.2, rfl, trivial, rfl, ?_⟩
    exact ⟨rfl, (false, ax.length, nm, ov, bu), hax, SubI.of0 href [] rfl ⟨br, br, br, br, br, br, br, br, br, br, ⟨rfl, LeBx.cells ⟨LeQ.rfl, LeQ.mo rfl, LeQ.rfl, LeQ.rfl, LeQ.rfl, trivial⟩⟩, ⟨rfl, LeBx.rjunk⟩, ⟨rfl, LeBx.cells ⟨LeQ.junk, LeQ.junk, LeQ.rfl, LeQ.junk, LeQ.junk, LeQ.rfl, LeQ.junk, LeQ.junk, LeQ.rfl, trivial⟩⟩, ⟨rfl, LeBx.jrow⟩, ⟨rfl, LeBx.jrow⟩, ⟨rfl, LeBx.jrow⟩, trivial⟩ ⟨er, er, er, er, er, er, trivial⟩⟩
  rintro ⟨z9, n9, s9, o9, u9⟩ hq9
  simp only at hq9 ⊢
  refine AW.cutE (fun q : Bool × Nat × Grid => ⟨[(2, .s (.ptr 2 0)), (3, .s (.ptr 3 0)), (5, .s (.ptr 5 0)), (6, .s (.ptr 6 0)), (7, .s (.ptr 7 0)), (9, .s (.ptr 9 0)), (11, .s (.ptr 11 0))], [(2, some (chanB c)), (3, some (gridB g)), (5, some (chanB c)), (6, some (gridB g)), (7, some (.cells [.d (dS s8), .mo z8 801, .d (dI o8), .d (dI u8), .osl 802 3 0 3])), (801, some (.mrow 58 n8 5 junkF)), (802, some (.cells [.d .junk, .d .junk, .own 810, .d .junk, .d .junk, .own 811, .d .junk, .d .junk, .own 812])), (810, some (.row 63 r0.corners.length 2 junkF)), (811, some (.row 63 r1.corners.length 2 junkF)), (812, some (.row 63 r2.corners.length 2 junkF)), (9, some (.cells [.d (dS s9), .mo z9 901, .d (dI o9), .d (dI u9), .osl 902 3 0 3])), (901, some (.mrow 58 n9 5 junkF)), (902, some (.cells [.d .junk, .d .junk, .own 910, .d .junk, .d .junk, .own 911, .d .junk, .d .junk, .own 912])), (910, some (.row 63 r0.corners.length 2 junkF)), (911, some (.row 63 r1.corners.length 2 junkF)), (912, some (.row 63 r2.corners.length 2 junkF)), (11, some (.cells [.d (dI q.2.2.x), .d (dI q.2.2.y), .d (dI q.2.2.side), .d (dI q.2.2.cols), .d (dI q.2.2.rows), .mo q.1 1001])), (1001, some (.mrow 3 q.2.1 1 junkF))]⟩) (fun q => q.2.1 ≤ 2000) ?_ ?_
  · by_cases he : withErr c [g] = 0
    · refine ex.sound (rc := [27]) tab_ok mix href _ ?_
      refine ⟨[(701, 1001)], _, _, _, _, DesignGridO c g hc hg he, rfl, trivial, rfl, ?_⟩
      exact ⟨rfl, (false, g.levels.length, g), by simp only; omega, SubI.of0 href [] rfl ⟨br, br, br, br, br, br, br, br, br, br, br, br, br, br, br, br, ⟨rfl, LeBx.cells ⟨LeQ.rfl, LeQ.rfl, LeQ.rfl, LeQ.rfl, LeQ.rfl, LeQ.mo rfl, trivial⟩⟩, ⟨rfl, LeBx.rjunk⟩, trivial⟩ ⟨er, er, er, er, er, er, er, trivial⟩⟩
    · refine ex.sound (rc := []) tab_ok mix href _ ?_
      refine callN (DesignGridE c g hc hg he) ?_
      exact ⟨rfl, (true, 0, zeroG), Nat.zero_le _, SubI.of0 href [(1001, 1000)] rfl ⟨br, br, br, br, br, br, br, br, br, br, br, br, br, br, br, br, ⟨rfl, LeBx.cells ⟨LeQ.rfl, LeQ.rfl, LeQ.rfl, LeQ.rfl, LeQ.rfl, LeQ.nil rfl, trivial⟩⟩, ⟨rfl, rfl⟩, trivial⟩ ⟨er, er, er, er, er, er, er, trivial⟩⟩
  rintro ⟨zd, nd, Gd⟩ hqnd
  simp only at hqnd ⊢
  refine AW.cutE (fun q : Bool × Nat × Grid => ⟨[(2, .s (.ptr 2 0)), (3, .s (.ptr 3 0)), (5, .s (.ptr 5 0)), (6, .s (.ptr 6 0)), (7, .s (.ptr 7 0)), (9, .s (.ptr 9 0)), (11, .s (.ptr 11 0)), (13, .s (.ptr 13 0))], [(2, some (chanB c)), (3, some (gridB g)), (5, some (chanB c)), (6, some (gridB g)), (7, some (.cells [.d (dS s8), .mo z8 801, .d (dI o8), .d (dI u8), .osl 802 3 0 3])), (801, some (.mrow 58 n8 5 junkF)), (802, some (.cells [.d .junk, .d .junk, .own 810, .d .junk, .d .junk, .own 811, .d .junk, .d .junk, .own 812])), (810, some (.row 63 r0.corners.length 2 junkF)), (811, some (.row 63 r1.corners.length 2 junkF)), (812, some (.row 63 r2.corners.length 2 junkF)), (9, some (.cells [.d (dS s9), .mo z9 901, .d (dI o9), .d (dI u9), .osl 902 3 0 3])), (901, some (.mrow 58 n9 5 junkF)), (902, some (.cells [.d .junk, .d .junk, .own 910, .d .junk, .d .junk, .own 911, .d .junk, .d .junk, .own 912])), (910, some (.row 63 r0.corners.length 2 junkF)), (911, some (.row 63 r1.corners.length 2 junkF)), (912, some (.row 63 r2.corners.length 2 junkF)), (11, some (.cells [.d (dI Gd.x), .d (dI Gd.y), .d (dI Gd.side), .d (dI Gd.cols), .d (dI Gd.rows), .mo zd 1001])), (1001, some (.mrow 3 nd 1 junkF)), (13, some (.cells [.d (dI q.2.2.x), .d (dI q.2.2.y), .d (dI q.2.2.side), .d (dI q.2.2.cols), .d (dI q.2.2.rows), .mo q.1 1002])), (1002, some (.mrow 3 q.2.1 1 junkF))]⟩) (fun q => q.2.1 ≤ 2000) ?_ ?_
  · by_cases he : withErr c [g] = 0
    · refine ex.sound (rc := [28]) tab_ok mix href _ ?_
      refine ⟨[(701, 1002)], _, _, _, _, ToleranceGridO c g hc hg he, rfl, trivial, rfl, ?_⟩
      exact ⟨rfl, (false, g.levels.length, g), by simp only; omega, SubI.of0 href [] rfl ⟨br, br, br, br, br, br, br, br, br, br, br, br, br, br, br, br, br, br, ⟨rfl, LeBx.cells ⟨LeQ.rfl, LeQ.rfl, LeQ.rfl, LeQ.rfl, LeQ.rfl, LeQ.mo rfl, trivial⟩⟩, ⟨rfl, LeBx.rjunk⟩, trivial⟩ ⟨er, er, er, er, er, er, er, er, trivial⟩⟩
    · refine ex.sound (rc := []) tab_ok mix href _ ?_
      refine callN (ToleranceGridE c g hc hg he) ?_
      exact ⟨rfl, (true, 0, zeroG), Nat.zero_le _, SubI.of0 href [(1002, 1000)] rfl ⟨br, br, br, br, br, br, br, br, br, br, br, br, br, br, br, br, br, br, ⟨rfl, LeBx.cells ⟨LeQ.rfl, LeQ.rfl, LeQ.rfl, LeQ.rfl, LeQ.rfl, LeQ.nil rfl, trivial⟩⟩, ⟨rfl, rfl⟩, trivial⟩ ⟨er, er, er, er, er, er, er, er, trivial⟩⟩
  rintro ⟨zt, nt, Gt⟩ hqnt
  simp only at hqnt ⊢
  refine AW.cut (σ' := ⟨bE ++ [], bB c g zd zt nd nt Gd Gt ++ []⟩) (ex.sound (rc := []) tab_ok mix href _ ?_) ?_
  · refine AW.loopI (fun i : Nat => match i with | 0 => (⟨bE ++ [(61, .g [.d (dS s8), .mo z8 801, .d (dI o8), .d (dI u8), .osl 802 3 0 3, .d (dS s9), .mo z9 901, .d (dI o9), .d (dI u9), .osl 902 3 0 3]), (62, vI 0)], bB c g zd zt nd nt Gd Gt ++ [(801, some (.mrow 58 n8 5 junkF)), (802, some (.cells [.d .junk, .d .junk, .own 810, .d .junk, .d .junk, .own 811, .d .junk, .d .junk, .own 812])), (810, some (.row 63 r0.corners.length 2 junkF)), (811, some (.row 63 r1.corners.length 2 junkF)), (812, some (.row 63 r2.corners.length 2 junkF)), (901, some (.mrow 58 n9 5 junkF)), (902, some (.cells [.d .junk, .d .junk, .own 910, .d .junk, .d .junk, .own 911, .d .junk, .d .junk, .own 912])), (910, some (.row 63 r0.corners.length 2 junkF)), (911, some (.row 63 r1.corners.length 2 junkF)), (912, some (.row 63 r2.corners.length 2 junkF))]⟩ : St) | 1 => ⟨bE ++ [(61, .g [.d .junk, .d .junk, .d .junk, .d .junk, .d .junk, .d (dS s9), .mo z9 901, .d (dI o9), .d (dI u9), .osl 902 3 0 3]), (62, vI 1)], bB c g zd zt nd nt Gd Gt ++ [(901, some (.mrow 58 n9 5 junkF)), (902, some (.cells [.d .junk, .d .junk, .own 910, .d .junk, .d .junk, .own 911, .d .junk, .d .junk, .own 912])), (910, some (.row 63 r0.corners.length 2 junkF)), (911, some (.row 63 r1.corners.length 2 junkF)), (912, some (.row 63 r2.corners.length 2 junkF))]⟩ | _ => ⟨bE ++ [(62, vI 2)], bB c g zd zt nd nt Gd Gt ++ []⟩) (fun i => i ≤ 2) (fun i => 2 - i) 0 (Nat.zero_le _) ?_ ?_
    · exact SubI.of0 href [] rfl ⟨br, br, br, br, br, br, br, br, br, br, br, br, br, br, br, br, br, br, trivial⟩ ⟨er, er, er, er, er, er, er, er, trivial⟩
    · intro i hi
      match i, hi with
      | 0, _ =>
        refine AW.seq (ex.sound (rc := []) tab_ok mix href _ ?_)
        refine AW.seq (ex.sound (rc := []) tab_ok mix href _ ?_)
        refine And.intro (fun _ => ?_) (fun h => by cases (show (decide ((0 : Int) < 2)) = false from h))
        refine AW.seq (AW.block (AW.seq (ex.sound (rc := []) tab_ok mix href _ ?_)))
        refine oi ⟨by decide, by decide⟩ ?_
        have hzn := bif_le (z := z8) (n := n8)
        refine AW.cut (σ' := ⟨bE ++ [(61, .g [.d .junk, .d .junk, .d .junk, .d .junk, .d .junk, .d (dS s9), .mo z9 901, .d (dI o9), .d (dI u9), .osl 902 3 0 3]), (62, vI 0), (16, .s (.ptr 16 0))], bB c g zd zt nd nt Gd Gt ++ [(16, some (.cells [.d (dS s8), .mo z8 801, .d (dI o8), .d (dI u8), .osl 802 3 0 3])), (801, some (.mrow 58 n8 5 junkF)), (802, some (.cells [.d .junk, .d .junk, .own 810, .d .junk, .d .junk, .own 811, .d .junk, .d .junk, .own 812])), (810, some (.row 63 r0.corners.length 2 junkF)), (811, some (.row 63 r1.corners.length 2 junkF)), (812, some (.row 63 r2.corners.length 2 junkF)), (901, some (.mrow 58 n9 5 junkF)), (902, some (.cells [.d .junk, .d .junk, .own 910, .d .junk, .d .junk, .own 911, .d .junk, .d .junk, .own 912])), (910, some (.row 63 r0.corners.length 2 junkF)), (911, some (.row 63 r1.corners.length 2 junkF)), (912, some (.row 63 r2.corners.length 2 junkF))]⟩) (ex.sound (rc := []) tab_ok mix href _ ?_) ?_
        · refine AW.loopI (fun m : Nat => (⟨bE ++ [(61, .g [.d .junk, .d .junk, .d .junk, .d .junk, .d .junk, .d (dS s9), .mo z9 901, .d (dI o9), .d (dI u9), .osl 902 3 0 3]), (62, vI 0), (16, .s (.ptr 16 0)), (17, vI m)], bB c g zd zt nd nt Gd Gt ++ [(16, some (.cells [.d (dS s8), .mo z8 801, .d (dI o8), .d (dI u8), .osl 802 3 0 3])), (801, some (.mrow 58 n8 5 junkF)), (802, some (.cells [.d .junk, .d .junk, .own 810, .d .junk, .d .junk, .own 811, .d .junk, .d .junk, .own 812])), (810, some (.row 63 r0.corners.length 2 junkF)), (811, some (.row 63 r1.corners.length 2 junkF)), (812, some (.row 63 r2.corners.length 2 junkF)), (901, some (.mrow 58 n9 5 junkF)), (902, some (.cells [.d .junk, .d .junk, .own 910, .d .junk, .d .junk, .own 911, .d .junk, .d .junk, .own 912])), (910, some (.row 63 r0.corners.length 2 junkF)), (911, some (.row 63 r1.corners.length 2 junkF)), (912, some (.row 63 r2.corners.length 2 junkF))]⟩ : St)) (fun m => m ≤ (bif z8 then 0 else n8)) (fun m => (bif z8 then 0 else n8) - m) 0 (Nat.zero_le _) ?_ ?_
          · exact SubI.of0 href [] rfl ⟨br, br, br, br, br, br, br, br, br, br, br, br, br, br, br, br, br, br, br, trivial⟩ ⟨er, er, er, er, er, er, ⟨rfl, LeQ.g ⟨LeQ.junk, LeQ.junk, LeQ.junk, LeQ.junk, LeQ.junk, LeQ.rfl, LeQ.rfl, LeQ.rfl, LeQ.rfl, LeQ.rfl, trivial⟩⟩, er, er, er, trivial⟩
          · intro m hm
            refine ex.sound (rc := []) tab_ok mix href _ ?_
            refine And.intro (fun h => ?_) (fun h => ?_)
            · have h : (m : Int) < ((bif z8 then 0 else n8 : Nat) : Int) := decT h
              refine oi ⟨by omega, by show (m : Int) < ((bif z8 then 0 else n8 : Nat) : Int); omega⟩ ?_
              refine ob (show (m : Int).toNat < n8 by omega) ?_
              refine ⟨m + 1, by omega, by omega, ?_⟩
              exact SubI.of0 href [] rfl ⟨br, br, br, br, br, br, br, br, br, ⟨rfl, LeBx.junk⟩, br, br, br, br, br, br, br, br, br, trivial⟩ ⟨er, er, er, er, er, er, er, er, er, ⟨rfl, LeQ.int (w64_of (by omega) (by omega))⟩, trivial⟩
            · exact ⟨rfl, SubI.of0 href [] rfl ⟨br, br, br, br, br, br, br, br, br, br, br, br, br, br, br, br, br, br, br, trivial⟩ ⟨er, er, er, er, er, er, er, er, er, trivial⟩⟩
        refine AW.seq (ex.sound (rc := []) tab_ok mix href _ ?_)
        refine ex.sound (rc := []) tab_ok mix href _ ?_
        refine AW.loopI (fun j : Nat => (⟨bE ++ [(61, .g [.d .junk, .d .junk, .d .junk, .d .junk, .d .junk, .d (dS s9), .mo z9 901, .d (dI o9), .d (dI u9), .osl 902 3 0 3]), (62, vI 0), (16, .s (.ptr 16 0)), (18, vI j)], bB c g zd zt nd nt Gd Gt ++ [(16, some (.cells [.d (dS s8), .mo z8 801, .d (dI o8), .d (dI u8), .osl 802 3 0 3])), (801, some (.mrow 58 n8 5 junkF)), (802, some (.cells [.d .junk, .d .junk, .own 810, .d .junk, .d .junk, .own 811, .d .junk, .d .junk, .own 812])), (810, some (.row 63 r0.corners.length 2 junkF)), (811, some (.row 63 r1.corners.length 2 junkF)), (812, some (.row 63 r2.corners.length 2 junkF)), (901, some (.mrow 58 n9 5 junkF)), (902, some (.cells [.d .junk, .d .junk, .own 910, .d .junk, .d .junk, .own 911, .d .junk, .d .junk, .own 912])), (910, some (.row 63 r0.corners.length 2 junkF)), (911, some (.row 63 r1.corners.length 2 junkF)), (912, some (.row 63 r2.corners.length 2 junkF))]⟩ : St)) (fun j => j ≤ 3) (fun j => 3 - j) 0 (Nat.zero_le _) ?_ ?_
        · exact SubI.of0 href [] rfl ⟨br, br, br, br, br, br, br, br, br, br, br, br, br, br, br, br, br, br, br, trivial⟩ ⟨er, er, er, er, er, er, er, er, er, er, trivial⟩
        · intro j hj
          match j, hj with
          | 0, _ =>
            refine AW.seq (ex.sound (rc := []) tab_ok mix href _ ?_)
            refine And.intro (fun _ => ?_) (fun h => by cases (show (decide ((0 : Int) < 3)) = false from h))
            refine AW.seq (AW.block ?_)
            refine AW.cut (σ' := ⟨bE ++ [(61, .g [.d .junk, .d .junk, .d .junk, .d .junk, .d .junk, .d (dS s9), .mo z9 901, .d (dI o9), .d (dI u9), .osl 902 3 0 3]), (62, vI 0), (16, .s (.ptr 16 0)), (18, vI 0)], bB c g zd zt nd nt Gd Gt ++ [(16, some (.cells [.d (dS s8), .mo z8 801, .d (dI o8), .d (dI u8), .osl 802 3 0 3])), (801, some (.mrow 58 n8 5 junkF)), (802, some (.cells [.d .junk, .d .junk, .own 810, .d .junk, .d .junk, .own 811, .d .junk, .d .junk, .own 812])), (810, some (.row 63 r0.corners.length 2 junkF)), (811, some (.row 63 r1.corners.length 2 junkF)), (812, some (.row 63 r2.corners.length 2 junkF)), (901, some (.mrow 58 n9 5 junkF)), (902, some (.cells [.d .junk, .d .junk, .own 910, .d .junk, .d .junk, .own 911, .d .junk, .d .junk, .own 912])), (910, some (.row 63 r0.corners.length 2 junkF)), (911, some (.row 63 r1.corners.length 2 junkF)), (912, some (.row 63 r2.corners.length 2 junkF))]⟩) (ex.sound (rc := []) tab_ok mix href _ ?_) ?_
            · refine AW.loopI (fun m : Nat => (⟨bE ++ [(61, .g [.d .junk, .d .junk, .d .junk, .d .junk, .d .junk, .d (dS s9), .mo z9 901, .d (dI o9), .d (dI u9), .osl 902 3 0 3]), (62, vI 0), (16, .s (.ptr 16 0)), (18, vI 0), (19, vI m)], bB c g zd zt nd nt Gd Gt ++ [(16, some (.cells [.d (dS s8), .mo z8 801, .d (dI o8), .d (dI u8), .osl 802 3 0 3])), (801, some (.mrow 58 n8 5 junkF)), (802, some (.cells [.d .junk, .d .junk, .own 810, .d .junk, .d .junk, .own 811, .d .junk, .d .junk, .own 812])), (810, some (.row 63 r0.corners.length 2 junkF)), (811, some (.row 63 r1.corners.length 2 junkF)), (812, some (.row 63 r2.corners.length 2 junkF)), (901, some (.mrow 58 n9 5 junkF)), (902, some (.cells [.d .junk, .d .junk, .own 910, .d .junk, .d .junk, .own 911, .d .junk, .d .junk, .own 912])), (910, some (.row 63 r0.corners.length 2 junkF)), (911, some (.row 63 r1.corners.length 2 junkF)), (912, some (.row 63 r2.corners.length 2 junkF))]⟩ : St)) (fun m => m ≤ r0.corners.length) (fun m => r0.corners.length - m) 0 (Nat.zero_le _) ?_ ?_
              · exact SubI.of0 href [] rfl ⟨br, br, br, br, br, br, br, br, br, br, br, br, br, br, br, br, br, br, br, trivial⟩ ⟨er, er, er, er, er, er, er, er, er, er, er, trivial⟩
              · intro m hm
                refine ex.sound (rc := []) tab_ok mix href _ ?_
                refine oi ⟨by decide, by decide⟩ ?_
                refine And.intro (fun h => ?_) (fun h => ?_)
                · have h : (m : Int) < (r0.corners.length : Int) := decT h
                  refine oi ⟨by decide, by decide⟩ ?_
                  refine oi ⟨by omega, by omega⟩ ?_
                  refine ob (show (m : Int).toNat < r0.corners.length by omega) ?_
                  refine ⟨m + 1, by omega, by omega, ?_⟩
                  exact SubI.of0 href [] rfl ⟨br, br, br, br, br, br, br, br, br, br, br, ⟨rfl, LeBx.jrow⟩, br, br, br, br, br, br, br, trivial⟩ ⟨er, er, er, er, er, er, er, er, er, er, ⟨rfl, LeQ.int (w64_of (by omega) (by omega))⟩, trivial⟩
                · exact ⟨rfl, SubI.of0 href [] rfl ⟨br, br, br, br, br, br, br, br, br, br, br, br, br, br, br, br, br, br, br, trivial⟩ ⟨er, er, er, er, er, er, er, er, er, er, trivial⟩⟩
            · refine ex.sound (rc := []) tab_ok mix href _ ?_
              refine oi ⟨by decide, by decide⟩ ?_
              refine ex.sound (rc := []) tab_ok mix href _ ?_
              refine ⟨1, by decide, by decide, ?_⟩
              exact SubI.of0 href [] rfl ⟨br, br, br, br, br, br, br, br, br, br, ⟨rfl, LeBx.cells ⟨LeQ.junk, LeQ.junk, LeQ.rfl, LeQ.junk, LeQ.junk, LeQ.rfl, LeQ.junk, LeQ.junk, LeQ.rfl, trivial⟩⟩, br, br, br, br, br, br, br, br, trivial⟩ ⟨er, er, er, er, er, er, er, er, er, er, trivial⟩
          | 1, _ =>
            refine AW.seq (ex.sound (rc := []) tab_ok mix href _ ?_)
            refine And.intro (fun _ => ?_) (fun h => by cases (show (decide ((1 : Int) < 3)) = false from h))
            refine AW.seq (AW.block ?_)
            refine AW.cut (σ' := ⟨bE ++ [(61, .g [.d .junk, .d .junk, .d .junk, .d .junk, .d .junk, .d (dS s9), .mo z9 901, .d (dI o9), .d (dI u9), .osl 902 3 0 3]), (62, vI 0), (16, .s (.ptr 16 0)), (18, vI 1)], bB c g zd zt nd nt Gd Gt ++ [(16, some (.cells [.d (dS s8), .mo z8 801, .d (dI o8), .d (dI u8), .osl 802 3 0 3])), (801, some (.mrow 58 n8 5 junkF)), (802, some (.cells [.d .junk, .d .junk, .own 810, .d .junk, .d .junk, .own 811, .d .junk, .d .junk, .own 812])), (810, some (.row 63 r0.corners.length 2 junkF)), (811, some (.row 63 r1.corners.length 2 junkF)), (812, some (.row 63 r2.corners.length 2 junkF)), (901, some (.mrow 58 n9 5 junkF)), (902, some (.cells [.d .junk, .d .junk, .own 910, .d .junk, .d .junk, .own 911, .d .junk, .d .junk, .own 912])), (910, some (.row 63 r0.corners.length 2 junkF)), (911, some (.row 63 r1.corners.length 2 junkF)), (912, some (.row 63 r2.corners.length 2 junkF))]⟩) (ex.sound (rc := []) tab_ok mix href _ ?_) ?_
            · refine AW.loopI (fun m : Nat => (⟨bE ++ [(61, .g [.d .junk, .d .junk, .d .junk, .d .junk, .d .junk, .d (dS s9), .mo z9 901, .d (dI o9), .d (dI u9), .osl 902 3 0 3]), (62, vI 0), (16, .s (.ptr 16 0)), (18, vI 1), (19, vI m)], bB c g zd zt nd nt Gd Gt ++ [(16, some (.cells [.d (dS s8), .mo z8 801, .d (dI o8), .d (dI u8), .osl 802 3 0 3])), (801, some (.mrow 58 n8 5 junkF)), (802, some (.cells [.d .junk, .d .junk, .own 810, .d .junk, .d .junk, .own 811, .d .junk, .d .junk, .own 812])), (810, some (.row 63 r0.corners.length 2 junkF)), (811, some (.row 63 r1.corners.length 2 junkF)), (812, some (.row 63 r2.corners.length 2 junkF)), (901, some (.mrow 58 n9 5 junkF)), (902, some (.cells [.d .junk, .d .junk, .own 910, .d .junk, .d .junk, .own 911, .d .junk, .d .junk, .own 912])), (910, some (.row 63 r0.corners.length 2 junkF)), (911, some (.row 63 r1.corners.length 2 junkF)), (912, some (.row 63 r2.corners.length 2 junkF))]⟩ : St)) (fun m => m ≤ r1.corners.length) (fun m => r1.corners.length - m) 0 (Nat.zero_le _) ?_ ?_
              · exact SubI.of0 href [] rfl ⟨br, br, br, br, br, br, br, br, br, br, br, br, br, br, br, br, br, br, br, trivial⟩ ⟨er, er, er, er, er, er, er, er, er, er, er, trivial⟩
              · intro m hm
                refine ex.sound (rc := []) tab_ok mix href _ ?_
                refine oi ⟨by decide, by decide⟩ ?_
                refine And.intro (fun h => ?_) (fun h => ?_)
                · have h : (m : Int) < (r1.corners.length : Int) := decT h
                  refine oi ⟨by decide, by decide⟩ ?_
                  refine oi ⟨by omega, by omega⟩ ?_
                  refine ob (show (m : Int).toNat < r1.corners.length by omega) ?_
                  refine ⟨m + 1, by omega, by omega, ?_⟩
                  exact SubI.of0 href [] rfl ⟨br, br, br, br, br, br, br, br, br, br, br, br, ⟨rfl, LeBx.jrow⟩, br, br, br, br, br, br, trivial⟩ ⟨er, er, er, er, er, er, er, er, er, er, ⟨rfl, LeQ.int (w64_of (by omega) (by omega))⟩, trivial⟩
                · exact ⟨rfl, SubI.of0 href [] rfl ⟨br, br, br, br, br, br, br, br, br, br, br, br, br, br, br, br, br, br, br, trivial⟩ ⟨er, er, er, er, er, er, er, er, er, er, trivial⟩⟩
            · refine ex.sound (rc := []) tab_ok mix href _ ?_
              refine oi ⟨by decide, by decide⟩ ?_
              refine ex.sound (rc := []) tab_ok mix href _ ?_
              refine ⟨2, by decide, by decide, ?_⟩
              exact SubI.of0 href [] rfl ⟨br, br, br, br, br, br, br, br, br, br, ⟨rfl, LeBx.cells ⟨LeQ.junk, LeQ.junk, LeQ.rfl, LeQ.junk, LeQ.junk, LeQ.rfl, LeQ.junk, LeQ.junk, LeQ.rfl, trivial⟩⟩, br, br, br, br, br, br, br, br, trivial⟩ ⟨er, er, er, er, er, er, er, er, er, er, trivial⟩
          | 2, _ =>
            refine AW.seq (ex.sound (rc := []) tab_ok mix href _ ?_)
            refine And.intro (fun _ => ?_) (fun h => by cases (show (decide ((2 : Int) < 3)) = false from h))
            refine AW.seq (AW.block ?_)
            refine AW.cut (σ' := ⟨bE ++ [(61, .g [.d .junk, .d .junk, .d .junk, .d .junk, .d .junk, .d (dS s9), .mo z9 901, .d (dI o9), .d (dI u9), .osl 902 3 0 3]), (62, vI 0), (16, .s (.ptr 16 0)), (18, vI 2)], bB c g zd zt nd nt Gd Gt ++ [(16, some (.cells [.d (dS s8), .mo z8 801, .d (dI o8), .d (dI u8), .osl 802 3 0 3])), (801, some (.mrow 58 n8 5 junkF)), (802, some (.cells [.d .junk, .d .junk, .own 810, .d .junk, .d .junk, .own 811, .d .junk, .d .junk, .own 812])), (810, some (.row 63 r0.corners.length 2 junkF)), (811, some (.row 63 r1.corners.length 2 junkF)), (812, some (.row 63 r2.corners.length 2 junkF)), (901, some (.mrow 58 n9 5 junkF)), (902, some (.cells [.d .junk, .d .junk, .own 910, .d .junk, .d .junk, .own 911, .d .junk, .d .junk, .own 912])), (910, some (.row 63 r0.corners.length 2 junkF)), (911, some (.row 63 r1.corners.length 2 junkF)), (912, some (.row 63 r2.corners.length 2 junkF))]⟩) (ex.sound (rc := []) tab_ok mix href _ ?_) ?_
            · refine AW.loopI (fun m : Nat => (⟨bE ++ [(61, .g [.d .junk, .d .junk, .d .junk, .d .junk, .d .junk, .d (dS s9), .mo z9 901, .d (dI o9), .d (dI u9), .osl 902 3 0 3]), (62, vI 0), (16, .s (.ptr 16 0)), (18, vI 2), (19, vI m)], bB c g zd zt nd nt Gd Gt ++ [(16, some (.cells [.d (dS s8), .mo z8 801, .d (dI o8), .d (dI u8), .osl 802 3 0 3])), (801, some (.mrow 58 n8 5 junkF)), (802, some (.cells [.d .junk, .d .junk, .own 810, .d .junk, .d .junk, .own 811, .d .junk, .d .junk, .own 812])), (810, some (.row 63 r0.corners.length 2 junkF)), (811, some (.row 63 r1.corners.length 2 junkF)), (812, some (.row 63 r2.corners.length 2 junkF)), (901, some (.mrow 58 n9 5 junkF)), (902, some (.cells [.d .junk, .d .junk, .own 910, .d .junk, .d .junk, .own 911, .d .junk, .d .junk, .own 912])), (910, some (.row 63 r0.corners.length 2 junkF)), (911, some (.row 63 r1.corners.length 2 junkF)), (912, some (.row 63 r2.corners.length 2 junkF))]⟩ : St)) (fun m => m ≤ r2.corners.length) (fun m => r2.corners.length - m) 0 (Nat.zero_le _) ?_ ?_
              · exact SubI.of0 href [] rfl ⟨br, br, br, br, br, br, br, br, br, br, br, br, br, br, br, br, br, br, br, trivial⟩ ⟨er, er, er, er, er, er, er, er, er, er, er, trivial⟩
              · intro m hm
                refine ex.sound (rc := []) tab_ok mix href _ ?_
                refine oi ⟨by decide, by decide⟩ ?_
                refine And.intro (fun h => ?_) (fun h => ?_)
                · have h : (m : Int) < (r2.corners.length : Int) := decT h
                  refine oi ⟨by decide, by decide⟩ ?_
                  refine oi ⟨by omega, by omega⟩ ?_
                  refine ob (show (m : Int).toNat < r2.corners.length by omega) ?_
                  refine ⟨m + 1, by omega, by omega, ?_⟩
                  exact SubI.of0 href [] rfl ⟨br, br, br, br, br, br, br, br, br, br, br, br, br, ⟨rfl, LeBx.jrow⟩, br, br, br, br, br, trivial⟩ ⟨er, er, er, er, er, er, er, er, er, er, ⟨rfl, LeQ.int (w64_of (by omega) (by omega))⟩, trivial⟩
                · exact ⟨rfl, SubI.of0 href [] rfl ⟨br, br, br, br, br, br, br, br, br, br, br, br, br, br, br, br, br, br, br, trivial⟩ ⟨er, er, er, er, er, er, er, er, er, er, trivial⟩⟩
            · refine ex.sound (rc := []) tab_ok mix href _ ?_
              refine oi ⟨by decide, by decide⟩ ?_
              refine ex.sound (rc := []) tab_ok mix href _ ?_
              refine ⟨3, by decide, by decide, ?_⟩
              exact SubI.of0 href [] rfl ⟨br, br, br, br, br, br, br, br, br, br, ⟨rfl, LeBx.cells ⟨LeQ.junk, LeQ.junk, LeQ.rfl, LeQ.junk, LeQ.junk, LeQ.rfl, LeQ.junk, LeQ.junk, LeQ.rfl, trivial⟩⟩, br, br, br, br, br, br, br, br, trivial⟩ ⟨er, er, er, er, er, er, er, er, er, er, trivial⟩
          | 3, _ =>
            refine ex.sound (rc := []) tab_ok mix href _ ?_
            refine And.intro (fun h => by cases (show (decide ((3 : Int) < 3)) = true from h)) (fun _ => ?_)
            refine ex.sound (rc := []) tab_ok mix href _ ?_
            refine ⟨1, by decide, by decide, ?_⟩
            exact SubI.of0 href [] rfl ⟨br, br, br, br, br, br, br, br, br, br, br, br, br, trivial⟩ ⟨er, er, er, er, er, er, er, er, trivial⟩
      | 1, _ =>
        refine AW.seq (ex.sound (rc := []) tab_ok mix href _ ?_)
        refine AW.seq (ex.sound (rc := []) tab_ok mix href _ ?_)
        refine And.intro (fun _ => ?_) (fun h => by cases (show (decide ((1 : Int) < 2)) = false from h))
        refine AW.seq (AW.block (AW.seq (ex.sound (rc := []) tab_ok mix href _ ?_)))
        refine oi ⟨by decide, by decide⟩ ?_
        have hzn := bif_le (z := z9) (n := n9)
        refine AW.cut (σ' := ⟨bE ++ [(62, vI 1), (16, .s (.ptr 16 0))], bB c g zd zt nd nt Gd Gt ++ [(16, some (.cells [.d (dS s9), .mo z9 901, .d (dI o9), .d (dI u9), .osl 902 3 0 3])), (901, some (.mrow 58 n9 5 junkF)), (902, some (.cells [.d .junk, .d .junk, .own 910, .d .junk, .d .junk, .own 911, .d .junk, .d .junk, .own 912])), (910, some (.row 63 r0.corners.length 2 junkF)), (911, some (.row 63 r1.corners.length 2 junkF)), (912, some (.row 63 r2.corners.length 2 junkF))]⟩) (ex.sound (rc := []) tab_ok mix href _ ?_) ?_
        · refine AW.loopI (fun m : Nat => (⟨bE ++ [(62, vI 1), (16, .s (.ptr 16 0)), (17, vI m)], bB c g zd zt nd nt Gd Gt ++ [(16, some (.cells [.d (dS s9), .mo z9 901, .d (dI o9), .d (dI u9), .osl 902 3 0 3])), (901, some (.mrow 58 n9 5 junkF)), (902, some (.cells [.d .junk, .d .junk, .own 910, .d .junk, .d .junk, .own 911, .d .junk, .d .junk, .own 912])), (910, some (.row 63 r0.corners.length 2 junkF)), (911, some (.row 63 r1.corners.length 2 junkF)), (912, some (.row 63 r2.corners.length 2 junkF))]⟩ : St)) (fun m => m ≤ (bif z9 then 0 else n9)) (fun m => (bif z9 then 0 else n9) - m) 0 (Nat.zero_le _) ?_ ?_
          · exact SubI.of0 href [] rfl ⟨br, br, br, br, br, br, br, br, br, br, br, br, br, br, trivial⟩ ⟨er, er, er, er, er, er, er, er, er, trivial⟩
          · intro m hm
            refine ex.sound (rc := []) tab_ok mix href _ ?_
            refine And.intro (fun h => ?_) (fun h => ?_)
            · have h : (m : Int) < ((bif z9 then 0 else n9 : Nat) : Int) := decT h
              refine oi ⟨by omega, by show (m : Int) < ((bif z9 then 0 else n9 : Nat) : Int); omega⟩ ?_
              refine ob (show (m : Int).toNat < n9 by omega) ?_
              refine ⟨m + 1, by omega, by omega, ?_⟩
              exact SubI.of0 href [] rfl ⟨br, br, br, br, br, br, br, br, br, ⟨rfl, LeBx.junk⟩, br, br, br, br, trivial⟩ ⟨er, er, er, er, er, er, er, er, ⟨rfl, LeQ.int (w64_of (by omega) (by omega))⟩, trivial⟩
            · exact ⟨rfl, SubI.of0 href [] rfl ⟨br, br, br, br, br, br, br, br, br, br, br, br, br, br, trivial⟩ ⟨er, er, er, er, er, er, er, er, trivial⟩⟩
        refine AW.seq (ex.sound (rc := []) tab_ok mix href _ ?_)
        refine ex.sound (rc := []) tab_ok mix href _ ?_
        refine AW.loopI (fun j : Nat => (⟨bE ++ [(62, vI 1), (16, .s (.ptr 16 0)), (18, vI j)], bB c g zd zt nd nt Gd Gt ++ [(16, some (.cells [.d (dS s9), .mo z9 901, .d (dI o9), .d (dI u9), .osl 902 3 0 3])), (901, some (.mrow 58 n9 5 junkF)), (902, some (.cells [.d .junk, .d .junk, .own 910, .d .junk, .d .junk, .own 911, .d .junk, .d .junk, .own 912])), (910, some (.row 63 r0.corners.length 2 junkF)), (911, some (.row 63 r1.corners.length 2 junkF)), (912, some (.row 63 r2.corners.length 2 junkF))]⟩ : St)) (fun j => j ≤ 3) (fun j => 3 - j) 0 (Nat.zero_le _) ?_ ?_
        · exact SubI.of0 href [] rfl ⟨br, br, br, br, br, br, br, br, br, br, br, br, br, br, trivial⟩ ⟨er, er, er, er, er, er, er, er, er, trivial⟩
        · intro j hj
          match j, hj with
          | 0, _ =>
            refine AW.seq (ex.sound (rc := []) tab_ok mix href _ ?_)
            refine And.intro (fun _ => ?_) (fun h => by cases (show (decide ((0 : Int) < 3)) = false from h))
            refine AW.seq (AW.block ?_)
            refine AW.cut (σ' := ⟨bE ++ [(62, vI 1), (16, .s (.ptr 16 0)), (18, vI 0)], bB c g zd zt nd nt Gd Gt ++ [(16, some (.cells [.d (dS s9), .mo z9 901, .d (dI o9), .d (dI u9), .osl 902 3 0 3])), (901, some (.mrow 58 n9 5 junkF)), (902, some (.cells [.d .junk, .d .junk, .own 910, .d .junk, .d .junk, .own 911, .d .junk, .d .junk, .own 912])), (910, some (.row 63 r0.corners.length 2 junkF)), (911, some (.row 63 r1.corners.length 2 junkF)), (912, some (.row 63 r2.corners.length 2 junkF))]⟩) (ex.sound (rc := []) tab_ok mix href _ ?_) ?_
            · refine AW.loopI (fun m : Nat => (⟨bE ++ [(62, vI 1), (16, .s (.ptr 16 0)), (18, vI 0), (19, vI m)], bB c g zd zt nd nt Gd Gt ++ [(16, some (.cells [.d (dS s9), .mo z9 901, .d (dI o9), .d (dI u9), .osl 902 3 0 3])), (901, some (.mrow 58 n9 5 junkF)), (902, some (.cells [.d .junk, .d .junk, .own 910, .d .junk, .d .junk, .own 911, .d .junk, .d .junk, .own 912])), (910, some (.row 63 r0.corners.length 2 junkF)), (911, some (.row 63 r1.corners.length 2 junkF)), (912, some (.row 63 r2.corners.length 2 junkF))]⟩ : St)) (fun m => m ≤ r0.corners.length) (fun m => r0.corners.length - m) 0 (Nat.zero_le _) ?_ ?_
              · exact SubI.of0 href [] rfl ⟨br, br, br, br, br, br, br, br, br, br, br, br, br, br, trivial⟩ ⟨er, er, er, er, er, er, er, er, er, er, trivial⟩
              · intro m hm
                refine ex.sound (rc := []) tab_ok mix href _ ?_
                refine oi ⟨by decide, by decide⟩ ?_
                refine And.intro (fun h => ?_) (fun h => ?_)
                · have h : (m : Int) < (r0.corners.length : Int) := decT h
                  refine oi ⟨by decide, by decide⟩ ?_
                  refine oi ⟨by omega, by omega⟩ ?_
                  refine ob (show (m : Int).toNat < r0.corners.length by omega) ?_
                  refine ⟨m + 1, by omega, by omega, ?_⟩
                  exact SubI.of0 href [] rfl ⟨br, br, br, br, br, br, br, br, br, br, br, ⟨rfl, LeBx.jrow⟩, br, br, trivial⟩ ⟨er, er, er, er, er, er, er, er, er, ⟨rfl, LeQ.int (w64_of (by omega) (by omega))⟩, trivial⟩
                · exact ⟨rfl, SubI.of0 href [] rfl ⟨br, br, br, br, br, br, br, br, br, br, br, br, br, br, trivial⟩ ⟨er, er, er, er, er, er, er, er, er, trivial⟩⟩
            · refine ex.sound (rc := []) tab_ok mix href _ ?_
              refine oi ⟨by decide, by decide⟩ ?_
              refine ex.sound (rc := []) tab_ok mix href _ ?_
              refine ⟨1, by decide, by decide, ?_⟩
              exact SubI.of0 href [] rfl ⟨br, br, br, br, br, br, br, br, br, br, ⟨rfl, LeBx.cells ⟨LeQ.junk, LeQ.junk, LeQ.rfl, LeQ.junk, LeQ.junk, LeQ.rfl, LeQ.junk, LeQ.junk, LeQ.rfl, trivial⟩⟩, br, br, br, trivial⟩ ⟨er, er, er, er, er, er, er, er, er, trivial⟩
          | 1, _ =>
            refine AW.seq (ex.sound (rc := []) tab_ok mix href _ ?_)
            refine And.intro (fun _ => ?_) (fun h => by cases (show (decide ((1 : Int) < 3)) = false from h))
            refine AW.seq (AW.block ?_)
            refine AW.cut (σ' := ⟨bE ++ [(62, vI 1), (16, .s (.ptr 16 0)), (18, vI 1)], bB c g zd zt nd nt Gd Gt ++ [(16, some (.cells [.d (dS s9), .mo z9 901, .d (dI o9), .d (dI u9), .osl 902 3 0 3])), (901, some (.mrow 58 n9 5 junkF)), (902, some (.cells [.d .junk, .d .junk, .own 910, .d .junk, .d .junk, .own 911, .d .junk, .d .junk, .own 912])), (910, some (.row 63 r0.corners.length 2 junkF)), (911, some (.row 63 r1.corners.length 2 junkF)), (912, some (.row 63 r2.corners.length 2 junkF))]⟩) (ex.sound (rc := []) tab_ok mix href _ ?_) ?_
            · refine AW.loopI (fun m : Nat => (⟨bE ++ [(62, vI 1), (16, .s (.ptr 16 0)), (18, vI 1), (19, vI m)], bB c g zd zt nd nt Gd Gt ++ [(16, some (.cells [.d (dS s9), .mo z9 901, .d (dI o9), .d (dI u9), .osl 902 3 0 3])), (901, some (.mrow 58 n9 5 junkF)), (902, some (.cells [.d .junk, .d .junk, .own 910, .d .junk, .d .junk, .own 911, .d .junk, .d .junk, .own 912])), (910, some (.row 63 r0.corners.length 2 junkF)), (911, some (.row 63 r1.corners.length 2 junkF)), (912, some (.row 63 r2.corners.length 2 junkF))]⟩ : St)) (fun m => m ≤ r1.corners.length) (fun m => r1.corners.length - m) 0 (Nat.zero_le _) ?_ ?_
              · exact SubI.of0 href [] rfl ⟨br, br, br, br, br, br, br, br, br, br, br, br, br, br, trivial⟩ ⟨er, er, er, er, er, er, er, er, er, er, trivial⟩
              · intro m hm
                refine ex.sound (rc := []) tab_ok mix href _ ?_
                refine oi ⟨by decide, by decide⟩ ?_
                refine And.intro (fun h => ?_) (fun h => ?_)
                · have h : (m : Int) < (r1.corners.length : Int) := decT h
                  refine oi ⟨by decide, by decide⟩ ?_
                  refine oi ⟨by omega, by omega⟩ ?_
                  refine ob (show (m : Int).toNat < r1.corners.length by omega) ?_
                  refine ⟨m + 1, by omega, by omega, ?_⟩
                  exact SubI.of0 href [] rfl ⟨br, br, br, br, br, br, br, br, br, br, br, br, ⟨rfl, LeBx.jrow⟩, br, trivial⟩ ⟨er, er, er, er, er, er, er, er, er, ⟨rfl, LeQ.int (w64_of (by omega) (by omega))⟩, trivial⟩
                · exact ⟨rfl, SubI.of0 href [] rfl ⟨br, br, br, br, br, br, br, br, br, br, br, br, br, br, trivial⟩ ⟨er, er, er, er, er, er, er, er, er, trivial⟩⟩
            · refine ex.sound (rc := []) tab_ok mix href _ ?_
              refine oi ⟨by decide, by decide⟩ ?_
              refine ex.sound (rc := []) tab_ok mix href _ ?_
              refine ⟨2, by decide, by decide, ?_⟩
              exact SubI.of0 href [] rfl ⟨br, br, br, br, br, br, br, br, br, br, ⟨rfl, LeBx.cells ⟨LeQ.junk, LeQ.junk, LeQ.rfl, LeQ.junk, LeQ.junk, LeQ.rfl, LeQ.junk, LeQ.junk, LeQ.rfl, trivial⟩⟩, br, br, br, trivial⟩ ⟨er, er, er, er, er, er, er, er, er, trivial⟩
          | 2, _ =>
            refine AW.seq (ex.sound (rc := []) tab_ok mix href _ ?_)
            refine And.intro (fun _ => ?_) (fun h => by cases (show (decide ((2 : Int) < 3)) = false from h))
            refine AW.seq (AW.block ?_)
            refine AW.cut (σ' := ⟨bE ++ [(62, vI 1), (16, .s (.ptr 16 0)), (18, vI 2)], bB c g zd zt nd nt Gd Gt ++ [(16, some (.cells [.d (dS s9), .mo z9 901, .d (dI o9), .d (dI u9), .osl 902 3 0 3])), (901, some (.mrow 58 n9 5 junkF)), (902, some (.cells [.d .junk, .d .junk, .own 910, .d .junk, .d .junk, .own 911, .d .junk, .d .junk, .own 912])), (910, some (.row 63 r0.corners.length 2 junkF)), (911, some (.row 63 r1.corners.length 2 junkF)), (912, some (.row 63 r2.corners.length 2 junkF))]⟩) (ex.sound (rc := []) tab_ok mix href _ ?_) ?_
            · refine AW.loopI (fun m : Nat => (⟨bE ++ [(62, vI 1), (16, .s (.ptr 16 0)), (18, vI 2), (19, vI m)], bB c g zd zt nd nt Gd Gt ++ [(16, some (.cells [.d (dS s9), .mo z9 901, .d (dI o9), .d (dI u9), .osl 902 3 0 3])), (901, some (.mrow 58 n9 5 junkF)), (902, some (.cells [.d .junk, .d .junk, .own 910, .d .junk, .d .junk, .own 911, .d .junk, .d .junk, .own 912])), (910, some (.row 63 r0.corners.length 2 junkF)), (911, some (.row 63 r1.corners.length 2 junkF)), (912, some (.row 63 r2.corners.length 2 junkF))]⟩ : St)) (fun m => m ≤ r2.corners.length) (fun m => r2.corners.length - m) 0 (Nat.zero_le _) ?_ ?_
              · exact SubI.of0 href [] rfl ⟨br, br, br, br, br, br, br, br, br, br, br, br, br, br, trivial⟩ ⟨er, er, er, er, er, er, er, er, er, er, trivial⟩
              · intro m hm
                refine ex.sound (rc := []) tab_ok mix href _ ?_
                refine oi ⟨by decide, by decide⟩ ?_
                refine And.intro (fun h => ?_) (fun h => ?_)
                · have h : (m : Int) < (r2.corners.length : Int) := decT h
                  refine oi ⟨by decide, by decide⟩ ?_
                  refine oi ⟨by omega, by omega⟩ ?_
                  refine ob (show (m : Int).toNat < r2.corners.length by omega) ?_
                  refine ⟨m + 1, by omega, by omega, ?_⟩
                  exact SubI.of0 href [] rfl ⟨br, br, br, br, br, br, br, br, br, br, br, br, br, ⟨rfl, LeBx.jrow⟩, trivial⟩ ⟨er, er, er, er, er, er, er, er, er, ⟨rfl, LeQ.int (w64_of (by omega) (by omega))⟩, trivial⟩
                · exact ⟨rfl, SubI.of0 href [] rfl ⟨br, br, br, br, br, br, br, br, br, br, br, br, br, br, trivial⟩ ⟨er, er, er, er, er, er, er, er, er, trivial⟩⟩
            · refine ex.sound (rc := []) tab_ok mix href _ ?_
              refine oi ⟨by decide, by decide⟩ ?_
              refine ex.sound (rc := []) tab_ok mix href _ ?_
              refine ⟨3, by decide, by decide, ?_⟩
              exact SubI.of0 href [] rfl ⟨br, br, br, br, br, br, br, br, br, br, ⟨rfl, LeBx.cells ⟨LeQ.junk, LeQ.junk, LeQ.rfl, LeQ.junk, LeQ.junk, LeQ.rfl, LeQ.junk, LeQ.junk, LeQ.rfl, trivial⟩⟩, br, br, br, trivial⟩ ⟨er, er, er, er, er, er, er, er, er, trivial⟩
          | 3, _ =>
            refine ex.sound (rc := []) tab_ok mix href _ ?_
            refine And.intro (fun h => by cases (show (decide ((3 : Int) < 3)) = true from h)) (fun _ => ?_)
            refine ex.sound (rc := []) tab_ok mix href _ ?_
            refine ⟨2, by decide, by decide, ?_⟩
            exact SubI.of0 href [] rfl ⟨br, br, br, br, br, br, br, br, trivial⟩ ⟨er, er, er, er, er, er, er, trivial⟩
      | 2, _ =>
        refine ex.sound (rc := []) tab_ok mix href _ ?_
        refine And.intro (fun h => by cases (show (decide ((2 : Int) < 2)) = true from h)) (fun _ => ?_)
        exact ⟨rfl, SubI.of0 href [] rfl ⟨br, br, br, br, br, br, br, br, trivial⟩ ⟨er, er, er, er, er, er, trivial⟩⟩
  refine AW.cut (σ' := ⟨[(2, .s (.ptr 2 0)), (3, .s (.ptr 3 0)), (5, .s (.ptr 5 0)), (6, .s (.ptr 6 0))], [(2, some (chanB c)), (3, some (gridB g)), (5, some (chanB c)), (6, some (gridB g))]⟩) (ex.sound (rc := []) tab_ok mix href _ ?_) ?_
  · refine AW.loopI (fun i : Nat => match i with | 0 => (⟨[(2, .s (.ptr 2 0)), (3, .s (.ptr 3 0)), (5, .s (.ptr 5 0)), (6, .s (.ptr 6 0)), (112, .g [.d (dI Gd.x), .d (dI Gd.y), .d (dI Gd.side), .d (dI Gd.cols), .d (dI Gd.rows), .mo zd 1001, .d (dI Gt.x), .d (dI Gt.y), .d (dI Gt.side), .d (dI Gt.cols), .d (dI Gt.rows), .mo zt 1002]), (113, vI 0)], [(2, some (chanB c)), (3, some (gridB g)), (5, some (chanB c)), (6, some (gridB g)), (1001, some (.mrow 3 nd 1 junkF)), (1002, some (.mrow 3 nt 1 junkF))]⟩ : St) | 1 => ⟨[(2, .s (.ptr 2 0)), (3, .s (.ptr 3 0)), (5, .s (.ptr 5 0)), (6, .s (.ptr 6 0)), (112, .g [.d (dI Gd.x), .d (dI Gd.y), .d (dI Gd.side), .d (dI Gd.cols), .d (dI Gd.rows), .mo zd 1001, .d (dI Gt.x), .d (dI Gt.y), .d (dI Gt.side), .d (dI Gt.cols), .d (dI Gt.rows), .mo zt 1002]), (113, vI 1)], [(2, some (chanB c)), (3, some (gridB g)), (5, some (chanB c)), (6, some (gridB g)), (1001, some (.mrow 3 nd 1 junkF)), (1002, some (.mrow 3 nt 1 junkF))]⟩ | _ => ⟨[(2, .s (.ptr 2 0)), (3, .s (.ptr 3 0)), (5, .s (.ptr 5 0)), (6, .s (.ptr 6 0)), (113, vI 2)], [(2, some (chanB c)), (3, some (gridB g)), (5, some (chanB c)), (6, some (gridB g)), (1001, some (.mrow 3 nd 1 junkF)), (1002, some (.mrow 3 nt 1 junkF))]⟩) (fun i => i ≤ 2) (fun i => 2 - i) 0 (Nat.zero_le _) ?_ ?_
    · exact SubI.of0 href [] rfl ⟨br, br, br, br, br, br, trivial⟩ ⟨er, er, er, er, er, er, trivial⟩
    · intro i hi
      match i, hi with
      | 0, _ =>
        refine ex.sound (rc := []) tab_ok mix href _ ?_
        refine And.intro (fun _ => ?_) (fun h => by cases (show (decide ((0 : Int) < 2)) = false from h))
        refine oi ⟨by decide, by decide⟩ ?_
        have hzn := bif_le (z := zd) (n := nd)
        refine AW.loopI (fun m : Nat => (⟨[(2, .s (.ptr 2 0)), (3, .s (.ptr 3 0)), (5, .s (.ptr 5 0)), (6, .s (.ptr 6 0)), (112, .g [.d (dI Gd.x), .d (dI Gd.y), .d (dI Gd.side), .d (dI Gd.cols), .d (dI Gd.rows), .mo zd 1001, .d (dI Gt.x), .d (dI Gt.y), .d (dI Gt.side), .d (dI Gt.cols), .d (dI Gt.rows), .mo zt 1002]), (113, vI 0), (21, .s (.ptr 21 0)), (22, vI m)], [(2, some (chanB c)), (3, some (gridB g)), (5, some (chanB c)), (6, some (gridB g)), (1001, some (.mrow 3 nd 1 junkF)), (1002, some (.mrow 3 nt 1 junkF)), (21, some (.cells [.d (dI Gd.x), .d (dI Gd.y), .d (dI Gd.side), .d (dI Gd.cols), .d (dI Gd.rows), .mo zd 1001]))]⟩ : St)) (fun m => m ≤ (bif zd then 0 else nd)) (fun m => (bif zd then 0 else nd) - m) 0 (Nat.zero_le _) ?_ ?_
        · exact SubI.of0 href [] rfl ⟨br, br, br, br, br, br, br, trivial⟩ ⟨er, er, er, er, er, er, er, er, trivial⟩
        · intro m hm
          refine ex.sound (rc := []) tab_ok mix href _ ?_
          refine And.intro (fun h => ?_) (fun h => ?_)
          · have h : (m : Int) < ((bif zd then 0 else nd : Nat) : Int) := decT h
            refine oi ⟨by omega, by show (m : Int) < ((bif zd then 0 else nd : Nat) : Int); omega⟩ ?_
            refine ob (show (m : Int).toNat < nd by omega) ?_
            refine ⟨m + 1, by omega, by omega, ?_⟩
            exact SubI.of0 href [] rfl ⟨br, br, br, br, ⟨rfl, LeBx.junk⟩, br, br, trivial⟩ ⟨er, er, er, er, er, er, er, ⟨rfl, LeQ.int (w64_of (by omega) (by omega))⟩, trivial⟩
          · refine ⟨1, by decide, by decide, ?_⟩
            exact SubI.of0 href [] rfl ⟨br, br, br, br, br, br, trivial⟩ ⟨er, er, er, er, er, er, trivial⟩
      | 1, _ =>
        refine ex.sound (rc := []) tab_ok mix href _ ?_
        refine And.intro (fun _ => ?_) (fun h => by cases (show (decide ((1 : Int) < 2)) = false from h))
        refine oi ⟨by decide, by decide⟩ ?_
        have hzn := bif_le (z := zt) (n := nt)
        refine AW.loopI (fun m : Nat => (⟨[(2, .s (.ptr 2 0)), (3, .s (.ptr 3 0)), (5, .s (.ptr 5 0)), (6, .s (.ptr 6 0)), (112, .g [.d (dI Gd.x), .d (dI Gd.y), .d (dI Gd.side), .d (dI Gd.cols), .d (dI Gd.rows), .mo zd 1001, .d (dI Gt.x), .d (dI Gt.y), .d (dI Gt.side), .d (dI Gt.cols), .d (dI Gt.rows), .mo zt 1002]), (113, vI 1), (21, .s (.ptr 21 0)), (22, vI m)], [(2, some (chanB c)), (3, some (gridB g)), (5, some (chanB c)), (6, some (gridB g)), (1001, some (.mrow 3 nd 1 junkF)), (1002, some (.mrow 3 nt 1 junkF)), (21, some (.cells [.d (dI Gt.x), .d (dI Gt.y), .d (dI Gt.side), .d (dI Gt.cols), .d (dI Gt.rows), .mo zt 1002]))]⟩ : St)) (fun m => m ≤ (bif zt then 0 else nt)) (fun m => (bif zt then 0 else nt) - m) 0 (Nat.zero_le _) ?_ ?_
        · exact SubI.of0 href [] rfl ⟨br, br, br, br, br, br, br, trivial⟩ ⟨er, er, er, er, er, er, er, er, trivial⟩
        · intro m hm
          refine ex.sound (rc := []) tab_ok mix href _ ?_
          refine And.intro (fun h => ?_) (fun h => ?_)
          · have h : (m : Int) < ((bif zt then 0 else nt : Nat) : Int) := decT h
            refine oi ⟨by omega, by show (m : Int) < ((bif zt then 0 else nt : Nat) : Int); omega⟩ ?_
            refine ob (show (m : Int).toNat < nt by omega) ?_
            refine ⟨m + 1, by omega, by omega, ?_⟩
            exact SubI.of0 href [] rfl ⟨br, br, br, br, br, ⟨rfl, LeBx.junk⟩, br, trivial⟩ ⟨er, er, er, er, er, er, er, ⟨rfl, LeQ.int (w64_of (by omega) (by omega))⟩, trivial⟩
          · refine ⟨2, by decide, by decide, ?_⟩
            exact SubI.of0 href [] rfl ⟨br, br, br, br, br, br, trivial⟩ ⟨er, er, er, er, er, trivial⟩
      | 2, _ =>
        refine ex.sound (rc := []) tab_ok mix href _ ?_
        refine And.intro (fun h => by cases (show (decide ((2 : Int) < 2)) = true from h)) (fun _ => ?_)
        exact ⟨rfl, SubI.of0 href [] rfl ⟨br, br, br, br, trivial⟩ ⟨er, er, er, er, trivial⟩⟩
  · refine ex.sound (rc := []) tab_ok mix href _ ?_
    refine callN (rSameEq c (by omega) (by omega) hcr) ?_
    repeat first | refine sk ?_ | refine st ?_ | refine sg ?_ | refine sh ?_ | refine su ?_ | refine sn1 ?_ | refine sn0 ?_ | refine And.intro (show imp none (gimp _ none) from trivial) ?_
    refine callG (sameGrid g (by omega)) ?_
    repeat first | refine sk ?_ | refine st ?_ | refine sg ?_ | refine sh ?_ | refine su ?_ | refine sn1 ?_ | refine sn0 ?_ | refine And.intro (show imp none (gimp _ none) from trivial) ?_
    exact SubR.lit rfl
end Go.Ch
