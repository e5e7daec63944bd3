/- BedTexts holds for every grid and every text: bed.Print writes the text of the reference, which is read back, and bed.Parse reads just the texts of valid grids; tied to the program's text by the given card. -/
import Derived.Test.YtphelnpanihmiaaGreatDoorCards
import Derived.Test.YtphelnpanihmiaaGreatDoorTie
import Derived.Deep.DeepHandedRow
import Derived.Deep.DeepWitnessRowRef
import Derived.Lib.LaidU8
import Derived.Test.YtphelnpanihmiaaGreatDoorPt6
/- The join: from the contract of BedTexts to its statement (a card tied to the program's text). -/
namespace Go.Proofs.YtphelnpanihmiaaGreatDoor
open Go Go.Ax Go.Ch Go.Proofs
open Go.ChangeShapes Go.WideShapes Go.ChangeAt Go.RowKit Go.Lib
set_option linter.unusedVariables false
theorem ownKnobNone : ownKnob Tryz.prog.godebug = none := by kernel_rfl
theorem isLaidOut : laidOutB Tryz.prog = true := by kernel_rfl

theorem var_block {w : World} {n : String} {g : Nat} {cs : Array Value} (hg : Tryz.prog.globalNamed n = some g) (h : w.var? Tryz.prog n = some cs) : ∃ e fr, w.heap[g]? = some (.cells cs e fr) := by
  unfold World.var? at h
  rw [hg] at h
  simp only [Option.bind_some] at h
  split at h
  · rename_i a b c hh
    cases h
    exact ⟨_, _, hh⟩
  · cases h
theorem white_extra : WhiteExtra Tryz.prog Tryz.lays157_ren := ⟨by kernel_rfl, by kernel_rfl, by kernel_rfl, by kernel_rfl, by kernel_rfl, by kernel_rfl, by kernel_rfl, by kernel_rfl⟩
theorem iface_cells {w : World} {t : TypeId} {ms : Array (String × TypeId)} {fuel : Nat} {cs : List Value} {name : String} {d : DataW Unit} {p : List MemPlace} (ht : Tryz.prog.underlying t = some (.interface ms))
    (h : DataW.trod (fun _ => ()) Tryz.prog w 0 (fun _ => true) false fuel t cs = some (.iface name d, p)) : ∃ u v, cs = [.iface u v] := by
  cases fuel with
  | zero => simp [DataW.trod] at h
  | succ n =>
    unfold DataW.trod at h
    rw [ht] at h
    split at h <;> simp_all
theorem tab_block {w : World} {n : String} {g : Nat} {t e : TypeId} {k : IntKind} {m : Nat} {zs : List Int} (hg : Tryz.prog.globalNamed n = some g) (hty : (Tryz.prog.globals[g]?).map (·.type) = some t)
    (ht : Tryz.prog.underlying t = some (.array m e)) (he : Tryz.prog.underlying e = some (.int k)) (hce : Tryz.prog.cellsOf e = 1) (hct : Tryz.prog.cellsOf t = m) (h : VarReads Tryz.prog w n (tabData k zs)) :
    ∃ e fr, w.heap[g]? = some (.cells (zs.map fun z => Value.int k z).toArray e fr) := by
  obtain ⟨g', t', cs, fuel, p, hg', hty', hvar, hd⟩ := h
  obtain rfl := Option.some.inj (hg.symm.trans hg')
  obtain rfl := Option.some.inj (hty.symm.trans hty')
  have := cells_of_tab ht he hce hct hd
  have hcs : cs = (zs.map fun z => Value.int k z).toArray := by rw [← this]
  rw [← hcs]
  exact var_block hg hvar
theorem err_block {w : World} {n : String} {g : Nat} {name : String} {d : DataW Unit} (hg : Tryz.prog.globalNamed n = some g) (hty : (Tryz.prog.globals[g]?).map (·.type) = some 71) (h : VarReads Tryz.prog w n (.iface name d)) :
    ∃ u v e fr, w.heap[g]? = some (.cells #[.iface u v] e fr) := by
  obtain ⟨g', t', cs, fuel, p, hg', hty', hvar, hd⟩ := h
  obtain rfl := Option.some.inj (hg.symm.trans hg')
  obtain rfl := Option.some.inj (hty.symm.trans hty')
  obtain ⟨u, v, hc⟩ := iface_cells Tryz.underlying71 hd
  have hcs : cs = #[.iface u v] := by
    have : cs = cs.toList.toArray := by simp
    rw [this, hc]
  obtain ⟨e, fr, hb⟩ := var_block hg hvar
  exact ⟨u, v, e, fr, by rw [← hcs]; exact hb⟩
theorem cell_block {w : World} {b o : Nat} {v : Value} (h : w.cell? ⟨b, o, none⟩ = some v) : ∃ cs e fr, w.heap[b]? = some (.cells cs e fr) ∧ cs[o]? = some v := by
  unfold World.cell? at h
  cases hq : w.heap[b]? with
  | none => simp [hq] at h
  | some x =>
    rw [hq] at h
    cases x with
    | cells cs e fr => exact ⟨cs, e, fr, rfl, by simpa using h⟩
    | _ => simp at h
theorem cell_of {w : World} {b o : Nat} {v : Value} {cs : Array Value} {e : TypeId} {fr : Nat × Nat} (hb : w.heap[b]? = some (.cells cs e fr)) (h : w.cell? ⟨b, o, none⟩ = some v) : cs[o]? = some v := by
  simpa [World.cell?, hb] using h
set_option maxRecDepth 100000 in
theorem glob_of {W : World} (h0 : laidMetH Tryz.prog Rows.bedTextsRow.laid W) : Glob W := by
  have h : laidMet Tryz.prog Rows.bedTextsRow.laid W := h0
  have r0 := laidMet.reads h (n := "strings.asciiSpace") (d := Rows.laid_strings_asciiSpace) (by simp [Rows.bedTextsRow])
  have r1 := laidMet.reads h (n := "unicode.White_Space") (d := Rows.laid_unicode_White_Space) (by simp [Rows.bedTextsRow])
  have r2 := laidMet.reads h (n := "strconv.ErrSyntax") (d := Rows.laid_strconv_ErrSyntax) (by simp [Rows.bedTextsRow])
  have r3 := laidMet.reads h (n := "strconv.ErrRange") (d := Rows.laid_strconv_ErrRange) (by simp [Rows.bedTextsRow])
  have r5 := laidMet.reads h (n := "internal/strconv.uint64pow10") (d := Rows.laid_internal_strconv_uint64pow10) (by simp [Rows.bedTextsRow])
  rw [show Rows.laid_strings_asciiSpace = tabData .u8 asciiSpaceTab by kernel_rfl] at r0
  rw [show Rows.laid_unicode_White_Space = whiteData by kernel_rfl] at r1
  rw [show Rows.laid_internal_strconv_uint64pow10 = tabData .u64 pow10Tab by kernel_rfl] at r5
  have b0 := tab_block (g := 0) (by kernel_rfl) (by kernel_rfl) Tryz.underlying129 Tryz.underlying5 (by kernel_rfl) (by kernel_rfl) r0
  have b5 := tab_block (g := 5) (by kernel_rfl) (by kernel_rfl) Tryz.underlying261 Tryz.underlying203 (by kernel_rfl) (by kernel_rfl) r5
  obtain ⟨u2, v2, b2⟩ := err_block (g := 2) (by kernel_rfl) (by kernel_rfl) r2
  obtain ⟨u3, v3, b3⟩ := err_block (g := 3) (by kernel_rfl) (by kernel_rfl) r3
  obtain ⟨T, oT, R, oR, c0, k0, k1, k2, hr⟩ := whiteTab_of_reads (ρ := Tryz.lays157_ren) { Tryz.lays157 with } white_extra r1
  have c0 : W.cell? ⟨1, 0, none⟩ = some (.pointer (some ⟨T, oT, none⟩)) := c0
  obtain ⟨g', t', cs, fuel, p, hg', hty', hvar, hd⟩ := r1
  obtain rfl : 1 = g' := Option.some.inj ((show Tryz.prog.globalNamed "unicode.White_Space" = some 1 by kernel_rfl).symm.trans hg')
  obtain rfl : 160 = t' := Option.some.inj ((show (Tryz.prog.globals[1]?).map (·.type) = some 160 by kernel_rfl).symm.trans hty')
  obtain ⟨e1, fr1, b1⟩ := var_block hg' hvar
  have hone : ∃ x, cs = #[x] := by
    have hcs : cs = cs.toList.toArray := by simp
    rcases DataW.trod_pointer Tryz.underlying160 hd with ⟨h, _⟩ | ⟨a, cs', y, n, _, h, _⟩
    · exact ⟨_, by rw [hcs, h]⟩
    · exact ⟨_, by rw [hcs, h]⟩
  obtain ⟨x, rfl⟩ := hone
  have hx := cell_of b1 c0
  simp at hx
  subst hx
  obtain ⟨cT, eT, fT, bT, t0⟩ := cell_block k0
  obtain ⟨cR, eR, fR, bR, _⟩ := cell_block (hr 0 (by decide))
  refine ⟨⟨T, oT, R, oR, cT, cR, u2, v2, u3, v3, t0, cell_of bT k1, cell_of bT k2, fun i hi => cell_of bR (hr i hi)⟩, fun g t m => ?_⟩
  simp only [tabsL, List.mem_cons, Prod.mk.injEq, List.not_mem_nil, or_false] at m
  rcases m with ⟨rfl, rfl⟩ | ⟨rfl, rfl⟩ | ⟨rfl, rfl⟩ | ⟨rfl, rfl⟩ | ⟨rfl, rfl⟩ | ⟨rfl, rfl⟩ | ⟨rfl, rfl⟩
  · exact b0
  · exact ⟨_, _, b1⟩
  · exact ⟨_, _, bT⟩
  · exact ⟨_, _, bR⟩
  · exact b2
  · exact b3
  · exact b5

set_option maxRecDepth 100000 in
theorem contract (H : Type) (enc : TypeId × Value → H) (W : World) (base : Nat) (args : Array Value) (ds gs : List (DataW H)) (before : List MemPlace)
    (hval0 : ∀ (j : Nat) t v, Tryz.f3.params[j]? = some t → args[j]? = some v → Value.okWide Tryz.prog W .any base t v)
    (hW : DataW.Whole enc Tryz.prog Tryz.f3.params.toList Rows.bedTextsSpec.vars false W args.toList ds gs before) (hL : laidMetH Tryz.prog Rows.bedTextsRow.laid W) :
    Calls Tryz.prog 3 args W fun e W' => ∃ v, e = .returned v ∧ Rows.bedTextsSpec.post enc Tryz.prog Tryz.f3 false true false false W args v W' := by
  have hval := hval0
  have hW' := hW
  obtain ⟨p, q, hA0, hV, rfl, hfz, hnd⟩ := hW
  have hA : DataW.TrodAll enc Tryz.prog W 0 (fun _ => true) true Tryz.f3.params.toList args.toList ds p := hA0
  rw [Tryz.params3] at hA hval
  obtain ⟨v0, vs0, d0, ds0, p0, q0, hargs, rfl, rfl, h0, r0⟩ := trodAll_cons hA
  obtain ⟨v1, vs1, d1, ds1, p1, q1, rfl, rfl, rfl, h1, r1⟩ := trodAll_cons r0
  obtain ⟨rfl, rfl, rfl⟩ := trodAll_nil r1
  obtain rfl : args = #[v0, v1] := by cases args; simp_all
  obtain ⟨rfl, rfl⟩ := trodVars_none hV
  have lt0 : ∀ x ∈ p0, x.block < W.heap.size := by obtain ⟨m, hm⟩ := h0; exact DataW.trod_lt m _ _ _ hm
  have lt1 : ∀ x ∈ p1, x.block < W.heap.size := by obtain ⟨m, hm⟩ := h1; exact DataW.trod_lt m _ _ _ hm
  obtain ⟨a0, ok0, e0⟩ := (rGrid) H enc W base 0 (fun _ => true) true v0 d0 p0 (hval 0 24 v0 rfl rfl) h0
  obtain ⟨a1, ok1, e1⟩ := (rda_one Tryz.underlying9 rfl rS) H enc W base 0 (fun _ => true) true v1 d1 p1 (hval 1 9 v1 rfl rfl) h1
  obtain ⟨l, rfl⟩ : ∃ l, a1 = bs l := ⟨a1.data.toList, by cases a1; simp [bs]⟩
  clear hA0 hval0
  refine ((Law a0 l ok0.levels).2 (full W) W [v0, v1] (glob_of hL) ⟨e0, e1, trivial⟩ (fun _ _ _ h => h)).mono fun e W' ⟨v, M', he, hr, _, _, bel⟩ => ?_
  obtain rfl : v = .bool true := hr
  subst he
  exact ⟨_, rfl, _, _, _, [], _, [], hW', trodAll_mk1 (shut_bool Tryz.underlying4 _), (trodAll_cons_mk (Below.trod isLaidOut (by kernel_rfl) (of_decide_eq_true (by kernel_rfl)) h0 bel lt0) (trodAll_cons_mk (Below.trod isLaidOut (by kernel_rfl) (of_decide_eq_true (by kernel_rfl)) h1 bel lt1) trodAll_mk0)), rfl, bel.frame _, fun h => by cases h⟩

def tab32 : List Int := [0, 1, 28, 2, 29, 14, 24, 3, 30, 22, 20, 15, 25, 17, 4, 8, 31, 27, 13, 23, 21, 19, 16, 7, 26, 12, 18, 6, 11, 5, 10, 9]
def tab64 : List Int := [0, 1, 56, 2, 57, 49, 28, 3, 61, 58, 42, 50, 38, 29, 17, 4, 62, 47, 59, 36, 45, 43, 51, 22, 53, 39, 33, 30, 24, 18, 12, 5, 63, 55, 48, 27, 60, 41, 37, 16, 46, 35, 44, 21, 52, 32, 23, 11, 54, 26, 40, 15, 34, 20, 31, 10, 25, 14, 19, 9, 13, 8, 7, 6]
/-- The witness: the settled world with four blocks more, and the seven variables as their initialisers lay them. -/
noncomputable def laidWorld (os : Os) : World :=
  let N := (World.settled Tryz.prog os).heap.size
  let w0 := World.holding Tryz.prog os ⟨#[.cells (Lib.whiteT.map fun (z : Nat) => Value.int .u16 (z : Int)).toArray 198, .cells #[.slice (some ⟨N, 0, none⟩) 7 7, .slice none 0 0, .int .i64 2] 195,
    .cells #[.string ⟨#[105, 110, 118, 97, 108, 105, 100, 32, 115, 121, 110, 116, 97, 120]⟩] 242, .cells #[.string ⟨#[118, 97, 108, 117, 101, 32, 111, 117, 116, 32, 111, 102, 32, 114, 97, 110, 103, 101]⟩] 242], #[], []⟩
  let put (h : Array Obj) (g : Nat) (cs : Array Value) : Array Obj := h.modify g fun
    | .cells _ t frozen => .cells cs t frozen
    | o => o
  let h1 := put w0.heap 0 (Lib.asciiSpaceTab.map fun z => Value.int .u8 z).toArray
  let h2 := put h1 1 #[.pointer (some ⟨N + 1, 0, none⟩)]
  let h3 := put h2 2 #[.iface 240 (.pointer (some ⟨N + 2, 0, none⟩))]
  let h4 := put h3 3 #[.iface 240 (.pointer (some ⟨N + 3, 0, none⟩))]
  let h5 := put h4 5 (Lib.pow10Tab.map fun z => Value.int .u64 z).toArray
  let h6 := put h5 8 (tab32.map fun z => Value.int .u8 z).toArray
  let h7 := put h6 9 (tab64.map fun z => Value.int .u8 z).toArray
  { w0 with heap := h7 }
set_option maxRecDepth 100000 in
theorem laid_met (os : Os) (args : Array Value) : laidMet Tryz.prog Rows.bedTextsRow.laid ((laidWorld os).forCall (fun _ _ => 0) ⟨#[], args, []⟩).memory :=
  laidMet_of_run' 8 (by kernel_rfl) (by kernel_rfl)
set_option maxRecDepth 100000 in
theorem reads (os : Os) {H : Type} (enc : TypeId × Value → H) : ∃ places, DataW.whole enc Tryz.prog ((laidWorld os).forCall (fun _ _ => 0) ⟨#[], #[.agg #[.int .i64 0, .int .i64 0, .int .i64 0, .int .i64 0, .int .i64 0, .slice none 0 0], .string ByteArray.empty], []⟩).memory Tryz.f3.params.toList Rows.bedTextsSpec.vars false #[Value.agg #[.int .i64 0, .int .i64 0, .int .i64 0, .int .i64 0, .int .i64 0, .slice none 0 0], .string ByteArray.empty].toList 8 = some ([.agg [.lit (.int .i64 0), .lit (.int .i64 0), .lit (.int .i64 0), .lit (.int .i64 0), .lit (.int .i64 0), .nil], .lit (.string [])], [], places) :=
  ⟨[], by kernel_rfl⟩
set_option maxRecDepth 100000 in
theorem lifted (os : Os) (started : os.Started) (H : Type) (enc : TypeId × Value → H) (F : Stop.Interp) :
    ReturnsInHanded {} Tryz.checked os 3 .any ((OpenSpec.ofChange Rows.bedTextsSpec).preRow enc Tryz.prog Tryz.f3 Rows.bedTextsRow.domain false Rows.bedTextsRow.laid) (((OpenSpec.ofChange Rows.bedTextsSpec).at F).post enc Tryz.prog Tryz.f3 false true false false) := by
  obtain ⟨places, hx⟩ := reads os enc
  refine returnsInHanded_of_row (C := Tryz.checked) (s := OpenSpec.ofChange Rows.bedTextsSpec) ownKnobNone started (by kernel_rfl) Tryz.func3
    (witness_row_atRef (enc := enc) (C := Tryz.checked) false (laidWorld os) #[.agg #[.int .i64 0, .int .i64 0, .int .i64 0, .int .i64 0, .int .i64 0, .slice none 0 0], .string ByteArray.empty] rfl (by kernel_rfl) (by kernel_rfl) (by kernel_rfl)
      (OpenSpec.preRow_of_cond 8 hx (by kernel_rfl) (fun k hk => by cases hk) (by kernel_rfl) (laid_met os _))) ?_
  intro W base args ds gs before hval hW _ _ _ hL _ _
  exact contract H enc W base args ds gs before hval hW hL
theorem said : Rows.BedTextsSaid :=
  OpenClaim.holds_of_cond 3 Tryz.f3 rfl rfl rfl rfl rfl rfl rfl ⟨rfl, rfl, rfl, rfl, rfl⟩ rfl rfl rfl rfl rfl (by kernel_rfl) Tryz.func3 (by kernel_rfl)
    (of_decide_eq_true (by kernel_rfl)) (by unfold Func.isWrapper; first | (rw [if_pos (by decide +kernel)]; kernel_rfl) | (rw [if_neg (by decide +kernel)]; exact ⟨rfl, rfl⟩))
    (fun os started H enc _ F => by rw [OpenClaim.pre_eq_preRow]; exact lifted os started H enc F)
theorem plain (f : FuncId) (fn : Func) (hf : Tryz.pinned.checked.prog.funcNamed "draghead/dragheadlaw04.BedTexts" = some f) (hfn : Tryz.pinned.checked.prog.funcs[f]? = some fn) :
    true = Tryz.pinned.checked.prog.looks [] ∧ ∀ (j : Nat) t, fn.params[j]? = some t → Tryz.pinned.checked.prog.wantsStandIn t = false := by
  obtain rfl : f = 3 := Option.some.inj ((show Tryz.prog.funcNamed "draghead/dragheadlaw04.BedTexts" = some 3 by kernel_rfl).symm.trans hf) |>.symm
  obtain rfl : fn = Tryz.f3 := (Option.some.inj (Tryz.func3.symm.trans hfn)).symm
  refine ⟨by kernel_rfl, fun j t ht => ?_⟩
  rw [Tryz.params3] at ht
  have := Array.mem_of_getElem? ht
  simp at this
  rcases this with rfl | rfl
  · exact (show Tryz.prog.wantsStandIn 24 = false by kernel_rfl)
  · exact (show Tryz.prog.wantsStandIn 9 = false by kernel_rfl)
theorem texts_holds : Rows.BedTextsCardSaid :=
  Claim7.holds_tied_plain_at .later [] _ _ _ _ said (fun _ h => by cases h) (by kernel_rfl) (fun _ h => by cases h) bedTexts_row_tie rfl ⟨rfl, rfl⟩ (by kernel_rfl) rfl plain (by kernel_rfl)
end Go.Proofs.YtphelnpanihmiaaGreatDoor
