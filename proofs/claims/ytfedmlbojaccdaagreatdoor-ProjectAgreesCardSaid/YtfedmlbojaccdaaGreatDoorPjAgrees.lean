/- ProjectAgrees: where both parties agree the third one's survey does not matter; a reconciled level lies between the levels of the surveys, and no cell is disputed in which a party has not sounded; for all projects, facts and surveys that the statement looks at. -/
import Derived.Test.YtfedmlbojaccdaaGreatDoorPt11
namespace Go.Proofs.YtfedmlbojaccdaaGreatDoor
open Go Go.Ax Go.Ch Go.Pj Go.Proofs
open Go.ChangeShapes Go.WideShapes Go.ChangeAt Go.RowKit Go.Lib
set_option linter.unusedVariables false
theorem plain (f : FuncId) (fn : Func) (hf : Tryz.pinned.checked.prog.funcNamed "draghead/dragheadlaw10.ProjectAgrees" = some f) (uY : Tryz.pinned.checked.prog.funcs[f]? = some fn) :
  true = Tryz.pinned.checked.prog.looks [] ∧ ∀ (j : Nat) t, fn.params[j]? = some t → Tryz.pinned.checked.prog.wantsStandIn t = false := by
 obtain rfl : f = 4 := Option.some.inj ((show Tryz.prog.funcNamed "draghead/dragheadlaw10.ProjectAgrees" = some 4 by kernel_rfl).symm.trans hf) |>.symm
 obtain rfl : fn = Tryz.f4 := (Option.some.inj (Tryz.func4.symm.trans uY)).symm
 refine ⟨by kernel_rfl, fun j t ht => ?_⟩
 rw [Tryz.params4] at ht
 have := Array.mem_of_getElem? ht
 simp at this
 rcases this with rfl | rfl | rfl
 ·exact (show Tryz.prog.wantsStandIn 38 = false by kernel_rfl)
 ·exact (show Tryz.prog.wantsStandIn 39 = false by kernel_rfl)
 ·exact (show Tryz.prog.wantsStandIn 22 = false by kernel_rfl)
theorem goes_none {P : Program} (h : P.funcs.toList.any Func.goes = false) {c : OpenClaim} (hs : c.start = .entering) : false = c.goesBy P := by
 have hp : ∀ g : FuncId, (P.funcs[g]?).any Func.goes = false := fun (g : FuncId) => by
  cases e : P.funcs[g]? with
  | none => rfl
  | some fn => exact (List.any_eq_false.mp h fn (Array.mem_toList_iff.mpr (Array.mem_of_getElem? e))) |> fun k => by simpa using k
 have h2 : P.funcs.any Func.goes = false := by rw [← Array.any_toList]; exact h
 have hg : ∀ f : FuncId, P.goes f = false := fun f => by simp [Program.goes, hp, h2]
 unfold OpenClaim.goesBy Program.goesAt Program.goesFrom
 rw [hs]
 cases P.funcNamed c.func <;> simp [hg]
theorem noGoes : Tryz.pinned.checked.prog.funcs.toList.any Func.goes = false := by kernel_rfl
theorem pjagrees_holds : Rows.ProjectAgreesCardSaid :=
 Claim7.holds_tied_plain_at .later [] _ _ _ _ said (fun _ h => by cases h) (by kernel_rfl) (fun _ h => by cases h) projectAgrees_row_tie rfl ⟨rfl, rfl⟩ (by kernel_rfl) rfl plain (goes_none noGoes rfl)
end Go.Proofs.YtfedmlbojaccdaaGreatDoor
