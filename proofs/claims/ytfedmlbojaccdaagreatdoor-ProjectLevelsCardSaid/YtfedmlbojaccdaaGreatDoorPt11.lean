/- Part 11: lemmas that the proofs of this seat share; by itself it claims nothing. -/
import Derived.Test.YtfedmlbojaccdaaGreatDoorPt10
set_option linter.unusedVariables false
namespace Go.Proofs.YtfedmlbojaccdaaGreatDoor
open Go Go.Ax Go.Ch Go.Pj Go.Proofs
open Go.ChangeShapes Go.WideShapes Go.ChangeAt Go.RowKit Go.Lib
theorem jfn : Tryz.pinned.checked.prog.funcNamed Rows.projectLevelsRow.func = some 3 := by kernel_rfl
theorem jin : decide (Tryz.f3.isInstance Tryz.pinned.checked.prog Rows.projectLevelsRow.origin Rows.projectLevelsRow.targs) = true := by kernel_rfl
theorem jwr : Tryz.f3.isWrapper Tryz.pinned.checked.prog Rows.projectLevelsRow.wrapper Rows.projectLevelsRow.mainSum := by
 unfold Func.isWrapper; first | (rw [if_pos (by decide +kernel)]; kernel_rfl) | (rw [if_neg (by decide +kernel)]; exact ⟨rfl, rfl⟩)
theorem said : Rows.ProjectLevelsSaid :=
 OpenClaim.holds_of_cond 3 Tryz.f3 rfl rfl rfl rfl rfl rfl rfl ⟨rfl, rfl, rfl, rfl, rfl⟩ rfl rfl rfl rfl rfl jfn Tryz.func3 closed
  (of_decide_eq_true jin) jwr
  (fun os started H enc _ F => by rw [OpenClaim.pre_eq_preRow]; exact lifted os started H enc F)
end Go.Proofs.YtfedmlbojaccdaaGreatDoor
