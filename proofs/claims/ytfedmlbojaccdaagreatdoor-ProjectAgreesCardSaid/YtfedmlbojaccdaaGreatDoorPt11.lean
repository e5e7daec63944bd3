/- Part 11: lemmas that the proofs of this seat share; by itself it claims nothing. -/
import Derived.Test.YtfedmlbojaccdaaGreatDoorPt10
set_option linter.unusedVariables false
namespace Go.Proofs.YtfedmlbojaccdaaGreatDoor
open Go Go.Ax Go.Ch Go.Pj Go.Proofs Go.Proofs.Tryz
open Go.ChangeShapes Go.WideShapes Go.ChangeAt Go.RowKit Go.Lib
theorem jfn:Tryz.pinned.checked.prog.funcNamed Rows.projectAgreesRow.func=some 4:=kR
theorem jin:decide (f4.isInstance Tryz.pinned.checked.prog Rows.projectAgreesRow.origin Rows.projectAgreesRow.targs)=true:=kR
theorem jwr:f4.isWrapper Tryz.pinned.checked.prog Rows.projectAgreesRow.wrapper Rows.projectAgreesRow.mainSum:=by
 unfold Func.isWrapper;first|(rw[if_pos (by decide+kernel)];kernel_rfl)|(rw[if_neg (by decide+kernel)];exact⟨rfl,rfl⟩)
theorem said:Rows.ProjectAgreesSaid:=
 OpenClaim.holds_of_cond 4 f4 rfl rfl rfl rfl rfl rfl rfl ⟨rfl,rfl,rfl,rfl,rfl⟩ rfl rfl rfl rfl rfl jfn func4 closed
  (of_decide_eq_true jin) jwr
  (fun os started H enc _ F=>by rw[OpenClaim.pre_eq_preRow];exact lifted os started H enc F)
end Go.Proofs.YtfedmlbojaccdaaGreatDoor
