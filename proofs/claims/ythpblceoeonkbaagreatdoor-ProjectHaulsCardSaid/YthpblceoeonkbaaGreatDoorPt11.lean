/- Part 11: shared lemmas. -/
import Derived.Test.YthpblceoeonkbaaGreatDoorPt10
namespace Go.Proofs.YthpblceoeonkbaaGreatDoor
open Go Go.Ax Go.Ch Go.Pj Go.Proofs Go.Proofs.Tryz
open Rows (ProjectHaulsSaid projectHaulsRow)
open Go.ChangeShapes Go.WideShapes Go.ChangeAt Go.RowKit Go.Lib
set_option linter.unusedVariables false
theorem jfn:Tryz.pinned.checked.prog.funcNamed projectHaulsRow.func=some 3:=kR
theorem jin:decide (f3.isInstance Tryz.pinned.checked.prog projectHaulsRow.origin projectHaulsRow.targs)=true:=kR
theorem jwr:f3.isWrapper Tryz.pinned.checked.prog projectHaulsRow.wrapper projectHaulsRow.mainSum:=by
 unfold Func.isWrapper;first|(rw[if_pos (by decide+kernel)];kernel_rfl)|(rw[if_neg (by decide+kernel)];exact⟨rfl,rfl⟩)
theorem said:ProjectHaulsSaid:=
 OpenClaim.holds_of_cond 3 f3 rfl rfl rfl rfl rfl rfl rfl ⟨rfl,rfl,rfl,rfl,rfl⟩ rfl rfl rfl rfl rfl jfn func3 closed
  (of_decide_eq_true jin) jwr
  (fun os started H enc _ F=>by rw[OpenClaim.pre_eq_preRow];exact lifted os started H enc F)
end Go.Proofs.YthpblceoeonkbaaGreatDoor
