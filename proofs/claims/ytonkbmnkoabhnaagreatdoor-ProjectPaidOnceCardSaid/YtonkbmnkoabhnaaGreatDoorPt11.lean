/- Part 11: shared lemmas. -/
import Derived.Test.YtonkbmnkoabhnaaGreatDoorPt10
set_option linter.defProp false
namespace Go.Proofs.YtonkbmnkoabhnaaGreatDoor
open Go Go.Ax Go.Ch Go.Pj Go.Proofs Go.Proofs.Tryz
open Rows (ProjectPaidOnceSaid projectPaidOnceRow)
open Go.ChangeShapes Go.WideShapes Go.ChangeAt Go.RowKit Go.Lib
set_option linter.unusedVariables false
def jfn:Tryz.pinned.checked.prog.funcNamed projectPaidOnceRow.func=some 3:=kR
def jin:decide (f3.isInstance Tryz.pinned.checked.prog projectPaidOnceRow.origin projectPaidOnceRow.targs)=true:=kR
def jwr:f3.isWrapper Tryz.pinned.checked.prog projectPaidOnceRow.wrapper projectPaidOnceRow.mainSum:=by
 unfold Func.isWrapper;first|(rw[Ia (by decide+kernel)];kernel_rfl)|(rw[Ha (by decide+kernel)];exact⟨rfl,rfl⟩)
def said:ProjectPaidOnceSaid:=
 OpenClaim.holds_of_cond 3 f3 rfl rfl rfl rfl rfl rfl rfl ⟨rfl,rfl,rfl,rfl,rfl⟩ rfl rfl rfl rfl rfl jfn func3 closed
  (Wb jin) jwr
  (λos started H enc _ F=>by rw[OpenClaim.pre_eq_preRow];exact lifted os started H enc F)
end Go.Proofs.YtonkbmnkoabhnaaGreatDoor
