/- Part 11: shared lemmas. -/
import Derived.Test.YtmmfnloidfibkaaGreatDoorPt10
set_option linter.defProp false
namespace Go.Proofs.YtmmfnloidfibkaaGreatDoor
open Go Go.Ax Go.Ch Go.Pj Go.Proofs Go.Proofs.Tryz
open Rows (TopQueryTwoWaysSaid topQueryTwoWaysRow)
open Go.ChangeShapes Go.WideShapes Go.ChangeAt Go.RowKit Go.Lib
set_option linter.unusedVariables false
def jfn:Tryz.pinned.checked.prog.funcNamed topQueryTwoWaysRow.func=some 3:=kR
def jin:decide (f3.isInstance Tryz.pinned.checked.prog topQueryTwoWaysRow.origin topQueryTwoWaysRow.targs)=true:=kR
def jwr:f3.isWrapper Tryz.pinned.checked.prog topQueryTwoWaysRow.wrapper topQueryTwoWaysRow.mainSum:=by
 unfold Func.isWrapper;first|(rw[La (by decide+kernel)];kernel_rfl)|(rw[Ka (by decide+kernel)];exact⟨rfl,rfl⟩)
def said:TopQueryTwoWaysSaid:=
 OpenClaim.holds_of_cond 3 f3 rfl rfl rfl rfl rfl rfl rfl ⟨rfl,rfl,rfl,rfl,rfl⟩ rfl rfl rfl rfl rfl jfn func3 closed
  (Nb jin) jwr
  (λos started H enc _ F=>by rw[OpenClaim.pre_eq_preRow];exact lifted os started H enc F)
end Go.Proofs.YtmmfnloidfibkaaGreatDoor
