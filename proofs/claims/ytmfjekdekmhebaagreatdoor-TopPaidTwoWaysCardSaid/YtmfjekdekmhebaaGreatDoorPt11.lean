/- Part 11: shared lemmas. -/
import Derived.Test.YtmfjekdekmhebaaGreatDoorPt10
set_option linter.defProp false
namespace Go.Proofs.YtmfjekdekmhebaaGreatDoor
open Go Go.Ax Go.Ch Go.Pj Go.Proofs Go.Proofs.Tryz
open Rows (TopPaidTwoWaysSaid topPaidTwoWaysRow)
open Go.ChangeShapes Go.WideShapes Go.ChangeAt Go.RowKit Go.Lib
set_option linter.unusedVariables false
def jfn:Tryz.pinned.checked.prog.funcNamed topPaidTwoWaysRow.func=some 3:=kR
def jin:decide (f3.isInstance Tryz.pinned.checked.prog topPaidTwoWaysRow.origin topPaidTwoWaysRow.targs)=true:=kR
def jwr:f3.isWrapper Tryz.pinned.checked.prog topPaidTwoWaysRow.wrapper topPaidTwoWaysRow.mainSum:=by
 unfold Func.isWrapper;first|(rw[Ma (by decide+kernel)];kernel_rfl)|(rw[La (by decide+kernel)];exact⟨rfl,rfl⟩)
def said:TopPaidTwoWaysSaid:=
 OpenClaim.holds_of_cond 3 f3 rfl rfl rfl rfl rfl rfl rfl ⟨rfl,rfl,rfl,rfl,rfl⟩ rfl rfl rfl rfl rfl jfn func3 closed
  (ec jin) jwr
  (λos started H enc _ F=>by rw[OpenClaim.pre_eq_preRow];exact lifted os started H enc F)
end Go.Proofs.YtmfjekdekmhebaaGreatDoor
