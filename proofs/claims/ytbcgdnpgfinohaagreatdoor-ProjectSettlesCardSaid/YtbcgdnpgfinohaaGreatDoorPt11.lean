/- Part 11: shared lemmas. -/
import Derived.Test.YtbcgdnpgfinohaaGreatDoorPt10
set_option linter.defProp false
namespace Go.Proofs.YtbcgdnpgfinohaaGreatDoor
open Go Go.Ax Go.Ch Go.Pj Go.Proofs Go.Proofs.Tryz
open Rows (ProjectSettlesSaid projectSettlesRow)
open Go.ChangeShapes Go.WideShapes Go.ChangeAt Go.RowKit Go.Lib
set_option linter.unusedVariables false
def jfn:Tryz.pinned.checked.prog.funcNamed projectSettlesRow.func=some 3:=kR
def jin:decide (f3.isInstance Tryz.pinned.checked.prog projectSettlesRow.origin projectSettlesRow.targs)=true:=kR
def jwr:f3.isWrapper Tryz.pinned.checked.prog projectSettlesRow.wrapper projectSettlesRow.mainSum:=by
 unfold Func.isWrapper;first|(rw[Qa (by decide+kernel)];kernel_rfl)|(rw[Ma (by decide+kernel)];exact⟨rfl,rfl⟩)
def said:ProjectSettlesSaid:=
 OpenClaim.holds_of_cond 3 f3 rfl rfl rfl rfl rfl rfl rfl ⟨rfl,rfl,rfl,rfl,rfl⟩ rfl rfl rfl rfl rfl jfn func3 closed
  (lc jin) jwr
  (λos started H enc _ F=>by rw[OpenClaim.pre_eq_preRow];exact lifted os started H enc F)
end Go.Proofs.YtbcgdnpgfinohaaGreatDoor
