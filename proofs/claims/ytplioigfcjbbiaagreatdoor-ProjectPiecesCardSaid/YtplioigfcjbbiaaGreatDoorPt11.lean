/- Part 11: shared lemmas. -/
import Derived.Test.YtplioigfcjbbiaaGreatDoorPt10
set_option linter.defProp false
namespace Go.Proofs.YtplioigfcjbbiaaGreatDoor
open Go Go.Ax Go.Ch Go.Pj Go.Proofs Go.Proofs.Tryz
open Rows (ProjectPiecesSaid projectPiecesRow)
open Go.ChangeShapes Go.WideShapes Go.ChangeAt Go.RowKit Go.Lib
set_option linter.unusedVariables false
def jfn:Tryz.pinned.checked.prog.funcNamed projectPiecesRow.func=some 3:=kR
def jin:decide (f3.isInstance Tryz.pinned.checked.prog projectPiecesRow.origin projectPiecesRow.targs)=true:=kR
def jwr:f3.isWrapper Tryz.pinned.checked.prog projectPiecesRow.wrapper projectPiecesRow.mainSum:=by
 unfold Func.isWrapper;first|(rw[Na (by decide+kernel)];kernel_rfl)|(rw[La (by decide+kernel)];exact⟨rfl,rfl⟩)
def said:ProjectPiecesSaid:=
 OpenClaim.holds_of_cond 3 f3 rfl rfl rfl rfl rfl rfl rfl ⟨rfl,rfl,rfl,rfl,rfl⟩ rfl rfl rfl rfl rfl jfn func3 closed
  (fc jin) jwr
  (λos started H enc _ F=>by rw[OpenClaim.pre_eq_preRow];exact lifted os started H enc F)
end Go.Proofs.YtplioigfcjbbiaaGreatDoor
