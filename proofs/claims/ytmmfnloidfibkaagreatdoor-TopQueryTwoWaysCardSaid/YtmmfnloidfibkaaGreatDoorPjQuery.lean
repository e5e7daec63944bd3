/- the statement TopQueryTwoWays -/
import Derived.Test.YtmmfnloidfibkaaGreatDoorPt11
namespace Go.Proofs.YtmmfnloidfibkaaGreatDoor
open Go Go.Ax Go.Ch Go.Pj Go.Proofs Go.Proofs.Tryz
open Rows (TopQueryTwoWaysCardSaid)
open Go.ChangeShapes Go.WideShapes Go.ChangeAt Go.RowKit Go.Lib
set_option linter.unusedVariables false
theorem plain(f:FuncId)(fn:Func)(hf:Tryz.pinned.checked.prog.funcNamed "draghead/dragheadtop.TopQueryTwoWays" =some f)(uY:Tryz.pinned.checked.prog.funcs[f]? =some fn):
  true=Tryz.pinned.checked.prog.looks []/\∀(j:Nat) t,fn.params[j]? =some t->Tryz.pinned.checked.prog.wantsStandIn t=false:=by
 obtain rfl:f=3:=sc ((show prog.funcNamed "draghead/dragheadtop.TopQueryTwoWays" =some 3 by kernel_rfl).symm.trans hf) |>.symm
 obtain rfl:fn=f3:=(sc (func3.symm.trans uY)).symm
 refine⟨kR,λj t ht=>?_⟩
 rw[params3]at ht
 have:=Array.mem_of_getElem? ht
 simp at this
 rcases this with rfl|rfl|rfl
 ·exact(show prog.wantsStandIn 38=false by kernel_rfl)
 ·exact(show prog.wantsStandIn 39=false by kernel_rfl)
 ·exact(show prog.wantsStandIn 3=false by kernel_rfl)
theorem goes_none{P:Ba}(h:P.funcs.toList.any Func.goes=false){c:OpenClaim}(hs:c.start=.entering):false=c.goesBy P:=by
 have hp:∀g:FuncId,(P.funcs[g]?).any Func.goes=false:=λ(g:FuncId)=>by
  cases e:P.funcs[g]? with
  |none=>rfl
  |some fn=>exact(Tg.mp h fn (Array.mem_toList_iff.mpr (Array.mem_of_getElem? e)))|>λk=>by simpa using k
 have h2:P.funcs.any Func.goes=false:=by rw[<-Array.any_toList];exact h
 have hg:∀f:FuncId,P.goes f=false:=λf=>by simp[Program.goes,hp,h2]
 unfold OpenClaim.goesBy Program.goesAt Program.goesFrom
 rw[hs]
 cases P.funcNamed c.func <;> simp[hg]
theorem noGoes:Tryz.pinned.checked.prog.funcs.toList.any Func.goes=false:=kR
theorem pjquery_holds:TopQueryTwoWaysCardSaid:=
 Claim7.holds_tied_plain_at .later [] _ _ _ _ said (λ_ h=>by cases h) kR (λ_ h=>by cases h) topQueryTwoWays_row_tie rfl ⟨rfl,rfl⟩ kR rfl plain (goes_none noGoes rfl)
end Go.Proofs.YtmmfnloidfibkaaGreatDoor
