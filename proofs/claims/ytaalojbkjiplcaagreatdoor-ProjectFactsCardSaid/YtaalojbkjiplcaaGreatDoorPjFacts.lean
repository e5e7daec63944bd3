/- ProjectFacts: keys, texts and readings of facts are those that the document specifies, for all facts and texts; what is written is read with its named fields. -/
import Derived.Test.YtaalojbkjiplcaaGreatDoorPt11
namespace Go.Proofs.YtaalojbkjiplcaaGreatDoor
open Go Go.Ax Go.Ch Go.Pj Go.Proofs
open Go.ChangeShapes Go.WideShapes Go.ChangeAt Go.RowKit Go.Lib
set_option linter.unusedVariables false
theorem plain (f : FuncId) (fn : Func) (hf : Tryz.pinned.checked.prog.funcNamed "draghead/dragheadlaw10.ProjectFacts" = some f) (tA : Tryz.pinned.checked.prog.funcs[f]? = some fn) :
  true = Tryz.pinned.checked.prog.looks [] ∧ ∀ (j : Nat) t, fn.params[j]? = some t → Tryz.pinned.checked.prog.wantsStandIn t = false := by
 obtain rfl : f = 4 := Option.some.inj ((show Tryz.prog.funcNamed "draghead/dragheadlaw10.ProjectFacts" = some 4 by kernel_rfl).symm.trans hf) |>.symm
 obtain rfl : fn = Tryz.f4 := (Option.some.inj (Tryz.func4.symm.trans tA)).symm
 refine ⟨by kernel_rfl, fun j t ht => ?_⟩
 rw [Tryz.params4] at ht
 have := Array.mem_of_getElem? ht
 simp at this
 rcases this with rfl | rfl
 ·exact (show Tryz.prog.wantsStandIn 40 = false by kernel_rfl)
 ·exact (show Tryz.prog.wantsStandIn 9 = false by kernel_rfl)
theorem pjfacts_holds : Rows.ProjectFactsCardSaid :=
 Claim7.holds_tied_plain_at .later [] _ _ _ _ said (fun _ h => by cases h) (by kernel_rfl) (fun _ h => by cases h) projectFacts_row_tie rfl ⟨rfl, rfl⟩ (by kernel_rfl) rfl plain (by kernel_rfl)
end Go.Proofs.YtaalojbkjiplcaaGreatDoor
