/-
  The tied card of 'fleuronlaw17.ShapeForms'.
-/
import Derived.Test.YtamjlkdanllgjaaGreatDoorZ5
import Derived.Test.YtamjlkdanllgjaaGreatDoorCards
import Derived.Test.YtamjlkdanllgjaaGreatDoorTie
namespace Go.Proofs.YtamjlkdanllgjaaGreatDoor
open Go.ChangeShapes Go.WideShapes Go.ChangeAt Go.RowKit
theorem shapeForms_plain (f : FuncId) (fn : Func) (hf : Tryz.pinned.checked.prog.funcNamed "fleuron/fleuronlaw17.ShapeForms" = some f) (hfn : Tryz.pinned.checked.prog.funcs[f]? = some fn) :
    true = Tryz.pinned.checked.prog.looks [] ∧ ∀ (j : Nat) t, fn.params[j]? = some t → Tryz.pinned.checked.prog.wantsStandIn t = false := by
  obtain rfl : f = 5 := Option.some.inj ((show Tryz.prog.funcNamed "fleuron/fleuronlaw17.ShapeForms" = some 5 by kernel_rfl).symm.trans hf) |>.symm
  obtain rfl : fn = Tryz.f5 := (Option.some.inj (Tryz.func5.symm.trans hfn)).symm
  refine ⟨by kernel_rfl, fun j t ht => ?_⟩
  rw [Tryz.params5] at ht
  have hm : t = 69 ∨ t = 5 := by simpa using Array.mem_of_getElem? ht
  rcases hm with rfl | rfl
  · exact (show Tryz.prog.wantsStandIn 69 = false by kernel_rfl)
  · exact (show Tryz.prog.wantsStandIn 5 = false by kernel_rfl)
theorem shapeForms_wf : OpenClaim.wfByText (OpenSpec.ofChange Rows.shapeFormsSpec) Rows.shapeFormsRow = true := by kernel_rfl
theorem shapeForms_goes : false = Rows.shapeFormsRow.goesBy Tryz.pinned.checked.prog := by kernel_rfl
theorem shapeForms_main : Tryz.pinned.checked.prog.mainIs = some (Rows.shapeFormsCard.stood.harness.1, Rows.shapeFormsCard.stood.harness.2.toList) := by kernel_rfl
set_option maxRecDepth 100000 in
theorem shapeForms_card : Rows.ShapeFormsCardSaid :=
  Claim7.holds_tied_plain_at .later [] _ _ _ _ shapeForms_holds (fun _ h => by cases h) shapeForms_wf (fun _ h => by cases h) shapeForms_row_tie rfl ⟨rfl, rfl⟩ shapeForms_main rfl shapeForms_plain shapeForms_goes
#print axioms shapeForms_card
end Go.Proofs.YtamjlkdanllgjaaGreatDoor
