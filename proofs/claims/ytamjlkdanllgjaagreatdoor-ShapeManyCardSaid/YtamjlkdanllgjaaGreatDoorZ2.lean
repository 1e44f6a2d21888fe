/-
  The tied card of 'fleuronlaw17.ShapeMany'.
-/
import Derived.Test.YtamjlkdanllgjaaGreatDoorZ1
import Derived.Test.YtamjlkdanllgjaaGreatDoorCards
import Derived.Test.YtamjlkdanllgjaaGreatDoorTie
namespace Go.Proofs.YtamjlkdanllgjaaGreatDoor
open Go.ChangeShapes Go.WideShapes Go.ChangeAt Go.RowKit
theorem shapeMany_plain (f : FuncId) (fn : Func) (hf : Tryz.pinned.checked.prog.funcNamed "fleuron/fleuronlaw17.ShapeMany" = some f) (hfn : Tryz.pinned.checked.prog.funcs[f]? = some fn) :
    true = Tryz.pinned.checked.prog.looks [] ∧ ∀ (j : Nat) t, fn.params[j]? = some t → Tryz.pinned.checked.prog.wantsStandIn t = false := by
  obtain rfl : f = 6 := Option.some.inj ((show Tryz.prog.funcNamed "fleuron/fleuronlaw17.ShapeMany" = some 6 by kernel_rfl).symm.trans hf) |>.symm
  obtain rfl : fn = Tryz.f6 := (Option.some.inj (Tryz.func6.symm.trans hfn)).symm
  refine ⟨by kernel_rfl, fun j t ht => ?_⟩
  rw [Tryz.params6] at ht
  have hm : t = 5 ∨ t = 4 ∨ t = 4 := by simpa using Array.mem_of_getElem? ht
  rcases hm with rfl | rfl | rfl
  · exact (show Tryz.prog.wantsStandIn 5 = false by kernel_rfl)
  · exact (show Tryz.prog.wantsStandIn 4 = false by kernel_rfl)
  · exact (show Tryz.prog.wantsStandIn 4 = false by kernel_rfl)
theorem shapeMany_wf : OpenClaim.wfByText (OpenSpec.ofChange Rows.shapeManySpec) Rows.shapeManyRow = true := by kernel_rfl
theorem shapeMany_goes : false = Rows.shapeManyRow.goesBy Tryz.pinned.checked.prog := by kernel_rfl
theorem shapeMany_main : Tryz.pinned.checked.prog.mainIs = some (Rows.shapeManyCard.stood.harness.1, Rows.shapeManyCard.stood.harness.2.toList) := by kernel_rfl
set_option maxRecDepth 100000 in
theorem shapeMany_card : Rows.ShapeManyCardSaid :=
  Claim7.holds_tied_plain_at .later [] _ _ _ _ shapeMany_holds (fun _ h => by cases h) shapeMany_wf (fun _ h => by cases h) shapeMany_row_tie rfl ⟨rfl, rfl⟩ shapeMany_main rfl shapeMany_plain shapeMany_goes
#print axioms shapeMany_card
end Go.Proofs.YtamjlkdanllgjaaGreatDoor
