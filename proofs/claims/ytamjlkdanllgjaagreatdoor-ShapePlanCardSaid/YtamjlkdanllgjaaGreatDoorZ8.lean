/-
  The tied card of 'fleuronlaw17.ShapePlan'.
-/
import Derived.Test.YtamjlkdanllgjaaGreatDoorZ7
import Derived.Test.YtamjlkdanllgjaaGreatDoorCards
import Derived.Test.YtamjlkdanllgjaaGreatDoorTie
namespace Go.Proofs.YtamjlkdanllgjaaGreatDoor
open Go.ChangeShapes Go.WideShapes Go.ChangeAt Go.RowKit
theorem shapePlan_plain (f : FuncId) (fn : Func) (hf : Tryz.pinned.checked.prog.funcNamed "fleuron/fleuronlaw17.ShapePlan" = some f) (hfn : Tryz.pinned.checked.prog.funcs[f]? = some fn) :
    true = Tryz.pinned.checked.prog.looks [] ∧ ∀ (j : Nat) t, fn.params[j]? = some t → Tryz.pinned.checked.prog.wantsStandIn t = false := by
  obtain rfl : f = 3 := Option.some.inj ((show Tryz.prog.funcNamed "fleuron/fleuronlaw17.ShapePlan" = some 3 by kernel_rfl).symm.trans hf) |>.symm
  obtain rfl : fn = Tryz.f3 := (Option.some.inj (Tryz.func3.symm.trans hfn)).symm
  refine ⟨by kernel_rfl, fun j t ht => ?_⟩
  rw [Tryz.params3] at ht
  have hm : t = 25 ∨ t = 22 ∨ t = 26 := by simpa using Array.mem_of_getElem? ht
  rcases hm with rfl | rfl | rfl
  · exact (show Tryz.prog.wantsStandIn 25 = false by kernel_rfl)
  · exact (show Tryz.prog.wantsStandIn 22 = false by kernel_rfl)
  · exact (show Tryz.prog.wantsStandIn 26 = false by kernel_rfl)
theorem shapePlan_wf : OpenClaim.wfByText (OpenSpec.ofChange Rows.shapePlanSpec) Rows.shapePlanRow = true := by kernel_rfl
theorem shapePlan_goes : false = Rows.shapePlanRow.goesBy Tryz.pinned.checked.prog := by kernel_rfl
theorem shapePlan_main : Tryz.pinned.checked.prog.mainIs = some (Rows.shapePlanCard.stood.harness.1, Rows.shapePlanCard.stood.harness.2.toList) := by kernel_rfl
set_option maxRecDepth 100000 in
theorem shapePlan_card : Rows.ShapePlanCardSaid :=
  Claim7.holds_tied_plain_at .later [] _ _ _ _ shapePlan_holds (fun _ h => by cases h) shapePlan_wf (fun _ h => by cases h) shapePlan_row_tie rfl ⟨rfl, rfl⟩ shapePlan_main rfl shapePlan_plain shapePlan_goes
#print axioms shapePlan_card
end Go.Proofs.YtamjlkdanllgjaaGreatDoor
