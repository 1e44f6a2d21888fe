/-
  The tied card of 'fleuronlaw17.ShapePlain'.
-/
import Derived.Test.YtamjlkdanllgjaaGreatDoorZ3
import Derived.Test.YtamjlkdanllgjaaGreatDoorCards
import Derived.Test.YtamjlkdanllgjaaGreatDoorTie
namespace Go.Proofs.YtamjlkdanllgjaaGreatDoor
open Go.ChangeShapes Go.WideShapes Go.ChangeAt Go.RowKit
theorem shapePlain_plain (f : FuncId) (fn : Func) (hf : Tryz.pinned.checked.prog.funcNamed "fleuron/fleuronlaw17.ShapePlain" = some f) (hfn : Tryz.pinned.checked.prog.funcs[f]? = some fn) :
    true = Tryz.pinned.checked.prog.looks [] ∧ ∀ (j : Nat) t, fn.params[j]? = some t → Tryz.pinned.checked.prog.wantsStandIn t = false := by
  obtain rfl : f = 4 := Option.some.inj ((show Tryz.prog.funcNamed "fleuron/fleuronlaw17.ShapePlain" = some 4 by kernel_rfl).symm.trans hf) |>.symm
  obtain rfl : fn = Tryz.f4 := (Option.some.inj (Tryz.func4.symm.trans hfn)).symm
  refine ⟨by kernel_rfl, fun j t ht => ?_⟩
  rw [Tryz.params4] at ht
  obtain rfl : t = 25 := by simpa using Array.mem_of_getElem? ht
  exact (show Tryz.prog.wantsStandIn 25 = false by kernel_rfl)
theorem shapePlain_wf : OpenClaim.wfByText (OpenSpec.ofChange Rows.shapePlainSpec) Rows.shapePlainRow = true := by kernel_rfl
theorem shapePlain_goes : false = Rows.shapePlainRow.goesBy Tryz.pinned.checked.prog := by kernel_rfl
theorem shapePlain_main : Tryz.pinned.checked.prog.mainIs = some (Rows.shapePlainCard.stood.harness.1, Rows.shapePlainCard.stood.harness.2.toList) := by kernel_rfl
set_option maxRecDepth 100000 in
theorem shapePlain_card : Rows.ShapePlainCardSaid :=
  Claim7.holds_tied_plain_at .later [] _ _ _ _ shapePlain_holds (fun _ h => by cases h) shapePlain_wf (fun _ h => by cases h) shapePlain_row_tie rfl ⟨rfl, rfl⟩ shapePlain_main rfl shapePlain_plain shapePlain_goes
#print axioms shapePlain_card
end Go.Proofs.YtamjlkdanllgjaaGreatDoor
