/-
  The tied card of 'fleuronlaw13.SubstituteApplies'.
-/
import Derived.Test.YtpmdfoaadejmkaaGreatDoorHX
import Derived.Test.YtpmdfoaadejmkaaGreatDoorCards
import Derived.Test.YtpmdfoaadejmkaaGreatDoorTie
namespace Go.Proofs.YtpmdfoaadejmkaaGreatDoor
open Go.ChangeShapes Go.WideShapes Go.ChangeAt Go.RowKit
theorem subApplies_plain (f : FuncId) (fn : Func) (hf : Tryz.pinned.checked.prog.funcNamed "fleuron/fleuronlaw13.SubstituteApplies" = some f) (hfn : Tryz.pinned.checked.prog.funcs[f]? = some fn) :
    true = Tryz.pinned.checked.prog.looks [] ∧ ∀ (j : Nat) t, fn.params[j]? = some t → Tryz.pinned.checked.prog.wantsStandIn t = false := by
  obtain rfl : f = 3 := Option.some.inj ((show Tryz.prog.funcNamed "fleuron/fleuronlaw13.SubstituteApplies" = some 3 by kernel_rfl).symm.trans hf) |>.symm
  obtain rfl : fn = Tryz.f3 := (Option.some.inj (Tryz.func3.symm.trans hfn)).symm
  refine ⟨by kernel_rfl, fun j t ht => ?_⟩
  rw [Tryz.params3] at ht
  obtain rfl : t = 22 := by simpa using Array.mem_of_getElem? ht
  exact (show Tryz.prog.wantsStandIn 22 = false by kernel_rfl)
theorem subApplies_wf : OpenClaim.wfByText (OpenSpec.ofChange Rows.substituteAppliesSpec) Rows.substituteAppliesRow = true := by kernel_rfl
theorem subApplies_goes : false = Rows.substituteAppliesRow.goesBy Tryz.pinned.checked.prog := by kernel_rfl
theorem subApplies_main : Tryz.pinned.checked.prog.mainIs = some (Rows.substituteAppliesCard.stood.harness.1, Rows.substituteAppliesCard.stood.harness.2.toList) := by kernel_rfl
set_option maxRecDepth 100000 in
theorem subApplies_card : Rows.SubstituteAppliesCardSaid :=
  Claim7.holds_tied_plain_at .later [] _ _ _ _ subApplies_holds (fun _ h => by cases h) subApplies_wf (fun _ h => by cases h) substituteApplies_row_tie rfl ⟨rfl, rfl⟩ subApplies_main rfl subApplies_plain subApplies_goes
#print axioms subApplies_card
end Go.Proofs.YtpmdfoaadejmkaaGreatDoor
