/-
  The tied card of 'fleuronlaw13.SubstituteRules'.
-/
import Derived.Test.YtpmdfoaadejmkaaGreatDoorI6
import Derived.Test.YtpmdfoaadejmkaaGreatDoorCards
import Derived.Test.YtpmdfoaadejmkaaGreatDoorTie
namespace Go.Proofs.YtpmdfoaadejmkaaGreatDoor
open Go.ChangeShapes Go.WideShapes Go.ChangeAt Go.RowKit
theorem subRules_plain (f : FuncId) (fn : Func) (hf : Tryz.pinned.checked.prog.funcNamed "fleuron/fleuronlaw13.SubstituteRules" = some f) (hfn : Tryz.pinned.checked.prog.funcs[f]? = some fn) :
    true = Tryz.pinned.checked.prog.looks [] ∧ ∀ (j : Nat) t, fn.params[j]? = some t → Tryz.pinned.checked.prog.wantsStandIn t = false := by
  obtain rfl : f = 12 := Option.some.inj ((show Tryz.prog.funcNamed "fleuron/fleuronlaw13.SubstituteRules" = some 12 by kernel_rfl).symm.trans hf) |>.symm
  obtain rfl : fn = Tryz.f12 := (Option.some.inj (Tryz.func12.symm.trans hfn)).symm
  refine ⟨by kernel_rfl, fun j t ht => ?_⟩
  rw [Tryz.params12] at ht
  obtain rfl : t = 22 := by simpa using Array.mem_of_getElem? ht
  exact (show Tryz.prog.wantsStandIn 22 = false by kernel_rfl)
theorem subRules_wf : OpenClaim.wfByText (OpenSpec.ofChange Rows.substituteRulesSpec) Rows.substituteRulesRow = true := by kernel_rfl
theorem subRules_goes : false = Rows.substituteRulesRow.goesBy Tryz.pinned.checked.prog := by kernel_rfl
theorem subRules_main : Tryz.pinned.checked.prog.mainIs = some (Rows.substituteRulesCard.stood.harness.1, Rows.substituteRulesCard.stood.harness.2.toList) := by kernel_rfl
set_option maxRecDepth 100000 in
theorem subRules_card : Rows.SubstituteRulesCardSaid :=
  Claim7.holds_tied_plain_at .later [] _ _ _ _ subRules_holds (fun _ h => by cases h) subRules_wf (fun _ h => by cases h) substituteRules_row_tie rfl ⟨rfl, rfl⟩ subRules_main rfl subRules_plain subRules_goes
#print axioms subRules_card
end Go.Proofs.YtpmdfoaadejmkaaGreatDoor
