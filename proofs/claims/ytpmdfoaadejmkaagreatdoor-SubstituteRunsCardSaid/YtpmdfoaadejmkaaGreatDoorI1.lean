/-
  The tied card of 'fleuronlaw13.SubstituteRuns'.
-/
import Derived.Test.YtpmdfoaadejmkaaGreatDoorHZ
import Derived.Test.YtpmdfoaadejmkaaGreatDoorCards
import Derived.Test.YtpmdfoaadejmkaaGreatDoorTie
namespace Go.Proofs.YtpmdfoaadejmkaaGreatDoor
open Go.ChangeShapes Go.WideShapes Go.ChangeAt Go.RowKit
theorem subRuns_plain (f : FuncId) (fn : Func) (hf : Tryz.pinned.checked.prog.funcNamed "fleuron/fleuronlaw13.SubstituteRuns" = some f) (hfn : Tryz.pinned.checked.prog.funcs[f]? = some fn) :
    true = Tryz.pinned.checked.prog.looks [] ∧ ∀ (j : Nat) t, fn.params[j]? = some t → Tryz.pinned.checked.prog.wantsStandIn t = false := by
  obtain rfl : f = 4 := Option.some.inj ((show Tryz.prog.funcNamed "fleuron/fleuronlaw13.SubstituteRuns" = some 4 by kernel_rfl).symm.trans hf) |>.symm
  obtain rfl : fn = Tryz.f4 := (Option.some.inj (Tryz.func4.symm.trans hfn)).symm
  refine ⟨by kernel_rfl, fun j t ht => ?_⟩
  rw [Tryz.params4] at ht
  have hm : t = 22 ∨ t = 22 ∨ t = 45 := by simpa using Array.mem_of_getElem? ht
  rcases hm with rfl | rfl | rfl
  · exact (show Tryz.prog.wantsStandIn 22 = false by kernel_rfl)
  · exact (show Tryz.prog.wantsStandIn 22 = false by kernel_rfl)
  · exact (show Tryz.prog.wantsStandIn 45 = false by kernel_rfl)
theorem subRuns_wf : OpenClaim.wfByText (OpenSpec.ofChange Rows.substituteRunsSpec) Rows.substituteRunsRow = true := by kernel_rfl
theorem subRuns_goes : false = Rows.substituteRunsRow.goesBy Tryz.pinned.checked.prog := by kernel_rfl
theorem subRuns_main : Tryz.pinned.checked.prog.mainIs = some (Rows.substituteRunsCard.stood.harness.1, Rows.substituteRunsCard.stood.harness.2.toList) := by kernel_rfl
set_option maxRecDepth 100000 in
theorem subRuns_card : Rows.SubstituteRunsCardSaid :=
  Claim7.holds_tied_plain_at .later [] _ _ _ _ subRuns_holds (fun _ h => by cases h) subRuns_wf (fun _ h => by cases h) substituteRuns_row_tie rfl ⟨rfl, rfl⟩ subRuns_main rfl subRuns_plain subRuns_goes
#print axioms subRuns_card
end Go.Proofs.YtpmdfoaadejmkaaGreatDoor
