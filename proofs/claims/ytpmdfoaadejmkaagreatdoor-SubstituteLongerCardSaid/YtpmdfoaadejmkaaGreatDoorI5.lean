/-
  The tied card of 'fleuronlaw13.SubstituteLonger'.
-/
import Derived.Test.YtpmdfoaadejmkaaGreatDoorI4
import Derived.Test.YtpmdfoaadejmkaaGreatDoorCards
import Derived.Test.YtpmdfoaadejmkaaGreatDoorTie
namespace Go.Proofs.YtpmdfoaadejmkaaGreatDoor
open Go.ChangeShapes Go.WideShapes Go.ChangeAt Go.RowKit
theorem subLonger_plain (f : FuncId) (fn : Func) (hf : Tryz.pinned.checked.prog.funcNamed "fleuron/fleuronlaw13.SubstituteLonger" = some f) (hfn : Tryz.pinned.checked.prog.funcs[f]? = some fn) :
    true = Tryz.pinned.checked.prog.looks [] ∧ ∀ (j : Nat) t, fn.params[j]? = some t → Tryz.pinned.checked.prog.wantsStandIn t = false := by
  obtain rfl : f = 8 := Option.some.inj ((show Tryz.prog.funcNamed "fleuron/fleuronlaw13.SubstituteLonger" = some 8 by kernel_rfl).symm.trans hf) |>.symm
  obtain rfl : fn = Tryz.f8 := (Option.some.inj (Tryz.func8.symm.trans hfn)).symm
  refine ⟨by kernel_rfl, fun j t ht => ?_⟩
  rw [Tryz.params8] at ht
  have hm : t = 22 ∨ t = 22 ∨ t = 5 := by simpa using Array.mem_of_getElem? ht
  rcases hm with rfl | rfl | rfl
  · exact (show Tryz.prog.wantsStandIn 22 = false by kernel_rfl)
  · exact (show Tryz.prog.wantsStandIn 22 = false by kernel_rfl)
  · exact (show Tryz.prog.wantsStandIn 5 = false by kernel_rfl)
theorem subLonger_wf : OpenClaim.wfByText (OpenSpec.ofChange Rows.substituteLongerSpec) Rows.substituteLongerRow = true := by kernel_rfl
theorem subLonger_goes : false = Rows.substituteLongerRow.goesBy Tryz.pinned.checked.prog := by kernel_rfl
theorem subLonger_main : Tryz.pinned.checked.prog.mainIs = some (Rows.substituteLongerCard.stood.harness.1, Rows.substituteLongerCard.stood.harness.2.toList) := by kernel_rfl
set_option maxRecDepth 100000 in
theorem subLonger_card : Rows.SubstituteLongerCardSaid :=
  Claim7.holds_tied_plain_at .later [] _ _ _ _ subLonger_holds (fun _ h => by cases h) subLonger_wf (fun _ h => by cases h) substituteLonger_row_tie rfl ⟨rfl, rfl⟩ subLonger_main rfl subLonger_plain subLonger_goes
#print axioms subLonger_card
end Go.Proofs.YtpmdfoaadejmkaaGreatDoor
