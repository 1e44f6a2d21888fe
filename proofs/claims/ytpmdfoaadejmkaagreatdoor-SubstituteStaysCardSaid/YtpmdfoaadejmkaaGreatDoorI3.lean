/-
  The tied card of 'fleuronlaw13.SubstituteStays'.
-/
import Derived.Test.YtpmdfoaadejmkaaGreatDoorI2
import Derived.Test.YtpmdfoaadejmkaaGreatDoorCards
import Derived.Test.YtpmdfoaadejmkaaGreatDoorTie
namespace Go.Proofs.YtpmdfoaadejmkaaGreatDoor
open Go.ChangeShapes Go.WideShapes Go.ChangeAt Go.RowKit
theorem subStays_plain (f : FuncId) (fn : Func) (hf : Tryz.pinned.checked.prog.funcNamed "fleuron/fleuronlaw13.SubstituteStays" = some f) (hfn : Tryz.pinned.checked.prog.funcs[f]? = some fn) :
    true = Tryz.pinned.checked.prog.looks [] ∧ ∀ (j : Nat) t, fn.params[j]? = some t → Tryz.pinned.checked.prog.wantsStandIn t = false := by
  obtain rfl : f = 7 := Option.some.inj ((show Tryz.prog.funcNamed "fleuron/fleuronlaw13.SubstituteStays" = some 7 by kernel_rfl).symm.trans hf) |>.symm
  obtain rfl : fn = Tryz.f7 := (Option.some.inj (Tryz.func7.symm.trans hfn)).symm
  refine ⟨by kernel_rfl, fun j t ht => ?_⟩
  rw [Tryz.params7] at ht
  have hm : t = 22 ∨ t = 22 ∨ t = 3 := by simpa using Array.mem_of_getElem? ht
  rcases hm with rfl | rfl | rfl
  · exact (show Tryz.prog.wantsStandIn 22 = false by kernel_rfl)
  · exact (show Tryz.prog.wantsStandIn 22 = false by kernel_rfl)
  · exact (show Tryz.prog.wantsStandIn 3 = false by kernel_rfl)
theorem subStays_wf : OpenClaim.wfByText (OpenSpec.ofChange Rows.substituteStaysSpec) Rows.substituteStaysRow = true := by kernel_rfl
theorem subStays_goes : false = Rows.substituteStaysRow.goesBy Tryz.pinned.checked.prog := by kernel_rfl
theorem subStays_main : Tryz.pinned.checked.prog.mainIs = some (Rows.substituteStaysCard.stood.harness.1, Rows.substituteStaysCard.stood.harness.2.toList) := by kernel_rfl
set_option maxRecDepth 100000 in
theorem subStays_card : Rows.SubstituteStaysCardSaid :=
  Claim7.holds_tied_plain_at .later [] _ _ _ _ subStays_holds (fun _ h => by cases h) subStays_wf (fun _ h => by cases h) substituteStays_row_tie rfl ⟨rfl, rfl⟩ subStays_main rfl subStays_plain subStays_goes
#print axioms subStays_card
end Go.Proofs.YtpmdfoaadejmkaaGreatDoor
