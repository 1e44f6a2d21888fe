/-
  The tied card of 'fleuronlaw13.SubstituteNew'.
-/
import Derived.Test.YtpmdfoaadejmkaaGreatDoorND
import Derived.Test.YtpmdfoaadejmkaaGreatDoorCards
import Derived.Test.YtpmdfoaadejmkaaGreatDoorTie
namespace Go.Proofs.YtpmdfoaadejmkaaGreatDoor
open Go.ChangeShapes Go.WideShapes Go.ChangeAt Go.RowKit
theorem subNew_plain (f : FuncId) (fn : Func) (hf : Tryz.pinned.checked.prog.funcNamed "fleuron/fleuronlaw13.SubstituteNew" = some f) (hfn : Tryz.pinned.checked.prog.funcs[f]? = some fn) :
    true = Tryz.pinned.checked.prog.looks [] ∧ ∀ (j : Nat) t, fn.params[j]? = some t → Tryz.pinned.checked.prog.wantsStandIn t = false := by
  obtain rfl : f = 5 := Option.some.inj ((show Tryz.prog.funcNamed "fleuron/fleuronlaw13.SubstituteNew" = some 5 by kernel_rfl).symm.trans hf) |>.symm
  obtain rfl : fn = Tryz.f5 := (Option.some.inj (Tryz.func5.symm.trans hfn)).symm
  refine ⟨by kernel_rfl, fun j t ht => ?_⟩
  rw [Tryz.params5] at ht
  have hm : t = 22 ∨ t = 50 := by simpa using Array.mem_of_getElem? ht
  rcases hm with rfl | rfl
  · exact (show Tryz.prog.wantsStandIn 22 = false by kernel_rfl)
  · exact (show Tryz.prog.wantsStandIn 50 = false by kernel_rfl)
theorem subNew_wf : OpenClaim.wfByText (OpenSpec.ofChange Rows.substituteNewSpec) Rows.substituteNewRow = true := by kernel_rfl
theorem subNew_goes : false = Rows.substituteNewRow.goesBy Tryz.pinned.checked.prog := by kernel_rfl
theorem subNew_main : Tryz.pinned.checked.prog.mainIs = some (Rows.substituteNewCard.stood.harness.1, Rows.substituteNewCard.stood.harness.2.toList) := by kernel_rfl
set_option maxRecDepth 100000 in
theorem subNew_card : Rows.SubstituteNewCardSaid :=
  Claim7.holds_tied_plain_at .later [] _ _ _ _ subNew_holds (fun _ h => by cases h) subNew_wf (fun _ h => by cases h) substituteNew_row_tie rfl ⟨rfl, rfl⟩ subNew_main rfl subNew_plain subNew_goes
#print axioms subNew_card
end Go.Proofs.YtpmdfoaadejmkaaGreatDoor
