/-
  The tied card of 'fleuronlaw13.SubstituteOwn'.
-/
import Derived.Test.YtpmdfoaadejmkaaGreatDoorLQ
import Derived.Test.YtpmdfoaadejmkaaGreatDoorCards
import Derived.Test.YtpmdfoaadejmkaaGreatDoorTie
namespace Go.Proofs.YtpmdfoaadejmkaaGreatDoor
open Go.ChangeShapes Go.WideShapes Go.ChangeAt Go.RowKit
theorem subOwn_plain (f : FuncId) (fn : Func) (hf : Tryz.pinned.checked.prog.funcNamed "fleuron/fleuronlaw13.SubstituteOwn" = some f) (hfn : Tryz.pinned.checked.prog.funcs[f]? = some fn) :
    true = Tryz.pinned.checked.prog.looks [] ∧ ∀ (j : Nat) t, fn.params[j]? = some t → Tryz.pinned.checked.prog.wantsStandIn t = false := by
  obtain rfl : f = 6 := Option.some.inj ((show Tryz.prog.funcNamed "fleuron/fleuronlaw13.SubstituteOwn" = some 6 by kernel_rfl).symm.trans hf) |>.symm
  obtain rfl : fn = Tryz.f6 := (Option.some.inj (Tryz.func6.symm.trans hfn)).symm
  refine ⟨by kernel_rfl, fun j t ht => ?_⟩
  rw [Tryz.params6] at ht
  have hm : t = 22 ∨ t = 22 ∨ t = 3 := by simpa using Array.mem_of_getElem? ht
  rcases hm with rfl | rfl | rfl
  · exact (show Tryz.prog.wantsStandIn 22 = false by kernel_rfl)
  · exact (show Tryz.prog.wantsStandIn 22 = false by kernel_rfl)
  · exact (show Tryz.prog.wantsStandIn 3 = false by kernel_rfl)
theorem subOwn_wf : OpenClaim.wfByText (OpenSpec.ofChange Rows.substituteOwnSpec) Rows.substituteOwnRow = true := by kernel_rfl
theorem subOwn_goes : false = Rows.substituteOwnRow.goesBy Tryz.pinned.checked.prog := by kernel_rfl
theorem subOwn_main : Tryz.pinned.checked.prog.mainIs = some (Rows.substituteOwnCard.stood.harness.1, Rows.substituteOwnCard.stood.harness.2.toList) := by kernel_rfl
set_option maxRecDepth 100000 in
theorem subOwn_card : Rows.SubstituteOwnCardSaid :=
  Claim7.holds_tied_plain_at .later [] _ _ _ _ subOwn_holds (fun _ h => by cases h) subOwn_wf (fun _ h => by cases h) substituteOwn_row_tie rfl ⟨rfl, rfl⟩ subOwn_main rfl subOwn_plain subOwn_goes
#print axioms subOwn_card
end Go.Proofs.YtpmdfoaadejmkaaGreatDoor
