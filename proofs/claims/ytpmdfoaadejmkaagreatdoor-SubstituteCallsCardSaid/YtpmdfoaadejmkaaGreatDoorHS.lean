/-
  The tied card of 'fleuronlaw13.SubstituteCalls'.
-/
import Derived.Test.YtpmdfoaadejmkaaGreatDoorHQ
import Derived.Test.YtpmdfoaadejmkaaGreatDoorCards
import Derived.Test.YtpmdfoaadejmkaaGreatDoorTie
namespace Go.Proofs.YtpmdfoaadejmkaaGreatDoor
open Go.ChangeShapes Go.WideShapes Go.ChangeAt Go.RowKit
theorem subCalls_plain (f : FuncId) (fn : Func) (hf : Tryz.pinned.checked.prog.funcNamed "fleuron/fleuronlaw13.SubstituteCalls" = some f) (hfn : Tryz.pinned.checked.prog.funcs[f]? = some fn) :
    true = Tryz.pinned.checked.prog.looks [] ∧ ∀ (j : Nat) t, fn.params[j]? = some t → Tryz.pinned.checked.prog.wantsStandIn t = false := by
  obtain rfl : f = 10 := Option.some.inj ((show Tryz.prog.funcNamed "fleuron/fleuronlaw13.SubstituteCalls" = some 10 by kernel_rfl).symm.trans hf) |>.symm
  obtain rfl : fn = Tryz.f10 := (Option.some.inj (Tryz.func10.symm.trans hfn)).symm
  refine ⟨by kernel_rfl, fun j t ht => ?_⟩
  rw [Tryz.params10] at ht
  obtain rfl : t = 5 := by simpa using Array.mem_of_getElem? ht
  exact (show Tryz.prog.wantsStandIn 5 = false by kernel_rfl)
set_option maxRecDepth 100000 in
theorem subCalls_card : Rows.SubstituteCallsCardSaid :=
  Claim7.holds_tied_plain_at .later [] _ _ _ _ subCalls_holds (fun _ h => by cases h) (by kernel_rfl) (fun _ h => by cases h) substituteCalls_row_tie rfl ⟨rfl, rfl⟩ (by kernel_rfl) rfl subCalls_plain (by kernel_rfl)
#print axioms subCalls_card
end Go.Proofs.YtpmdfoaadejmkaaGreatDoor
