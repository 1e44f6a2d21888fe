/-
  The tied card of 'fleuronlaw13.SubstituteReverse'.
-/
import Derived.Test.YtpmdfoaadejmkaaGreatDoorHP
import Derived.Test.YtpmdfoaadejmkaaGreatDoorCards
import Derived.Test.YtpmdfoaadejmkaaGreatDoorTie
namespace Go.Proofs.YtpmdfoaadejmkaaGreatDoor
open Go.ChangeShapes Go.WideShapes Go.ChangeAt Go.RowKit
theorem subReverse_plain (f : FuncId) (fn : Func) (hf : Tryz.pinned.checked.prog.funcNamed "fleuron/fleuronlaw13.SubstituteReverse" = some f) (hfn : Tryz.pinned.checked.prog.funcs[f]? = some fn) :
    true = Tryz.pinned.checked.prog.looks [] ∧ ∀ (j : Nat) t, fn.params[j]? = some t → Tryz.pinned.checked.prog.wantsStandIn t = false := by
  obtain rfl : f = 11 := Option.some.inj ((show Tryz.prog.funcNamed "fleuron/fleuronlaw13.SubstituteReverse" = some 11 by kernel_rfl).symm.trans hf) |>.symm
  obtain rfl : fn = Tryz.f11 := (Option.some.inj (Tryz.func11.symm.trans hfn)).symm
  refine ⟨by kernel_rfl, fun j t ht => ?_⟩
  rw [Tryz.params11] at ht
  obtain rfl : t = 5 := by simpa using Array.mem_of_getElem? ht
  exact (show Tryz.prog.wantsStandIn 5 = false by kernel_rfl)
set_option maxRecDepth 100000 in
theorem subReverse_card : Rows.SubstituteReverseCardSaid :=
  Claim7.holds_tied_plain_at .later [] _ _ _ _ subReverse_holds (fun _ h => by cases h) (by kernel_rfl) (fun _ h => by cases h) substituteReverse_row_tie rfl ⟨rfl, rfl⟩ (by kernel_rfl) rfl subReverse_plain (by kernel_rfl)
#print axioms subReverse_card
end Go.Proofs.YtpmdfoaadejmkaaGreatDoor
