/-
  The tied card of 'fleuronlaw13.SubstituteMarks'.
-/
import Derived.Test.YtpmdfoaadejmkaaGreatDoorHU
import Derived.Test.YtpmdfoaadejmkaaGreatDoorCards
import Derived.Test.YtpmdfoaadejmkaaGreatDoorTie
namespace Go.Proofs.YtpmdfoaadejmkaaGreatDoor
open Go.ChangeShapes Go.WideShapes Go.ChangeAt Go.RowKit
theorem subMarks_plain (f : FuncId) (fn : Func) (hf : Tryz.pinned.checked.prog.funcNamed "fleuron/fleuronlaw13.SubstituteMarks" = some f) (hfn : Tryz.pinned.checked.prog.funcs[f]? = some fn) :
    true = Tryz.pinned.checked.prog.looks [] ∧ ∀ (j : Nat) t, fn.params[j]? = some t → Tryz.pinned.checked.prog.wantsStandIn t = false := by
  obtain rfl : f = 9 := Option.some.inj ((show Tryz.prog.funcNamed "fleuron/fleuronlaw13.SubstituteMarks" = some 9 by kernel_rfl).symm.trans hf) |>.symm
  obtain rfl : fn = Tryz.f9 := (Option.some.inj (Tryz.func9.symm.trans hfn)).symm
  refine ⟨by kernel_rfl, fun j t ht => ?_⟩
  rw [Tryz.params9] at ht
  have hm : t = 88 ∨ t = 4 := by simpa using Array.mem_of_getElem? ht
  rcases hm with rfl | rfl
  · exact (show Tryz.prog.wantsStandIn 88 = false by kernel_rfl)
  · exact (show Tryz.prog.wantsStandIn 4 = false by kernel_rfl)
set_option maxRecDepth 100000 in
theorem subMarks_card : Rows.SubstituteMarksCardSaid :=
  Claim7.holds_tied_plain_at .later [] _ _ _ _ subMarks_holds (fun _ h => by cases h) (by kernel_rfl) (fun _ h => by cases h) substituteMarks_row_tie rfl ⟨rfl, rfl⟩ (by kernel_rfl) rfl subMarks_plain (by kernel_rfl)
#print axioms subMarks_card
end Go.Proofs.YtpmdfoaadejmkaaGreatDoor
