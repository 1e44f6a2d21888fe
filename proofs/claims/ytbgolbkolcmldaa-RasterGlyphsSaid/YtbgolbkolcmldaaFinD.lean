/-
  From what came in to what the walks are told: rows of bools, rows of numbers.
-/
import Derived.Test.YtbgolbkolcmldaaFinB
import Derived.Test.YtbgolbkolcmldaaW47a
import Derived.ChangeSlices
import Derived.Deep.Grids
namespace Go.Proofs.Ytbgolbkolcmldaa
open Go.ChangeShapes Go.WideShapes Go.ChangeAt Go.RowKit Go.Deep Go.Joins
theorem Try.cellsN4 : Try.prog.cellsOf 4 = 1 := by kernel_rfl
variable {H : Type} {enc : TypeId × Value → H} {W : World} {base : Nat}
set_option maxRecDepth 100000 in
theorem open_boolsV {v : Value} {d : DataW H} {p : List MemPlace} (hok : Value.okWide Try.prog W .any base 50 v) (h : DataW.Trod enc Try.prog W 0 (fun _ => true) true 50 v d p) : ∃ A n cap l, v = .slice A n cap ∧ Rd W 1 (.slice A n cap) (boolC l) := by
  obtain ⟨a0, len, cap, rfl⟩ := okWide_slice Try.underlying50 hok
  obtain ⟨fuel, hf⟩ := h
  have hf' : DataW.trod enc Try.prog W 0 (fun _ => true) true fuel 50 [.slice a0 len cap] = some (d, p) := by simpa [Value.cells] using hf
  rcases open_bools Try.underlying50 Try.underlying4 Try.cellsN4 hf' with ⟨hcs, _⟩ | ⟨a, len', cap', B, hcs, _, hl, hm, hx, hcell⟩
  · simp only [List.cons.injEq, and_true] at hcs
    cases hcs
    exact ⟨none, 0, 0, [], rfl, none, 0, 0, rfl, by simp [boolC], Nat.le_refl _, by unfold maxLen; omega, fun h => absurd h (Nat.lt_irrefl 0)⟩
  · simp only [List.cons.injEq, and_true] at hcs
    cases hcs
    refine ⟨some a, len, cap, (List.range len).map B, rfl, some a, len, cap, rfl, by simp [boolC], hl, hm, fun h0 => ?_⟩
    obtain ⟨b, off, rfl, hb⟩ := addr_of (hcell 0 (by omega))
    refine ⟨b, off, rfl, hb, fun j u hj => ?_⟩
    have hlt : j < len := by have := (List.getElem?_eq_some_iff.1 hj).1; simpa [boolC] using this
    have := hcell j (by omega)
    rw [add_mk] at this
    rw [this]
    simpa [boolC, hlt] using hj
set_option maxRecDepth 100000 in
theorem open_intsV {v : Value} {d : DataW H} {p : List MemPlace} (hok : Value.okWide Try.prog W .any base 34 v) (h : DataW.Trod enc Try.prog W 0 (fun _ => true) true 34 v d p) : ∃ A n cap l, v = .slice A n cap ∧ Rd W 1 (.slice A n cap) (intC l) := by
  obtain ⟨a0, len, cap, rfl⟩ := okWide_slice Try.underlying34 hok
  obtain ⟨fuel, hf⟩ := h
  have hf' : DataW.trod enc Try.prog W 0 (fun _ => true) true fuel 34 [.slice a0 len cap] = some (d, p) := by simpa [Value.cells] using hf
  rcases open_ints Try.underlying34 Try.underlying3 Try.cellsN3 hf' with ⟨hcs, _⟩ | ⟨a, len', cap', zs, hcs, _, hl, hm, hz, hx, hcell, _⟩
  · simp only [List.cons.injEq, and_true] at hcs
    cases hcs
    exact ⟨none, 0, 0, [], rfl, none, 0, 0, rfl, by simp [intC], Nat.le_refl _, by unfold maxLen; omega, fun h => absurd h (Nat.lt_irrefl 0)⟩
  · simp only [List.cons.injEq, and_true] at hcs
    cases hcs
    simp only [if_true] at hz
    refine ⟨some a, len, cap, zs.take len, rfl, some a, len, cap, rfl, by simp [intC]; omega, hl, hm, fun h0 => ?_⟩
    obtain ⟨b, off, rfl, hb⟩ := addr_of (hcell 0 (by omega))
    refine ⟨b, off, rfl, hb, fun j u hj => ?_⟩
    have hlt : j < len := by have := (List.getElem?_eq_some_iff.1 hj).1; simp [intC] at this; omega
    have := hcell j (by omega)
    rw [add_mk] at this
    rw [this]
    simp only [intC, List.getElem?_map, List.getElem?_take, hlt, if_true] at hj
    rw [List.getD_eq_getElem?_getD]
    cases hzj : zs[j]? with
    | none => rw [hzj] at hj; simp at hj
    | some z => rw [hzj] at hj; simpa using hj
end Go.Proofs.Ytbgolbkolcmldaa
