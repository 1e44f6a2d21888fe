/-
  From what came in to what the walks are told: a row of points, a number, a bool.
-/
import Derived.Test.YtbgolbkolcmldaaFin
import Derived.Test.YtbgolbkolcmldaaGH
namespace Go.Proofs.Ytbgolbkolcmldaa
open Go.ChangeShapes Go.WideShapes Go.ChangeAt Go.RowKit Go.Deep Go.Joins
open Go.ChangeMaps (open_string shut_string)
variable {H : Type} {enc : TypeId × Value → H} {W : World} {base : Nat}

set_option maxRecDepth 100000 in
theorem open_rowV {v : Value} {d : DataW H} {p : List MemPlace} (hok : Value.okWide Try.prog W .any base 38 v) (h : DataW.Trod enc Try.prog W 0 (fun _ => true) true 38 v d p) : ∃ A n cap l, v = .slice A n cap ∧ Row W (.slice A n cap) l := by
  obtain ⟨a0, len, cap, rfl⟩ := okWide_slice Try.underlying38 hok
  obtain ⟨fuel, hf⟩ := h
  obtain ⟨l, hl⟩ := open_row (v := .slice a0 len cap) (by simpa [Value.cells] using hf)
  exact ⟨a0, len, cap, l, rfl, hl⟩
set_option maxRecDepth 100000 in
theorem open_intV {v : Value} {d : DataW H} {p : List MemPlace} (hok : Value.okWide Try.prog W .any base 3 v) (h : DataW.Trod enc Try.prog W 0 (fun _ => true) true 3 v d p) : ∃ x, v = .int .i64 x ∧ fit x := by
  obtain ⟨x, rfl, _, _, wx⟩ := open_int Try.underlying3 hok h
  refine ⟨x, rfl, ?_⟩
  have := (Go.bounds_i64 wx)
  unfold fit
  omega
set_option maxRecDepth 100000 in
theorem open_boolV {v : Value} {d : DataW H} {p : List MemPlace} (hok : Value.okWide Try.prog W .any base 4 v) (h : DataW.Trod enc Try.prog W 0 (fun _ => true) true 4 v d p) : ∃ x, v = .bool x := by
  obtain ⟨x, rfl, _, _⟩ := open_bool Try.underlying4 hok h
  exact ⟨x, rfl⟩

end Go.Proofs.Ytbgolbkolcmldaa
