/-
  From what came in to what the walks are told: a bitmap.
-/
import Derived.Test.YtbgolbkolcmldaaFinB
import Derived.Test.YtbgolbkolcmldaaGF
import Derived.SliceStrings
namespace Go.Proofs.Ytbgolbkolcmldaa
open Go.ChangeShapes Go.WideShapes Go.ChangeAt Go.RowKit Go.Deep Go.Joins
open Go.ChangeMaps (open_string shut_string)
theorem Try.cellsN28 : Try.prog.cellsOf 28 = 1 := by kernel_rfl
theorem Try.cellsN9 : Try.prog.cellsOf 9 = 1 := by kernel_rfl
theorem Try.cellsN30 : Try.prog.cellsOf 30 = 5 := by kernel_rfl
theorem array5 {α : Type} {a : Array α} (h : a.size = 5) : ∃ x0 x1 x2 x3 x4, a = #[x0, x1, x2, x3, x4] := by
  match a, h with
  | ⟨[x0, x1, x2, x3, x4]⟩, _ => exact ⟨x0, x1, x2, x3, x4, rfl⟩
section
variable {H : Type} {enc : TypeId × Value → H} {P : Program} {w : World} {base : Nat} {spare : Nat → Bool} {held : Bool}
theorem trod_struct5 {t : TypeId} {f0 f1 f2 f3 f4 : Field} {fuel : Nat} {cs : List Value} {x : DataW H × List MemPlace} (ht : P.underlying t = some (.struct #[f0, f1, f2, f3, f4])) (h : DataW.trod enc P w base spare held fuel t cs = some x) :
    ∃ (y0 y1 y2 y3 y4 : DataW H × List MemPlace) (n : Nat), DataW.trod enc P w base spare held n f0.type ((cs.drop f0.offset).take (P.cellsOf f0.type)) = some y0 ∧ DataW.trod enc P w base spare held n f1.type ((cs.drop f1.offset).take (P.cellsOf f1.type)) = some y1 ∧ DataW.trod enc P w base spare held n f2.type ((cs.drop f2.offset).take (P.cellsOf f2.type)) = some y2 ∧ DataW.trod enc P w base spare held n f3.type ((cs.drop f3.offset).take (P.cellsOf f3.type)) = some y3 ∧ DataW.trod enc P w base spare held n f4.type ((cs.drop f4.offset).take (P.cellsOf f4.type)) = some y4 := by
  obtain ⟨xs, n, _, rfl, hl, hlen, hf⟩ := DataW.trod_struct ht h
  match xs, hlen with
  | [y0, y1, y2, y3, y4], _ => exact ⟨y0, y1, y2, y3, y4, n, by simpa using hf 0 f0 rfl, by simpa using hf 1 f1 rfl, by simpa using hf 2 f2 rfl, by simpa using hf 3 f3 rfl, by simpa using hf 4 f4 rfl⟩
end
variable {H : Type} {enc : TypeId × Value → H} {W : World} {base : Nat}
set_option maxRecDepth 100000 in
theorem open_strs {fuel : Nat} {v : Value} {x : DataW H × List MemPlace} (h : DataW.trod enc Try.prog W 0 (fun _ => true) true fuel 28 [v] = some x) : ∃ ss : List ByteArray, Rd W 1 v (ss.map .string) := by
  rcases open_strings Try.underlying28 Try.underlying9 Try.cellsN9 h with ⟨hcs, _⟩ | ⟨a, len, cap, ss, hcs, _, hl, hm, hz, hx, hcell, hws⟩
  · simp only [List.cons.injEq, and_true] at hcs
    subst hcs
    exact ⟨[], none, 0, 0, rfl, by simp, Nat.le_refl _, by unfold maxLen; omega, fun h => absurd h (Nat.lt_irrefl 0)⟩
  · simp only [List.cons.injEq, and_true] at hcs
    subst hcs
    simp only [if_true] at hz
    refine ⟨ss.take len, some a, len, cap, rfl, by rw [List.length_map, List.length_take]; omega, hl, hm, fun h0 => ?_⟩
    obtain ⟨b, off, rfl, hb⟩ := addr_of (hcell 0 (by omega))
    refine ⟨b, off, rfl, hb, fun j u hj => ?_⟩
    rw [List.getElem?_map] at hj
    obtain ⟨s, hs, rfl⟩ := Option.map_eq_some_iff.1 hj
    rw [List.getElem?_take] at hs
    split at hs
    · have hlt := (List.getElem?_eq_some_iff.1 hs).1
      have := hcell j hlt
      rw [add_mk, List.getD_eq_getElem?_getD, hs] at this
      exact this
    · cases hs
set_option maxRecDepth 100000 in
theorem open_bm {v : Value} {d : DataW H} {p : List MemPlace} (hok : Value.okWide Try.prog W .any base 30 v) (h : DataW.Trod enc Try.prog W 0 (fun _ => true) true 30 v d p) : ∃ B, BmAt W v B := by
  obtain ⟨cs, rfl, hsz⟩ := okWide_struct Try.underlying30 hok
  obtain ⟨c0, c1, c2, c3, c4, rfl⟩ := array5 (hsz.trans Try.cellsN30)
  obtain ⟨fuel, hf⟩ := h
  obtain ⟨y0, y1, y2, y3, y4, n, h0, h1, h2, h3, h4⟩ := trod_struct5 Try.underlying30 hf
  have g0 : DataW.trod enc Try.prog W 0 (fun _ => true) true n 3 [c0] = some y0 := h0
  have g1 : DataW.trod enc Try.prog W 0 (fun _ => true) true n 3 [c1] = some y1 := h1
  have g2 : DataW.trod enc Try.prog W 0 (fun _ => true) true n 3 [c2] = some y2 := h2
  have g3 : DataW.trod enc Try.prog W 0 (fun _ => true) true n 3 [c3] = some y3 := h3
  have g4 : DataW.trod enc Try.prog W 0 (fun _ => true) true n 28 [c4] = some y4 := h4
  obtain ⟨z0, e0, -, -⟩ := DataW.trod_int Try.underlying3 g0
  obtain ⟨z1, e1, -, -⟩ := DataW.trod_int Try.underlying3 g1
  obtain ⟨z2, e2, -, -⟩ := DataW.trod_int Try.underlying3 g2
  obtain ⟨z3, e3, -, -⟩ := DataW.trod_int Try.underlying3 g3
  obtain ⟨ss, hss⟩ := open_strs g4
  simp only [List.cons.injEq, and_true] at e0 e1 e2 e3
  subst e0; subst e1; subst e2; subst e3
  exact ⟨⟨z0, z1, z2, z3, ss⟩, c4, rfl, hss⟩
end Go.Proofs.Ytbgolbkolcmldaa
