/-
  From what came in to what the walks are told: rows of points, rows of rows of points, a point.
-/
import Derived.Test.YtbgolbkolcmldaaGC
import Derived.Test.YtbgolbkolcmldaaRows
import Derived.WalkKit
import Derived.ProofKit
import Derived.OpenShut
import Derived.ShutString
import Derived.ChangeOld
import Derived.Below
import Derived.Deep.Slices
import Derived.Deep.SlicePairs
import Derived.Lib.SmallJoins
namespace Go.Proofs.Ytbgolbkolcmldaa
open Go.ChangeShapes Go.WideShapes Go.ChangeAt Go.RowKit Go.Deep Go.Joins
open Go.ChangeMaps (open_string shut_string)

theorem Try.own : ownKnob Try.prog.godebug = none := by kernel_rfl
theorem Try.laidOut : laidOutB Try.prog = true := by kernel_rfl
theorem Try.cellsN22 : Try.prog.cellsOf 22 = 1 := by kernel_rfl
theorem Try.cellsN38 : Try.prog.cellsOf 38 = 1 := by kernel_rfl
theorem Try.cellsN24 : Try.prog.cellsOf 24 = 2 := by kernel_rfl
theorem Try.cellsN3 : Try.prog.cellsOf 3 = 1 := by kernel_rfl

variable {H : Type} {enc : TypeId × Value → H} {W : World} {base : Nat}

theorem addr_of {a : Addr} {v : Value} (h : W.cell? (a.add 0) = some v) : ∃ b off, a = ⟨b, off, none⟩ ∧ b < W.heap.size := by
  obtain ⟨b, off, sp⟩ := a
  have e : (⟨b, off, sp⟩ : Addr).add 0 = ⟨b, off, sp⟩ := by simp [Addr.add]
  rw [e] at h
  cases sp with
  | some s =>
    simp only [World.cell?] at h
    split at h
    · simp at h
    · cases h
  | none =>
    refine ⟨b, off, rfl, ?_⟩
    rcases Nat.lt_or_ge b W.heap.size with hlt | hge
    · exact hlt
    · simp [World.cell?, Array.getElem?_eq_none hge] at h

set_option maxRecDepth 100000 in
theorem open_row {fuel : Nat} {v : Value} {x : DataW H × List MemPlace} (h : DataW.trod enc Try.prog W 0 (fun _ => true) true fuel 38 [v] = some x) : ∃ l, Row W v l := by
  rcases open_slice_pairs Try.underlying38 Try.underlying24 Try.cellsN24 rfl rfl Try.cellsN3 Try.cellsN3 h with ⟨hcs, _⟩ | ⟨a, len, cap, m, n, V0, V1, D0, D1, P0, P1, hcs, _, hl, hm, hmm, hx, hr⟩
  · simp only [List.cons.injEq, and_true] at hcs
    subst hcs
    exact ⟨[], none, 0, 0, rfl, by simp [ptCells], Nat.le_refl _, by unfold maxLen; omega, fun h => absurd h (Nat.lt_irrefl 0)⟩
  · simp only [List.cons.injEq, and_true] at hcs
    subst hcs
    simp only [if_true] at hmm
    have each : ∀ i, i < len → ∃ q : Int × Int, W.cell? (a.add (i * 2)) = some (.int .i64 q.1) ∧ W.cell? (a.add (i * 2 + 1)) = some (.int .i64 q.2) := by
      intro i hi
      obtain ⟨c0, c1, t0, t1⟩ := hr i (by omega)
      obtain ⟨z0, e0, -, -⟩ := DataW.trod_int Try.underlying3 t0
      obtain ⟨z1, e1, -, -⟩ := DataW.trod_int Try.underlying3 t1
      simp only [List.cons.injEq, and_true] at e0 e1
      exact ⟨(z0, z1), e0 ▸ c0, e1 ▸ c1⟩
    obtain ⟨f, hf⟩ := choose_lt each
    refine ⟨(List.range len).map f, some a, len, cap, rfl, by rw [ptCells_length]; simp, hl, hm, fun h0 => ?_⟩
    obtain ⟨b, off, rfl, hb⟩ := addr_of (hf 0 h0).1
    refine ⟨b, off, rfl, hb, fun j u hj => ?_⟩
    have hlen : (ptCells ((List.range len).map f)).length = len * 2 := by rw [ptCells_length]; simp
    have hj2 : j < len * 2 := by rw [← hlen]; exact (List.getElem?_eq_some_iff.1 hj).1
    have hk : j / 2 < len := by omega
    have hg := ptCells_get ((List.range len).map f) (j / 2) (f (j / 2)) (by simp [hk])
    rcases Nat.mod_two_eq_zero_or_one j with h2 | h2
    · have ej : j = j / 2 * 2 := by omega
      rw [ej, hg.1] at hj
      cases hj
      have := (hf _ hk).1
      rw [add_mk] at this
      rwa [← ej] at this
    · have ej : j = j / 2 * 2 + 1 := by omega
      rw [ej, hg.2] at hj
      cases hj
      have := (hf _ hk).2
      rw [add_mk] at this
      rwa [← ej] at this

set_option maxRecDepth 100000 in
theorem open_lines {v : Value} {d : DataW H} {p : List MemPlace} (hok : Value.okWide Try.prog W .any base 22 v) (h : DataW.Trod enc Try.prog W 0 (fun _ => true) true 22 v d p) : ∃ A n cap ls, v = .slice A n cap ∧ Lines W (.slice A n cap) ls := by
  obtain ⟨a0, len, cap, rfl⟩ := okWide_slice Try.underlying22 hok
  refine ⟨a0, len, cap, ?_⟩
  obtain ⟨fuel, hf⟩ := h
  rcases open_slice1 Try.underlying22 Try.cellsN38 hf with ⟨hcs, _⟩ | ⟨a, len', cap', m, n, V, D, Pl, hcs, _, hl, hm, hmm, hx, hr⟩
  · simp [Value.cells] at hcs
    obtain ⟨rfl, rfl, rfl⟩ := hcs
    exact ⟨[], rfl, [], ⟨none, 0, 0, rfl, by simp, Nat.le_refl _, by unfold maxLen; omega, fun h => absurd h (Nat.lt_irrefl 0)⟩, rfl, fun i r l h => by simp at h⟩
  · simp [Value.cells] at hcs
    obtain ⟨rfl, rfl, rfl⟩ := hcs
    simp only [if_true] at hmm
    have each : ∀ i, i < len → ∃ l, Row W (V i) l := fun i hi => open_row (hr i (by omega)).2
    obtain ⟨f, hf2⟩ := choose_lt each
    refine ⟨(List.range len).map f, rfl, (List.range len).map V, ⟨some a, len, cap, rfl, by simp, hl, hm, fun h0 => ?_⟩, by simp, fun i r l h1 h2 => ?_⟩
    · obtain ⟨b, off, rfl, hb⟩ := addr_of (hr 0 (by omega)).1
      refine ⟨b, off, rfl, hb, fun j u hj => ?_⟩
      have hj2 : j < len := by have := (List.getElem?_eq_some_iff.1 hj).1; simpa using this
      simp [hj2] at hj
      subst hj
      have := (hr j (by omega)).1
      rwa [add_mk] at this
    · have hi : i < len := by have := (List.getElem?_eq_some_iff.1 h1).1; simpa using this
      simp [hi] at h1 h2
      subst h1; subst h2
      exact hf2 i hi

set_option maxRecDepth 100000 in
theorem open_pt {v : Value} {d : DataW H} {p : List MemPlace} (hok : Value.okWide Try.prog W .any base 24 v) (h : DataW.Trod enc Try.prog W 0 (fun _ => true) true 24 v d p) : ∃ x y, v = pt x y := by
  obtain ⟨c0, c1, y0, y1, m, rfl, rfl, rfl, hy0, hy1⟩ := open_agg2 Try.underlying24 (by kernel_rfl) Try.cellsN24 hok h
  obtain ⟨z0, e0, -, -⟩ := DataW.trod_int Try.underlying3 hy0
  obtain ⟨z1, e1, -, -⟩ := DataW.trod_int Try.underlying3 hy1
  simp only [List.cons.injEq, and_true] at e0 e1
  subst e0; subst e1
  exact ⟨z0, z1, rfl⟩

end Go.Proofs.Ytbgolbkolcmldaa
