/-
  Outlines: the lines of points, plainly.
-/
import Derived.Test.YtbgolbkolcmldaaW46
namespace Go.Proofs.Ytbgolbkolcmldaa
open Go.RowKit
def pieceOf (c : List Spt) (x : Nat × Nat × Nat) : List Spt := (c.drop x.2.1).take (x.2.2 - x.2.1)
def lineOf (c : List Spt) (x : Nat × Nat × Nat) : Pts := rowPts (ringOf (pieceOf c x))
def linesO (p : Pts) (on : List Bool) (es : List Int) : List Pts := if on.length = p.length then (cutsN p.length 0 0 es).map (lineOf (p.zip on)) else []
def boolC (l : List Bool) : List Value := l.map fun z => .bool z
/-- spots that are made, so far -/
def spL (p : Pts) (on : List Bool) (i : Nat) : List Spt := (p.zip on).take i ++ List.replicate (p.length - i) ((0, 0), false)
theorem spL_succ {p : Pts} {on : List Bool} {i : Nat} {s : Int × Int} {b : Bool} (h1 : p[i]? = some s) (h2 : on[i]? = some b) : (spL p on i).set i (s, b) = spL p on (i + 1) := by
  have hp := (List.getElem?_eq_some_iff.1 h1).1
  have ho := (List.getElem?_eq_some_iff.1 h2).1
  have hz : (p.zip on)[i]? = some (s, b) := by rw [List.getElem?_zip_eq_some]; exact ⟨h1, h2⟩
  have hl : ((p.zip on).take i).length = i := by rw [List.length_take, List.length_zip]; omega
  unfold spL
  rw [List.set_append_right _ _ (by omega), hl, Nat.sub_self, List.take_add_one, hz, show p.length - i = (p.length - (i + 1)) + 1 by omega, List.replicate_succ]
  simp
theorem spL_len (p : Pts) (on : List Bool) (i : Nat) (h : on.length = p.length) (hi : i ≤ p.length) : (spL p on i).length = p.length := by
  unfold spL
  rw [List.length_append, List.length_take, List.length_zip, List.length_replicate]
  omega
theorem spL_zero (p : Pts) (on : List Bool) : (spL p on 0).flatMap spC = (List.replicate p.length [Value.int .i64 0, .int .i64 0, .bool false]).flatten := by
  unfold spL
  rw [List.take_zero, List.nil_append, Nat.sub_zero]
  induction p.length with
  | zero => rfl
  | succ n ih => rw [List.replicate_succ, List.replicate_succ, List.flatMap_cons, List.flatten_cons, ih]; rfl
theorem spL_all {p : Pts} {on : List Bool} (h : on.length = p.length) : spL p on p.length = p.zip on := by
  unfold spL
  rw [Nat.sub_self, List.replicate_zero, List.append_nil, List.take_of_length_le (by rw [List.length_zip]; omega)]
theorem piece_in {c : List Spt} (h : InC c) (x : Nat × Nat × Nat) : InC (pieceOf c x) := fun s hs => h s (List.mem_of_mem_drop (List.mem_of_mem_take hs))
theorem piece_len {c : List Spt} {x : Nat × Nat × Nat} (h : x.2.1 < x.2.2 ∧ x.2.2 ≤ c.length) : (pieceOf c x).length = x.2.2 - x.2.1 := by
  unfold pieceOf
  rw [List.length_take, List.length_drop]
  omega
theorem piece_rd {w0 w : World} {X : List Nat} {L : HL} {bS n cap : Nat} {c : List Spt} {x : Nat × Nat × Nat} (hs : St w0 X L w) (hm : (bS, row 123 3 n cap (c.flatMap spC)) ∈ L) (h : x.2.1 < x.2.2 ∧ x.2.2 ≤ c.length) (hn : c.length ≤ 1000000) : Rd w 3 (.slice (some ⟨bS, 0 + x.2.1 * 3, none⟩) (x.2.2 - x.2.1) (x.2.2 - x.2.1)) ((pieceOf c x).flatMap spC) := by
  refine ⟨_, _, _, rfl, by rw [flatMap_len spC 3 (fun _ => rfl), piece_len h], Nat.le_refl _, by unfold maxLen; omega, fun _ => ⟨bS, _, rfl, hs.lt hm, fun j u hj => ?_⟩⟩
  unfold pieceOf at hj
  rw [spC_take, spC_drop, List.getElem?_take] at hj
  split at hj
  · rw [List.getElem?_drop] at hj
    rw [Nat.zero_add]
    exact hs.rowCell hm hj
  · cases hj
/-- lines whose rows callees have made -/
def RowsIn (N0 : Nat) (f : Nat × Nat × Nat → Pts) (pre : List (Nat × Nat × Nat)) (rs : List Value) (Lr : HL) : Prop := rs.length = pre.length ∧ ∀ (j : Nat) (r : Value) (x : Nat × Nat × Nat), rs[j]? = some r → pre[j]? = some x → r.oneCell' = true ∧ ∃ w3 w4 : World, N0 ≤ w3.heap.size ∧ (∀ p ∈ seg w3 w4, p ∈ Lr) ∧ RdI w3.heap.size w4.heap.size w4 2 r (ptCells (f x))
theorem RowsIn.snoc {N0 : Nat} {f : Nat × Nat × Nat → Pts} {pre : List (Nat × Nat × Nat)} {rs : List Value} {Lr : HL} (h : RowsIn N0 f pre rs Lr) {x : Nat × Nat × Nat} {v : Value} {w3 w4 : World} (h0 : N0 ≤ w3.heap.size) (hv : RdI w3.heap.size w4.heap.size w4 2 v (ptCells (f x))) : RowsIn N0 f (pre ++ [x]) (rs ++ [v]) (Lr ++ seg w3 w4) := by
  obtain ⟨h1, h2⟩ := h
  refine ⟨by simp [h1], fun j r y hr hy => ?_⟩
  by_cases hj : j < rs.length
  · rw [List.getElem?_append_left hj] at hr
    rw [List.getElem?_append_left (by omega)] at hy
    obtain ⟨a1, u3, u4, a0, a2, a3⟩ := h2 j r y hr hy
    exact ⟨a1, u3, u4, a0, fun p hp => List.mem_append_left _ (a2 p hp), a3⟩
  · have hlt := (List.getElem?_eq_some_iff.1 hr).1
    simp at hlt
    obtain rfl : j = rs.length := by omega
    rw [List.getElem?_append_right (Nat.le_refl _), Nat.sub_self] at hr
    rw [h1, List.getElem?_append_right (Nat.le_refl _), Nat.sub_self] at hy
    simp at hr hy
    subst hr hy
    refine ⟨?_, w3, w4, h0, fun p hp => List.mem_append_right _ hp, hv⟩
    obtain ⟨A, n, c, rfl, _⟩ := hv
    rfl
theorem perm5 {Pf Lr Lv T1 T2 S2 : HL} : (Pf ++ (Lr ++ Lv ++ T1 ++ T2) ++ S2).Perm ((Pf ++ (Lr ++ S2 ++ T1 ++ T2)) ++ Lv) := by
  simp only [List.append_assoc]
  refine List.Perm.append_left Pf (List.Perm.append_left Lr ?_)
  have h1 : (Lv ++ ((T1 ++ T2) ++ S2)).Perm (((T1 ++ T2) ++ S2) ++ Lv) := List.perm_append_comm
  have h2 : (((T1 ++ T2) ++ S2) ++ Lv).Perm ((S2 ++ (T1 ++ T2)) ++ Lv) := List.perm_append_comm.append_right Lv
  simpa only [List.append_assoc] using h1.trans h2
end Go.Proofs.Ytbgolbkolcmldaa
