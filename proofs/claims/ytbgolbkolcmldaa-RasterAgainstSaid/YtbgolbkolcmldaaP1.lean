/-
  Plain law: how often lines go around a place, edge by edge, is the document's answer.
-/
import Derived.Test.YtbgolbkolcmldaaW20
namespace Go.Proofs.Ytbgolbkolcmldaa

theorem cmpI_le (a b : Int) : cmpI a b ≤ 0 ↔ a ≤ b := by
  unfold cmpI
  split
  · omega
  · split <;> omega
theorem mul_lt_of {a b d : Int} (hd : 0 < d) (h : a < b) : a * d + d ≤ b * d := by
  have := Int.mul_le_mul_of_nonneg_right (show a + 1 ≤ b by omega) (Int.le_of_lt hd)
  rw [Int.add_mul, Int.one_mul] at this
  exact this
theorem less_at {x X n D : Int} (hD : 0 < D) (h0 : 0 ≤ n) (h1 : n < D) : (X * D + n ≤ x * D) ↔ lessP x 0 1 X n D = false := by
  unfold lessP
  by_cases h : x = X
  · subst h
    simp only [ne_eq, not_true_eq_false, if_false, decide_eq_false_iff_not, Int.mul_one, Int.zero_mul]
    omega
  · rw [if_pos h]
    simp only [decide_eq_false_iff_not]
    constructor
    · intro h2 h3
      have := mul_lt_of hD h3
      omega
    · intro h2
      have := mul_lt_of hD (show X < x by omega)
      omega
theorem one_eq (x y : Int) (p q : Int × Int) : windE x y (if (edgeV p.1 p.2 q.1 q.2).2.1 < (edgeV p.1 p.2 q.1 q.2).2.2.2.1 then [edgeV p.1 p.2 q.1 q.2] else []) = rwOne x y p q := by
  have hb := edgeV_bd p.1 p.2 q.1 q.2
  unfold EdgeOk' at hb
  unfold rwOne crossV
  generalize edgeV p.1 p.2 q.1 q.2 = e at hb ⊢
  obtain ⟨ax, ay, bx', by', way⟩ := e
  dsimp only at hb ⊢
  by_cases hin : ay ≤ y ∧ y < by'
  · rw [if_pos (show ay < by' by omega), if_neg (show ¬(ay > y ∨ y ≥ by') by omega)]
    have hD : 0 < by' - ay := by omega
    have h0 := Int.emod_nonneg ((y - ay) * (bx' - ax)) (b := by' - ay) (by omega)
    have h1 := Int.emod_lt_of_pos ((y - ay) * (bx' - ax)) (b := by' - ay) (by omega)
    have h2 := Int.mul_ediv_add_emod ((y - ay) * (bx' - ax)) (by' - ay)
    have key := less_at (x := x) (X := ax + (y - ay) * (bx' - ax) / (by' - ay)) hD h0 h1
    have hN : atN (ax, ay, bx', by', way) y * 1 = (ax + (y - ay) * (bx' - ax) / (by' - ay)) * (by' - ay) + (y - ay) * (bx' - ax) % (by' - ay) := by
      simp only [atN, Int.mul_one, Int.add_mul]
      rw [Int.mul_comm (bx' - ax), Int.mul_comm (_ / _), Int.add_assoc, h2]
    simp only [windE, List.map_cons, List.map_nil, List.sum_cons, List.sum_nil, Int.add_zero, windOne, cmpI_le]
    rw [hN]
    have hw : way ≠ 0 := by omega
    by_cases hk : lessP x 0 1 (ax + (y - ay) * (bx' - ax) / (by' - ay)) ((y - ay) * (bx' - ax) % (by' - ay)) (by' - ay) = false
    · rw [if_pos ⟨by simp [hin.1, hin.2], key.2 hk⟩, if_pos ⟨hw, hk⟩]
    · rw [if_neg fun h => hk (key.1 h.2), if_neg fun h => hk h.2]
  · rw [if_pos (show (ay > y ∨ y ≥ by') by omega)]
    simp only [ne_eq, not_true_eq_false, false_and, if_false]
    split
    · simp only [windE, List.map_cons, List.map_nil, List.sum_cons, List.sum_nil, Int.add_zero, windOne]
      rw [if_neg]
      simp only [Bool.and_eq_true, decide_eq_true_eq]
      exact fun h => hin h.1
    · rfl
theorem windE_append (x y : Int) (a b : List Edg) : windE x y (a ++ b) = windE x y a + windE x y b := by
  simp [windE, List.sum_append]
theorem at_eq (x y : Int) (l : Pts) (k : Nat) : windE x y (edgeAt l k) = rwAt x y l k := by
  unfold edgeAt rwAt
  split
  · rename_i p q h1 h2
    rw [h1, h2]
    exact one_eq x y p q
  · rename_i h
    split
    · rename_i p q h1 h2
      exact absurd h2 (h p q h1)
    · rfl
theorem to_eq (x y : Int) (l : Pts) : ∀ k, windE x y (edgesTo l k) = rwTo x y l k
  | 0 => rfl
  | k + 1 => by rw [edgesTo_succ, windE_append, to_eq x y l k, at_eq, rwTo]
theorem all_eq (x y : Int) : ∀ ls : List Pts, windE x y (edgesAll ls) = rwAll x y ls
  | [] => rfl
  | l :: ls => by
    rw [edgesAll, List.flatMap_cons, windE_append, rwAll]
    rw [show windE x y (edgesOf l) = rwTo x y l l.length from to_eq x y l l.length]
    rw [show windE x y (ls.flatMap edgesOf) = rwAll x y ls from all_eq x y ls]
/-- the winding is the document's -/
theorem wind_eq (ls : List Pts) (x y : Int) : wind ls x y = rwAll (cut x) (cut y) ls := all_eq _ _ ls

end Go.Proofs.Ytbgolbkolcmldaa
