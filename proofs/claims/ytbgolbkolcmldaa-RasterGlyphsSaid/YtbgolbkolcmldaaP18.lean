/-
  Plain law: places as the document writes them; stretches without a centre.
-/
import Derived.Test.YtbgolbkolcmldaaP16
namespace Go.Proofs.Ytbgolbkolcmldaa

def ofPc (c : Pc) : Cr := ⟨c.1 * c.2.2.1 + c.2.1, c.2.2.1, c.2.2.2⟩
theorem of_to {c : Cr} (h : 0 < c.d) : ofPc (toPc c) = c := by
  unfold ofPc toPc
  dsimp only
  have := Int.mul_ediv_add_emod c.n c.d
  rw [Int.mul_comm (c.n / c.d), this]
/-- a place as the document writes it -/
structure PcOk (c : Pc) : Prop where
  n : 0 ≤ c.2.1 ∧ c.2.1 < c.2.2.1
  d : c.2.2.1 ≤ 65536
  x : -20000 ≤ c.1 ∧ c.1 ≤ 20000
  t : c.2.2.2 = 1 ∨ c.2.2.2 = -1
theorem lessC_iff {c c' : Pc} (h : PcOk c) (h' : PcOk c') : lessC c c' = true ↔ ¬ leP (ofPc c').p (ofPc c).p := by
  have h1 := h.n
  have h2 := h'.n
  obtain ⟨x, n, d, t⟩ := c
  obtain ⟨x', n', d', t'⟩ := c'
  simp only at h1 h2
  unfold lessC lessP leP ofPc Cr.p
  dsimp only
  have e1 : (x' * d' + n') * d = x' * (d * d') + n' * d := by rw [Int.add_mul, Int.mul_assoc, Int.mul_comm d']
  have e2 : (x * d + n) * d' = x * (d * d') + n * d' := by rw [Int.add_mul, Int.mul_assoc]
  rw [e1, e2]
  have hD : 0 < d * d' := Int.mul_pos (by omega) (by omega)
  have b1 : 0 ≤ n * d' := Int.mul_nonneg (by omega) (by omega)
  have b2 : 0 ≤ n' * d := Int.mul_nonneg (by omega) (by omega)
  have b3 : n * d' < d * d' := Int.mul_lt_mul_of_pos_right (by omega) (by omega)
  have b4 : n' * d < d * d' := by rw [Int.mul_comm d]; exact Int.mul_lt_mul_of_pos_right (by omega) (by omega)
  by_cases hx : x = x'
  · subst hx
    rw [if_neg (by simp)]
    simp only [decide_eq_true_eq]
    omega
  · rw [if_pos hx]
    simp only [decide_eq_true_eq]
    constructor
    · intro hlt
      have := mul_lt_of hD hlt
      omega
    · intro hn
      refine Classical.byContradiction fun h5 => hn ?_
      have := mul_lt_of hD (show x' < x by omega)
      omega
theorem lessC_centre {c : Pc} (h : PcOk c) (k : Int) : lessP (64 * k + 32) 0 1 c.1 c.2.1 c.2.2.1 = true ↔ k < cf (ofPc c).n (ofPc c).d := by
  have h1 := h.n
  have hd : 0 < (ofPc c).d := by show 0 < c.2.2.1; omega
  have h2 := less_at (x := 64 * k + 32) (X := c.1) (n := c.2.1) (D := c.2.2.1) (by omega) h1.1 h1.2
  have h3 := cf_le_iff (n := (ofPc c).n) (e := (ofPc c).d) (c := k) hd
  have e : (ofPc c).n = c.1 * c.2.2.1 + c.2.1 := rfl
  have e2 : (ofPc c).d = c.2.2.1 := rfl
  rw [e, e2] at h3 ⊢
  cases hl : lessP (64 * k + 32) 0 1 c.1 c.2.1 c.2.2.1 with
  | true =>
    simp only [true_iff]
    refine Classical.byContradiction fun h5 => ?_
    have := h2.1 (h3.1 (by omega))
    rw [hl] at this
    cases this
  | false =>
    simp only [Bool.false_eq_true, false_iff]
    have := h3.2 (h2.2 hl)
    omega
theorem sum_floor {a b : Pc} (ha : PcOk a) (hb : PcOk b) : md (ofPc a).n (ofPc a).d (ofPc b).n (ofPc b).d = (a.1 + b.1 + (if a.2.2.1 * b.2.2.1 ≤ a.2.1 * b.2.2.1 + b.2.1 * a.2.2.1 then 1 else 0)) / 128 := by
  have h1 := ha.n
  have h2 := hb.n
  obtain ⟨x, n, d, t⟩ := a
  obtain ⟨x', n', d', t'⟩ := b
  simp only at h1 h2 ⊢
  unfold md ofPc
  dsimp only
  have hD : 0 < d * d' := Int.mul_pos (by omega) (by omega)
  have b1 : 0 ≤ n * d' := Int.mul_nonneg (by omega) (by omega)
  have b2 : 0 ≤ n' * d := Int.mul_nonneg (by omega) (by omega)
  have b3 : n * d' < d * d' := Int.mul_lt_mul_of_pos_right (by omega) (by omega)
  have b4 : n' * d < d * d' := by rw [Int.mul_comm d]; exact Int.mul_lt_mul_of_pos_right (by omega) (by omega)
  have e : (x * d + n) * d' + (x' * d' + n') * d = (x + x') * (d * d') + (n * d' + n' * d) := by
    rw [Int.add_mul, Int.add_mul, Int.add_mul, Int.mul_assoc, Int.mul_assoc, Int.mul_comm d' d]; omega
  rw [e, show (128 : Int) * d * d' = (d * d') * 128 by rw [Int.mul_assoc, Int.mul_comm], ← Int.ediv_ediv_of_nonneg (Int.le_of_lt hD)]
  congr 1
  rw [Int.add_comm, Int.add_mul_ediv_right _ _ (by omega)]
  split
  · rename_i hc
    have : (n * d' + n' * d) / (d * d') = 1 := by
      rw [show n * d' + n' * d = (n * d' + n' * d - d * d') + 1 * (d * d') by omega, Int.add_mul_ediv_right _ _ (by omega), Int.ediv_eq_zero_of_lt (by omega) (by omega)]
      rfl
    omega
  · rename_i hc
    rw [Int.ediv_eq_zero_of_lt (by omega) (by omega)]; omega
theorem strs_zero : ∀ (n : Nat) (l : List Cr) (f f' : Place), l.length ≤ n → strs l 0 f = strs l 0 f'
  | _, [], f, f', _ => by rw [strs, strs]
  | 0, c :: r, f, f', h => by simp at h
  | n + 1, c :: r, f, f', h => by
    have hlen := takeRun_len c r (0 + c.t)
    rw [strs, strs]
    simp only [ne_eq, not_true_eq_false, false_and, if_false, List.nil_append, true_and]
    by_cases h0 : (takeRun c r (0 + c.t)).1 = 0
    · rw [h0]
      simp only [not_true_eq_false, if_false]
      exact strs_zero n _ _ _ (by simp at h; omega)
    · rw [if_pos h0, if_pos h0]
/-- the columns of stretches without a centre -/
def drOne (st : Place × Place) : List Int := if cf st.1.1 st.1.2 = cf st.2.1 st.2.2 then [md st.1.1 st.1.2 st.2.1 st.2.2] else []
def dr (l : List (Place × Place)) : List Int := l.flatMap drOne
end Go.Proofs.Ytbgolbkolcmldaa
