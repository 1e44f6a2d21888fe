/-
  Plain law: a contour that is as thin as may be.
-/
import Derived.Test.YtbgolbkolcmldaaP14
namespace Go.Proofs.Ytbgolbkolcmldaa

theorem two_blk {ls : List Pts} {k : Int} {c1 c2 : Cr} (h : crs ls k = [c1, c2]) (hd : c1.d = c2.d) (hp : 0 < c1.d) (hn : c2.n < c1.n) (ht : c1.t + c2.t = 0) (ht2 : c2.t ≠ 0) : ∃ x, Blk ls x k := by
  have hle : leP c2.p c1.p := by
    unfold leP Cr.p; dsimp only; rw [hd]
    exact Int.mul_le_mul_of_nonneg_right (Int.le_of_lt hn) (by omega)
  have hnle : ¬ leP c1.p c2.p := by
    unfold leP Cr.p; dsimp only; rw [hd]
    intro h2
    have := Int.le_of_mul_le_mul_right h2 (by omega)
    omega
  have hi : IsStr (crs ls k) c2 c1 := by
    rw [h]
    refine ⟨by simp, by simp, ?_, fun p hp h1 h2 => ?_, ?_, hnle⟩
    · simp [Wlt, leP_refl, hle]
    · simp only [List.mem_cons, List.not_mem_nil, or_false] at hp
      rcases hp with rfl | rfl
      · exact absurd (leP_refl _) h2
      · simp [W, leP_refl, hnle, ht2]
    · simp [W, leP_refl, hle]; omega
  have p1 : 0 < c1.p.2 := hp
  have p2 : 0 < c2.p.2 := by show 0 < c2.d; omega
  have hcf : cf c2.p.1 c2.p.2 ≤ cf c1.p.1 c1.p.2 := by
    rw [cf_leP p2]
    exact leP_trans p2 p1 Int.one_pos hle ((cf_leP p1).1 (Int.le_refl _))
  refine ⟨(fillV c2.p.1 c2.p.2 c1.p.1 c1.p.2).1, c2, c1, hi, ?_⟩
  simp only [inS, Bool.and_eq_true, decide_eq_true_eq]
  refine ⟨Int.le_refl _, ?_⟩
  unfold fillV
  split
  · dsimp only; omega
  · dsimp only; omega
theorem crP_of {k : Int} {s : (Int × Int) × (Int × Int)} {e : Edg} (he : edgeV s.1.1 s.1.2 s.2.1 s.2.2 = e) : crP k s = if e.2.1 ≤ 64 * k + 32 ∧ 64 * k + 32 < e.2.2.2.1 then [crOf (64 * k + 32) e] else [] := by
  unfold crP edgeP
  rw [he]
  by_cases h : e.2.1 ≤ 64 * k + 32 ∧ 64 * k + 32 < e.2.2.2.1
  · rw [if_pos h, if_pos (by omega), List.filter_cons_of_pos (by rw [crB_iff]; exact h)]; rfl
  · rw [if_neg h]
    split
    · rw [List.filter_cons_of_neg (by rw [crB_iff]; exact h)]; rfl
    · rfl
theorem edgeV_up {a b c d : Int} (h1 : cut a = a) (h2 : cut b = b) (h3 : cut c = c) (h4 : cut d = d) (h : ¬ d < b) : edgeV a b c d = (a, b, c, d, 1) := by
  unfold edgeV; rw [h1, h2, h3, h4, if_neg h]
theorem edgeV_dn {a b c d : Int} (h1 : cut a = a) (h2 : cut b = b) (h3 : cut c = c) (h4 : cut d = d) (h : d < b) : edgeV a b c d = (c, d, a, b, -1) := by
  unfold edgeV; rw [h1, h2, h3, h4, if_pos h]
def thinL (p q : Int × Int) : List Pts := [[p, (p.1 + 1, p.2), q]]
theorem thin_blk {p q : Int × Int} (hp : -2048 ≤ p.1 ∧ p.1 ≤ 2047 ∧ -2048 ≤ p.2 ∧ p.2 ≤ 2047) (hq : -2048 ≤ q.1 ∧ q.1 ≤ 2047 ∧ -2048 ≤ q.2 ∧ q.2 ≤ 2047) {k : Int} (h1 : min p.2 q.2 ≤ 64 * k + 32) (h2 : 64 * k + 32 < max p.2 q.2) (h3 : 64 * k + 32 ≠ q.2) : ∃ x, Blk (thinL p q) x k := by
  have hs : segs (thinL p q) = [(p, (p.1 + 1, p.2)), ((p.1 + 1, p.2), q), (q, p)] := by simp [segs, thinL, pairs, steps]
  have c1 : cut p.1 = p.1 := cut_id (by omega)
  have c2 : cut p.2 = p.2 := cut_id (by omega)
  have c3 : cut q.1 = q.1 := cut_id (by omega)
  have c4 : cut q.2 = q.2 := cut_id (by omega)
  have c5 : cut (p.1 + 1) = p.1 + 1 := cut_id (by omega)
  have e0 : crP k (p, (p.1 + 1, p.2)) = [] := by
    rw [crP_of (edgeV_up c1 c2 c5 c2 (by (try dsimp only); omega)), if_neg (by (try dsimp only); omega)]
  rcases Int.lt_trichotomy p.2 q.2 with h | h | h
  · have e1 : crP k ((p.1 + 1, p.2), q) = [crOf (64 * k + 32) (p.1 + 1, p.2, q.1, q.2, 1)] := by
      rw [crP_of (edgeV_up c5 c2 c3 c4 (by (try dsimp only); omega)), if_pos (by (try dsimp only); omega)]
    have e2 : crP k (q, p) = [crOf (64 * k + 32) (p.1, p.2, q.1, q.2, -1)] := by
      rw [crP_of (edgeV_dn c3 c4 c1 c2 (by (try dsimp only); omega)), if_pos (by (try dsimp only); omega)]
    have hc : crs (thinL p q) k = [crOf (64 * k + 32) (p.1 + 1, p.2, q.1, q.2, 1), crOf (64 * k + 32) (p.1, p.2, q.1, q.2, -1)] := by
      rw [crs_segs, hs]
      simp only [List.flatMap_cons, List.flatMap_nil, e0, e1, e2]
      rfl
    refine two_blk hc rfl (by show 0 < q.2 - p.2; omega) ?_ (by simp [crOf]) (by simp [crOf])
    show p.1 * (q.2 - p.2) + (q.1 - p.1) * (64 * k + 32 - p.2) < (p.1 + 1) * (q.2 - p.2) + (q.1 - (p.1 + 1)) * (64 * k + 32 - p.2)
    have e3 : (q.1 - (p.1 + 1)) * (64 * k + 32 - p.2) = (q.1 - p.1) * (64 * k + 32 - p.2) - (64 * k + 32 - p.2) := by
      rw [show q.1 - (p.1 + 1) = (q.1 - p.1) - 1 by omega, Int.sub_mul _ 1, Int.one_mul]
    rw [e3, Int.add_mul, Int.one_mul]
    omega
  · omega
  · have e1 : crP k ((p.1 + 1, p.2), q) = [crOf (64 * k + 32) (q.1, q.2, p.1 + 1, p.2, -1)] := by
      rw [crP_of (edgeV_dn c5 c2 c3 c4 (by (try dsimp only); omega)), if_pos (by (try dsimp only); omega)]
    have e2 : crP k (q, p) = [crOf (64 * k + 32) (q.1, q.2, p.1, p.2, 1)] := by
      rw [crP_of (edgeV_up c3 c4 c1 c2 (by (try dsimp only); omega)), if_pos (by (try dsimp only); omega)]
    have hc : crs (thinL p q) k = [crOf (64 * k + 32) (q.1, q.2, p.1 + 1, p.2, -1), crOf (64 * k + 32) (q.1, q.2, p.1, p.2, 1)] := by
      rw [crs_segs, hs]
      simp only [List.flatMap_cons, List.flatMap_nil, e0, e1, e2]
      rfl
    refine two_blk hc rfl (by show 0 < p.2 - q.2; omega) ?_ (by simp [crOf]) (by simp [crOf])
    show q.1 * (p.2 - q.2) + (p.1 - q.1) * (64 * k + 32 - q.2) < q.1 * (p.2 - q.2) + (p.1 + 1 - q.1) * (64 * k + 32 - q.2)
    rw [show p.1 + 1 - q.1 = (p.1 - q.1) + 1 by omega, Int.add_mul, Int.one_mul]
    omega
theorem fill_atW {N : List Pts} (h : ∀ p ∈ N.flatten, -3000 ≤ p.1 ∧ p.1 ≤ 3000 ∧ -3000 ≤ p.2 ∧ p.2 ≤ 3000) (hne : N.flatten ≠ []) (x y : Int) : (fillB N).at x y = true ↔ Blk N x y := by
  have hs : Small N := small_of (-3000) 3000 (-3000) 3000 hne h (by omega) (by omega)
  have hw := box_within _ _ _ _ h (by omega) (by omega) hs
  have hfb := fun x y => fill_black hs.2.1 hs.2.2 x y
  rw [fillB_small hs, at_bmOf fillS_tight (fun x y hb => by
    have := blk_in hs ((hfb x y).1 hb)
    omega), hfb]
/-- the law, row by row -/
theorem thin_law {p q : Int × Int} (hp : -2048 ≤ p.1 ∧ p.1 ≤ 2047 ∧ -2048 ≤ p.2 ∧ p.2 ≤ 2047) (hq : -2048 ≤ q.1 ∧ q.1 ≤ 2047 ∧ -2048 ≤ q.2 ∧ q.2 ≤ 2047) (k : Int) :
    (∀ x, (fillB (thinL p q)).at x k = true → min p.2 q.2 ≤ 64 * k + 32 ∧ 64 * k + 32 ≤ max p.2 q.2) ∧ (min p.2 q.2 ≤ 64 * k + 32 → 64 * k + 32 < max p.2 q.2 → 64 * k + 32 ≠ q.2 → ∃ x, -34 ≤ x ∧ x ≤ 34 ∧ (fillB (thinL p q)).at x k = true) := by
  have hin : ∀ z ∈ (thinL p q).flatten, -2048 ≤ z.1 ∧ z.1 ≤ 2048 ∧ min p.2 q.2 ≤ z.2 ∧ z.2 ≤ max p.2 q.2 := by
    intro z hz
    simp only [thinL, List.flatten_cons, List.flatten_nil, List.append_nil, List.mem_cons, List.not_mem_nil, or_false] at hz
    rcases hz with rfl | rfl | rfl <;> (try dsimp only) <;> omega
  have hin2 : ∀ z ∈ (thinL p q).flatten, -3000 ≤ z.1 ∧ z.1 ≤ 3000 ∧ -3000 ≤ z.2 ∧ z.2 ≤ 3000 := fun z hz => by have := hin z hz; omega
  have hne : (thinL p q).flatten ≠ [] := by simp [thinL]
  have hs : Small (thinL p q) := small_of (-3000) 3000 (-3000) 3000 hne hin2 (by omega) (by omega)
  have hw := box_within _ _ _ _ hin (by omega) (by omega) hs
  have hat := fun x => fill_atW hin2 hne x k
  refine ⟨fun x hx => ?_, fun h1 h2 h3 => ?_⟩
  · have := blk_in hs ((hat x).1 hx)
    omega
  · obtain ⟨x, hx⟩ := thin_blk hp hq h1 h2 h3
    have := blk_in hs hx
    exact ⟨x, by omega, by omega, (hat x).2 hx⟩

end Go.Proofs.Ytbgolbkolcmldaa
