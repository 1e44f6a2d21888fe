/-
  Plain law: how great bitmaps of lines may be.
-/
import Derived.Test.YtbgolbkolcmldaaP9
namespace Go.Proofs.Ytbgolbkolcmldaa

theorem bmOf_small (ss : List Sp) : (bmOf ss).small := by
  cases ss with
  | nil => exact ⟨by simp [bmOf, Bm.nil], by simp [bmOf, Bm.nil]⟩
  | cons s ss =>
    simp only [bmOf]
    generalize bxOf s (s :: ss) = q
    unfold bmIn
    split
    · exact ⟨by simp [Bm.nil], by simp [Bm.nil]⟩
    · rename_i h
      refine ⟨by dsimp only; rw [List.length_map, List.length_range]; omega, fun r hr => ?_⟩
      obtain ⟨m, _, rfl⟩ := List.mem_map.1 hr
      rw [rowB_size]; omega
theorem fill_small (ls : List Pts) : (fillB ls).small := by
  unfold fillB
  split
  · exact ⟨by simp [Bm.nil], by simp [Bm.nil]⟩
  · exact bmOf_small _
theorem bmOf_bd {ss : List Sp} (ht : ∀ s ∈ ss, Tight s) (hb : ∀ x y, blackAt ss x y = true → -500 ≤ x ∧ x ≤ 500 ∧ -500 ≤ y ∧ y ≤ 500) : -500 ≤ (bmOf ss).X ∧ (bmOf ss).X ≤ 500 ∧ -500 ≤ (bmOf ss).Y ∧ (bmOf ss).Y ≤ 500 := by
  cases ss with
  | nil => simp [bmOf, Bm.nil]
  | cons s0 ss =>
    have hq := bxOf_isBox ht
    simp only [bmOf]
    generalize bxOf s0 (s0 :: ss) = q at hq ⊢
    obtain ⟨y1, b1⟩ := hq.l; obtain ⟨x3, b3⟩ := hq.b
    have l1 := hb _ _ b1; have l3 := hb _ _ b3
    unfold bmIn
    split
    · simp [Bm.nil]
    · dsimp only; omega
theorem fill_bd {N : List Pts} (h : ∀ p ∈ N.flatten, -2048 ≤ p.1 ∧ p.1 ≤ 2047 ∧ -2048 ≤ p.2 ∧ p.2 ≤ 2047) : -500 ≤ (fillB N).X ∧ (fillB N).X ≤ 500 ∧ -500 ≤ (fillB N).Y ∧ (fillB N).Y ≤ 500 := by
  by_cases hne : N.flatten = []
  · rw [fill_none hne]; simp [Bm.nil]
  · have hs := near_small h hne
    have hw := box_within _ _ _ _ h (by omega) (by omega) hs
    rw [fillB_small hs]
    refine bmOf_bd fillS_tight fun x y hb => ?_
    have := blk_in hs ((fill_black hs.2.1 hs.2.2 x y).1 hb)
    omega

end Go.Proofs.Ytbgolbkolcmldaa
