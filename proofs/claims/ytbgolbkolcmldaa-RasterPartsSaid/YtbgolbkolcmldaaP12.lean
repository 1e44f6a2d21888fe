/-
  Plain law: the pixels of a box; boxes side by side.
-/
import Derived.Test.YtbgolbkolcmldaaP9
namespace Go.Proofs.Ytbgolbkolcmldaa

theorem box_edges {x0 x1 H : Int} (hx : -268435456 ≤ x0 ∧ x0 ≤ 268435456) (hx1 : -268435456 ≤ x1 ∧ x1 ≤ 268435456) (hH : 0 < H ∧ H ≤ 268435456) : edgesAll [boxL x0 0 (x1 - x0) H] = [(x1, 0, x1, H, 1), (x0, 0, x0, H, -1)] := by
  have e1 : boxL x0 0 (x1 - x0) H = [(x0, 0), (x1, 0), (x1, H), (x0, H)] := by
    simp only [boxL]
    rw [show x0 + (x1 - x0) = x1 by omega, Int.zero_add]
  have c0 : cut 0 = 0 := by decide
  have c1 := cut_id hx; have c2 := cut_id hx1; have c3 : cut H = H := cut_id (by omega)
  rw [edgesAll_segs, e1, segs_one']
  simp only [pairs, steps, List.cons_append, List.nil_append, List.flatMap_cons, List.flatMap_nil, edgeP, edgeV, c0, c1, c2, c3]
  have h1 : ¬ H < 0 := by omega
  simp [h1, hH.1]
where
  segs_one' : segs [[(x0, 0), (x1, 0), (x1, H), (x0, H)]] = pairs [(x0, 0), (x1, 0), (x1, H), (x0, H)] := by simp [segs]
theorem rowOf_le {x c : Int} : rowOf x ≤ c ↔ x ≤ 64 * c + 32 := by unfold rowOf; omega
theorem cf_mul {x H : Int} (hH : 0 < H) : cf (x * H) H = rowOf x := by
  refine int_eq_of_le fun c => ?_
  rw [cf_le_iff hH, rowOf_le]
  exact ⟨fun h => Int.le_of_mul_le_mul_right h hH, fun h => Int.mul_le_mul_of_nonneg_right h (Int.le_of_lt hH)⟩
theorem box_blk {x0 x1 : Int} {h : Int} (hx : -268435456 ≤ x0 ∧ x0 ≤ 268435456) (hx1 : -268435456 ≤ x1 ∧ x1 ≤ 268435456) (hh : 0 < h ∧ h ≤ 1000) (hc : rowOf x0 < rowOf x1) (x k : Int) : Blk [boxL x0 0 (x1 - x0) (64 * h)] x k ↔ (0 ≤ k ∧ k < h) ∧ rowOf x0 ≤ x ∧ x < rowOf x1 := by
  have hE := box_edges hx hx1 (H := 64 * h) (by omega)
  have hlt : x0 < x1 := by unfold rowOf at hc; omega
  have hH : 0 < 64 * h := by omega
  generalize hHH : 64 * h = H at *
  by_cases hk : 0 ≤ k ∧ k < h
  · have hcr : crs [boxL x0 0 (x1 - x0) H] k = [⟨x1 * H, H, 1⟩, ⟨x0 * H, H, -1⟩] := by
      unfold crs
      rw [hE, List.filter_cons_of_pos, List.filter_cons_of_pos]
      · simp [crOf, atN, atD]
      · rw [crB_iff]; dsimp only; omega
      · rw [crB_iff]; dsimp only; omega
    have hle : leP (x0 * H, H) (x1 * H, H) := by
      unfold leP; dsimp only
      exact Int.mul_le_mul_of_nonneg_right (Int.mul_le_mul_of_nonneg_right (Int.le_of_lt hlt) (Int.le_of_lt hH)) (Int.le_of_lt hH)
    have hnle : ¬ leP (x1 * H, H) (x0 * H, H) := by
      unfold leP; dsimp only
      intro h2
      have := Int.le_of_mul_le_mul_right (Int.le_of_mul_le_mul_right h2 hH) hH
      omega
    have hin : inS ((x0 * H, H), (x1 * H, H)) x = true ↔ rowOf x0 ≤ x ∧ x < rowOf x1 := by
      simp only [inS, fillV, cf_mul hH, Bool.and_eq_true, decide_eq_true_eq]
      rw [if_neg (by omega)]
    constructor
    · rintro ⟨a, b, hi, hb⟩
      refine ⟨hk, hin.1 ?_⟩
      have ha := hi.ma
      have hbm := hi.mb
      have hap := hi.apart
      rw [hcr] at ha hbm
      simp only [List.mem_cons, List.not_mem_nil, or_false] at ha hbm
      rcases ha with rfl | rfl <;> rcases hbm with rfl | rfl
      · exact absurd (leP_refl _) hap
      · exact absurd hle hap
      · exact hb
      · exact absurd (leP_refl _) hap
    · rintro ⟨_, hx'⟩
      refine ⟨⟨x0 * H, H, -1⟩, ⟨x1 * H, H, 1⟩, ?_, hin.2 hx'⟩
      rw [hcr]
      refine ⟨by simp, by simp, ?_, fun p hp h1 h2 => ?_, ?_, hnle⟩
      · simp [Wlt, Cr.p, leP_refl, hle]
      · simp only [List.mem_cons, List.not_mem_nil, or_false] at hp
        rcases hp with rfl | rfl
        · exact absurd (leP_refl _) h2
        · simp [W, Cr.p, leP_refl, hnle]
      · simp [W, Cr.p, leP_refl, hle]
  · have hcr : crs [boxL x0 0 (x1 - x0) H] k = [] := by
      unfold crs
      rw [hE, List.filter_cons_of_neg, List.filter_cons_of_neg]
      · rfl
      · rw [crB_iff]; dsimp only; omega
      · rw [crB_iff]; dsimp only; omega
    constructor
    · rintro ⟨a, b, hi, _⟩
      have := hi.ma
      rw [hcr] at this
      cases this
    · exact fun h2 => absurd h2.1 hk

/-- strips of a box -/
def rS (lf : Int) (wd h : Nat) : List Sp := (List.range h).map fun (k : Nat) => ⟨lf, (k : Int), rowB wd fun _ => true⟩
theorem rS_tight {lf : Int} {wd h : Nat} (hw : 1 ≤ wd) : ∀ s ∈ rS lf wd h, Tight s := by
  intro s hs
  obtain ⟨k, _, rfl⟩ := List.mem_map.1 hs
  refine ⟨by rw [rowB_size]; exact hw, by rw [rowB_bk]; simp; omega, ?_⟩
  rw [rowB_bk, rowB_size]; simp; omega
theorem rS_black (lf : Int) (wd h : Nat) (x y : Int) : blackAt (rS lf wd h) x y = true ↔ (0 ≤ y ∧ y < h) ∧ lf ≤ x ∧ x < lf + wd := by
  rw [blackAt_iff]
  constructor
  · rintro ⟨s, hs, h1, h2, h3⟩
    obtain ⟨k, hk, rfl⟩ := List.mem_map.1 hs
    rw [List.mem_range] at hk
    rw [rowB_bk] at h3
    simp at h3 h1 h2
    omega
  · rintro ⟨⟨h1, h2⟩, h3, h4⟩
    refine ⟨_, List.mem_map.2 ⟨y.toNat, List.mem_range.2 (by omega), rfl⟩, by dsimp only; omega, h3, ?_⟩
    rw [rowB_bk]; simp; omega
theorem rS_bm (lf : Int) (wd h : Nat) (hw : 1 ≤ wd ∧ wd ≤ 1024) (hh : 1 ≤ h ∧ h ≤ 1024) : (bmOf (rS lf wd h)).X = lf ∧ (bmOf (rS lf wd h)).W = wd ∧ (bmOf (rS lf wd h)).H = h := by
  obtain ⟨s0, ss, hS⟩ : ∃ s0 ss, rS lf wd h = s0 :: ss := by
    cases hr : rS lf wd h with
    | nil =>
      have := congrArg List.length hr
      simp [rS] at this
      omega
    | cons s0 ss => exact ⟨s0, ss, rfl⟩
  have hq := bxOf_isBox (s0 := s0) (ss := ss) (fun s hs => rS_tight hw.1 s (by rw [hS]; exact hs))
  rw [← hS] at hq
  have hq2 : IsBox (fun x y => blackAt (rS lf wd h) x y = true) (lf, lf + wd - 1, 0, (h : Int) - 1) := by
    refine ⟨fun x y hb => ?_, ⟨0, ?_⟩, ⟨0, ?_⟩, ⟨lf, ?_⟩, ⟨lf, ?_⟩⟩
    · have := (rS_black _ _ _ _ _).1 hb
      dsimp only; omega
    all_goals rw [rS_black]; dsimp only; omega
  have e : bmOf (rS lf wd h) = bmIn (rS lf wd h) (lf, lf + wd - 1, 0, (h : Int) - 1) := by
    have e2 : bmOf (rS lf wd h) = bmIn (rS lf wd h) (bxOf s0 (rS lf wd h)) := by rw [hS]; rfl
    rw [e2, hq.eq hq2]
  rw [e]
  unfold bmIn
  dsimp only
  rw [if_neg (by omega)]
  dsimp only
  omega
theorem box_fill {x0 x1 : Int} {h : Nat} (hx : -1000 ≤ x0 ∧ x0 ≤ 10000) (hx1 : -1000 ≤ x1 ∧ x1 ≤ 10000) (hh : 0 < h ∧ h ≤ 100) (hc : rowOf x0 < rowOf x1) : fillB [boxL x0 0 (x1 - x0) (64 * h)] = bmOf (rS (rowOf x0) (rowOf x1 - rowOf x0).toNat h) := by
  have hlt : x0 < x1 := by unfold rowOf at hc; omega
  have hs : Small [boxL x0 0 (x1 - x0) (64 * h)] := small_of x0 x1 0 (64 * h) (by simp [boxL]) (fun p hp => by
    simp [boxL] at hp
    rcases hp with rfl | rfl | rfl | rfl <;> dsimp only <;> omega) (by omega) (by omega)
  refine fill_canon hs (rS_tight (by omega)) fun x y => ?_
  rw [box_blk (by omega) (by omega) (by omega) hc, rS_black]
  omega
theorem parts_law {x w : Int} {h : Nat} (hw : 3 ≤ w ∧ w ≤ 22) (hh : 1 ≤ h ∧ h ≤ 20) (hx : 64 ≤ x ∧ x ≤ 64 * w - 64) :
    overB (fillB [boxL 0 0 x (64 * h)]) (fillB [boxL x 0 (64 * w - x) (64 * h)]) 0 0 = fillB [boxL 0 0 (64 * w) (64 * h)] ∧ (fillB [boxL 0 0 (64 * w) (64 * h)]).W = w ∧ (fillB [boxL 0 0 (64 * w) (64 * h)]).H = h ∧ (fillB [boxL 0 0 x (64 * h)]).W + (fillB [boxL x 0 (64 * w - x) (64 * h)]).W = w ∧ (fillB [boxL x 0 (64 * w - x) (64 * h)]).X = (fillB [boxL 0 0 x (64 * h)]).W ∧ 0 ≤ (fillB [boxL 0 0 x (64 * h)]).W ∧ (fillB [boxL 0 0 x (64 * h)]).W ≤ 100 ∧ 0 ≤ (fillB [boxL x 0 (64 * w - x) (64 * h)]).W ∧ (fillB [boxL x 0 (64 * w - x) (64 * h)]).W ≤ 100 := by
  have r0 : rowOf 0 = 0 := by decide
  have rw_ : rowOf (64 * w) = w := by unfold rowOf; omega
  have rx : 1 ≤ rowOf x ∧ rowOf x ≤ w - 1 := by unfold rowOf; omega
  have ea := box_fill (x0 := 0) (x1 := x) (h := h) (by omega) (by omega) (by omega) (by omega)
  have eb := box_fill (x0 := x) (x1 := 64 * w) (h := h) (by omega) (by omega) (by omega) (by omega)
  have ec := box_fill (x0 := 0) (x1 := 64 * w) (h := h) (by omega) (by omega) (by omega) (by omega)
  rw [Int.sub_zero] at ea ec
  rw [ea, eb, ec, r0, rw_]
  obtain ⟨a1, a2, a3⟩ := rS_bm 0 (rowOf x - 0).toNat h (by omega) (by omega)
  obtain ⟨b1, b2, b3⟩ := rS_bm (rowOf x) (w - rowOf x).toNat h (by omega) (by omega)
  obtain ⟨c1, c2, c3⟩ := rS_bm 0 (w - 0).toNat h (by omega) (by omega)
  refine ⟨?_, by omega, by omega, by omega, by omega, by omega, by omega, by omega, by omega⟩
  have bd : ∀ (lf : Int) (wd : Nat), 0 ≤ lf → lf + wd ≤ 100 → ∀ x y, blackAt (rS lf wd h) x y = true → -500 ≤ x ∧ x ≤ 500 ∧ -500 ≤ y ∧ y ≤ 500 := fun lf wd h1 h2 x y hb => by
    have := (rS_black _ _ _ _ _).1 hb
    omega
  unfold overB
  rw [show cut 0 = 0 by decide]
  refine bmOf_canon (fun s hs => ?_) (rS_tight (by omega)) fun X Y => ?_
  · rcases List.mem_append.1 hs with hs | hs <;> exact moved_tight _ _ _ s hs
  · rw [blackAt_append, moved_black, moved_black, Int.sub_zero, Int.sub_zero, at_bmOf (rS_tight (by omega)) (bd _ _ (by omega) (by omega)), at_bmOf (rS_tight (by omega)) (bd _ _ (by omega) (by omega)), rS_black, rS_black, rS_black, cut_iff, cut_iff]
    omega

end Go.Proofs.Ytbgolbkolcmldaa
