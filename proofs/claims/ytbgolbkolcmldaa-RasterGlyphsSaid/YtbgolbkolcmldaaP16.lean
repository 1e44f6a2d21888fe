/-
  Plain law: contours that lie apart are drawn each by itself.
-/
import Derived.Test.YtbgolbkolcmldaaP15
namespace Go.Proofs.Ytbgolbkolcmldaa

theorem fill_atG {N : List Pts} (h : ∀ p ∈ N.flatten, -20000 ≤ p.1 ∧ p.1 ≤ 20000 ∧ -20000 ≤ p.2 ∧ p.2 ≤ 20000) (x y : Int) : (fillB N).at x y = true ↔ Blk N x y := by
  by_cases hne : N.flatten = []
  · have hb : ¬ Blk N x y := by
      rintro ⟨a, b, hi, _⟩
      obtain ⟨e, he, _⟩ := crs_mem hi.ma
      have h2 : edgesAll N = [] := List.length_eq_zero_iff.1 (Nat.le_zero.1 (by have := edgesAll_le N; rwa [hne] at this))
      rw [h2] at he
      cases he
    rw [fill_none hne]
    constructor
    · intro h2
      rw [at_iff] at h2
      obtain ⟨_, _, _, h0, h1, _⟩ := h2
      have e1 : Bm.nil.X = 0 := rfl
      have e2 : Bm.nil.W = 0 := rfl
      omega
    · exact fun h2 => absurd h2 hb
  · have hs : Small N := small_of (-20000) 20000 (-20000) 20000 hne h (by omega) (by omega)
    have hw := box_within _ _ _ _ h (by omega) (by omega) hs
    have hfb := fun x y => fill_black hs.2.1 hs.2.2 x y
    rw [fillB_small hs, at_bmOf fillS_tight (fun x y hb => by
      have := blk_in hs ((hfb x y).1 hb)
      omega), hfb]
theorem blk_inG {N : List Pts} (h : ∀ p ∈ N.flatten, -20000 ≤ p.1 ∧ p.1 ≤ 20000 ∧ -20000 ≤ p.2 ∧ p.2 ≤ 20000) {x y : Int} (hb : Blk N x y) : -500 ≤ x ∧ x ≤ 500 ∧ -500 ≤ y ∧ y ≤ 500 := by
  by_cases hne : N.flatten = []
  · obtain ⟨a, b, hi, _⟩ := hb
    obtain ⟨e, he, _⟩ := crs_mem hi.ma
    have h2 : edgesAll N = [] := List.length_eq_zero_iff.1 (Nat.le_zero.1 (by have := edgesAll_le N; rwa [hne] at this))
    rw [h2] at he
    cases he
  · have hs : Small N := small_of (-20000) 20000 (-20000) 20000 hne h (by omega) (by omega)
    have hw := box_within _ _ _ _ h (by omega) (by omega) hs
    have := blk_in hs hb
    omega
/-- drawn one over the other -/
theorem over_fill {N A B : List Pts} (hN : ∀ p ∈ N.flatten, -20000 ≤ p.1 ∧ p.1 ≤ 20000 ∧ -20000 ≤ p.2 ∧ p.2 ≤ 20000) (hA : ∀ p ∈ A.flatten, -20000 ≤ p.1 ∧ p.1 ≤ 20000 ∧ -20000 ≤ p.2 ∧ p.2 ≤ 20000) (hB : ∀ p ∈ B.flatten, -20000 ≤ p.1 ∧ p.1 ≤ 20000 ∧ -20000 ≤ p.2 ∧ p.2 ≤ 20000) (h : ∀ x y, Blk N x y ↔ Blk A x y ∨ Blk B x y) : overB (fillB A) (fillB B) 0 0 = fillB N := by
  have hover : overB (fillB A) (fillB B) 0 0 = bmOf (movedS (fillB A) 0 0 ++ movedS (fillB B) 0 0) := by
    unfold overB
    rw [show cut 0 = 0 by decide]
  have hblk : ∀ x y, blackAt (movedS (fillB A) 0 0 ++ movedS (fillB B) 0 0) x y = true ↔ Blk N x y := by
    intro x y
    rw [blackAt_append, moved_black, moved_black, Int.sub_zero, Int.sub_zero, fill_atG hA, fill_atG hB, h]
    constructor
    · rintro (h | h)
      · exact .inl h.1
      · exact .inr h.1
    · rintro (h | h)
      · have := blk_inG hA h
        exact .inl ⟨h, (cut_iff _).2 (by omega), (cut_iff _).2 (by omega)⟩
      · have := blk_inG hB h
        exact .inr ⟨h, (cut_iff _).2 (by omega), (cut_iff _).2 (by omega)⟩
  have ht : ∀ s ∈ movedS (fillB A) 0 0 ++ movedS (fillB B) 0 0, Tight s := fun s hs => by
    rcases List.mem_append.1 hs with hs | hs <;> exact moved_tight _ _ _ s hs
  rw [hover]
  by_cases hne : N.flatten = []
  · rw [fill_none hne]
    refine bmOf_canon ht (ss' := []) (by simp) fun x y => ?_
    rw [hblk]
    constructor
    · rintro ⟨a, b, hi, _⟩
      obtain ⟨e, he, _⟩ := crs_mem hi.ma
      have h2 : edgesAll N = [] := List.length_eq_zero_iff.1 (Nat.le_zero.1 (by have := edgesAll_le N; rwa [hne] at this))
      rw [h2] at he
      cases he
    · intro h2; simp [blackAt] at h2
  · have hs : Small N := small_of (-20000) 20000 (-20000) 20000 hne hN (by omega) (by omega)
    exact (fill_canon hs ht fun x y => (hblk x y).symm).symm

theorem crs_append (a b : List Pts) (k : Int) : crs (a ++ b) k = crs a k ++ crs b k := by rw [crs_segs, segs_append, List.flatMap_append, ← crs_segs, ← crs_segs]
/-- crossings that lie one behind the other -/
theorem str_apart {A B : List Cr} (hA : Pos A) (hB : Pos B) (h : ∀ a ∈ A, ∀ b ∈ B, ¬ leP b.p a.p) (wA : ways A = 0) (a b : Cr) : IsStr (A ++ B) a b ↔ IsStr A a b ∨ IsStr B a b := by
  have eA : ∀ p ∈ A, W (A ++ B) p.p = W A p.p := fun p hp => by rw [W_append, W_none (cs := B) fun c hc => h p hp c hc, Int.add_zero]
  have eB : ∀ p ∈ B, W (A ++ B) p.p = W B p.p := fun p hp => by rw [W_append, W_all (cs := A) fun c hc => le_of_not (h c hc p hp), wA, Int.zero_add]
  have fA : ∀ p ∈ A, Wlt (A ++ B) p.p = Wlt A p.p := fun p hp => by rw [Wlt_append, Wlt_none (cs := B) fun c hc => le_of_not (h p hp c hc), Int.add_zero]
  have fB : ∀ p ∈ B, Wlt (A ++ B) p.p = Wlt B p.p := fun p hp => by rw [Wlt_append, Wlt_all (cs := A) fun c hc => h c hc p hp, wA, Int.zero_add]
  constructor
  · intro hi
    rcases List.mem_append.1 hi.ma with ha | ha
    · rcases List.mem_append.1 hi.mb with hb | hb
      · exact .inl ⟨ha, hb, by rw [← fA a ha]; exact hi.before, fun p hp h1 h2 => by rw [← eA p hp]; exact hi.within p (List.mem_append_left _ hp) h1 h2, by rw [← eA b hb]; exact hi.behind, hi.apart⟩
      · exfalso
        obtain ⟨M, hM, hx⟩ := exists_max A hA (List.ne_nil_of_mem ha)
        refine hi.within M (List.mem_append_left _ hM) (hx a ha) (h M hM b hb) ?_
        rw [eA M hM, W_all hx, wA]
    · rcases List.mem_append.1 hi.mb with hb | hb
      · exact absurd (le_of_not (h b hb a ha)) hi.apart
      · exact .inr ⟨ha, hb, by rw [← fB a ha]; exact hi.before, fun p hp h1 h2 => by rw [← eB p hp]; exact hi.within p (List.mem_append_right _ hp) h1 h2, by rw [← eB b hb]; exact hi.behind, hi.apart⟩
  · rintro (hi | hi)
    · refine ⟨List.mem_append_left _ hi.ma, List.mem_append_left _ hi.mb, by rw [fA a hi.ma]; exact hi.before, fun p hp h1 h2 => ?_, by rw [eA b hi.mb]; exact hi.behind, hi.apart⟩
      rcases List.mem_append.1 hp with hp | hp
      · rw [eA p hp]; exact hi.within p hp h1 h2
      · exact absurd (le_of_not (h b hi.mb p hp)) h2
    · refine ⟨List.mem_append_right _ hi.ma, List.mem_append_right _ hi.mb, by rw [fB a hi.ma]; exact hi.before, fun p hp h1 h2 => ?_, by rw [eB b hi.mb]; exact hi.behind, hi.apart⟩
      rcases List.mem_append.1 hp with hp | hp
      · exact absurd h1 (h p hp a hi.ma)
      · rw [eB p hp]; exact hi.within p hp h1 h2
/-- where a crossing of points within bounds lies -/
theorem crs_bd {N : List Pts} {x0 x1 y0 y1 : Int} (h : ∀ p ∈ N.flatten, x0 ≤ p.1 ∧ p.1 ≤ x1 ∧ y0 ≤ p.2 ∧ p.2 ≤ y1) (hx : -20000 ≤ x0 ∧ x1 ≤ 20000 ∧ -20000 ≤ y0 ∧ y1 ≤ 20000) {k : Int} {c : Cr} (hc : c ∈ crs N k) : x0 * c.d ≤ c.n ∧ c.n ≤ x1 * c.d ∧ y0 ≤ 64 * k + 32 ∧ 64 * k + 32 < y1 := by
  obtain ⟨e, he, hce, rfl⟩ := crs_mem hc
  have hne : N.flatten ≠ [] := fun h0 => by
    have h2 : edgesAll N = [] := List.length_eq_zero_iff.1 (Nat.le_zero.1 (by have := edgesAll_le N; rwa [h0] at this))
    rw [h2] at he
    cases he
  have hs : Small N := small_of x0 x1 y0 y1 hne h (by omega) (by omega)
  have hw := box_within x0 x1 y0 y1 h (by omega) (by omega) hs
  have hin := edge_in he
  have hpl := crOf_in (lx := x0) (hx := x1) (edgesAll_ok he) ((crB_iff _ _).2 hce) (by omega) (by omega) (by omega)
  exact ⟨hpl.lo, hpl.hi, by omega, by omega⟩
theorem apart_blk {l0 l1 : Pts} (h0 : ∀ p ∈ l0, -2048 ≤ p.1 ∧ p.1 ≤ 2047 ∧ -2048 ≤ p.2 ∧ p.2 ≤ 2047) (h1 : (∀ p ∈ l1, 2048 ≤ p.1 ∧ p.1 ≤ 6143 ∧ -2048 ≤ p.2 ∧ p.2 ≤ 2047) ∨ (∀ p ∈ l1, -2048 ≤ p.1 ∧ p.1 ≤ 2047 ∧ 2048 ≤ p.2 ∧ p.2 ≤ 6143)) (x k : Int) : Blk [l0, l1] x k ↔ Blk [l0] x k ∨ Blk [l1] x k := by
  have e : crs [l0, l1] k = crs [l0] k ++ crs [l1] k := crs_append [l0] [l1] k
  have hb0 : ∀ p ∈ ([l0] : List Pts).flatten, -2048 ≤ p.1 ∧ p.1 ≤ 2047 ∧ -2048 ≤ p.2 ∧ p.2 ≤ 2047 := fun p hp => h0 p (by simpa using hp)
  have key : ∀ a b, IsStr (crs [l0] k ++ crs [l1] k) a b ↔ IsStr (crs [l0] k) a b ∨ IsStr (crs [l1] k) a b := by
    intro a b
    rcases h1 with h1 | h1
    · have hb1 : ∀ p ∈ ([l1] : List Pts).flatten, 2048 ≤ p.1 ∧ p.1 ≤ 6143 ∧ -2048 ≤ p.2 ∧ p.2 ≤ 2047 := fun p hp => h1 p (by simpa using hp)
      refine str_apart (crs_pos _ _) (crs_pos _ _) (fun c hc d hd hle => ?_) (ways_zero _ _) a b
      have q1 := crs_bd hb0 (by omega) hc
      have q2 := crs_bd hb1 (by omega) hd
      have p1 := crs_pos _ _ c hc
      have p2 := crs_pos _ _ d hd
      unfold leP Cr.p at hle
      dsimp only at hle
      have a1 := Int.mul_le_mul_of_nonneg_right q1.2.1 (Int.le_of_lt p2)
      have a2 := Int.mul_le_mul_of_nonneg_right q2.1 (Int.le_of_lt p1)
      have a3 : 2048 * d.d * c.d = 2048 * (c.d * d.d) := by rw [Int.mul_assoc, Int.mul_comm d.d]
      have a4 : 2047 * c.d * d.d = 2047 * (c.d * d.d) := Int.mul_assoc ..
      have a5 := Int.mul_pos p1 p2
      omega
    · have hb1 : ∀ p ∈ ([l1] : List Pts).flatten, -2048 ≤ p.1 ∧ p.1 ≤ 2047 ∧ 2048 ≤ p.2 ∧ p.2 ≤ 6143 := fun p hp => h1 p (by simpa using hp)
      refine str_apart (crs_pos _ _) (crs_pos _ _) (fun c hc d hd hle => ?_) (ways_zero _ _) a b
      have q1 := crs_bd hb0 (by omega) hc
      have q2 := crs_bd hb1 (by omega) hd
      omega
  constructor
  · rintro ⟨a, b, hi, hin⟩
    rw [e] at hi
    rcases (key a b).1 hi with hi | hi
    · exact .inl ⟨a, b, hi, hin⟩
    · exact .inr ⟨a, b, hi, hin⟩
  · rintro (⟨a, b, hi, hin⟩ | ⟨a, b, hi, hin⟩)
    · exact ⟨a, b, by rw [e]; exact (key a b).2 (.inl hi), hin⟩
    · exact ⟨a, b, by rw [e]; exact (key a b).2 (.inr hi), hin⟩
theorem apart_law {l0 l1 : Pts} (h0 : ∀ p ∈ l0, -2048 ≤ p.1 ∧ p.1 ≤ 2047 ∧ -2048 ≤ p.2 ∧ p.2 ≤ 2047) (h1 : (∀ p ∈ l1, 2048 ≤ p.1 ∧ p.1 ≤ 6143 ∧ -2048 ≤ p.2 ∧ p.2 ≤ 2047) ∨ (∀ p ∈ l1, -2048 ≤ p.1 ∧ p.1 ≤ 2047 ∧ 2048 ≤ p.2 ∧ p.2 ≤ 6143)) : overB (fillB [l0]) (fillB [l1]) 0 0 = fillB [l0, l1] := by
  have g0 : ∀ p ∈ l0, -20000 ≤ p.1 ∧ p.1 ≤ 20000 ∧ -20000 ≤ p.2 ∧ p.2 ≤ 20000 := fun p hp => by have := h0 p hp; omega
  have g1 : ∀ p ∈ l1, -20000 ≤ p.1 ∧ p.1 ≤ 20000 ∧ -20000 ≤ p.2 ∧ p.2 ≤ 20000 := fun p hp => by
    rcases h1 with h1 | h1 <;> have := h1 p hp <;> omega
  refine over_fill (fun p hp => ?_) (fun p hp => g0 p (by simpa using hp)) (fun p hp => g1 p (by simpa using hp)) fun x y => apart_blk h0 h1 x y
  simp only [List.flatten_cons, List.flatten_nil, List.append_nil, List.mem_append] at hp
  rcases hp with hp | hp
  · exact g0 p hp
  · exact g1 p hp

end Go.Proofs.Ytbgolbkolcmldaa
