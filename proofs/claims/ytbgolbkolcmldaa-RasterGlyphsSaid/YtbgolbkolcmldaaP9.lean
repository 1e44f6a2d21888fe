/-
  Plain law: the pixels of a bitmap, of strips, of a bitmap that is moved.
-/
import Derived.Test.YtbgolbkolcmldaaGP
namespace Go.Proofs.Ytbgolbkolcmldaa

theorem strip_black (t : ByteArray) (x0 y0 x y : Int) : blackAt (if firstIdx t 35 < 0 then [] else [⟨x0 + firstIdx t 35, y0, trim t⟩]) x y = true ↔ y0 = y ∧ x0 ≤ x ∧ bk t (x - x0).toNat = true := by
  rw [blackAt_iff]
  split
  · rename_i h
    rcases firstIdx_spec t with ⟨_, h2⟩ | ⟨f, h1, _⟩
    · constructor
      · rintro ⟨s, hs, _⟩; cases hs
      · rintro ⟨_, _, h6⟩; rw [h2] at h6; cases h6
    · omega
  · rename_i h
    rcases firstIdx_spec t with ⟨h1, _⟩ | ⟨f, h1, h2, h3, h4⟩
    · omega
    · obtain ⟨_, key⟩ := trim_bk h1
      simp only [List.mem_singleton, exists_eq_left, h1]
      constructor
      · rintro ⟨h5, h6, h7⟩
        rw [key] at h7
        refine ⟨h5, by omega, ?_⟩
        rw [show (x - x0).toNat = f + (x - (x0 + f)).toNat by omega]
        exact h7
      · rintro ⟨h5, h6, h8⟩
        have hf : f ≤ (x - x0).toNat := by
          rcases Nat.lt_or_ge (x - x0).toNat f with h9 | h9
          · rw [h4 _ h9] at h8; cases h8
          · exact h9
        refine ⟨h5, by omega, ?_⟩
        rw [key, show f + (x - (x0 + f)).toNat = (x - x0).toNat by omega]
        exact h8
theorem strip_tight (t : ByteArray) (x0 y0 : Int) : ∀ s ∈ (if firstIdx t 35 < 0 then [] else [(⟨x0 + firstIdx t 35, y0, trim t⟩ : Sp)]), Tight s := by
  intro s hs
  split at hs
  · cases hs
  · simp only [List.mem_singleton] at hs
    subst hs
    obtain ⟨q, _⟩ := trim_bk (s := t) (f := (firstIdx t 35).toNat) (by omega)
    exact ⟨q.pos, q.left, q.right⟩
theorem at_iff (B : Bm) (x y : Int) : B.at x y = true ↔ B.near = true ∧ cut x = x ∧ cut y = y ∧ B.X ≤ x ∧ x - B.X < B.W ∧ 0 ≤ B.Y + B.H - 1 - y ∧ B.Y + B.H - 1 - y < B.H ∧ ∃ row, B.rows[(B.Y + B.H - 1 - y).toNat]? = some row ∧ bk row (x - B.X).toNat = true := by
  unfold Bm.at
  simp only [Bool.and_eq_true, decide_eq_true_eq]
  constructor
  · rintro ⟨⟨⟨⟨⟨⟨⟨h1, h2⟩, h3⟩, h4⟩, h5⟩, h6⟩, h7⟩, h8⟩
    refine ⟨h1, h2, h3, h4, h5, h6, h7, ?_⟩
    split at h8
    · rename_i row hr; exact ⟨row, hr, h8⟩
    · cases h8
  · rintro ⟨h1, h2, h3, h4, h5, h6, h7, row, hr, h8⟩
    refine ⟨⟨⟨⟨⟨⟨⟨h1, h2⟩, h3⟩, h4⟩, h5⟩, h6⟩, h7⟩, ?_⟩
    rw [hr]; exact h8
theorem cut_iff (n : Int) : cut n = n ↔ -268435456 ≤ n ∧ n ≤ 268435456 := by unfold cut; omega
theorem extract_bk (s : ByteArray) (a b i : Nat) (hb : b ≤ s.size) : bk (s.extract a b) i = (decide (a + i < b) && bk s (a + i)) := by
  rcases Nat.lt_or_ge (a + i) b with h | h
  · rw [ba_extract s a b i hb h]; simp [h]
  · have h1 : (s.extract a b).size = b - a := by rw [ByteArray.size_extract]; omega
    rw [bk_ge (by omega)]
    have : ¬ a + i < b := by omega
    simp [this]
theorem mvRow_black (B : Bm) (dx dy : Int) (m : Nat) (row : ByteArray) (x y : Int) : blackAt (mvRow B dx dy m row) x y = true ↔ y - dy = B.Y + B.H - 1 - m ∧ cut (y - dy) = y - dy ∧ cut y = y ∧ B.X ≤ x - dx ∧ x - dx - B.X < B.W ∧ cut (x - dx) = x - dx ∧ cut x = x ∧ bk row (x - dx - B.X).toNat = true := by
  unfold mvRow
  by_cases h1 : cut (B.Y + B.H - 1 - m) ≠ B.Y + B.H - 1 - m ∨ cut (B.Y + B.H - 1 - m + dy) ≠ B.Y + B.H - 1 - m + dy
  · rw [if_pos h1]
    simp only [blackAt, List.any_nil, Bool.false_eq_true, false_iff]
    rintro ⟨h2, h3, h4, _⟩
    rw [h2] at h3
    rw [show y = B.Y + B.H - 1 - m + dy by omega] at h4
    rcases h1 with h1 | h1
    · exact h1 h3
    · exact h1 h4
  · rw [if_neg h1]
    simp only [not_or, Decidable.not_not] at h1
    by_cases h2 : mvTo B dx row ≤ mvFrom B dx
    · rw [if_pos h2]
      simp only [blackAt, List.any_nil, Bool.false_eq_true, false_iff]
      rintro ⟨_, _, _, h3, h4, h5, h6, h7⟩
      have := bk_lt h7
      rw [cut_iff] at h5 h6
      unfold mvTo mvFrom at h2
      omega
    · rw [if_neg h2, strip_black]
      have hf0 : 0 ≤ mvFrom B dx := by unfold mvFrom; omega
      have ht0 : mvTo B dx row ≤ row.size := by unfold mvTo; omega
      rw [extract_bk _ _ _ _ (by omega)]
      simp only [Bool.and_eq_true, decide_eq_true_eq]
      constructor
      · rintro ⟨h3, h4, h5, h6⟩
        have e : (mvFrom B dx).toNat + (x - (B.X + dx + mvFrom B dx)).toNat = (x - dx - B.X).toNat := by omega
        rw [e] at h5 h6
        have hb := bk_lt h6
        have q1 : -268435456 ≤ x - dx ∧ -268435456 ≤ x ∧ B.X ≤ x - dx := by unfold mvFrom at h4; omega
        have q2 : x - dx ≤ 268435456 ∧ x ≤ 268435456 ∧ x - dx - B.X < B.W := by unfold mvTo at h5; omega
        refine ⟨by omega, by rw [show y - dy = B.Y + B.H - 1 - m by omega]; exact h1.1, by rw [← h3]; exact h1.2, q1.2.2, q2.2.2, (cut_iff _).2 ⟨q1.1, q2.1⟩, (cut_iff _).2 ⟨q1.2.1, q2.2.1⟩, h6⟩
      · rintro ⟨h3, _, _, h4, h5, h6, h7, h8⟩
        have hb := bk_lt h8
        rw [cut_iff] at h6 h7
        have q1 : B.X + dx + mvFrom B dx ≤ x := by unfold mvFrom; omega
        have e : (mvFrom B dx).toNat + (x - (B.X + dx + mvFrom B dx)).toNat = (x - dx - B.X).toNat := by omega
        rw [e]
        refine ⟨by omega, q1, ?_, h8⟩
        unfold mvTo; omega
theorem moved_black (B : Bm) (dx dy x y : Int) : blackAt (movedS B dx dy) x y = true ↔ B.at (x - dx) (y - dy) = true ∧ cut x = x ∧ cut y = y := by
  unfold movedS
  rw [at_iff]
  split
  · rename_i hn
    rw [mvTake, blackAt_flatMap]
    constructor
    · rintro ⟨m, hm, hb⟩
      rw [List.mem_range] at hm
      unfold mvN at hm
      cases hr : B.rows[m]? with
      | none => rw [hr] at hb; simp [blackAt] at hb
      | some row =>
        rw [hr] at hb
        obtain ⟨h1, h2, h3, h4, h5, h6, h7, h8⟩ := (mvRow_black _ _ _ _ _ _ _).1 hb
        exact ⟨⟨hn, h6, h2, h4, h5, by omega, by omega, row, by rw [show (B.Y + B.H - 1 - (y - dy)).toNat = m by omega]; exact hr, h8⟩, h7, h3⟩
    · rintro ⟨⟨_, h1, h2, h3, h4, h5, h6, row, hr, h7⟩, h8, h9⟩
      have hlt := (List.getElem?_eq_some_iff.1 hr).1
      refine ⟨(B.Y + B.H - 1 - (y - dy)).toNat, List.mem_range.2 (by unfold mvN; omega), ?_⟩
      rw [hr]
      exact (mvRow_black _ _ _ _ _ _ _).2 ⟨by omega, h2, h9, h3, h4, h1, h8, h7⟩
  · rename_i hn
    simp only [blackAt, List.any_nil, Bool.false_eq_true, false_iff]
    exact fun h => hn h.1.1
theorem moved_tight (B : Bm) (dx dy : Int) : ∀ s ∈ movedS B dx dy, Tight s := by
  intro s hs
  unfold movedS at hs
  split at hs
  · obtain ⟨m, _, hm⟩ := List.mem_flatMap.1 hs
    split at hm
    · unfold mvRow at hm
      split at hm
      · cases hm
      · split at hm
        · cases hm
        · exact strip_tight _ _ _ s hm
    · cases hm
  · cases hs
/-- the pixels of a bitmap of strips -/
theorem at_bmOf {ss : List Sp} (ht : ∀ s ∈ ss, Tight s) (hb : ∀ x y, blackAt ss x y = true → -500 ≤ x ∧ x ≤ 500 ∧ -500 ≤ y ∧ y ≤ 500) (x y : Int) : (bmOf ss).at x y = true ↔ blackAt ss x y = true := by
  cases ss with
  | nil =>
    simp only [bmOf, blackAt, List.any_nil, Bool.false_eq_true, iff_false]
    rw [at_iff]
    rintro ⟨_, _, _, h0, h, _⟩
    have e1 : Bm.nil.X = 0 := rfl
    have e2 : Bm.nil.W = 0 := rfl
    omega
  | cons s0 ss =>
    have hq := bxOf_isBox ht
    simp only [bmOf]
    generalize bxOf s0 (s0 :: ss) = q at hq ⊢
    generalize hS : s0 :: ss = S at *
    obtain ⟨y1, b1⟩ := hq.l; obtain ⟨y2, b2⟩ := hq.r; obtain ⟨x3, b3⟩ := hq.b; obtain ⟨x4, b4⟩ := hq.t
    have l1 := hb _ _ b1; have l2 := hb _ _ b2; have l3 := hb _ _ b3; have l4 := hb _ _ b4
    have i1 := hq.inn _ _ b1; have i3 := hq.inn _ _ b3
    unfold bmIn
    rw [if_neg (by omega), at_iff]
    dsimp only
    constructor
    · rintro ⟨_, _, _, h1, h2, h3, h4, row, hr, h5⟩
      rw [List.getElem?_map] at hr
      obtain ⟨m, hm, rfl⟩ := Option.map_eq_some_iff.1 hr
      have hm2 := (List.getElem?_eq_some_iff.1 hm)
      obtain ⟨hm3, hm4⟩ := hm2
      rw [List.getElem_range] at hm4
      rw [rowB_bk] at h5
      simp only [Bool.and_eq_true, decide_eq_true_eq] at h5
      rw [show q.1 + ((x - q.1).toNat : Int) = x by omega, show q.2.2.2 - (m : Int) = y by omega] at h5
      exact h5.2
    · intro h
      have i := hq.inn _ _ h
      have l := hb _ _ h
      refine ⟨?_, (cut_iff _).2 (by omega), (cut_iff _).2 (by omega), by omega, by omega, by omega, by omega, ?_⟩
      · simp only [Bm.near, nearB, inB, Bool.and_eq_true, Bool.not_eq_true', Bool.or_eq_false_iff, decide_eq_false_iff_not]
        omega
      · refine ⟨_, by rw [List.getElem?_map, List.getElem?_range (by omega)]; rfl, ?_⟩
        rw [rowB_bk]
        simp only [Bool.and_eq_true, decide_eq_true_eq]
        refine ⟨by omega, ?_⟩
        rw [show q.1 + ((x - q.1).toNat : Int) = x by omega, show q.2.2.2 - ((q.2.2.1 + (q.2.2.2 - q.2.2.1 + 1) - 1 - y).toNat : Int) = y by omega]
        exact h
theorem blackAt_append (a b : List Sp) (x y : Int) : blackAt (a ++ b) x y = true ↔ blackAt a x y = true ∨ blackAt b x y = true := by
  simp [blackAt, List.any_append]

/-- where black pixels of lines may lie -/
theorem blk_in {ls : List Pts} {x k : Int} (hs : Small ls) (h : Blk ls x k) : (boxP ls).1 / 64 ≤ x ∧ x ≤ (boxP ls).2.2.1 / 64 ∧ (boxP ls).2.1 ≤ 64 * k + 32 ∧ 64 * k + 32 < (boxP ls).2.2.2.1 := by
  obtain ⟨a, b, hi, hin⟩ := h
  have hpl : ∀ c ∈ crs ls k, PlIn (boxP ls).1 (boxP ls).2.2.1 c.p := by
    intro c hc
    obtain ⟨e, he, hce, rfl⟩ := crs_mem hc
    have := edge_in he
    have := hs.2
    exact crOf_in (edgesAll_ok he) ((crB_iff _ _).2 hce) (by omega) (by omega) (by omega)
  have hf := fill_in (x := (a.p, b.p)) (hpl a hi.ma) (hpl b hi.mb)
  simp only [inS, Bool.and_eq_true, decide_eq_true_eq] at hin
  dsimp only at hf
  obtain ⟨e, he, hce, _⟩ := crs_mem hi.ma
  have := edge_in he
  omega
theorem box_within {ls : List Pts} (x0 x1 y0 y1 : Int) (h : ∀ p ∈ ls.flatten, x0 ≤ p.1 ∧ p.1 ≤ x1 ∧ y0 ≤ p.2 ∧ p.2 ≤ y1) (hx : -268435456 ≤ x0 ∧ x1 ≤ 268435456) (hy : -268435456 ≤ y0 ∧ y1 ≤ 268435456) (hs : Small ls) : x0 ≤ (boxP ls).1 ∧ (boxP ls).2.2.1 ≤ x1 ∧ y0 ≤ (boxP ls).2.1 ∧ (boxP ls).2.2.2.1 ≤ y1 := by
  have hw : Within (boxP ls) x0 x1 y0 y1 := fold_within _ (fun h => by cases h) fun p hp => by
    have := h p hp
    rw [cut_id (by omega), cut_id (by omega)]
    exact this
  exact hw hs.1

end Go.Proofs.Ytbgolbkolcmldaa
