/-
  Plain law: one bitmap over another one, and which pixels it has, by the document.
-/
import Derived.Test.YtbgolbkolcmldaaP9
import Derived.Test.YtbgolbkolcmldaaW37
namespace Go.Proofs.Ytbgolbkolcmldaa

theorem black_mem (B : Bm) (x y : Int) : (x, y) ∈ blackL B ↔ B.at x y = true := by
  rw [at_iff]
  unfold blackL
  by_cases hn : B.near = true
  · rw [if_pos hn]
    unfold bkTake
    rw [List.mem_flatMap]
    constructor
    · rintro ⟨m, hm, h⟩
      rw [List.mem_range] at hm
      unfold mvN at hm
      cases hr : B.rows[m]? with
      | none => rw [hr] at h; cases h
      | some row =>
        rw [hr] at h
        obtain ⟨i, hi, h2⟩ := List.mem_flatMap.1 h
        rw [List.mem_range] at hi
        unfold bkW at hi
        unfold bkOne at h2
        split at h2
        · rename_i hc
          simp only [List.mem_singleton, Prod.mk.injEq] at h2
          obtain ⟨rfl, rfl⟩ := h2
          refine ⟨hn, hc.2.1, hc.2.2, by omega, by omega, by omega, by omega, row, ?_, ?_⟩
          · rw [show (B.Y + B.H - 1 - (B.Y + B.H - 1 - (m : Int))).toNat = m by omega]; exact hr
          · rw [show (B.X + (i : Int) - B.X).toNat = i by omega]; exact hc.1
        · cases h2
    · rintro ⟨_, h1, h2, h3, h4, h5, h6, row, hr, h7⟩
      have hlt := (List.getElem?_eq_some_iff.1 hr).1
      have hb := bk_lt h7
      refine ⟨(B.Y + B.H - 1 - y).toNat, List.mem_range.2 (by unfold mvN; omega), ?_⟩
      rw [hr]
      refine List.mem_flatMap.2 ⟨(x - B.X).toNat, List.mem_range.2 (by unfold bkW; omega), ?_⟩
      unfold bkOne
      have e1 : B.X + ((x - B.X).toNat : Int) = x := by omega
      have e2 : B.Y + B.H - 1 - ((B.Y + B.H - 1 - y).toNat : Int) = y := by omega
      rw [e1, e2, if_pos ⟨h7, h1, h2⟩]
      exact List.mem_singleton.2 rfl
  · rw [if_neg hn]
    exact ⟨fun h => (by cases h), fun h => absurd h.1 hn⟩
theorem ptS_tight (l : Pts) : ∀ s ∈ l.map ptS, Tight s := by
  intro s hs
  obtain ⟨p, _, rfl⟩ := List.mem_map.1 hs
  exact ⟨(by show 1 ≤ (⟨#[35]⟩ : ByteArray).size; decide), rfl, rfl⟩
theorem pt_black (l : Pts) (x y : Int) : blackAt (l.map ptS) x y = true ↔ (x, y) ∈ l := by
  rw [blackAt_pt, List.any_eq_true]
  constructor
  · rintro ⟨p, hp, h⟩
    rw [decide_eq_true_eq] at h
    rw [← h]; exact hp
  · exact fun h => ⟨_, h, by simp⟩
theorem overs_eq (A B : Bm) (x y : Int) : overB A B x y = bmOf ((ovL A B x y).map ptS) := by
  unfold overB
  refine bmOf_canon (fun s hs => ?_) (ptS_tight _) fun X Y => ?_
  · rcases List.mem_append.1 hs with hs | hs <;> exact moved_tight _ _ _ s hs
  · rw [blackAt_append, moved_black, moved_black, pt_black, ovL, List.mem_append, black_mem, List.mem_flatMap, Int.sub_zero, Int.sub_zero]
    constructor
    · rintro (h | h)
      · exact .inl h.1
      · refine .inr ⟨(X - cut x, Y - cut y), (black_mem _ _ _).2 h.1, ?_⟩
        unfold mvPt
        dsimp only
        rw [Int.sub_add_cancel, Int.sub_add_cancel, if_pos ⟨h.2.1, h.2.2⟩]
        exact List.mem_singleton.2 rfl
    · rintro (h | ⟨p, hp, h⟩)
      · have := (at_iff _ _ _).1 h
        exact .inl ⟨h, this.2.1, this.2.2.1⟩
      · unfold mvPt at h
        split at h
        · rename_i hc
          simp only [List.mem_singleton, Prod.mk.injEq] at h
          obtain ⟨rfl, rfl⟩ := h
          refine .inr ⟨?_, hc.1, hc.2⟩
          rw [Int.add_sub_cancel, Int.add_sub_cancel]
          exact (black_mem _ _ _).1 hp
        · cases h
theorem has_at (B : Bm) (x y : Int) : ((blackL B).any fun p => decide (p = (x, y))) = B.at x y := by
  rw [Bool.eq_iff_iff, ← black_mem, List.any_eq_true]
  constructor
  · rintro ⟨p, hp, h⟩
    rw [decide_eq_true_eq] at h
    rw [← h]; exact hp
  · exact fun h => ⟨_, h, by simp⟩

end Go.Proofs.Ytbgolbkolcmldaa
