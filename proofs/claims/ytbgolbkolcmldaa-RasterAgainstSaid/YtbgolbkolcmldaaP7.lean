/-
  Plain law: lines near by, the other way, and both.
-/
import Derived.Test.YtbgolbkolcmldaaP6
import Derived.Test.YtbgolbkolcmldaaW24
namespace Go.Proofs.Ytbgolbkolcmldaa

theorem near_in {ls : List Pts} {p : Int × Int} (h : p ∈ (nearL ls).flatten) : -2048 ≤ p.1 ∧ p.1 ≤ 2047 ∧ -2048 ≤ p.2 ∧ p.2 ≤ 2047 := by
  obtain ⟨l, hl, hp⟩ := List.mem_flatten.1 h
  obtain ⟨l0, _, rfl⟩ := List.mem_map.1 hl
  obtain ⟨q, _, rfl⟩ := List.mem_map.1 hp
  simp only [nrP]
  omega
theorem near_len (ls : List Pts) : (nearL ls).flatten.length ≤ 50 ∧ (nearL ls).length ≤ 5 ∧ ∀ l ∈ nearL ls, l.length ≤ 10 := by
  have : ∀ l : List Pts, (l.map nrL).flatten.length ≤ l.length * 10 := by
    intro l
    induction l with
    | nil => simp
    | cons a l ih => rw [List.map_cons, List.flatten_cons, List.length_append, nrL, List.length_map, List.length_take, List.length_cons]; omega
  have h := this (ls.take 5)
  rw [List.length_take] at h
  refine ⟨by unfold nearL; omega, by unfold nearL; rw [List.length_map, List.length_take]; omega, fun l hl => ?_⟩
  obtain ⟨l0, _, rfl⟩ := List.mem_map.1 hl
  rw [nrL, List.length_map, List.length_take]; omega
def revL (ls : List Pts) : List Pts := ls.map List.reverse
theorem revL_mem {ls : List Pts} {p : Int × Int} : p ∈ (revL ls).flatten ↔ p ∈ ls.flatten := by
  simp only [revL, List.mem_flatten, List.mem_map]
  constructor
  · rintro ⟨l, ⟨a, ha, rfl⟩, hp⟩; exact ⟨a, ha, List.mem_reverse.1 hp⟩
  · rintro ⟨l, hl, hp⟩; exact ⟨_, ⟨l, hl, rfl⟩, List.mem_reverse.2 hp⟩
theorem revL_flat {ls : List Pts} : (revL ls).flatten.length = ls.flatten.length := by
  simp [revL, List.length_flatten, Function.comp_def]
theorem flat_nil {ls ls' : List Pts} (h : ∀ p, p ∈ ls.flatten ↔ p ∈ ls'.flatten) : ls.flatten = [] ↔ ls'.flatten = [] := by
  rw [List.eq_nil_iff_forall_not_mem, List.eq_nil_iff_forall_not_mem]
  exact ⟨fun h1 p hp => h1 p ((h p).2 hp), fun h1 p hp => h1 p ((h p).1 hp)⟩
theorem near_small {ls : List Pts} (h : ∀ p ∈ ls.flatten, -2048 ≤ p.1 ∧ p.1 ≤ 2047 ∧ -2048 ≤ p.2 ∧ p.2 ≤ 2047) (hne : ls.flatten ≠ []) : Small ls :=
  small_of (-2048) 2047 (-2048) 2047 hne h (by omega) (by omega)
theorem against_fill (ls : List Pts) : fillB (revL (nearL ls)) = fillB (nearL ls) := by
  by_cases h : (nearL ls).flatten = []
  · rw [fill_none h, fill_none ((flat_nil fun p => revL_mem).2 h)]
  · have h2 : (revL (nearL ls)).flatten ≠ [] := fun h2 => h ((flat_nil fun p => revL_mem).1 h2)
    exact fill_same (near_small (fun p hp => near_in (revL_mem.1 hp)) h2) (near_small (fun p hp => near_in hp) h) fun x y => (blk_swap (segs_reverse _) x y).symm
theorem against_both (ls : List Pts) : fillB (nearL ls ++ revL (nearL ls)) = Bm.nil := by
  by_cases h : (nearL ls ++ revL (nearL ls)).flatten = []
  · exact fill_none h
  · have hs : Small (nearL ls ++ revL (nearL ls)) := near_small (fun p hp => by
      rw [List.flatten_append] at hp
      rcases List.mem_append.1 hp with hp | hp
      · exact near_in hp
      · exact near_in (revL_mem.1 hp)) h
    exact fill_canon hs (ss := []) (by simp) fun x y => ⟨fun hb => absurd hb (blk_both (segs_reverse _) x y), fun hb => by simp [blackAt] at hb⟩
theorem against_wind (ls : List Pts) (x y : Int) : wind (revL ls) x y = -wind ls x y := wind_swap (segs_reverse ls) x y
theorem against_none (ls : List Pts) (x y : Int) : wind (ls ++ revL ls) x y = 0 := by rw [wind_append, against_wind]; omega
theorem wind_bd (ls : List Pts) (x y : Int) : -(ls.flatten.length : Int) ≤ wind ls x y ∧ wind ls x y ≤ ls.flatten.length := by
  have h1 := windE_bd (cut x) (cut y) (edgesAll ls) fun e he => edgesAll_ok he
  have h2 := edgesAll_le ls
  unfold wind
  omega

end Go.Proofs.Ytbgolbkolcmldaa
