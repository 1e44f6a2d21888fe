/-
  Plain law: a contour that begins elsewhere, stands there often, or goes the other way, has the same pixels.
-/
import Derived.Test.YtbgolbkolcmldaaGP
namespace Go.Proofs.Ytbgolbkolcmldaa

theorem IsStr.scale {cs cs' : List Cr} {m : Int} (hm : m ≠ 0) (hmem : ∀ c, c ∈ cs ↔ c ∈ cs') (hW : ∀ q, W cs' q = m * W cs q) (hWl : ∀ q, Wlt cs' q = m * Wlt cs q) {a b : Cr} : IsStr cs a b ↔ IsStr cs' a b := by
  constructor
  · intro h
    exact ⟨(hmem a).1 h.ma, (hmem b).1 h.mb, by rw [hWl, h.before, Int.mul_zero], fun p hp h1 h2 => by rw [hW]; exact Int.mul_ne_zero hm (h.within p ((hmem p).2 hp) h1 h2), by rw [hW, h.behind, Int.mul_zero], h.apart⟩
  · intro h
    have h0 : ∀ z : Int, m * z = 0 → z = 0 := fun z hz => (Int.mul_eq_zero.1 hz).resolve_left hm
    exact ⟨(hmem a).2 h.ma, (hmem b).2 h.mb, h0 _ (by rw [← hWl]; exact h.before), fun p hp h1 h2 h3 => h.within p ((hmem p).1 hp) h1 h2 (by rw [hW, h3, Int.mul_zero]), h0 _ (by rw [← hW]; exact h.behind), h.apart⟩
theorem W_rep (cs : List Cr) (q : Place) : ∀ m : Nat, W (List.replicate m cs).flatten q = m * W cs q
  | 0 => by simp [W]
  | m + 1 => by
    rw [List.replicate_succ, List.flatten_cons, W_append, W_rep cs q m, Int.natCast_add, Int.add_mul]
    simp [Int.add_comm]
theorem Wlt_rep (cs : List Cr) (q : Place) : ∀ m : Nat, Wlt (List.replicate m cs).flatten q = m * Wlt cs q
  | 0 => by simp [Wlt]
  | m + 1 => by
    rw [List.replicate_succ, List.flatten_cons, Wlt_append, Wlt_rep cs q m, Int.natCast_add, Int.add_mul]
    simp [Int.add_comm]
theorem crs_rep (l : Pts) (k : Int) : ∀ m : Nat, crs (List.replicate m l) k = (List.replicate m (crs [l] k)).flatten
  | 0 => by rw [crs_segs]; rfl
  | m + 1 => by
    rw [List.replicate_succ, List.replicate_succ, List.flatten_cons, ← crs_rep l k m, ← List.singleton_append, crs_segs, segs_append, List.flatMap_append, ← crs_segs, ← crs_segs]
theorem blk_rep (l : Pts) (m : Nat) (x k : Int) : Blk (List.replicate (m + 1) l) x k ↔ Blk [l] x k := by
  have hs : ∀ {a b : Cr}, IsStr (crs [l] k) a b ↔ IsStr (crs (List.replicate (m + 1) l) k) a b := fun {a b} => by
    rw [crs_rep]
    refine IsStr.scale (m := ((m + 1 : Nat) : Int)) (by omega) (fun c => ?_) (fun q => W_rep _ q _) (fun q => Wlt_rep _ q _)
    simp [List.mem_flatten]
  constructor
  · rintro ⟨a, b, h1, h2⟩; exact ⟨a, b, hs.2 h1, h2⟩
  · rintro ⟨a, b, h1, h2⟩; exact ⟨a, b, hs.1 h1, h2⟩
def turnL (l : Pts) (j : Nat) : Pts := l.drop j ++ l.take j
theorem turn_mem {l : Pts} {j : Nat} {p : Int × Int} : p ∈ turnL l j ↔ p ∈ l := by
  rw [turnL, List.mem_append, Or.comm, ← List.mem_append, List.take_append_drop]
theorem segs_one (l : Pts) : segs [l] = pairs l := by simp [segs]
theorem blk_turn (l : Pts) (j : Nat) (x k : Int) : Blk [turnL l j] x k ↔ Blk [l] x k := by
  have h : (segs [turnL l j]).Perm (segs [l]) := by
    rw [segs_one, segs_one]
    have := pairs_rot (l.drop j) (l.take j)
    rwa [List.take_append_drop] at this
  exact ⟨blk_perm h x k, blk_perm h.symm x k⟩
theorem turns_many {l : Pts} (h : ∀ p ∈ l, -2048 ≤ p.1 ∧ p.1 ≤ 2047 ∧ -2048 ≤ p.2 ∧ p.2 ≤ 2047) (hne : l ≠ []) (j m : Nat) : fillB (List.replicate (m + 1) (turnL l j)) = fillB [l] := by
  have hm : ∀ p, p ∈ (List.replicate (m + 1) (turnL l j)).flatten → p ∈ l := by
    intro p hp
    obtain ⟨l', h1, h2⟩ := List.mem_flatten.1 hp
    rw [(List.mem_replicate.1 h1).2] at h2
    exact turn_mem.1 h2
  obtain ⟨p0, hp0⟩ := List.exists_mem_of_ne_nil _ hne
  refine fill_same (near_small (fun p hp => h p (hm p hp)) ?_) (near_small (fun p hp => h p (by simpa using hp)) (by simpa using hne)) fun x y => (blk_rep _ m x y).trans (blk_turn l j x y)
  refine List.ne_nil_of_mem (List.mem_flatten.2 ⟨turnL l j, by simp, turn_mem.2 hp0⟩)
theorem turns_back {l : Pts} (h : ∀ p ∈ l, -2048 ≤ p.1 ∧ p.1 ≤ 2047 ∧ -2048 ≤ p.2 ∧ p.2 ≤ 2047) (hne : l ≠ []) (j : Nat) : fillB [(turnL l j).reverse] = fillB [l] := by
  obtain ⟨p0, hp0⟩ := List.exists_mem_of_ne_nil _ hne
  refine fill_same (near_small (fun p hp => h p (turn_mem.1 (by simpa using hp))) ?_) (near_small (fun p hp => h p (by simpa using hp)) (by simpa using hne)) fun x y => ?_
  · exact List.ne_nil_of_mem (List.mem_flatten.2 ⟨(turnL l j).reverse, by simp, List.mem_reverse.2 (turn_mem.2 hp0)⟩)
  · exact (blk_swap (ls := [turnL l j]) (ls' := [(turnL l j).reverse]) (segs_reverse [turnL l j]) x y).symm.trans (blk_turn l j x y)

end Go.Proofs.Ytbgolbkolcmldaa
