/-
  Pixels, blackened.
-/
import Derived.Test.YtbgolbkolcmldaaW7
import Derived.Test.YtbgolbkolcmldaaPx
namespace Go.Proofs.Ytbgolbkolcmldaa
open Go.RowKit
attribute [local irreducible] T TL Xt O Op1 Kt DV ObsB DE

/-- what was black, and what is so in a text that begins at off -/
def ink (p : Nat → Bool) (off : Nat) (s : ByteArray) (k : Nat) (j : Nat) : Bool := p j || (decide (off ≤ j) && decide (j < off + k) && bk s (j - off))

theorem ink_yes {p : Nat → Bool} {off : Nat} {s : ByteArray} {k : Nat} (h : bk s k = true) (j : Nat) : (ink p off s k j || decide (j = off + k)) = ink p off s (k + 1) j := by
  unfold ink
  by_cases hj : j = off + k
  · subst hj
    simp [h]
  · have e1 : decide (j = off + k) = false := by simpa using hj
    have e2 : decide (j < off + (k + 1)) = decide (j < off + k) := by
      rw [decide_eq_decide]; omega
    rw [e1, e2, Bool.or_false]
theorem ink_no {p : Nat → Bool} {off : Nat} {s : ByteArray} {k : Nat} (h : bk s k = false) (j : Nat) : ink p off s k j = ink p off s (k + 1) j := by
  unfold ink
  by_cases hj : j = off + k
  · subst hj
    simp [h]
  · have e2 : decide (j < off + (k + 1)) = decide (j < off + k) := by
      rw [decide_eq_decide]; omega
    rw [e2]

theorem blacken_calls (b off len cap n : Nat) (p : Nat → Bool) (s : ByteArray) (h1 : s.size ≤ cap) (h2 : off + s.size ≤ n) (h3 : n ≤ 1000000000) (w : World) (o : Obj) (ho : w.heap[b]? = some o) (hq : px 5 n p o) :
    Calls Try.prog 71 #[.slice (some ⟨b, off, none⟩) len cap, .string s] w (Wrote w b (px 5 n (ink p off s s.size))) := by
  refine calls_W (vs := [.slice (some ⟨b, off, none⟩) len cap, .string s]) ho hq Try.func71 rfl Try.ntmps71 rfl ?_
  (repeat' (first
    | refine t_seq ?_
    | refine t_region ?_
    | refine xt_then ?_
    | refine tl_nil ?_
    | refine t_block ?_
    | refine t_skip ?_
    | refine t_ret ?_
    | refine t_exit ?_
    | refine xt_blk ?_
    | refine xt_blk_exit ?_
    | refine xt_then_ret ?_
    | refine xt_then_exit ?_
    | refine xt_blk_ret ?_
    | refine xt_blk_other rfl ?_
    | refine xt_round_exit ?_
    | refine xt_round_ret ?_
    | refine tl_run tab rfl rfl ?_
    | refine tl_guard_yes rfl rfl ?_
    | refine tl_guard_no rfl rfl rfl rfl ?_
    | refine tl_guard_undef rfl rfl rfl ?_
    | refine tl_load (by first | exact o_loadB 0 rfl rfl rfl | exact o_loadB 1 rfl rfl rfl | exact o_loadB 2 rfl rfl rfl | exact o_loadB 3 rfl rfl rfl | exact o_loadB 4 rfl rfl rfl | exact o_loadBA 0 rfl rfl rfl | exact o_loadBA 1 rfl rfl rfl | exact o_loadBA 2 rfl rfl rfl | exact o_loadBA 3 rfl rfl rfl) rfl ?_
    | refine tl_pick (by first | exact o_pick_t rfl rfl | exact o_pick_f rfl rfl) rfl ?_
    | refine tl_bin (by first | exact o_add64 rfl rfl (by omega) | exact o_sub64 rfl rfl (by omega) | exact o_mul64 rfl rfl (by first | assumption | omega)) rfl ?_
    | refine tl_store (by first | exact o_storeB 0 rfl rfl rfl rfl rfl | exact o_storeB 1 rfl rfl rfl rfl rfl | exact o_storeB 2 rfl rfl rfl rfl rfl | exact o_storeBA 0 rfl rfl rfl rfl rfl rfl | exact o_storeBA 1 rfl rfl rfl rfl rfl rfl | exact o_storeBA 2 rfl rfl rfl rfl rfl rfl) ?_
    | refine tl_box (o_box rfl rfl) rfl (fun _ => ?_)
    | refine tl_alloc rfl (fun _ => ?_)))
  refine tl_val (o_sliceH (n := s.size) rfl rfl h1) rfl rfl ?_
  (repeat' (first
    | refine t_seq ?_
    | refine t_region ?_
    | refine xt_then ?_
    | refine tl_nil ?_
    | refine t_block ?_
    | refine t_skip ?_
    | refine t_ret ?_
    | refine t_exit ?_
    | refine xt_blk ?_
    | refine xt_blk_exit ?_
    | refine xt_then_ret ?_
    | refine xt_then_exit ?_
    | refine xt_blk_ret ?_
    | refine xt_blk_other rfl ?_
    | refine xt_round_exit ?_
    | refine xt_round_ret ?_
    | refine tl_run tab rfl rfl ?_
    | refine tl_guard_yes rfl rfl ?_
    | refine tl_guard_no rfl rfl rfl rfl ?_
    | refine tl_guard_undef rfl rfl rfl ?_
    | refine tl_load (by first | exact o_loadB 0 rfl rfl rfl | exact o_loadB 1 rfl rfl rfl | exact o_loadB 2 rfl rfl rfl | exact o_loadB 3 rfl rfl rfl | exact o_loadB 4 rfl rfl rfl | exact o_loadBA 0 rfl rfl rfl | exact o_loadBA 1 rfl rfl rfl | exact o_loadBA 2 rfl rfl rfl | exact o_loadBA 3 rfl rfl rfl) rfl ?_
    | refine tl_pick (by first | exact o_pick_t rfl rfl | exact o_pick_f rfl rfl) rfl ?_
    | refine tl_bin (by first | exact o_add64 rfl rfl (by omega) | exact o_sub64 rfl rfl (by omega) | exact o_mul64 rfl rfl (by first | assumption | omega)) rfl ?_
    | refine tl_store (by first | exact o_storeB 0 rfl rfl rfl rfl rfl | exact o_storeB 1 rfl rfl rfl rfl rfl | exact o_storeB 2 rfl rfl rfl rfl rfl | exact o_storeBA 0 rfl rfl rfl rfl rfl rfl | exact o_storeBA 1 rfl rfl rfl rfl rfl rfl | exact o_storeBA 2 rfl rfl rfl rfl rfl rfl) ?_
    | refine tl_box (o_box rfl rfl) rfl (fun _ => ?_)
    | refine tl_alloc rfl (fun _ => ?_)))
  refine t_loopC (α := Nat) (fun k => [(0, .slice (some ⟨b, off, none⟩) s.size cap), (1, .string s), (10, .int .i64 (s.size : Int)), (11, .int .i64 (k : Int))]) (fun k => k ≤ s.size) (fun k => St w [b] [(b, px 5 n (ink p off s k))]) (fun k => s.size - k) 0 (by omega) ⟨rfl, rfl, rfl, rfl, trivial⟩ (fun _ h => h.imp fun o ho => px_congr ho fun j _ => by simp [ink]; omega) fun k hk => ?_
  (repeat' (first
    | refine t_seq ?_
    | refine t_region ?_
    | refine xt_then ?_
    | refine tl_nil ?_
    | refine t_block ?_
    | refine t_skip ?_
    | refine t_ret ?_
    | refine t_exit ?_
    | refine xt_blk ?_
    | refine xt_blk_exit ?_
    | refine xt_then_ret ?_
    | refine xt_then_exit ?_
    | refine xt_blk_ret ?_
    | refine xt_blk_other rfl ?_
    | refine xt_round_exit ?_
    | refine xt_round_ret ?_
    | refine tl_run tab rfl rfl ?_
    | refine tl_guard_yes rfl rfl ?_
    | refine tl_guard_no rfl rfl rfl rfl ?_
    | refine tl_guard_undef rfl rfl rfl ?_
    | refine tl_load (by first | exact o_loadB 0 rfl rfl rfl | exact o_loadB 1 rfl rfl rfl | exact o_loadB 2 rfl rfl rfl | exact o_loadB 3 rfl rfl rfl | exact o_loadB 4 rfl rfl rfl | exact o_loadBA 0 rfl rfl rfl | exact o_loadBA 1 rfl rfl rfl | exact o_loadBA 2 rfl rfl rfl | exact o_loadBA 3 rfl rfl rfl) rfl ?_
    | refine tl_pick (by first | exact o_pick_t rfl rfl | exact o_pick_f rfl rfl) rfl ?_
    | refine tl_bin (by first | exact o_add64 rfl rfl (by omega) | exact o_sub64 rfl rfl (by omega) | exact o_mul64 rfl rfl (by first | assumption | omega)) rfl ?_
    | refine tl_store (by first | exact o_storeB 0 rfl rfl rfl rfl rfl | exact o_storeB 1 rfl rfl rfl rfl rfl | exact o_storeB 2 rfl rfl rfl rfl rfl | exact o_storeBA 0 rfl rfl rfl rfl rfl rfl | exact o_storeBA 1 rfl rfl rfl rfl rfl rfl | exact o_storeBA 2 rfl rfl rfl rfl rfl rfl) ?_
    | refine tl_box (o_box rfl rfl) rfl (fun _ => ?_)
    | refine tl_alloc rfl (fun _ => ?_)))
  refine t_cond rfl (fun h => ?_) (fun h => ?_)
  · simp at h
    obtain ⟨u, hu⟩ : ∃ u, s[k]? = some u := ⟨_, getElem?_pos s k (by omega)⟩
    (repeat' (first
      | refine t_seq ?_
      | refine t_region ?_
      | refine xt_then ?_
      | refine tl_nil ?_
      | refine t_block ?_
      | refine t_skip ?_
      | refine t_ret ?_
      | refine t_exit ?_
      | refine xt_blk ?_
      | refine xt_blk_exit ?_
      | refine xt_then_ret ?_
      | refine xt_then_exit ?_
      | refine xt_blk_ret ?_
      | refine xt_blk_other rfl ?_
      | refine xt_round_exit ?_
      | refine xt_round_ret ?_
      | refine tl_run tab rfl rfl ?_
      | refine tl_guard_yes rfl rfl ?_
      | refine tl_guard_no rfl rfl rfl rfl ?_
      | refine tl_guard_undef rfl rfl rfl ?_
      | refine tl_load (by first | exact o_loadB 0 rfl rfl rfl | exact o_loadB 1 rfl rfl rfl | exact o_loadB 2 rfl rfl rfl | exact o_loadB 3 rfl rfl rfl | exact o_loadB 4 rfl rfl rfl | exact o_loadBA 0 rfl rfl rfl | exact o_loadBA 1 rfl rfl rfl | exact o_loadBA 2 rfl rfl rfl | exact o_loadBA 3 rfl rfl rfl) rfl ?_
      | refine tl_pick (by first | exact o_pick_t rfl rfl | exact o_pick_f rfl rfl) rfl ?_
      | refine tl_bin (by first | exact o_add64 rfl rfl (by omega) | exact o_sub64 rfl rfl (by omega) | exact o_mul64 rfl rfl (by first | assumption | omega)) rfl ?_
      | refine tl_store (by first | exact o_storeB 0 rfl rfl rfl rfl rfl | exact o_storeB 1 rfl rfl rfl rfl rfl | exact o_storeB 2 rfl rfl rfl rfl rfl | exact o_storeBA 0 rfl rfl rfl rfl rfl rfl | exact o_storeBA 1 rfl rfl rfl rfl rfl rfl | exact o_storeBA 2 rfl rfl rfl rfl rfl rfl) ?_
      | refine tl_box (o_box rfl rfl) rfl (fun _ => ?_)
      | refine tl_alloc rfl (fun _ => ?_)))
    refine tl_val (o_index rfl rfl (by omega) hu) rfl rfl ?_
    (repeat' (first
      | refine t_seq ?_
      | refine t_region ?_
      | refine xt_then ?_
      | refine tl_nil ?_
      | refine t_block ?_
      | refine t_skip ?_
      | refine t_ret ?_
      | refine t_exit ?_
      | refine xt_blk ?_
      | refine xt_blk_exit ?_
      | refine xt_then_ret ?_
      | refine xt_then_exit ?_
      | refine xt_blk_ret ?_
      | refine xt_blk_other rfl ?_
      | refine xt_round_exit ?_
      | refine xt_round_ret ?_
      | refine tl_run tab rfl rfl ?_
      | refine tl_guard_yes rfl rfl ?_
      | refine tl_guard_no rfl rfl rfl rfl ?_
      | refine tl_guard_undef rfl rfl rfl ?_
      | refine tl_load (by first | exact o_loadB 0 rfl rfl rfl | exact o_loadB 1 rfl rfl rfl | exact o_loadB 2 rfl rfl rfl | exact o_loadB 3 rfl rfl rfl | exact o_loadB 4 rfl rfl rfl | exact o_loadBA 0 rfl rfl rfl | exact o_loadBA 1 rfl rfl rfl | exact o_loadBA 2 rfl rfl rfl | exact o_loadBA 3 rfl rfl rfl) rfl ?_
      | refine tl_pick (by first | exact o_pick_t rfl rfl | exact o_pick_f rfl rfl) rfl ?_
      | refine tl_bin (by first | exact o_add64 rfl rfl (by omega) | exact o_sub64 rfl rfl (by omega) | exact o_mul64 rfl rfl (by first | assumption | omega)) rfl ?_
      | refine tl_store (by first | exact o_storeB 0 rfl rfl rfl rfl rfl | exact o_storeB 1 rfl rfl rfl rfl rfl | exact o_storeB 2 rfl rfl rfl rfl rfl | exact o_storeBA 0 rfl rfl rfl rfl rfl rfl | exact o_storeBA 1 rfl rfl rfl rfl rfl rfl | exact o_storeBA 2 rfl rfl rfl rfl rfl rfl) ?_
      | refine tl_box (o_box rfl rfl) rfl (fun _ => ?_)
      | refine tl_alloc rfl (fun _ => ?_)))
    refine t_cond rfl (fun h => ?_) (fun h => ?_)
    · simp at h
      (repeat' (first
        | refine t_seq ?_
        | refine t_region ?_
        | refine xt_then ?_
        | refine tl_nil ?_
        | refine t_block ?_
        | refine t_skip ?_
        | refine t_ret ?_
        | refine t_exit ?_
        | refine xt_blk ?_
        | refine xt_blk_exit ?_
        | refine xt_then_ret ?_
        | refine xt_then_exit ?_
        | refine xt_blk_ret ?_
        | refine xt_blk_other rfl ?_
        | refine xt_round_exit ?_
        | refine xt_round_ret ?_
        | refine tl_run tab rfl rfl ?_
        | refine tl_guard_yes rfl rfl ?_
        | refine tl_guard_no rfl rfl rfl rfl ?_
        | refine tl_guard_undef rfl rfl rfl ?_
        | refine tl_load (by first | exact o_loadB 0 rfl rfl rfl | exact o_loadB 1 rfl rfl rfl | exact o_loadB 2 rfl rfl rfl | exact o_loadB 3 rfl rfl rfl | exact o_loadB 4 rfl rfl rfl | exact o_loadBA 0 rfl rfl rfl | exact o_loadBA 1 rfl rfl rfl | exact o_loadBA 2 rfl rfl rfl | exact o_loadBA 3 rfl rfl rfl) rfl ?_
        | refine tl_pick (by first | exact o_pick_t rfl rfl | exact o_pick_f rfl rfl) rfl ?_
        | refine tl_bin (by first | exact o_add64 rfl rfl (by omega) | exact o_sub64 rfl rfl (by omega) | exact o_mul64 rfl rfl (by first | assumption | omega)) rfl ?_
        | refine tl_store (by first | exact o_storeB 0 rfl rfl rfl rfl rfl | exact o_storeB 1 rfl rfl rfl rfl rfl | exact o_storeB 2 rfl rfl rfl rfl rfl | exact o_storeBA 0 rfl rfl rfl rfl rfl rfl | exact o_storeBA 1 rfl rfl rfl rfl rfl rfl | exact o_storeBA 2 rfl rfl rfl rfl rfl rfl) ?_
        | refine tl_box (o_box rfl rfl) rfl (fun _ => ?_)
        | refine tl_alloc rfl (fun _ => ?_)))
      refine tl_indexAddr (o_indexAddr rfl rfl (by omega)) rfl ?_
      refine tl_store (o_storePx 0 rfl rfl rfl (by simp; omega)) ?_
      (repeat' (first
        | refine t_seq ?_
        | refine t_region ?_
        | refine xt_then ?_
        | refine tl_nil ?_
        | refine t_block ?_
        | refine t_skip ?_
        | refine t_ret ?_
        | refine t_exit ?_
        | refine xt_blk ?_
        | refine xt_blk_exit ?_
        | refine xt_then_ret ?_
        | refine xt_then_exit ?_
        | refine xt_blk_ret ?_
        | refine xt_blk_other rfl ?_
        | refine xt_round_exit ?_
        | refine xt_round_ret ?_
        | refine tl_run tab rfl rfl ?_
        | refine tl_guard_yes rfl rfl ?_
        | refine tl_guard_no rfl rfl rfl rfl ?_
        | refine tl_guard_undef rfl rfl rfl ?_
        | refine tl_load (by first | exact o_loadB 0 rfl rfl rfl | exact o_loadB 1 rfl rfl rfl | exact o_loadB 2 rfl rfl rfl | exact o_loadB 3 rfl rfl rfl | exact o_loadB 4 rfl rfl rfl | exact o_loadBA 0 rfl rfl rfl | exact o_loadBA 1 rfl rfl rfl | exact o_loadBA 2 rfl rfl rfl | exact o_loadBA 3 rfl rfl rfl) rfl ?_
        | refine tl_pick (by first | exact o_pick_t rfl rfl | exact o_pick_f rfl rfl) rfl ?_
        | refine tl_bin (by first | exact o_add64 rfl rfl (by omega) | exact o_sub64 rfl rfl (by omega) | exact o_mul64 rfl rfl (by first | assumption | omega)) rfl ?_
        | refine tl_store (by first | exact o_storeB 0 rfl rfl rfl rfl rfl | exact o_storeB 1 rfl rfl rfl rfl rfl | exact o_storeB 2 rfl rfl rfl rfl rfl | exact o_storeBA 0 rfl rfl rfl rfl rfl rfl | exact o_storeBA 1 rfl rfl rfl rfl rfl rfl | exact o_storeBA 2 rfl rfl rfl rfl rfl rfl) ?_
        | refine tl_box (o_box rfl rfl) rfl (fun _ => ?_)
        | refine tl_alloc rfl (fun _ => ?_)))
      refine xt_roundC (k + 1) ⟨rfl, rfl, rfl, rfl, trivial⟩ (by omega) (fun _ h' => h'.imp fun o ho => px_congr ho fun j _ => ?_) (by omega)
      have e1 : (off + (k : Int).toNat * 1) = off + k := by omega
      rw [e1]
      exact ink_yes (by rw [bk, hu, u35 h]; rfl) j
    · simp at h
      (repeat' (first
        | refine t_seq ?_
        | refine t_region ?_
        | refine xt_then ?_
        | refine tl_nil ?_
        | refine t_block ?_
        | refine t_skip ?_
        | refine t_ret ?_
        | refine t_exit ?_
        | refine xt_blk ?_
        | refine xt_blk_exit ?_
        | refine xt_then_ret ?_
        | refine xt_then_exit ?_
        | refine xt_blk_ret ?_
        | refine xt_blk_other rfl ?_
        | refine xt_round_exit ?_
        | refine xt_round_ret ?_
        | refine tl_run tab rfl rfl ?_
        | refine tl_guard_yes rfl rfl ?_
        | refine tl_guard_no rfl rfl rfl rfl ?_
        | refine tl_guard_undef rfl rfl rfl ?_
        | refine tl_load (by first | exact o_loadB 0 rfl rfl rfl | exact o_loadB 1 rfl rfl rfl | exact o_loadB 2 rfl rfl rfl | exact o_loadB 3 rfl rfl rfl | exact o_loadB 4 rfl rfl rfl | exact o_loadBA 0 rfl rfl rfl | exact o_loadBA 1 rfl rfl rfl | exact o_loadBA 2 rfl rfl rfl | exact o_loadBA 3 rfl rfl rfl) rfl ?_
        | refine tl_pick (by first | exact o_pick_t rfl rfl | exact o_pick_f rfl rfl) rfl ?_
        | refine tl_bin (by first | exact o_add64 rfl rfl (by omega) | exact o_sub64 rfl rfl (by omega) | exact o_mul64 rfl rfl (by first | assumption | omega)) rfl ?_
        | refine tl_store (by first | exact o_storeB 0 rfl rfl rfl rfl rfl | exact o_storeB 1 rfl rfl rfl rfl rfl | exact o_storeB 2 rfl rfl rfl rfl rfl | exact o_storeBA 0 rfl rfl rfl rfl rfl rfl | exact o_storeBA 1 rfl rfl rfl rfl rfl rfl | exact o_storeBA 2 rfl rfl rfl rfl rfl rfl) ?_
        | refine tl_box (o_box rfl rfl) rfl (fun _ => ?_)
        | refine tl_alloc rfl (fun _ => ?_)))
      refine xt_roundC (k + 1) ⟨rfl, rfl, rfl, rfl, trivial⟩ (by omega) (fun _ h' => h'.imp fun o ho => px_congr ho fun j _ => ?_) (by omega)
      refine ink_no ?_ j
      rw [bk, hu]
      simp only [beq_eq_false_iff_ne, ne_eq, Option.some.injEq]
      rintro rfl
      exact h rfl
  · simp at h
    obtain rfl : k = s.size := by omega
    (repeat' (first
      | refine t_seq ?_
      | refine t_region ?_
      | refine xt_then ?_
      | refine tl_nil ?_
      | refine t_block ?_
      | refine t_skip ?_
      | refine t_ret ?_
      | refine t_exit ?_
      | refine xt_blk ?_
      | refine xt_blk_exit ?_
      | refine xt_then_ret ?_
      | refine xt_then_exit ?_
      | refine xt_blk_ret ?_
      | refine xt_blk_other rfl ?_
      | refine xt_round_exit ?_
      | refine xt_round_ret ?_
      | refine tl_run tab rfl rfl ?_
      | refine tl_guard_yes rfl rfl ?_
      | refine tl_guard_no rfl rfl rfl rfl ?_
      | refine tl_guard_undef rfl rfl rfl ?_
      | refine tl_load (by first | exact o_loadB 0 rfl rfl rfl | exact o_loadB 1 rfl rfl rfl | exact o_loadB 2 rfl rfl rfl | exact o_loadB 3 rfl rfl rfl | exact o_loadB 4 rfl rfl rfl | exact o_loadBA 0 rfl rfl rfl | exact o_loadBA 1 rfl rfl rfl | exact o_loadBA 2 rfl rfl rfl | exact o_loadBA 3 rfl rfl rfl) rfl ?_
      | refine tl_pick (by first | exact o_pick_t rfl rfl | exact o_pick_f rfl rfl) rfl ?_
      | refine tl_bin (by first | exact o_add64 rfl rfl (by omega) | exact o_sub64 rfl rfl (by omega) | exact o_mul64 rfl rfl (by first | assumption | omega)) rfl ?_
      | refine tl_store (by first | exact o_storeB 0 rfl rfl rfl rfl rfl | exact o_storeB 1 rfl rfl rfl rfl rfl | exact o_storeB 2 rfl rfl rfl rfl rfl | exact o_storeBA 0 rfl rfl rfl rfl rfl rfl | exact o_storeBA 1 rfl rfl rfl rfl rfl rfl | exact o_storeBA 2 rfl rfl rfl rfl rfl rfl) ?_
      | refine tl_box (o_box rfl rfl) rfl (fun _ => ?_)
      | refine tl_alloc rfl (fun _ => ?_)))
    refine xt_end0 rfl fun w' h' => h'.wrote

end Go.Proofs.Ytbgolbkolcmldaa
