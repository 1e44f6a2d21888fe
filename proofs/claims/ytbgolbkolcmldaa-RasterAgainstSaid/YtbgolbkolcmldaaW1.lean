/-
  The small functions of package raster, walked.
-/
import Derived.Test.YtbgolbkolcmldaaTypes
namespace Go.Proofs.Ytbgolbkolcmldaa
open Go.RowKit
attribute [local irreducible] T TL Xt O Op1 Kt DV ObsB DE

theorem mixed : Try.prog.follows .mixedOrders = true := by kernel_rfl

def cut (n : Int) : Int := max (-268435456) (min 268435456 n)

theorem cut_det (n : Int) : Det Try.prog 33 [.int .i64 n] (.int .i64 (cut n)) := by
  intro w
  refine calls_S Try.func33 rfl Try.ntmps33 rfl ?_
  (repeat' (first
    | refine t_seq ?_
    | refine t_region ?_
    | refine xt_then ?_
    | refine tl_nil ?_
    | refine t_block ?_
    | refine t_skip ?_
    | refine t_ret ?_
    | refine t_exit ?_
    | refine xt_blk ?_
    | refine xt_blk_exit ?_
    | refine xt_then_ret ?_
    | refine xt_then_exit ?_
    | refine xt_blk_ret ?_
    | refine xt_blk_other rfl ?_
    | refine xt_round_exit ?_
    | refine xt_round_ret ?_
    | refine tl_run tab rfl rfl ?_
    | refine tl_guard_yes rfl rfl ?_
    | refine tl_guard_no rfl rfl rfl rfl ?_
    | refine tl_guard_undef rfl rfl rfl ?_
    | refine tl_load (by first | exact o_loadB 0 rfl rfl rfl | exact o_loadB 1 rfl rfl rfl | exact o_loadB 2 rfl rfl rfl | exact o_loadB 3 rfl rfl rfl | exact o_loadB 4 rfl rfl rfl | exact o_loadBA 0 rfl rfl rfl | exact o_loadBA 1 rfl rfl rfl | exact o_loadBA 2 rfl rfl rfl | exact o_loadBA 3 rfl rfl rfl) rfl ?_
    | refine tl_pick (by first | exact o_pick_t rfl rfl | exact o_pick_f rfl rfl) rfl ?_
    | refine tl_bin (by first | exact o_add64 rfl rfl (by omega) | exact o_sub64 rfl rfl (by omega) | exact o_mul64 rfl rfl (by first | assumption | omega)) rfl ?_
    | refine tl_store (by first | exact o_storeB 0 rfl rfl rfl rfl rfl | exact o_storeB 1 rfl rfl rfl rfl rfl | exact o_storeB 2 rfl rfl rfl rfl rfl | exact o_storeBA 0 rfl rfl rfl rfl rfl rfl | exact o_storeBA 1 rfl rfl rfl rfl rfl rfl | exact o_storeBA 2 rfl rfl rfl rfl rfl rfl) ?_
    | refine tl_box (o_box rfl rfl) rfl (fun _ => ?_)
    | refine tl_alloc rfl (fun _ => ?_)))
  exact xt_ret1S rfl rfl fun _ _ => rfl

def inB (n : Int) : Bool := !(decide (n < -1073741824) || decide (1073741824 < n))
def nearB (X Y W H : Int) : Bool := inB X && inB Y && inB W && inB H

theorem build100 (a b c e : Int) (w : World) : (Instr.build 100 #[(0, .int .i64 a), (1, .int .i64 b), (2, .int .i64 c), (3, .int .i64 e)]).run Try.prog w = .ok (.agg #[.int .i64 a, .int .i64 b, .int .i64 c, .int .i64 e]) w := by kernel_rfl

theorem near_det (X Y W H : Int) (rows : Value) (h1 : rows.oneCell' = true) : Det Try.prog 32 [.agg #[.int .i64 X, .int .i64 Y, .int .i64 W, .int .i64 H, rows]] (.bool (nearB X Y W H)) := by
  intro w
  refine calls_S Try.func32 rfl Try.ntmps32 rfl ?_
  (repeat' (first
    | refine t_seq ?_
    | refine t_region ?_
    | refine xt_then ?_
    | refine tl_nil ?_
    | refine t_block ?_
    | refine t_skip ?_
    | refine t_ret ?_
    | refine t_exit ?_
    | refine xt_blk ?_
    | refine xt_blk_exit ?_
    | refine xt_then_ret ?_
    | refine xt_then_exit ?_
    | refine xt_blk_ret ?_
    | refine xt_blk_other rfl ?_
    | refine xt_round_exit ?_
    | refine xt_round_ret ?_
    | refine tl_run tab rfl rfl ?_
    | refine tl_guard_yes rfl rfl ?_
    | refine tl_guard_no rfl rfl rfl rfl ?_
    | refine tl_guard_undef rfl rfl rfl ?_
    | refine tl_load (by first | exact o_loadB 0 rfl rfl rfl | exact o_loadB 1 rfl rfl rfl | exact o_loadB 2 rfl rfl rfl | exact o_loadB 3 rfl rfl rfl | exact o_loadB 4 rfl rfl rfl | exact o_loadBA 0 rfl rfl rfl | exact o_loadBA 1 rfl rfl rfl | exact o_loadBA 2 rfl rfl rfl | exact o_loadBA 3 rfl rfl rfl) rfl ?_
    | refine tl_pick (by first | exact o_pick_t rfl rfl | exact o_pick_f rfl rfl) rfl ?_
    | refine tl_bin (by first | exact o_add64 rfl rfl (by omega) | exact o_sub64 rfl rfl (by omega) | exact o_mul64 rfl rfl (by first | assumption | omega)) rfl ?_
    | refine tl_store (by first | exact o_storeB 0 rfl rfl rfl rfl rfl | exact o_storeB 1 rfl rfl rfl rfl rfl | exact o_storeB 2 rfl rfl rfl rfl rfl | exact o_storeBA 0 rfl rfl rfl rfl rfl rfl | exact o_storeBA 1 rfl rfl rfl rfl rfl rfl | exact o_storeBA 2 rfl rfl rfl rfl rfl rfl) ?_
    | refine tl_box (o_box rfl rfl) rfl (fun _ => ?_)
    | refine tl_alloc rfl (fun _ => ?_)))
  rename_i b
  refine tl_val (o_build [.int .i64 X, .int .i64 Y, .int .i64 W, .int .i64 H] rfl (build100 X Y W H)) rfl rfl ?_
  (repeat' (first
    | refine t_seq ?_
    | refine t_region ?_
    | refine xt_then ?_
    | refine tl_nil ?_
    | refine t_block ?_
    | refine t_skip ?_
    | refine t_ret ?_
    | refine t_exit ?_
    | refine xt_blk ?_
    | refine xt_blk_exit ?_
    | refine xt_then_ret ?_
    | refine xt_then_exit ?_
    | refine xt_blk_ret ?_
    | refine xt_blk_other rfl ?_
    | refine xt_round_exit ?_
    | refine xt_round_ret ?_
    | refine tl_run tab rfl rfl ?_
    | refine tl_guard_yes rfl rfl ?_
    | refine tl_guard_no rfl rfl rfl rfl ?_
    | refine tl_guard_undef rfl rfl rfl ?_
    | refine tl_load (by first | exact o_loadB 0 rfl rfl rfl | exact o_loadB 1 rfl rfl rfl | exact o_loadB 2 rfl rfl rfl | exact o_loadB 3 rfl rfl rfl | exact o_loadB 4 rfl rfl rfl | exact o_loadBA 0 rfl rfl rfl | exact o_loadBA 1 rfl rfl rfl | exact o_loadBA 2 rfl rfl rfl | exact o_loadBA 3 rfl rfl rfl) rfl ?_
    | refine tl_pick (by first | exact o_pick_t rfl rfl | exact o_pick_f rfl rfl) rfl ?_
    | refine tl_bin (by first | exact o_add64 rfl rfl (by omega) | exact o_sub64 rfl rfl (by omega) | exact o_mul64 rfl rfl (by first | assumption | omega)) rfl ?_
    | refine tl_store (by first | exact o_storeB 0 rfl rfl rfl rfl rfl | exact o_storeB 1 rfl rfl rfl rfl rfl | exact o_storeB 2 rfl rfl rfl rfl rfl | exact o_storeBA 0 rfl rfl rfl rfl rfl rfl | exact o_storeBA 1 rfl rfl rfl rfl rfl rfl | exact o_storeBA 2 rfl rfl rfl rfl rfl rfl) ?_
    | refine tl_box (o_box rfl rfl) rfl (fun _ => ?_)
    | refine tl_alloc rfl (fun _ => ?_)))
  refine t_loopC (fun i : Nat => [(13, .agg #[.int .i64 X, .int .i64 Y, .int .i64 W, .int .i64 H]), (14, .int .i64 i)]) (fun i => i ≤ 4 ∧ ∀ j n, j < i → [X, Y, W, H][j]? = some n → inB n = true) (fun _ => St w [] [(b, bx [.int .i64 X, .int .i64 Y, .int .i64 W, .int .i64 H, rows] 30)]) (fun i => 4 - i) 0 ⟨by omega, by omega⟩ ⟨rfl, rfl, trivial⟩ (fun _ h => h) ?_
  rintro i ⟨hi, hall⟩
  (repeat' (first
    | refine t_seq ?_
    | refine t_region ?_
    | refine xt_then ?_
    | refine tl_nil ?_
    | refine t_block ?_
    | refine t_skip ?_
    | refine t_ret ?_
    | refine t_exit ?_
    | refine xt_blk ?_
    | refine xt_blk_exit ?_
    | refine xt_then_ret ?_
    | refine xt_then_exit ?_
    | refine xt_blk_ret ?_
    | refine xt_blk_other rfl ?_
    | refine xt_round_exit ?_
    | refine xt_round_ret ?_
    | refine tl_run tab rfl rfl ?_
    | refine tl_guard_yes rfl rfl ?_
    | refine tl_guard_no rfl rfl rfl rfl ?_
    | refine tl_guard_undef rfl rfl rfl ?_
    | refine tl_load (by first | exact o_loadB 0 rfl rfl rfl | exact o_loadB 1 rfl rfl rfl | exact o_loadB 2 rfl rfl rfl | exact o_loadB 3 rfl rfl rfl | exact o_loadB 4 rfl rfl rfl | exact o_loadBA 0 rfl rfl rfl | exact o_loadBA 1 rfl rfl rfl | exact o_loadBA 2 rfl rfl rfl | exact o_loadBA 3 rfl rfl rfl) rfl ?_
    | refine tl_pick (by first | exact o_pick_t rfl rfl | exact o_pick_f rfl rfl) rfl ?_
    | refine tl_bin (by first | exact o_add64 rfl rfl (by omega) | exact o_sub64 rfl rfl (by omega) | exact o_mul64 rfl rfl (by first | assumption | omega)) rfl ?_
    | refine tl_store (by first | exact o_storeB 0 rfl rfl rfl rfl rfl | exact o_storeB 1 rfl rfl rfl rfl rfl | exact o_storeB 2 rfl rfl rfl rfl rfl | exact o_storeBA 0 rfl rfl rfl rfl rfl rfl | exact o_storeBA 1 rfl rfl rfl rfl rfl rfl | exact o_storeBA 2 rfl rfl rfl rfl rfl rfl) ?_
    | refine tl_box (o_box rfl rfl) rfl (fun _ => ?_)
    | refine tl_alloc rfl (fun _ => ?_)))
  refine t_cond rfl (fun h => ?_) (fun h => ?_)
  · have hi4 : i < 4 := by have := of_decide_eq_true h; omega
    obtain ⟨n, hn⟩ : ∃ n, [X, Y, W, H][i]? = some n := ⟨_, List.getElem?_eq_getElem (by simpa using hi4)⟩
    have hv : [Value.int .i64 X, .int .i64 Y, .int .i64 W, .int .i64 H][(i : Int).toNat]? = some (.int .i64 n) := by
      have := congrArg (Option.map (Value.int .i64)) hn
      rw [← List.getElem?_map] at this
      simpa using this
    (repeat' (first
      | refine t_seq ?_
      | refine t_region ?_
      | refine xt_then ?_
      | refine tl_nil ?_
      | refine t_block ?_
      | refine t_skip ?_
      | refine t_ret ?_
      | refine t_exit ?_
      | refine xt_blk ?_
      | refine xt_blk_exit ?_
      | refine xt_then_ret ?_
      | refine xt_then_exit ?_
      | refine xt_blk_ret ?_
      | refine xt_blk_other rfl ?_
      | refine xt_round_exit ?_
      | refine xt_round_ret ?_
      | refine tl_run tab rfl rfl ?_
      | refine tl_guard_yes rfl rfl ?_
      | refine tl_guard_no rfl rfl rfl rfl ?_
      | refine tl_guard_undef rfl rfl rfl ?_
      | refine tl_load (by first | exact o_loadB 0 rfl rfl rfl | exact o_loadB 1 rfl rfl rfl | exact o_loadB 2 rfl rfl rfl | exact o_loadB 3 rfl rfl rfl | exact o_loadB 4 rfl rfl rfl | exact o_loadBA 0 rfl rfl rfl | exact o_loadBA 1 rfl rfl rfl | exact o_loadBA 2 rfl rfl rfl | exact o_loadBA 3 rfl rfl rfl) rfl ?_
      | refine tl_pick (by first | exact o_pick_t rfl rfl | exact o_pick_f rfl rfl) rfl ?_
      | refine tl_bin (by first | exact o_add64 rfl rfl (by omega) | exact o_sub64 rfl rfl (by omega) | exact o_mul64 rfl rfl (by first | assumption | omega)) rfl ?_
      | refine tl_store (by first | exact o_storeB 0 rfl rfl rfl rfl rfl | exact o_storeB 1 rfl rfl rfl rfl rfl | exact o_storeB 2 rfl rfl rfl rfl rfl | exact o_storeBA 0 rfl rfl rfl rfl rfl rfl | exact o_storeBA 1 rfl rfl rfl rfl rfl rfl | exact o_storeBA 2 rfl rfl rfl rfl rfl rfl) ?_
      | refine tl_box (o_box rfl rfl) rfl (fun _ => ?_)
      | refine tl_alloc rfl (fun _ => ?_)))
    refine tl_val (o_indexArr (cs := [.int .i64 X, .int .i64 Y, .int .i64 W, .int .i64 H]) rfl rfl (by omega) hv) rfl rfl ?_
    (repeat' (first
      | refine t_seq ?_
      | refine t_region ?_
      | refine xt_then ?_
      | refine tl_nil ?_
      | refine t_block ?_
      | refine t_skip ?_
      | refine t_ret ?_
      | refine t_exit ?_
      | refine xt_blk ?_
      | refine xt_blk_exit ?_
      | refine xt_then_ret ?_
      | refine xt_then_exit ?_
      | refine xt_blk_ret ?_
      | refine xt_blk_other rfl ?_
      | refine xt_round_exit ?_
      | refine xt_round_ret ?_
      | refine tl_run tab rfl rfl ?_
      | refine tl_guard_yes rfl rfl ?_
      | refine tl_guard_no rfl rfl rfl rfl ?_
      | refine tl_guard_undef rfl rfl rfl ?_
      | refine tl_load (by first | exact o_loadB 0 rfl rfl rfl | exact o_loadB 1 rfl rfl rfl | exact o_loadB 2 rfl rfl rfl | exact o_loadB 3 rfl rfl rfl | exact o_loadB 4 rfl rfl rfl | exact o_loadBA 0 rfl rfl rfl | exact o_loadBA 1 rfl rfl rfl | exact o_loadBA 2 rfl rfl rfl | exact o_loadBA 3 rfl rfl rfl) rfl ?_
      | refine tl_pick (by first | exact o_pick_t rfl rfl | exact o_pick_f rfl rfl) rfl ?_
      | refine tl_bin (by first | exact o_add64 rfl rfl (by omega) | exact o_sub64 rfl rfl (by omega) | exact o_mul64 rfl rfl (by first | assumption | omega)) rfl ?_
      | refine tl_store (by first | exact o_storeB 0 rfl rfl rfl rfl rfl | exact o_storeB 1 rfl rfl rfl rfl rfl | exact o_storeB 2 rfl rfl rfl rfl rfl | exact o_storeBA 0 rfl rfl rfl rfl rfl rfl | exact o_storeBA 1 rfl rfl rfl rfl rfl rfl | exact o_storeBA 2 rfl rfl rfl rfl rfl rfl) ?_
      | refine tl_box (o_box rfl rfl) rfl (fun _ => ?_)
      | refine tl_alloc rfl (fun _ => ?_)))
    have hsome : ∀ m, [X, Y, W, H][i]? = some m → inB m = false → nearB X Y W H = false := by
      intro m hm hb
      rcases i with _ | _ | _ | _ | i <;> simp at hm <;> first | (subst hm; simp [nearB, hb]) | omega
    refine tl_guard rfl rfl rfl (fun h1 => ?_) (fun h1 => ?_)
    · have h1' := of_decide_eq_false h1
      (repeat' (first
        | refine t_seq ?_
        | refine t_region ?_
        | refine xt_then ?_
        | refine tl_nil ?_
        | refine t_block ?_
        | refine t_skip ?_
        | refine t_ret ?_
        | refine t_exit ?_
        | refine xt_blk ?_
        | refine xt_blk_exit ?_
        | refine xt_then_ret ?_
        | refine xt_then_exit ?_
        | refine xt_blk_ret ?_
        | refine xt_blk_other rfl ?_
        | refine xt_round_exit ?_
        | refine xt_round_ret ?_
        | refine tl_run tab rfl rfl ?_
        | refine tl_guard_yes rfl rfl ?_
        | refine tl_guard_no rfl rfl rfl rfl ?_
        | refine tl_guard_undef rfl rfl rfl ?_
        | refine tl_load (by first | exact o_loadB 0 rfl rfl rfl | exact o_loadB 1 rfl rfl rfl | exact o_loadB 2 rfl rfl rfl | exact o_loadB 3 rfl rfl rfl | exact o_loadB 4 rfl rfl rfl | exact o_loadBA 0 rfl rfl rfl | exact o_loadBA 1 rfl rfl rfl | exact o_loadBA 2 rfl rfl rfl | exact o_loadBA 3 rfl rfl rfl) rfl ?_
        | refine tl_pick (by first | exact o_pick_t rfl rfl | exact o_pick_f rfl rfl) rfl ?_
        | refine tl_bin (by first | exact o_add64 rfl rfl (by omega) | exact o_sub64 rfl rfl (by omega) | exact o_mul64 rfl rfl (by first | assumption | omega)) rfl ?_
        | refine tl_store (by first | exact o_storeB 0 rfl rfl rfl rfl rfl | exact o_storeB 1 rfl rfl rfl rfl rfl | exact o_storeB 2 rfl rfl rfl rfl rfl | exact o_storeBA 0 rfl rfl rfl rfl rfl rfl | exact o_storeBA 1 rfl rfl rfl rfl rfl rfl | exact o_storeBA 2 rfl rfl rfl rfl rfl rfl) ?_
        | refine tl_box (o_box rfl rfl) rfl (fun _ => ?_)
        | refine tl_alloc rfl (fun _ => ?_)))
      refine t_cond rfl (fun h => ?_) (fun h => ?_)
      · have h' := of_decide_eq_true h
        (repeat' (first
          | refine t_seq ?_
          | refine t_region ?_
          | refine xt_then ?_
          | refine tl_nil ?_
          | refine t_block ?_
          | refine t_skip ?_
          | refine t_ret ?_
          | refine t_exit ?_
          | refine xt_blk ?_
          | refine xt_blk_exit ?_
          | refine xt_then_ret ?_
          | refine xt_then_exit ?_
          | refine xt_blk_ret ?_
          | refine xt_blk_other rfl ?_
          | refine xt_round_exit ?_
          | refine xt_round_ret ?_
          | refine tl_run tab rfl rfl ?_
          | refine tl_guard_yes rfl rfl ?_
          | refine tl_guard_no rfl rfl rfl rfl ?_
          | refine tl_guard_undef rfl rfl rfl ?_
          | refine tl_load (by first | exact o_loadB 0 rfl rfl rfl | exact o_loadB 1 rfl rfl rfl | exact o_loadB 2 rfl rfl rfl | exact o_loadB 3 rfl rfl rfl | exact o_loadB 4 rfl rfl rfl | exact o_loadBA 0 rfl rfl rfl | exact o_loadBA 1 rfl rfl rfl | exact o_loadBA 2 rfl rfl rfl | exact o_loadBA 3 rfl rfl rfl) rfl ?_
          | refine tl_pick (by first | exact o_pick_t rfl rfl | exact o_pick_f rfl rfl) rfl ?_
          | refine tl_bin (by first | exact o_add64 rfl rfl (by omega) | exact o_sub64 rfl rfl (by omega) | exact o_mul64 rfl rfl (by first | assumption | omega)) rfl ?_
          | refine tl_store (by first | exact o_storeB 0 rfl rfl rfl rfl rfl | exact o_storeB 1 rfl rfl rfl rfl rfl | exact o_storeB 2 rfl rfl rfl rfl rfl | exact o_storeBA 0 rfl rfl rfl rfl rfl rfl | exact o_storeBA 1 rfl rfl rfl rfl rfl rfl | exact o_storeBA 2 rfl rfl rfl rfl rfl rfl) ?_
          | refine tl_box (o_box rfl rfl) rfl (fun _ => ?_)
          | refine tl_alloc rfl (fun _ => ?_)))
        exact xt_ret1S rfl rfl fun _ _ => by rw [hsome n hn (by simp [inB, h'])]
      · have h' := of_decide_eq_false h
        (repeat' (first
          | refine t_seq ?_
          | refine t_region ?_
          | refine xt_then ?_
          | refine tl_nil ?_
          | refine t_block ?_
          | refine t_skip ?_
          | refine t_ret ?_
          | refine t_exit ?_
          | refine xt_blk ?_
          | refine xt_blk_exit ?_
          | refine xt_then_ret ?_
          | refine xt_then_exit ?_
          | refine xt_blk_ret ?_
          | refine xt_blk_other rfl ?_
          | refine xt_round_exit ?_
          | refine xt_round_ret ?_
          | refine tl_run tab rfl rfl ?_
          | refine tl_guard_yes rfl rfl ?_
          | refine tl_guard_no rfl rfl rfl rfl ?_
          | refine tl_guard_undef rfl rfl rfl ?_
          | refine tl_load (by first | exact o_loadB 0 rfl rfl rfl | exact o_loadB 1 rfl rfl rfl | exact o_loadB 2 rfl rfl rfl | exact o_loadB 3 rfl rfl rfl | exact o_loadB 4 rfl rfl rfl | exact o_loadBA 0 rfl rfl rfl | exact o_loadBA 1 rfl rfl rfl | exact o_loadBA 2 rfl rfl rfl | exact o_loadBA 3 rfl rfl rfl) rfl ?_
          | refine tl_pick (by first | exact o_pick_t rfl rfl | exact o_pick_f rfl rfl) rfl ?_
          | refine tl_bin (by first | exact o_add64 rfl rfl (by omega) | exact o_sub64 rfl rfl (by omega) | exact o_mul64 rfl rfl (by first | assumption | omega)) rfl ?_
          | refine tl_store (by first | exact o_storeB 0 rfl rfl rfl rfl rfl | exact o_storeB 1 rfl rfl rfl rfl rfl | exact o_storeB 2 rfl rfl rfl rfl rfl | exact o_storeBA 0 rfl rfl rfl rfl rfl rfl | exact o_storeBA 1 rfl rfl rfl rfl rfl rfl | exact o_storeBA 2 rfl rfl rfl rfl rfl rfl) ?_
          | refine tl_box (o_box rfl rfl) rfl (fun _ => ?_)
          | refine tl_alloc rfl (fun _ => ?_)))
        refine xt_roundC (i + 1) ⟨rfl, rfl, trivial⟩ ⟨by omega, fun j m hj hm => ?_⟩ (fun _ h => h) (by omega)
        by_cases e : j = i
        · subst e; rw [hn] at hm; cases hm; simp [inB, h1', h']
        · exact hall j m (by omega) hm
    · have h1' := of_decide_eq_true h1
      (repeat' (first
        | refine t_seq ?_
        | refine t_region ?_
        | refine xt_then ?_
        | refine tl_nil ?_
        | refine t_block ?_
        | refine t_skip ?_
        | refine t_ret ?_
        | refine t_exit ?_
        | refine xt_blk ?_
        | refine xt_blk_exit ?_
        | refine xt_then_ret ?_
        | refine xt_then_exit ?_
        | refine xt_blk_ret ?_
        | refine xt_blk_other rfl ?_
        | refine xt_round_exit ?_
        | refine xt_round_ret ?_
        | refine tl_run tab rfl rfl ?_
        | refine tl_guard_yes rfl rfl ?_
        | refine tl_guard_no rfl rfl rfl rfl ?_
        | refine tl_guard_undef rfl rfl rfl ?_
        | refine tl_load (by first | exact o_loadB 0 rfl rfl rfl | exact o_loadB 1 rfl rfl rfl | exact o_loadB 2 rfl rfl rfl | exact o_loadB 3 rfl rfl rfl | exact o_loadB 4 rfl rfl rfl | exact o_loadBA 0 rfl rfl rfl | exact o_loadBA 1 rfl rfl rfl | exact o_loadBA 2 rfl rfl rfl | exact o_loadBA 3 rfl rfl rfl) rfl ?_
        | refine tl_pick (by first | exact o_pick_t rfl rfl | exact o_pick_f rfl rfl) rfl ?_
        | refine tl_bin (by first | exact o_add64 rfl rfl (by omega) | exact o_sub64 rfl rfl (by omega) | exact o_mul64 rfl rfl (by first | assumption | omega)) rfl ?_
        | refine tl_store (by first | exact o_storeB 0 rfl rfl rfl rfl rfl | exact o_storeB 1 rfl rfl rfl rfl rfl | exact o_storeB 2 rfl rfl rfl rfl rfl | exact o_storeBA 0 rfl rfl rfl rfl rfl rfl | exact o_storeBA 1 rfl rfl rfl rfl rfl rfl | exact o_storeBA 2 rfl rfl rfl rfl rfl rfl) ?_
        | refine tl_box (o_box rfl rfl) rfl (fun _ => ?_)
        | refine tl_alloc rfl (fun _ => ?_)))
      refine t_cond rfl (fun h => ?_) (fun h => ?_)
      · (repeat' (first
          | refine t_seq ?_
          | refine t_region ?_
          | refine xt_then ?_
          | refine tl_nil ?_
          | refine t_block ?_
          | refine t_skip ?_
          | refine t_ret ?_
          | refine t_exit ?_
          | refine xt_blk ?_
          | refine xt_blk_exit ?_
          | refine xt_then_ret ?_
          | refine xt_then_exit ?_
          | refine xt_blk_ret ?_
          | refine xt_blk_other rfl ?_
          | refine xt_round_exit ?_
          | refine xt_round_ret ?_
          | refine tl_run tab rfl rfl ?_
          | refine tl_guard_yes rfl rfl ?_
          | refine tl_guard_no rfl rfl rfl rfl ?_
          | refine tl_guard_undef rfl rfl rfl ?_
          | refine tl_load (by first | exact o_loadB 0 rfl rfl rfl | exact o_loadB 1 rfl rfl rfl | exact o_loadB 2 rfl rfl rfl | exact o_loadB 3 rfl rfl rfl | exact o_loadB 4 rfl rfl rfl | exact o_loadBA 0 rfl rfl rfl | exact o_loadBA 1 rfl rfl rfl | exact o_loadBA 2 rfl rfl rfl | exact o_loadBA 3 rfl rfl rfl) rfl ?_
          | refine tl_pick (by first | exact o_pick_t rfl rfl | exact o_pick_f rfl rfl) rfl ?_
          | refine tl_bin (by first | exact o_add64 rfl rfl (by omega) | exact o_sub64 rfl rfl (by omega) | exact o_mul64 rfl rfl (by first | assumption | omega)) rfl ?_
          | refine tl_store (by first | exact o_storeB 0 rfl rfl rfl rfl rfl | exact o_storeB 1 rfl rfl rfl rfl rfl | exact o_storeB 2 rfl rfl rfl rfl rfl | exact o_storeBA 0 rfl rfl rfl rfl rfl rfl | exact o_storeBA 1 rfl rfl rfl rfl rfl rfl | exact o_storeBA 2 rfl rfl rfl rfl rfl rfl) ?_
          | refine tl_box (o_box rfl rfl) rfl (fun _ => ?_)
          | refine tl_alloc rfl (fun _ => ?_)))
        exact xt_ret1S rfl rfl fun _ _ => by rw [hsome n hn (by simp [inB, h1'])]
      · cases h
  · (repeat' (first
      | refine t_seq ?_
      | refine t_region ?_
      | refine xt_then ?_
      | refine tl_nil ?_
      | refine t_block ?_
      | refine t_skip ?_
      | refine t_ret ?_
      | refine t_exit ?_
      | refine xt_blk ?_
      | refine xt_blk_exit ?_
      | refine xt_then_ret ?_
      | refine xt_then_exit ?_
      | refine xt_blk_ret ?_
      | refine xt_blk_other rfl ?_
      | refine xt_round_exit ?_
      | refine xt_round_ret ?_
      | refine tl_run tab rfl rfl ?_
      | refine tl_guard_yes rfl rfl ?_
      | refine tl_guard_no rfl rfl rfl rfl ?_
      | refine tl_guard_undef rfl rfl rfl ?_
      | refine tl_load (by first | exact o_loadB 0 rfl rfl rfl | exact o_loadB 1 rfl rfl rfl | exact o_loadB 2 rfl rfl rfl | exact o_loadB 3 rfl rfl rfl | exact o_loadB 4 rfl rfl rfl | exact o_loadBA 0 rfl rfl rfl | exact o_loadBA 1 rfl rfl rfl | exact o_loadBA 2 rfl rfl rfl | exact o_loadBA 3 rfl rfl rfl) rfl ?_
      | refine tl_pick (by first | exact o_pick_t rfl rfl | exact o_pick_f rfl rfl) rfl ?_
      | refine tl_bin (by first | exact o_add64 rfl rfl (by omega) | exact o_sub64 rfl rfl (by omega) | exact o_mul64 rfl rfl (by first | assumption | omega)) rfl ?_
      | refine tl_store (by first | exact o_storeB 0 rfl rfl rfl rfl rfl | exact o_storeB 1 rfl rfl rfl rfl rfl | exact o_storeB 2 rfl rfl rfl rfl rfl | exact o_storeBA 0 rfl rfl rfl rfl rfl rfl | exact o_storeBA 1 rfl rfl rfl rfl rfl rfl | exact o_storeBA 2 rfl rfl rfl rfl rfl rfl) ?_
      | refine tl_box (o_box rfl rfl) rfl (fun _ => ?_)
      | refine tl_alloc rfl (fun _ => ?_)))
    have hi4 : i = 4 := by have := of_decide_eq_false h; omega
    subst hi4
    refine xt_ret1S rfl rfl fun _ _ => ?_
    have a0 := hall 0 X (by omega) rfl
    have a1 := hall 1 Y (by omega) rfl
    have a2 := hall 2 W (by omega) rfl
    have a3 := hall 3 H (by omega) rfl
    simp [nearB, a0, a1, a2, a3]

end Go.Proofs.Ytbgolbkolcmldaa
