/-
  Edges of points.
-/
import Derived.Test.YtbgolbkolcmldaaW2
namespace Go.Proofs.Ytbgolbkolcmldaa
open Go.RowKit
attribute [local irreducible] T TL Xt O Op1 Kt DV ObsB DE

abbrev pt (x y : Int) : Value := .agg #[.int .i64 x, .int .i64 y]

theorem build83 (a b c e f : Int) (w : World) : (Instr.build 83 #[(0, .int .i64 a), (1, .int .i64 b), (2, .int .i64 c), (3, .int .i64 e), (4, .int .i64 f)]).run Try.prog w = .ok (edg a b c e f) w := by kernel_rfl
theorem build24 (a b : Int) (w : World) : (Instr.build 24 #[(0, .int .i64 a), (1, .int .i64 b)]).run Try.prog w = .ok (pt a b) w := by kernel_rfl

/-- the edge from p to q, cut, from below upwards -/
def edgeV (px py qx qy : Int) : Int × Int × Int × Int × Int :=
  if cut qy < cut py then (cut qx, cut qy, cut px, cut py, -1) else (cut px, cut py, cut qx, cut qy, 1)

theorem edgeOf_det (px py qx qy : Int) : Det Try.prog 73 [pt px py, pt qx qy] (.tuple #[edg (edgeV px py qx qy).1 (edgeV px py qx qy).2.1 (edgeV px py qx qy).2.2.1 (edgeV px py qx qy).2.2.2.1 (edgeV px py qx qy).2.2.2.2, .bool (decide ((edgeV px py qx qy).2.1 < (edgeV px py qx qy).2.2.2.1))]) := by
  intro w
  refine calls_S Try.func73 rfl Try.ntmps73 rfl ?_
  (repeat' (first
    | refine t_seq ?_
    | refine t_region ?_
    | refine xt_then ?_
    | refine tl_nil ?_
    | refine t_block ?_
    | refine t_skip ?_
    | refine t_ret ?_
    | refine t_exit ?_
    | refine xt_blk ?_
    | refine xt_blk_exit ?_
    | refine xt_then_ret ?_
    | refine xt_then_exit ?_
    | refine xt_blk_ret ?_
    | refine xt_blk_other rfl ?_
    | refine xt_round_exit ?_
    | refine xt_round_ret ?_
    | refine tl_run tab rfl rfl ?_
    | refine tl_guard_yes rfl rfl ?_
    | refine tl_guard_no rfl rfl rfl rfl ?_
    | refine tl_guard_undef rfl rfl rfl ?_
    | refine tl_load (by first | exact o_loadB 0 rfl rfl rfl | exact o_loadB 1 rfl rfl rfl | exact o_loadB 2 rfl rfl rfl | exact o_loadB 3 rfl rfl rfl | exact o_loadB 4 rfl rfl rfl | exact o_loadBA 0 rfl rfl rfl | exact o_loadBA 1 rfl rfl rfl | exact o_loadBA 2 rfl rfl rfl | exact o_loadBA 3 rfl rfl rfl) rfl ?_
    | refine tl_pick (by first | exact o_pick_t rfl rfl | exact o_pick_f rfl rfl) rfl ?_
    | refine tl_bin (by first | exact o_add64 rfl rfl (by omega) | exact o_sub64 rfl rfl (by omega) | exact o_mul64 rfl rfl (by first | assumption | omega)) rfl ?_
    | refine tl_store (by first | exact o_storeB 0 rfl rfl rfl rfl rfl | exact o_storeB 1 rfl rfl rfl rfl rfl | exact o_storeB 2 rfl rfl rfl rfl rfl | exact o_storeBA 0 rfl rfl rfl rfl rfl rfl | exact o_storeBA 1 rfl rfl rfl rfl rfl rfl | exact o_storeBA 2 rfl rfl rfl rfl rfl rfl) ?_
    | refine tl_box (o_box rfl rfl) rfl (fun _ => ?_)
    | refine tl_alloc rfl (fun _ => ?_)))
  rename_i b2 b3 b4
  apply t_drawB0 [.val _, .val _, .val (.int .i64 (cut px)), .val _, .val _, .val (.int .i64 (cut py)), .val _, .val _, .val (.int .i64 (cut qx)), .val _, .val _, .val (.int .i64 (cut qy)), .val (edg (cut px) (cut py) (cut qx) (cut qy) 1), .box 83 [.int .i64 0, .int .i64 0, .int .i64 0, .int .i64 0, .int .i64 0] [.int .i64 (cut px), .int .i64 (cut py), .int .i64 (cut qx), .int .i64 (cut qy), .int .i64 1] 14, .put 13] rfl ?hob mixed (by kernel_rfl) rfl ?fin
  case hob =>
    (repeat' (first
      | refine ob_p tab (fun _ => rfl) ?_
      | (apply ob_v; focus (intro _ _; first | exact o_loadB 0 rfl rfl rfl | exact o_loadB 1 rfl rfl rfl | exact o_loadB 2 rfl rfl rfl | exact o_loadB 3 rfl rfl rfl | exact o_loadBA 0 rfl rfl rfl | exact o_loadBA 1 rfl rfl rfl | exact o_loadBA 2 rfl rfl rfl | exact o_loadBA 3 rfl rfl rfl | exact o_add64 rfl rfl (by omega) | exact o_sub64 rfl rfl (by omega)))))
    apply ob_v
    · intro _ _; exact o_det (cut_det px) rfl
    (repeat' (first
      | refine ob_p tab (fun _ => rfl) ?_
      | (apply ob_v; focus (intro _ _; first | exact o_loadB 0 rfl rfl rfl | exact o_loadB 1 rfl rfl rfl | exact o_loadB 2 rfl rfl rfl | exact o_loadB 3 rfl rfl rfl | exact o_loadBA 0 rfl rfl rfl | exact o_loadBA 1 rfl rfl rfl | exact o_loadBA 2 rfl rfl rfl | exact o_loadBA 3 rfl rfl rfl | exact o_add64 rfl rfl (by omega) | exact o_sub64 rfl rfl (by omega)))))
    apply ob_v
    · intro _ _; exact o_det (cut_det py) rfl
    (repeat' (first
      | refine ob_p tab (fun _ => rfl) ?_
      | (apply ob_v; focus (intro _ _; first | exact o_loadB 0 rfl rfl rfl | exact o_loadB 1 rfl rfl rfl | exact o_loadB 2 rfl rfl rfl | exact o_loadB 3 rfl rfl rfl | exact o_loadBA 0 rfl rfl rfl | exact o_loadBA 1 rfl rfl rfl | exact o_loadBA 2 rfl rfl rfl | exact o_loadBA 3 rfl rfl rfl | exact o_add64 rfl rfl (by omega) | exact o_sub64 rfl rfl (by omega)))))
    apply ob_v
    · intro _ _; exact o_det (cut_det qx) rfl
    (repeat' (first
      | refine ob_p tab (fun _ => rfl) ?_
      | (apply ob_v; focus (intro _ _; first | exact o_loadB 0 rfl rfl rfl | exact o_loadB 1 rfl rfl rfl | exact o_loadB 2 rfl rfl rfl | exact o_loadB 3 rfl rfl rfl | exact o_loadBA 0 rfl rfl rfl | exact o_loadBA 1 rfl rfl rfl | exact o_loadBA 2 rfl rfl rfl | exact o_loadBA 3 rfl rfl rfl | exact o_add64 rfl rfl (by omega) | exact o_sub64 rfl rfl (by omega)))))
    apply ob_v
    · intro _ _; exact o_det (cut_det qy) rfl
    apply ob_v
    · intro _ _; exact o_build [.int .i64 (cut px), .int .i64 (cut py), .int .i64 (cut qx), .int .i64 (cut qy), .int .i64 1] rfl (build83 _ _ _ _ _)
    refine ob_box rfl rfl rfl ?_
    refine ob_put rfl rfl rfl (fun _ => rfl) (fun _ => rfl) (stores_ag rfl rfl) ?_
    exact ob_nil
  case fin =>
    intro bs
    generalize hb6 : bs 13 = b6
    refine xt_weak (fr' := [(4, .pointer (some ⟨b4, 0, none⟩)), (5, .bool false), (6, .pointer (some ⟨bs 13, 0, none⟩))]) (I' := St w [] [(bs 13, bx [.int .i64 (cut px), .int .i64 (cut py), .int .i64 (cut qx), .int .i64 (cut qy), .int .i64 1] 83), (b4, bx [.int .i64 0, .int .i64 0, .int .i64 0, .int .i64 0, .int .i64 0] 83)]) ⟨rfl, rfl, rfl, trivial⟩ (fun _ h => h.sublist (.cons_cons _ (.cons_cons _ (List.nil_sublist _)))) ?_
    rw [hb6]
    (repeat' (first
      | refine t_seq ?_
      | refine t_region ?_
      | refine xt_then ?_
      | refine tl_nil ?_
      | refine t_block ?_
      | refine t_skip ?_
      | refine t_ret ?_
      | refine t_exit ?_
      | refine xt_blk ?_
      | refine xt_blk_exit ?_
      | refine xt_then_ret ?_
      | refine xt_then_exit ?_
      | refine xt_blk_ret ?_
      | refine xt_blk_other rfl ?_
      | refine xt_round_exit ?_
      | refine xt_round_ret ?_
      | refine tl_run tab rfl rfl ?_
      | refine tl_guard_yes rfl rfl ?_
      | refine tl_guard_no rfl rfl rfl rfl ?_
      | refine tl_guard_undef rfl rfl rfl ?_
      | refine tl_load (by first | exact o_loadB 0 rfl rfl rfl | exact o_loadB 1 rfl rfl rfl | exact o_loadB 2 rfl rfl rfl | exact o_loadB 3 rfl rfl rfl | exact o_loadB 4 rfl rfl rfl | exact o_loadBA 0 rfl rfl rfl | exact o_loadBA 1 rfl rfl rfl | exact o_loadBA 2 rfl rfl rfl | exact o_loadBA 3 rfl rfl rfl) rfl ?_
      | refine tl_pick (by first | exact o_pick_t rfl rfl | exact o_pick_f rfl rfl) rfl ?_
      | refine tl_bin (by first | exact o_add64 rfl rfl (by omega) | exact o_sub64 rfl rfl (by omega) | exact o_mul64 rfl rfl (by first | assumption | omega)) rfl ?_
      | refine tl_store (by first | exact o_storeB 0 rfl rfl rfl rfl rfl | exact o_storeB 1 rfl rfl rfl rfl rfl | exact o_storeB 2 rfl rfl rfl rfl rfl | exact o_storeBA 0 rfl rfl rfl rfl rfl rfl | exact o_storeBA 1 rfl rfl rfl rfl rfl rfl | exact o_storeBA 2 rfl rfl rfl rfl rfl rfl) ?_
      | refine tl_box (o_box rfl rfl) rfl (fun _ => ?_)
      | refine tl_alloc rfl (fun _ => ?_)))
    refine t_cond rfl (fun h => ?_) (fun h => ?_)
    · have h' := of_decide_eq_true h
      have hE : edgeV px py qx qy = (cut qx, cut qy, cut px, cut py, -1) := by unfold edgeV; rw [if_pos h']
      (repeat' (first
        | refine t_seq ?_
        | refine t_region ?_
        | refine xt_then ?_
        | refine tl_nil ?_
        | refine t_block ?_
        | refine t_skip ?_
        | refine t_ret ?_
        | refine t_exit ?_
        | refine xt_blk ?_
        | refine xt_blk_exit ?_
        | refine xt_then_ret ?_
        | refine xt_then_exit ?_
        | refine xt_blk_ret ?_
        | refine xt_blk_other rfl ?_
        | refine xt_round_exit ?_
        | refine xt_round_ret ?_
        | refine tl_run tab rfl rfl ?_
        | refine tl_guard_yes rfl rfl ?_
        | refine tl_guard_no rfl rfl rfl rfl ?_
        | refine tl_guard_undef rfl rfl rfl ?_
        | refine tl_load (by first | exact o_loadB 0 rfl rfl rfl | exact o_loadB 1 rfl rfl rfl | exact o_loadB 2 rfl rfl rfl | exact o_loadB 3 rfl rfl rfl | exact o_loadB 4 rfl rfl rfl | exact o_loadBA 0 rfl rfl rfl | exact o_loadBA 1 rfl rfl rfl | exact o_loadBA 2 rfl rfl rfl | exact o_loadBA 3 rfl rfl rfl) rfl ?_
        | refine tl_pick (by first | exact o_pick_t rfl rfl | exact o_pick_f rfl rfl) rfl ?_
        | refine tl_bin (by first | exact o_add64 rfl rfl (by omega) | exact o_sub64 rfl rfl (by omega) | exact o_mul64 rfl rfl (by first | assumption | omega)) rfl ?_
        | refine tl_store (by first | exact o_storeB 0 rfl rfl rfl rfl rfl | exact o_storeB 1 rfl rfl rfl rfl rfl | exact o_storeB 2 rfl rfl rfl rfl rfl | exact o_storeBA 0 rfl rfl rfl rfl rfl rfl | exact o_storeBA 1 rfl rfl rfl rfl rfl rfl | exact o_storeBA 2 rfl rfl rfl rfl rfl rfl) ?_
        | refine tl_box (o_box rfl rfl) rfl (fun _ => ?_)
        | refine tl_alloc rfl (fun _ => ?_)))
      refine tl_val (o_build [.int .i64 (cut qx), .int .i64 (cut qy), .int .i64 (cut px), .int .i64 (cut py), .int .i64 (-1)] rfl (build83 _ _ _ _ _)) rfl rfl ?_
      (repeat' (first
        | refine t_seq ?_
        | refine t_region ?_
        | refine xt_then ?_
        | refine tl_nil ?_
        | refine t_block ?_
        | refine t_skip ?_
        | refine t_ret ?_
        | refine t_exit ?_
        | refine xt_blk ?_
        | refine xt_blk_exit ?_
        | refine xt_then_ret ?_
        | refine xt_then_exit ?_
        | refine xt_blk_ret ?_
        | refine xt_blk_other rfl ?_
        | refine xt_round_exit ?_
        | refine xt_round_ret ?_
        | refine tl_run tab rfl rfl ?_
        | refine tl_guard_yes rfl rfl ?_
        | refine tl_guard_no rfl rfl rfl rfl ?_
        | refine tl_guard_undef rfl rfl rfl ?_
        | refine tl_load (by first | exact o_loadB 0 rfl rfl rfl | exact o_loadB 1 rfl rfl rfl | exact o_loadB 2 rfl rfl rfl | exact o_loadB 3 rfl rfl rfl | exact o_loadB 4 rfl rfl rfl | exact o_loadBA 0 rfl rfl rfl | exact o_loadBA 1 rfl rfl rfl | exact o_loadBA 2 rfl rfl rfl | exact o_loadBA 3 rfl rfl rfl) rfl ?_
        | refine tl_pick (by first | exact o_pick_t rfl rfl | exact o_pick_f rfl rfl) rfl ?_
        | refine tl_bin (by first | exact o_add64 rfl rfl (by omega) | exact o_sub64 rfl rfl (by omega) | exact o_mul64 rfl rfl (by first | assumption | omega)) rfl ?_
        | refine tl_store (by first | exact o_storeB 0 rfl rfl rfl rfl rfl | exact o_storeB 1 rfl rfl rfl rfl rfl | exact o_storeB 2 rfl rfl rfl rfl rfl | exact o_storeBA 0 rfl rfl rfl rfl rfl rfl | exact o_storeBA 1 rfl rfl rfl rfl rfl rfl | exact o_storeBA 2 rfl rfl rfl rfl rfl rfl) ?_
        | refine tl_box (o_box rfl rfl) rfl (fun _ => ?_)
        | refine tl_alloc rfl (fun _ => ?_)))
      apply t_drawBE [.val _, .val _, .val _, .val _, .val _, .val _, .putE b4 83 [.int .i64 0, .int .i64 0, .int .i64 0, .int .i64 0, .int .i64 0] [.int .i64 (cut qx), .int .i64 (cut qy), .int .i64 (cut px), .int .i64 (cut py), .int .i64 (-1)], .val _] [(b6, bx [.int .i64 (cut qx), .int .i64 (cut qy), .int .i64 (cut px), .int .i64 (cut py), .int .i64 (-1)] 83)] (fun _ h => h.perm (List.Perm.swap ..)) ?hob mixed (by kernel_rfl) rfl ?fin
      case hob =>
        (repeat' (first
          | refine ob_p tab (fun _ => rfl) ?_
          | (apply ob_v; focus (intro _ _; first | exact o_loadB 0 rfl rfl rfl | exact o_loadB 1 rfl rfl rfl | exact o_loadB 2 rfl rfl rfl | exact o_loadB 3 rfl rfl rfl | exact o_loadBA 0 rfl rfl rfl | exact o_loadBA 1 rfl rfl rfl | exact o_loadBA 2 rfl rfl rfl | exact o_loadBA 3 rfl rfl rfl | exact o_add64 rfl rfl (by omega) | exact o_sub64 rfl rfl (by omega)))))
        refine ob_putE rfl (fun _ => rfl) (fun _ => rfl) (stores_ag rfl rfl) ?_
        (repeat' (first
          | refine ob_p tab (fun _ => rfl) ?_
          | (apply ob_v; focus (intro _ _; first | exact o_loadB 0 rfl rfl rfl | exact o_loadB 1 rfl rfl rfl | exact o_loadB 2 rfl rfl rfl | exact o_loadB 3 rfl rfl rfl | exact o_loadBA 0 rfl rfl rfl | exact o_loadBA 1 rfl rfl rfl | exact o_loadBA 2 rfl rfl rfl | exact o_loadBA 3 rfl rfl rfl | exact o_add64 rfl rfl (by omega) | exact o_sub64 rfl rfl (by omega)))))
        exact ob_nil
      case fin =>
        intro bs'
        (repeat' (first
          | refine t_seq ?_
          | refine t_region ?_
          | refine xt_then ?_
          | refine tl_nil ?_
          | refine t_block ?_
          | refine t_skip ?_
          | refine t_ret ?_
          | refine t_exit ?_
          | refine xt_blk ?_
          | refine xt_blk_exit ?_
          | refine xt_then_ret ?_
          | refine xt_then_exit ?_
          | refine xt_blk_ret ?_
          | refine xt_blk_other rfl ?_
          | refine xt_round_exit ?_
          | refine xt_round_ret ?_
          | refine tl_run tab rfl rfl ?_
          | refine tl_guard_yes rfl rfl ?_
          | refine tl_guard_no rfl rfl rfl rfl ?_
          | refine tl_guard_undef rfl rfl rfl ?_
          | refine tl_load (by first | exact o_loadB 0 rfl rfl rfl | exact o_loadB 1 rfl rfl rfl | exact o_loadB 2 rfl rfl rfl | exact o_loadB 3 rfl rfl rfl | exact o_loadB 4 rfl rfl rfl | exact o_loadBA 0 rfl rfl rfl | exact o_loadBA 1 rfl rfl rfl | exact o_loadBA 2 rfl rfl rfl | exact o_loadBA 3 rfl rfl rfl) rfl ?_
          | refine tl_pick (by first | exact o_pick_t rfl rfl | exact o_pick_f rfl rfl) rfl ?_
          | refine tl_bin (by first | exact o_add64 rfl rfl (by omega) | exact o_sub64 rfl rfl (by omega) | exact o_mul64 rfl rfl (by first | assumption | omega)) rfl ?_
          | refine tl_store (by first | exact o_storeB 0 rfl rfl rfl rfl rfl | exact o_storeB 1 rfl rfl rfl rfl rfl | exact o_storeB 2 rfl rfl rfl rfl rfl | exact o_storeBA 0 rfl rfl rfl rfl rfl rfl | exact o_storeBA 1 rfl rfl rfl rfl rfl rfl | exact o_storeBA 2 rfl rfl rfl rfl rfl rfl) ?_
          | refine tl_box (o_box rfl rfl) rfl (fun _ => ?_)
          | refine tl_alloc rfl (fun _ => ?_)))
        refine xt_retCT 0 rfl rfl rfl rfl rfl fun _ _ => ?_
        rw [hE]
        rfl
    · have h' := of_decide_eq_false h
      have hE : edgeV px py qx qy = (cut px, cut py, cut qx, cut qy, 1) := by unfold edgeV; rw [if_neg h']
      (repeat' (first
        | refine t_seq ?_
        | refine t_region ?_
        | refine xt_then ?_
        | refine tl_nil ?_
        | refine t_block ?_
        | refine t_skip ?_
        | refine t_ret ?_
        | refine t_exit ?_
        | refine xt_blk ?_
        | refine xt_blk_exit ?_
        | refine xt_then_ret ?_
        | refine xt_then_exit ?_
        | refine xt_blk_ret ?_
        | refine xt_blk_other rfl ?_
        | refine xt_round_exit ?_
        | refine xt_round_ret ?_
        | refine tl_run tab rfl rfl ?_
        | refine tl_guard_yes rfl rfl ?_
        | refine tl_guard_no rfl rfl rfl rfl ?_
        | refine tl_guard_undef rfl rfl rfl ?_
        | refine tl_load (by first | exact o_loadB 0 rfl rfl rfl | exact o_loadB 1 rfl rfl rfl | exact o_loadB 2 rfl rfl rfl | exact o_loadB 3 rfl rfl rfl | exact o_loadB 4 rfl rfl rfl | exact o_loadBA 0 rfl rfl rfl | exact o_loadBA 1 rfl rfl rfl | exact o_loadBA 2 rfl rfl rfl | exact o_loadBA 3 rfl rfl rfl) rfl ?_
        | refine tl_pick (by first | exact o_pick_t rfl rfl | exact o_pick_f rfl rfl) rfl ?_
        | refine tl_bin (by first | exact o_add64 rfl rfl (by omega) | exact o_sub64 rfl rfl (by omega) | exact o_mul64 rfl rfl (by first | assumption | omega)) rfl ?_
        | refine tl_store (by first | exact o_storeB 0 rfl rfl rfl rfl rfl | exact o_storeB 1 rfl rfl rfl rfl rfl | exact o_storeB 2 rfl rfl rfl rfl rfl | exact o_storeBA 0 rfl rfl rfl rfl rfl rfl | exact o_storeBA 1 rfl rfl rfl rfl rfl rfl | exact o_storeBA 2 rfl rfl rfl rfl rfl rfl) ?_
        | refine tl_box (o_box rfl rfl) rfl (fun _ => ?_)
        | refine tl_alloc rfl (fun _ => ?_)))
      apply t_drawBE [.val _, .val _, .val _, .val _, .val _, .val _, .putE b4 83 [.int .i64 0, .int .i64 0, .int .i64 0, .int .i64 0, .int .i64 0] [.int .i64 (cut px), .int .i64 (cut py), .int .i64 (cut qx), .int .i64 (cut qy), .int .i64 1], .val _] [(b6, bx [.int .i64 (cut px), .int .i64 (cut py), .int .i64 (cut qx), .int .i64 (cut qy), .int .i64 1] 83)] (fun _ h => h.perm (List.Perm.swap ..)) ?hob mixed (by kernel_rfl) rfl ?fin
      case hob =>
        (repeat' (first
          | refine ob_p tab (fun _ => rfl) ?_
          | (apply ob_v; focus (intro _ _; first | exact o_loadB 0 rfl rfl rfl | exact o_loadB 1 rfl rfl rfl | exact o_loadB 2 rfl rfl rfl | exact o_loadB 3 rfl rfl rfl | exact o_loadBA 0 rfl rfl rfl | exact o_loadBA 1 rfl rfl rfl | exact o_loadBA 2 rfl rfl rfl | exact o_loadBA 3 rfl rfl rfl | exact o_add64 rfl rfl (by omega) | exact o_sub64 rfl rfl (by omega)))))
        refine ob_putE rfl (fun _ => rfl) (fun _ => rfl) (stores_ag rfl rfl) ?_
        (repeat' (first
          | refine ob_p tab (fun _ => rfl) ?_
          | (apply ob_v; focus (intro _ _; first | exact o_loadB 0 rfl rfl rfl | exact o_loadB 1 rfl rfl rfl | exact o_loadB 2 rfl rfl rfl | exact o_loadB 3 rfl rfl rfl | exact o_loadBA 0 rfl rfl rfl | exact o_loadBA 1 rfl rfl rfl | exact o_loadBA 2 rfl rfl rfl | exact o_loadBA 3 rfl rfl rfl | exact o_add64 rfl rfl (by omega) | exact o_sub64 rfl rfl (by omega)))))
        exact ob_nil
      case fin =>
        intro bs'
        (repeat' (first
          | refine t_seq ?_
          | refine t_region ?_
          | refine xt_then ?_
          | refine tl_nil ?_
          | refine t_block ?_
          | refine t_skip ?_
          | refine t_ret ?_
          | refine t_exit ?_
          | refine xt_blk ?_
          | refine xt_blk_exit ?_
          | refine xt_then_ret ?_
          | refine xt_then_exit ?_
          | refine xt_blk_ret ?_
          | refine xt_blk_other rfl ?_
          | refine xt_round_exit ?_
          | refine xt_round_ret ?_
          | refine tl_run tab rfl rfl ?_
          | refine tl_guard_yes rfl rfl ?_
          | refine tl_guard_no rfl rfl rfl rfl ?_
          | refine tl_guard_undef rfl rfl rfl ?_
          | refine tl_load (by first | exact o_loadB 0 rfl rfl rfl | exact o_loadB 1 rfl rfl rfl | exact o_loadB 2 rfl rfl rfl | exact o_loadB 3 rfl rfl rfl | exact o_loadB 4 rfl rfl rfl | exact o_loadBA 0 rfl rfl rfl | exact o_loadBA 1 rfl rfl rfl | exact o_loadBA 2 rfl rfl rfl | exact o_loadBA 3 rfl rfl rfl) rfl ?_
          | refine tl_pick (by first | exact o_pick_t rfl rfl | exact o_pick_f rfl rfl) rfl ?_
          | refine tl_bin (by first | exact o_add64 rfl rfl (by omega) | exact o_sub64 rfl rfl (by omega) | exact o_mul64 rfl rfl (by first | assumption | omega)) rfl ?_
          | refine tl_store (by first | exact o_storeB 0 rfl rfl rfl rfl rfl | exact o_storeB 1 rfl rfl rfl rfl rfl | exact o_storeB 2 rfl rfl rfl rfl rfl | exact o_storeBA 0 rfl rfl rfl rfl rfl rfl | exact o_storeBA 1 rfl rfl rfl rfl rfl rfl | exact o_storeBA 2 rfl rfl rfl rfl rfl rfl) ?_
          | refine tl_box (o_box rfl rfl) rfl (fun _ => ?_)
          | refine tl_alloc rfl (fun _ => ?_)))
        refine xt_retCT 0 rfl rfl rfl rfl rfl fun _ _ => ?_
        rw [hE]
        rfl

end Go.Proofs.Ytbgolbkolcmldaa
