/-
  The small functions of package raster, walked.
-/
import Derived.Test.YtbgolbkolcmldaaGT
import Derived.Test.YtbgolbkolcmldaaGB

namespace Go.Proofs.Ytbgolbkolcmldaa
open Go.RowKit
attribute [local irreducible] T TL Xt O Op1 Kt DV ObsB DE

theorem mixed : Try.prog.follows .mixedOrders = true := by kernel_rfl

def cut (n : Int) : Int := max (-268435456) (min 268435456 n)

theorem cut_det (n : Int) : Det Try.prog 33 [.int .i64 n] (.int .i64 (cut n)) := by
  intro w
  refine calls_S Try.func33 rfl Try.ntmps33 rfl ?_
  (repeat' (first
    |refine t_seq ?_|refine t_region ?_|refine xt_then ?_|refine tl_nil ?_|refine t_ret ?_|refine tl_run tab rfl rfl ?_|fail))
  exact xt_ret1S rfl rfl fun _ _ => rfl

def inB (n : Int) : Bool := !(decide (n < -1073741824) || decide (1073741824 < n))
def nearB (X Y W H : Int) : Bool := inB X && inB Y && inB W && inB H

theorem build100 (a b c e : Int) (w : World) : (Instr.build 100 #[(0, .int .i64 a), (1, .int .i64 b), (2, .int .i64 c), (3, .int .i64 e)]).run Try.prog w = .ok (.agg #[.int .i64 a, .int .i64 b, .int .i64 c, .int .i64 e]) w := by kernel_rfl

theorem near_det (X Y W H : Int) (rows : Value) (h1 : rows.oneCell' = true) : Det Try.prog 32 [.agg #[.int .i64 X, .int .i64 Y, .int .i64 W, .int .i64 H, rows]] (.bool (nearB X Y W H)) := by
  intro w
  refine calls_S Try.func32 rfl Try.ntmps32 rfl ?_
  (repeat' (first
    |refine t_seq ?_|refine t_region ?_|refine xt_then ?_|refine tl_nil ?_|refine tl_run tab rfl rfl ?_|refine tl_load (by first | exact o_loadB 0 rfl rfl rfl | exact o_loadB 1 rfl rfl rfl | exact o_loadB 2 rfl rfl rfl | exact o_loadB 3 rfl rfl rfl | exact o_loadB 4 rfl rfl rfl | exact o_loadBA 0 rfl rfl rfl | exact o_loadBA 1 rfl rfl rfl | exact o_loadBA 2 rfl rfl rfl | exact o_loadBA 3 rfl rfl rfl) rfl ?_|refine tl_box (o_box rfl rfl) rfl (fun _ => ?_)|fail))
  rename_i b
  refine tl_val (o_build [.int .i64 X, .int .i64 Y, .int .i64 W, .int .i64 H] rfl (build100 X Y W H)) rfl rfl ?_
  (repeat' (first
    |refine xt_then ?_|refine tl_nil ?_|refine t_block ?_|refine tl_run tab rfl rfl ?_|fail))
  refine t_loopC (fun i : Nat => [(13, .agg #[.int .i64 X, .int .i64 Y, .int .i64 W, .int .i64 H]), (14, .int .i64 i)]) (fun i => i ≤ 4 ∧ ∀ j n, j < i → [X, Y, W, H][j]? = some n → inB n = true) (fun _ => St w [] [(b, bx [.int .i64 X, .int .i64 Y, .int .i64 W, .int .i64 H, rows] 30)]) (fun i => 4 - i) 0 ⟨by omega, by omega⟩ ⟨rfl, rfl, trivial⟩ (fun _ h => h) ?_
  rintro i ⟨hi, hall⟩
  (repeat' (first
    |refine t_seq ?_|refine t_region ?_|refine xt_then ?_|refine tl_nil ?_|refine tl_run tab rfl rfl ?_|fail))
  refine t_cond rfl (fun h => ?_) (fun h => ?_)
  · have hi4 : i < 4 := by have := of_decide_eq_true h; omega
    obtain ⟨n, hn⟩ : ∃ n, [X, Y, W, H][i]? = some n := ⟨_, List.getElem?_eq_getElem (by simpa using hi4)⟩
    have hv : [Value.int .i64 X, .int .i64 Y, .int .i64 W, .int .i64 H][(i : Int).toNat]? = some (.int .i64 n) := by
      have := congrArg (Option.map (Value.int .i64)) hn
      rw [← List.getElem?_map] at this
      simpa using this
    (repeat' (first
      |refine t_seq ?_|refine t_region ?_|refine xt_then ?_|refine t_block ?_|refine t_skip ?_|fail))
    refine tl_val (o_indexArr (cs := [.int .i64 X, .int .i64 Y, .int .i64 W, .int .i64 H]) rfl rfl (by omega) hv) rfl rfl ?_
    (repeat' (first
      |refine t_seq ?_|refine t_region ?_|refine xt_then ?_|refine tl_nil ?_|refine tl_run tab rfl rfl ?_|fail))
    have hsome : ∀ m, [X, Y, W, H][i]? = some m → inB m = false → nearB X Y W H = false := by
      intro m hm hb
      rcases i with _ | _ | _ | _ | i <;> simp at hm <;> first | (subst hm; simp [nearB, hb]) | omega
    refine tl_guard rfl rfl rfl (fun h1 => ?_) (fun h1 => ?_)
    · have h1' := of_decide_eq_false h1
      (repeat' (first
        |refine xt_then ?_|refine tl_nil ?_|refine tl_run tab rfl rfl ?_|refine tl_guard_yes rfl rfl ?_|refine tl_pick (by first | exact o_pick_t rfl rfl | exact o_pick_f rfl rfl) rfl ?_|fail))
      refine t_cond rfl (fun h => ?_) (fun h => ?_)
      · have h' := of_decide_eq_true h
        (repeat' (first
          |refine t_seq ?_|refine t_region ?_|refine xt_then ?_|refine tl_nil ?_|refine t_ret ?_|refine xt_then_ret ?_|refine xt_blk_ret ?_|refine xt_round_ret ?_|refine tl_run tab rfl rfl ?_|fail))
        exact xt_ret1S rfl rfl fun _ _ => by rw [hsome n hn (by simp [inB, h'])]
      · have h' := of_decide_eq_false h
        (repeat' (first
          |refine t_region ?_|refine xt_then ?_|refine tl_nil ?_|refine t_skip ?_|refine xt_blk ?_|refine tl_run tab rfl rfl ?_|refine tl_bin (by first | exact o_add64 rfl rfl (by omega) | exact o_sub64 rfl rfl (by omega) | exact o_mul64 rfl rfl (by first | assumption | omega)) rfl ?_|fail))
        refine xt_roundC (i + 1) ⟨rfl, rfl, trivial⟩ ⟨by omega, fun j m hj hm => ?_⟩ (fun _ h => h) (by omega)
        by_cases e : j = i
        · subst e; rw [hn] at hm; cases hm; simp [inB, h1', h']
        · exact hall j m (by omega) hm
    · have h1' := of_decide_eq_true h1
      (repeat' (first
        |refine xt_then ?_|refine tl_nil ?_|refine tl_guard_no rfl rfl rfl rfl ?_|refine tl_pick (by first | exact o_pick_t rfl rfl | exact o_pick_f rfl rfl) rfl ?_|fail))
      refine t_cond rfl (fun h => ?_) (fun h => ?_)
      · (repeat' (first
          |refine t_seq ?_|refine t_region ?_|refine xt_then ?_|refine tl_nil ?_|refine t_ret ?_|refine xt_then_ret ?_|refine xt_blk_ret ?_|refine xt_round_ret ?_|refine tl_run tab rfl rfl ?_|fail))
        exact xt_ret1S rfl rfl fun _ _ => by rw [hsome n hn (by simp [inB, h1'])]
      · cases h
  · (repeat' (first
      |refine t_seq ?_|refine t_region ?_|refine xt_then ?_|refine tl_nil ?_|refine t_ret ?_|refine t_exit ?_|refine xt_blk_exit ?_|refine xt_then_exit ?_|refine xt_round_exit ?_|refine tl_run tab rfl rfl ?_|fail))
    have hi4 : i = 4 := by have := of_decide_eq_false h; omega
    subst hi4
    refine xt_ret1S rfl rfl fun _ _ => ?_
    have a0 := hall 0 X (by omega) rfl
    have a1 := hall 1 Y (by omega) rfl
    have a2 := hall 2 W (by omega) rfl
    have a3 := hall 3 H (by omega) rfl
    simp [nearB, a0, a1, a2, a3]

end Go.Proofs.Ytbgolbkolcmldaa

/-
  Numbers: down, row, places, edges.
-/
namespace Go.Proofs.Ytbgolbkolcmldaa
open Go.RowKit
attribute [local irreducible] T TL Xt O Op1 Kt DV ObsB DE

theorem down_eq (n e : Int) (he : 0 < e) : (if n.tmod e < 0 then n.tdiv e - 1 else n.tdiv e) = n / e := by
  have h := Int.tmod_add_mul_tdiv n e
  have hq : ∀ q, 0 ≤ n - e * q → n - e * q < e → q = n / e := by
    intro q h1 h2
    have a1 : q ≤ n / e := by
      rw [Int.le_ediv_iff_mul_le he]; rw [Int.mul_comm]; omega
    have a2 : n / e < q + 1 := by
      rw [Int.ediv_lt_iff_lt_mul he, Int.add_mul, Int.mul_comm]; omega
    omega
  have hm1 : n.tmod e < e := by
    have := Int.tmod_lt_of_pos n he; omega
  have hm2 : -e < n.tmod e := by
    have := Int.lt_tmod_of_pos n he; omega
  split
  · apply hq
    · rw [Int.mul_sub]; omega
    · rw [Int.mul_sub]; omega
  · apply hq <;> omega

theorem down_det (n e : Int) (he : 0 < e) (hn : -9223372036854775807 ≤ n ∧ n ≤ 9223372036854775807) : Det Try.prog 35 [.int .i64 n, .int .i64 e] (.int .i64 (n / e)) := by
  intro w
  have hb := tdiv_bound n e he 9223372036854775807 hn
  have hd := down_eq n e he
  refine calls_S Try.func35 rfl Try.ntmps35 rfl ?_
  (repeat' (first
    |refine t_seq ?_|refine t_region ?_|refine xt_then ?_|refine tl_nil ?_|refine tl_run tab rfl rfl ?_|fail))
  refine tl_bin (o_quo64 rfl rfl he hn) rfl ?_
  (repeat' (first
    |refine t_seq ?_|refine t_region ?_|refine xt_then ?_|refine tl_nil ?_|refine tl_run tab rfl rfl ?_|fail))
  refine tl_bin (o_rem rfl rfl (by omega)) rfl ?_
  (repeat' (first
    |refine xt_then ?_|refine tl_nil ?_|refine tl_run tab rfl rfl ?_|fail))
  refine t_cond rfl (fun h => ?_) (fun h => ?_)
  · have h' := of_decide_eq_true h
    rw [if_pos h'] at hd
    (repeat' (first
      |refine t_seq ?_|refine t_region ?_|refine xt_then ?_|refine tl_nil ?_|refine t_ret ?_|refine tl_run tab rfl rfl ?_|refine tl_bin (by first | exact o_add64 rfl rfl (by omega) | exact o_sub64 rfl rfl (by omega) | exact o_mul64 rfl rfl (by first | assumption | omega)) rfl ?_|fail))
    exact xt_ret1S rfl rfl fun _ _ => by rw [hd]
  · have h' := of_decide_eq_false h
    rw [if_neg h'] at hd
    (repeat' (first
      |refine t_seq ?_|refine t_region ?_|refine xt_then ?_|refine tl_nil ?_|refine t_skip ?_|refine t_ret ?_|refine tl_run tab rfl rfl ?_|fail))
    exact xt_ret1S rfl rfl fun _ _ => by rw [hd]

theorem row_det (y : Int) (hy : -1000000000000 ≤ y ∧ y ≤ 1000000000000) : Det Try.prog 60 [.int .i64 y] (.int .i64 (-((32 - y) / 64))) := by
  intro w
  refine calls_S Try.func60 rfl Try.ntmps60 rfl ?_
  (repeat' (first
    |refine t_seq ?_|refine t_region ?_|refine xt_then ?_|refine tl_nil ?_|refine tl_run tab rfl rfl ?_|refine tl_bin (by first | exact o_add64 rfl rfl (by omega) | exact o_sub64 rfl rfl (by omega) | exact o_mul64 rfl rfl (by first | assumption | omega)) rfl ?_|fail))
  refine tl_call (o_det (down_det (32 - y) 64 (by omega) (by omega)) rfl) rfl ?_
  refine tl_val (o_neg64 rfl (by omega)) rfl rfl ?_
  (repeat' (first
    |refine xt_then ?_|refine tl_nil ?_|refine t_ret ?_|refine tl_run tab rfl rfl ?_|fail))
  exact xt_ret1S rfl rfl fun _ _ => rfl

theorem isNaN_det (n : Int) : Det Try.prog 87 [.int .i64 n] (.bool false) := by
  intro w
  refine calls_S Try.func87 rfl Try.ntmps87 rfl ?_
  (repeat' (first
    |refine t_seq ?_|refine t_region ?_|refine xt_then ?_|refine tl_nil ?_|refine t_ret ?_|refine tl_run tab rfl rfl ?_|fail))
  exact xt_ret1S rfl rfl fun _ _ => by simp

def cmpI (a b : Int) : Int := if a < b then -1 else if b < a then 1 else 0

theorem cmp_det (a b : Int) : Det Try.prog 74 [.int .i64 a, .int .i64 b] (.int .i64 (cmpI a b)) := by
  intro w
  refine calls_S Try.func74 rfl Try.ntmps74 rfl ?_
  (repeat' (first
    |refine t_seq ?_|refine t_region ?_|refine xt_then ?_|refine tl_nil ?_|refine tl_run tab rfl rfl ?_|fail))
  refine tl_call (o_det (isNaN_det a) rfl) rfl ?_
  (repeat' (first
    |refine t_seq ?_|refine t_region ?_|refine xt_then ?_|refine tl_nil ?_|refine tl_run tab rfl rfl ?_|fail))
  refine tl_call (o_det (isNaN_det b) rfl) rfl ?_
  (repeat' (first
    |refine t_seq ?_|refine t_region ?_|refine xt_then ?_|refine tl_nil ?_|refine tl_run tab rfl rfl ?_|fail))
  refine t_cond rfl (fun h => by cases h) (fun _ => ?_)
  (repeat' (first
    |refine t_seq ?_|refine t_region ?_|refine xt_then ?_|refine tl_nil ?_|refine t_skip ?_|refine tl_run tab rfl rfl ?_|fail))
  refine t_cond rfl (fun h => by cases h) (fun _ => ?_)
  (repeat' (first
    |refine t_seq ?_|refine t_region ?_|refine xt_then ?_|refine tl_nil ?_|refine t_skip ?_|refine tl_run tab rfl rfl ?_|fail))
  refine t_cond rfl (fun h => ?_) (fun h => ?_)
  · (repeat' (first
      |refine t_seq ?_|refine t_region ?_|refine xt_then ?_|refine tl_nil ?_|refine t_ret ?_|refine xt_then_ret ?_|refine tl_run tab rfl rfl ?_|fail))
    exact xt_ret1S rfl rfl fun _ _ => by simp [cmpI, of_decide_eq_true h]
  · (repeat' (first
      |refine t_seq ?_|refine t_region ?_|refine xt_then ?_|refine tl_nil ?_|refine t_skip ?_|refine tl_run tab rfl rfl ?_|fail))
    refine t_cond rfl (fun h1 => ?_) (fun h1 => ?_)
    · (repeat' (first
        |refine t_seq ?_|refine t_region ?_|refine xt_then ?_|refine tl_nil ?_|refine t_ret ?_|refine xt_then_ret ?_|refine tl_run tab rfl rfl ?_|fail))
      exact xt_ret1S rfl rfl fun _ _ => by simp [cmpI, of_decide_eq_true h1, of_decide_eq_false h]
    · (repeat' (first
        |refine t_seq ?_|refine t_region ?_|refine xt_then ?_|refine tl_nil ?_|refine t_skip ?_|refine t_ret ?_|refine tl_run tab rfl rfl ?_|fail))
      exact xt_ret1S rfl rfl fun _ _ => by simp [cmpI, of_decide_eq_false h1, of_decide_eq_false h]

/-- a place: n by d -/
abbrev pl (n e : Int) : Value := .agg #[.int .i64 n, .int .i64 e]
abbrev edg (x0 y0 x1 y1 t : Int) : Value := .agg #[.int .i64 x0, .int .i64 y0, .int .i64 x1, .int .i64 y1, .int .i64 t]

theorem compare_det (n e m f : Int) (h1 : fit (n * f)) (h2 : fit (m * e)) : Det Try.prog 45 [pl n e, pl m f] (.int .i64 (cmpI (n * f) (m * e))) := by
  intro w
  refine calls_S Try.func45 rfl Try.ntmps45 rfl ?_
  (repeat' (first
    |refine t_seq ?_|refine t_region ?_|refine xt_then ?_|refine tl_nil ?_|refine tl_run tab rfl rfl ?_|refine tl_load (by first | exact o_loadB 0 rfl rfl rfl | exact o_loadB 1 rfl rfl rfl | exact o_loadB 2 rfl rfl rfl | exact o_loadB 3 rfl rfl rfl | exact o_loadB 4 rfl rfl rfl | exact o_loadBA 0 rfl rfl rfl | exact o_loadBA 1 rfl rfl rfl | exact o_loadBA 2 rfl rfl rfl | exact o_loadBA 3 rfl rfl rfl) rfl ?_|refine tl_bin (by first | exact o_add64 rfl rfl (by omega) | exact o_sub64 rfl rfl (by omega) | exact o_mul64 rfl rfl (by first | assumption | omega)) rfl ?_|refine tl_box (o_box rfl rfl) rfl (fun _ => ?_)|fail))
  refine tl_call (o_det (cmp_det (n * f) (m * e)) rfl) rfl ?_
  (repeat' (first
    |refine xt_then ?_|refine tl_nil ?_|refine t_ret ?_|refine tl_run tab rfl rfl ?_|fail))
  exact xt_ret1S rfl rfl fun _ _ => rfl

theorem build71 (a b : Int) (w : World) : (Instr.build 71 #[(0, .int .i64 a), (1, .int .i64 b)]).run Try.prog w = .ok (pl a b) w := by kernel_rfl

theorem whole_det (n : Int) : Det Try.prog 46 [.int .i64 n] (pl n 1) := by
  intro w
  refine calls_S Try.func46 rfl Try.ntmps46 rfl ?_
  (repeat' (first
    |refine t_seq ?_|refine t_region ?_|refine xt_then ?_|refine tl_nil ?_|refine tl_run tab rfl rfl ?_|refine tl_alloc rfl (fun _ => ?_)|fail))
  refine tl_val (o_build [.int .i64 n, .int .i64 1] rfl (build71 n 1)) rfl rfl ?_
  (repeat' (first
    |refine xt_then ?_|refine tl_nil ?_|refine t_ret ?_|refine tl_store (by first | exact o_storeB 0 rfl rfl rfl rfl rfl | exact o_storeB 1 rfl rfl rfl rfl rfl | exact o_storeB 2 rfl rfl rfl rfl rfl | exact o_storeBA 0 rfl rfl rfl rfl rfl rfl | exact o_storeBA 1 rfl rfl rfl rfl rfl rfl | exact o_storeBA 2 rfl rfl rfl rfl rfl rfl) ?_|fail))
  exact xt_retAS 0 rfl rfl rfl rfl fun _ _ => rfl

theorem crosses_det (x0 y0 x1 y1 t y : Int) : Det Try.prog 43 [edg x0 y0 x1 y1 t, .int .i64 y] (.bool (decide (y0 ≤ y) && decide (y < y1))) := by
  intro w
  refine calls_S Try.func43 rfl Try.ntmps43 rfl ?_
  (repeat' (first
    |refine t_seq ?_|refine t_region ?_|refine xt_then ?_|refine tl_nil ?_|refine tl_run tab rfl rfl ?_|refine tl_load (by first | exact o_loadB 0 rfl rfl rfl | exact o_loadB 1 rfl rfl rfl | exact o_loadB 2 rfl rfl rfl | exact o_loadB 3 rfl rfl rfl | exact o_loadB 4 rfl rfl rfl | exact o_loadBA 0 rfl rfl rfl | exact o_loadBA 1 rfl rfl rfl | exact o_loadBA 2 rfl rfl rfl | exact o_loadBA 3 rfl rfl rfl) rfl ?_|refine tl_box (o_box rfl rfl) rfl (fun _ => ?_)|fail))
  refine tl_guard rfl rfl rfl (fun h => ?_) (fun h => ?_)
  · (repeat' (first
      |refine xt_then ?_|refine tl_nil ?_|refine t_ret ?_|refine tl_run tab rfl rfl ?_|refine tl_guard_yes rfl rfl ?_|refine tl_load (by first | exact o_loadB 0 rfl rfl rfl | exact o_loadB 1 rfl rfl rfl | exact o_loadB 2 rfl rfl rfl | exact o_loadB 3 rfl rfl rfl | exact o_loadB 4 rfl rfl rfl | exact o_loadBA 0 rfl rfl rfl | exact o_loadBA 1 rfl rfl rfl | exact o_loadBA 2 rfl rfl rfl | exact o_loadBA 3 rfl rfl rfl) rfl ?_|refine tl_pick (by first | exact o_pick_t rfl rfl | exact o_pick_f rfl rfl) rfl ?_|fail))
    exact xt_ret1S rfl rfl fun _ _ => by simp [h]
  · (repeat' (first
      |refine xt_then ?_|refine tl_nil ?_|refine t_ret ?_|refine tl_run tab rfl rfl ?_|refine tl_guard_no rfl rfl rfl rfl ?_|refine tl_pick (by first | exact o_pick_t rfl rfl | exact o_pick_f rfl rfl) rfl ?_|fail))
    exact xt_ret1S rfl rfl fun _ _ => by simp [h]

theorem at_det (x0 y0 x1 y1 t y : Int) (h1 : fit (y1 - y0)) (h2 : fit (x0 * (y1 - y0))) (h3 : fit (x1 - x0)) (h4 : fit (y - y0)) (h5 : fit ((x1 - x0) * (y - y0))) (h6 : fit (x0 * (y1 - y0) + (x1 - x0) * (y - y0))) :
    Det Try.prog 44 [edg x0 y0 x1 y1 t, .int .i64 y] (pl (x0 * (y1 - y0) + (x1 - x0) * (y - y0)) (y1 - y0)) := by
  intro w
  refine calls_S Try.func44 rfl Try.ntmps44 rfl ?_
  (repeat' (first
    |refine t_seq ?_|refine t_region ?_|refine xt_then ?_|refine tl_nil ?_|refine tl_run tab rfl rfl ?_|refine tl_load (by first | exact o_loadB 0 rfl rfl rfl | exact o_loadB 1 rfl rfl rfl | exact o_loadB 2 rfl rfl rfl | exact o_loadB 3 rfl rfl rfl | exact o_loadB 4 rfl rfl rfl | exact o_loadBA 0 rfl rfl rfl | exact o_loadBA 1 rfl rfl rfl | exact o_loadBA 2 rfl rfl rfl | exact o_loadBA 3 rfl rfl rfl) rfl ?_|refine tl_bin (by first | exact o_add64 rfl rfl (by omega) | exact o_sub64 rfl rfl (by omega) | exact o_mul64 rfl rfl (by first | assumption | omega)) rfl ?_|refine tl_box (o_box rfl rfl) rfl (fun _ => ?_)|refine tl_alloc rfl (fun _ => ?_)|fail))
  refine tl_val (o_build [.int .i64 (x0 * (y1 - y0) + (x1 - x0) * (y - y0)), .int .i64 (y1 - y0)] rfl (build71 _ _)) rfl rfl ?_
  (repeat' (first
    |refine xt_then ?_|refine tl_nil ?_|refine t_ret ?_|refine tl_store (by first | exact o_storeB 0 rfl rfl rfl rfl rfl | exact o_storeB 1 rfl rfl rfl rfl rfl | exact o_storeB 2 rfl rfl rfl rfl rfl | exact o_storeBA 0 rfl rfl rfl rfl rfl rfl | exact o_storeBA 1 rfl rfl rfl rfl rfl rfl | exact o_storeBA 2 rfl rfl rfl rfl rfl rfl) ?_|fail))
  exact xt_retAS 0 rfl rfl rfl rfl fun _ _ => rfl

theorem centreFrom_det (n e : Int) (he : 0 < e ∧ e ≤ 1000000000000) (hn : -1000000000000000000 ≤ n ∧ n ≤ 1000000000000000000) : Det Try.prog 67 [pl n e] (.int .i64 (-((32 * e - n) / (64 * e)))) := by
  intro w
  have hq := tdiv_bound (32 * e - n) 1 (by omega) 2000000000000000000 (by omega)
  have hb : -2000000000000000000 ≤ (32 * e - n) / (64 * e) ∧ (32 * e - n) / (64 * e) ≤ 2000000000000000000 := by
    have h0 : 0 < 64 * e := by omega
    constructor
    · rw [Int.le_ediv_iff_mul_le h0]
      have : -2000000000000000000 * (64 * e) ≤ -2000000000000000000 * 1 := by omega
      omega
    · have : (32 * e - n) / (64 * e) < 2000000000000000001 := by
        rw [Int.ediv_lt_iff_lt_mul h0]; omega
      omega
  refine calls_S Try.func67 rfl Try.ntmps67 rfl ?_
  (repeat' (first
    |refine t_seq ?_|refine t_region ?_|refine xt_then ?_|refine tl_nil ?_|refine tl_run tab rfl rfl ?_|refine tl_load (by first | exact o_loadB 0 rfl rfl rfl | exact o_loadB 1 rfl rfl rfl | exact o_loadB 2 rfl rfl rfl | exact o_loadB 3 rfl rfl rfl | exact o_loadB 4 rfl rfl rfl | exact o_loadBA 0 rfl rfl rfl | exact o_loadBA 1 rfl rfl rfl | exact o_loadBA 2 rfl rfl rfl | exact o_loadBA 3 rfl rfl rfl) rfl ?_|refine tl_bin (by first | exact o_add64 rfl rfl (by omega) | exact o_sub64 rfl rfl (by omega) | exact o_mul64 rfl rfl (by first | assumption | omega)) rfl ?_|refine tl_box (o_box rfl rfl) rfl (fun _ => ?_)|fail))
  refine tl_call (o_det (down_det (32 * e - n) (64 * e) (by omega) (by omega)) rfl) rfl ?_
  refine tl_val (o_neg64 rfl (by omega)) rfl rfl ?_
  (repeat' (first
    |refine xt_then ?_|refine tl_nil ?_|refine t_ret ?_|refine tl_run tab rfl rfl ?_|fail))
  exact xt_ret1S rfl rfl fun _ _ => rfl

theorem middle_det (n e m f : Int) (h1 : fit (n * f)) (h2 : fit (m * e)) (h3 : -9223372036854775807 ≤ n * f + m * e ∧ n * f + m * e ≤ 9223372036854775807) (h4 : fit (128 * e)) (h5 : fit (128 * e * f)) (h6 : 0 < 128 * e * f) : Det Try.prog 68 [pl n e, pl m f] (.int .i64 ((n * f + m * e) / (128 * e * f))) := by
  intro w
  refine calls_S Try.func68 rfl Try.ntmps68 rfl ?_
  (repeat' (first
    |refine t_seq ?_|refine t_region ?_|refine xt_then ?_|refine tl_nil ?_|refine tl_run tab rfl rfl ?_|refine tl_load (by first | exact o_loadB 0 rfl rfl rfl | exact o_loadB 1 rfl rfl rfl | exact o_loadB 2 rfl rfl rfl | exact o_loadB 3 rfl rfl rfl | exact o_loadB 4 rfl rfl rfl | exact o_loadBA 0 rfl rfl rfl | exact o_loadBA 1 rfl rfl rfl | exact o_loadBA 2 rfl rfl rfl | exact o_loadBA 3 rfl rfl rfl) rfl ?_|refine tl_bin (by first | exact o_add64 rfl rfl (by omega) | exact o_sub64 rfl rfl (by omega) | exact o_mul64 rfl rfl (by first | assumption | omega)) rfl ?_|refine tl_box (o_box rfl rfl) rfl (fun _ => ?_)|fail))
  refine tl_call (o_det (down_det (n * f + m * e) (128 * e * f) h6 h3) rfl) rfl ?_
  (repeat' (first
    |refine xt_then ?_|refine tl_nil ?_|refine t_ret ?_|refine tl_run tab rfl rfl ?_|fail))
  exact xt_ret1S rfl rfl fun _ _ => rfl

end Go.Proofs.Ytbgolbkolcmldaa

/-
  Edges of points.
-/
namespace Go.Proofs.Ytbgolbkolcmldaa
open Go.RowKit
attribute [local irreducible] T TL Xt O Op1 Kt DV ObsB DE

abbrev pt (x y : Int) : Value := .agg #[.int .i64 x, .int .i64 y]

theorem build83 (a b c e f : Int) (w : World) : (Instr.build 83 #[(0, .int .i64 a), (1, .int .i64 b), (2, .int .i64 c), (3, .int .i64 e), (4, .int .i64 f)]).run Try.prog w = .ok (edg a b c e f) w := by kernel_rfl
theorem build24 (a b : Int) (w : World) : (Instr.build 24 #[(0, .int .i64 a), (1, .int .i64 b)]).run Try.prog w = .ok (pt a b) w := by kernel_rfl

/-- the edge from p to q, cut, from below upwards -/
def edgeV (px py qx qy : Int) : Int × Int × Int × Int × Int :=
  if cut qy < cut py then (cut qx, cut qy, cut px, cut py, -1) else (cut px, cut py, cut qx, cut qy, 1)

theorem edgeOf_det (px py qx qy : Int) : Det Try.prog 73 [pt px py, pt qx qy] (.tuple #[edg (edgeV px py qx qy).1 (edgeV px py qx qy).2.1 (edgeV px py qx qy).2.2.1 (edgeV px py qx qy).2.2.2.1 (edgeV px py qx qy).2.2.2.2, .bool (decide ((edgeV px py qx qy).2.1 < (edgeV px py qx qy).2.2.2.1))]) := by
  intro w
  refine calls_S Try.func73 rfl Try.ntmps73 rfl ?_
  (repeat' (first
    |refine t_seq ?_|refine t_region ?_|refine xt_then ?_|refine tl_nil ?_|refine tl_run tab rfl rfl ?_|refine tl_box (o_box rfl rfl) rfl (fun _ => ?_)|refine tl_alloc rfl (fun _ => ?_)|fail))
  rename_i b2 b3 b4
  apply t_drawB0 [.val _, .val _, .val (.int .i64 (cut px)), .val _, .val _, .val (.int .i64 (cut py)), .val _, .val _, .val (.int .i64 (cut qx)), .val _, .val _, .val (.int .i64 (cut qy)), .val (edg (cut px) (cut py) (cut qx) (cut qy) 1), .box 83 [.int .i64 0, .int .i64 0, .int .i64 0, .int .i64 0, .int .i64 0] [.int .i64 (cut px), .int .i64 (cut py), .int .i64 (cut qx), .int .i64 (cut qy), .int .i64 1] 14, .put 13] rfl ?hob mixed (by kernel_rfl) rfl ?fin
  case hob =>
    (repeat' (first
      |refine ob_p tab (fun _ => rfl) ?_|(apply ob_v; focus (intro _ _; first | exact o_loadB 0 rfl rfl rfl | exact o_loadB 1 rfl rfl rfl | exact o_loadB 2 rfl rfl rfl | exact o_loadB 3 rfl rfl rfl | exact o_loadBA 0 rfl rfl rfl | exact o_loadBA 1 rfl rfl rfl | exact o_loadBA 2 rfl rfl rfl | exact o_loadBA 3 rfl rfl rfl | exact o_add64 rfl rfl (by omega) | exact o_sub64 rfl rfl (by omega)))|fail))
    apply ob_v
    · intro _ _; exact o_det (cut_det px) rfl
    (repeat' (first
      |refine ob_p tab (fun _ => rfl) ?_|(apply ob_v; focus (intro _ _; first | exact o_loadB 0 rfl rfl rfl | exact o_loadB 1 rfl rfl rfl | exact o_loadB 2 rfl rfl rfl | exact o_loadB 3 rfl rfl rfl | exact o_loadBA 0 rfl rfl rfl | exact o_loadBA 1 rfl rfl rfl | exact o_loadBA 2 rfl rfl rfl | exact o_loadBA 3 rfl rfl rfl | exact o_add64 rfl rfl (by omega) | exact o_sub64 rfl rfl (by omega)))|fail))
    apply ob_v
    · intro _ _; exact o_det (cut_det py) rfl
    (repeat' (first
      |refine ob_p tab (fun _ => rfl) ?_|(apply ob_v; focus (intro _ _; first | exact o_loadB 0 rfl rfl rfl | exact o_loadB 1 rfl rfl rfl | exact o_loadB 2 rfl rfl rfl | exact o_loadB 3 rfl rfl rfl | exact o_loadBA 0 rfl rfl rfl | exact o_loadBA 1 rfl rfl rfl | exact o_loadBA 2 rfl rfl rfl | exact o_loadBA 3 rfl rfl rfl | exact o_add64 rfl rfl (by omega) | exact o_sub64 rfl rfl (by omega)))|fail))
    apply ob_v
    · intro _ _; exact o_det (cut_det qx) rfl
    (repeat' (first
      |refine ob_p tab (fun _ => rfl) ?_|(apply ob_v; focus (intro _ _; first | exact o_loadB 0 rfl rfl rfl | exact o_loadB 1 rfl rfl rfl | exact o_loadB 2 rfl rfl rfl | exact o_loadB 3 rfl rfl rfl | exact o_loadBA 0 rfl rfl rfl | exact o_loadBA 1 rfl rfl rfl | exact o_loadBA 2 rfl rfl rfl | exact o_loadBA 3 rfl rfl rfl | exact o_add64 rfl rfl (by omega) | exact o_sub64 rfl rfl (by omega)))|fail))
    apply ob_v
    · intro _ _; exact o_det (cut_det qy) rfl
    apply ob_v
    · intro _ _; exact o_build [.int .i64 (cut px), .int .i64 (cut py), .int .i64 (cut qx), .int .i64 (cut qy), .int .i64 1] rfl (build83 _ _ _ _ _)
    refine ob_box rfl rfl rfl ?_
    refine ob_put rfl rfl rfl (fun _ => rfl) (fun _ => rfl) (stores_ag rfl rfl) ?_
    exact ob_nil
  case fin =>
    intro bs
    generalize hb6 : bs 13 = b6
    refine xt_weak (fr' := [(4, .pointer (some ⟨b4, 0, none⟩)), (5, .bool false), (6, .pointer (some ⟨bs 13, 0, none⟩))]) (I' := St w [] [(bs 13, bx [.int .i64 (cut px), .int .i64 (cut py), .int .i64 (cut qx), .int .i64 (cut qy), .int .i64 1] 83), (b4, bx [.int .i64 0, .int .i64 0, .int .i64 0, .int .i64 0, .int .i64 0] 83)]) ⟨rfl, rfl, rfl, trivial⟩ (fun _ h => h.sublist (.cons_cons _ (.cons_cons _ (List.nil_sublist _)))) ?_
    rw [hb6]
    (repeat' (first
      |refine t_seq ?_|refine t_region ?_|refine xt_then ?_|refine tl_nil ?_|refine tl_run tab rfl rfl ?_|refine tl_load (by first | exact o_loadB 0 rfl rfl rfl | exact o_loadB 1 rfl rfl rfl | exact o_loadB 2 rfl rfl rfl | exact o_loadB 3 rfl rfl rfl | exact o_loadB 4 rfl rfl rfl | exact o_loadBA 0 rfl rfl rfl | exact o_loadBA 1 rfl rfl rfl | exact o_loadBA 2 rfl rfl rfl | exact o_loadBA 3 rfl rfl rfl) rfl ?_|fail))
    refine t_cond rfl (fun h => ?_) (fun h => ?_)
    · have h' := of_decide_eq_true h
      have hE : edgeV px py qx qy = (cut qx, cut qy, cut px, cut py, -1) := by unfold edgeV; rw [if_pos h']
      (repeat' (first
        |refine t_region ?_|refine tl_run tab rfl rfl ?_|refine tl_load (by first | exact o_loadB 0 rfl rfl rfl | exact o_loadB 1 rfl rfl rfl | exact o_loadB 2 rfl rfl rfl | exact o_loadB 3 rfl rfl rfl | exact o_loadB 4 rfl rfl rfl | exact o_loadBA 0 rfl rfl rfl | exact o_loadBA 1 rfl rfl rfl | exact o_loadBA 2 rfl rfl rfl | exact o_loadBA 3 rfl rfl rfl) rfl ?_|fail))
      refine tl_val (o_build [.int .i64 (cut qx), .int .i64 (cut qy), .int .i64 (cut px), .int .i64 (cut py), .int .i64 (-1)] rfl (build83 _ _ _ _ _)) rfl rfl ?_
      (repeat' (first
        |refine t_seq ?_|refine xt_then ?_|refine tl_nil ?_|refine tl_store (by first | exact o_storeB 0 rfl rfl rfl rfl rfl | exact o_storeB 1 rfl rfl rfl rfl rfl | exact o_storeB 2 rfl rfl rfl rfl rfl | exact o_storeBA 0 rfl rfl rfl rfl rfl rfl | exact o_storeBA 1 rfl rfl rfl rfl rfl rfl | exact o_storeBA 2 rfl rfl rfl rfl rfl rfl) ?_|fail))
      apply t_drawBE [.val _, .val _, .val _, .val _, .val _, .val _, .putE b4 83 [.int .i64 0, .int .i64 0, .int .i64 0, .int .i64 0, .int .i64 0] [.int .i64 (cut qx), .int .i64 (cut qy), .int .i64 (cut px), .int .i64 (cut py), .int .i64 (-1)], .val _] [(b6, bx [.int .i64 (cut qx), .int .i64 (cut qy), .int .i64 (cut px), .int .i64 (cut py), .int .i64 (-1)] 83)] (fun _ h => h.perm (List.Perm.swap ..)) ?hob mixed (by kernel_rfl) rfl ?fin
      case hob =>
        (repeat' (first
          |refine ob_p tab (fun _ => rfl) ?_|(apply ob_v; focus (intro _ _; first | exact o_loadB 0 rfl rfl rfl | exact o_loadB 1 rfl rfl rfl | exact o_loadB 2 rfl rfl rfl | exact o_loadB 3 rfl rfl rfl | exact o_loadBA 0 rfl rfl rfl | exact o_loadBA 1 rfl rfl rfl | exact o_loadBA 2 rfl rfl rfl | exact o_loadBA 3 rfl rfl rfl | exact o_add64 rfl rfl (by omega) | exact o_sub64 rfl rfl (by omega)))|fail))
        refine ob_putE rfl (fun _ => rfl) (fun _ => rfl) (stores_ag rfl rfl) ?_
        (repeat' (first
          |refine ob_p tab (fun _ => rfl) ?_|fail))
        exact ob_nil
      case fin =>
        intro bs'
        (repeat' (first
          |refine xt_then ?_|refine t_ret ?_|fail))
        refine xt_retCT 0 rfl rfl rfl rfl rfl fun _ _ => ?_
        rw [hE]
        rfl
    · have h' := of_decide_eq_false h
      have hE : edgeV px py qx qy = (cut px, cut py, cut qx, cut qy, 1) := by unfold edgeV; rw [if_neg h']
      (repeat' (first
        |refine t_seq ?_|refine xt_then ?_|refine t_skip ?_|fail))
      apply t_drawBE [.val _, .val _, .val _, .val _, .val _, .val _, .putE b4 83 [.int .i64 0, .int .i64 0, .int .i64 0, .int .i64 0, .int .i64 0] [.int .i64 (cut px), .int .i64 (cut py), .int .i64 (cut qx), .int .i64 (cut qy), .int .i64 1], .val _] [(b6, bx [.int .i64 (cut px), .int .i64 (cut py), .int .i64 (cut qx), .int .i64 (cut qy), .int .i64 1] 83)] (fun _ h => h.perm (List.Perm.swap ..)) ?hob mixed (by kernel_rfl) rfl ?fin
      case hob =>
        (repeat' (first
          |refine ob_p tab (fun _ => rfl) ?_|(apply ob_v; focus (intro _ _; first | exact o_loadB 0 rfl rfl rfl | exact o_loadB 1 rfl rfl rfl | exact o_loadB 2 rfl rfl rfl | exact o_loadB 3 rfl rfl rfl | exact o_loadBA 0 rfl rfl rfl | exact o_loadBA 1 rfl rfl rfl | exact o_loadBA 2 rfl rfl rfl | exact o_loadBA 3 rfl rfl rfl | exact o_add64 rfl rfl (by omega) | exact o_sub64 rfl rfl (by omega)))|fail))
        refine ob_putE rfl (fun _ => rfl) (fun _ => rfl) (stores_ag rfl rfl) ?_
        (repeat' (first
          |refine ob_p tab (fun _ => rfl) ?_|fail))
        exact ob_nil
      case fin =>
        intro bs'
        (repeat' (first
          |refine xt_then ?_|refine t_ret ?_|fail))
        refine xt_retCT 0 rfl rfl rfl rfl rfl fun _ _ => ?_
        rw [hE]
        rfl

end Go.Proofs.Ytbgolbkolcmldaa

/-
  A range over a function whose body never leaves: the iterator has a contract, the body is walked once.
-/
namespace Go.Proofs.Ytbgolbkolcmldaa
open Go.RowKit

/-- the same below B -/
structure Same (B : Nat) (w w' : World) : Prop where
  os : w'.os = w.os
  tape : w'.tape = w.tape
  output : w'.output = w.output
  size : B ≤ w.heap.size
  size' : B ≤ w'.heap.size
  block : ∀ k, k < B → w'.heap[k]? = w.heap[k]?

/-- what is at B or above stays as it is -/
structure OnlyLow (B : Nat) (w w' : World) : Prop where
  os : w'.os = w.os
  tape : w'.tape = w.tape
  output : w'.output = w.output
  size : w.heap.size ≤ w'.heap.size
  block : ∀ k, B ≤ k → k < w.heap.size → w'.heap[k]? = w.heap[k]?

def Yields (P : Program) (l : Nat) (args : List Value) (W : World) (R : World → Prop) : Prop :=
  ∃ f tmps assign body, (Instr.yield l args.toArray).run P W = .ok (.round l f tmps assign body) W ∧ RoundIn Fence.wide 0 P l f tmps assign body W fun e w' => e = .returned (.bool true) ∧ R w'

def Iter {α : Type} (P : Program) (gf : FuncId) (cap : List Value) (encs : α → List Value) (xs : List α) (Data : World → Prop) : Prop :=
  ∀ (l B : Nat) (J : List α → World → Prop) (W : World), W.heap.size = B → (∀ pre w w', J pre w → Same B w w' → J pre w') → (∀ pre w, J pre w → Data w) →
    (∀ pre x W1, (pre ++ [x]) <+: xs → J pre W1 → B ≤ W1.heap.size → Yields P l (encs x) W1 fun W' => J (pre ++ [x]) W' ∧ OnlyLow B W1 W') → J [] W →
    Calls P gf (.func (.yield l) #[] #[] :: cap).toArray W fun e W' => (∃ v, e = .returned v) ∧ J xs W'

variable {P : Program} {r : Option Nat} {Q : Exit → Act → World → Prop} {nt : Nat} {D : List Deferred} {fr : Fr} {I : World → Prop}
variable {w0 : World} {X : List Nat} {L : HL}

theorem o_yield {l : Nat} {z : Operand} {args : Array Operand} {ts : Array TypeId} {d : Option Tmp} {ty : TypeId} {pos : String} {af : Array Edge} {g : Option (Nat × Bool)} (vs : List Value) {R : World → Prop} (hz : fev fr z = some (.func (.yield l) #[] #[])) (hv : fevs fr args.toList = some vs)
    (h : ∀ w, I w → Yields P l vs w R) : O P ⟨d, .call ⟨.value z, args, ts⟩, ty, pos, af, g⟩ fr I (fun v w => v = .bool true ∧ R w) := by
  intro ρ w hρ hw
  have e : args.map ρ = vs.toArray := by
    apply Array.toList_inj.1
    simp [fevs_map hρ _ _ hv]
  have hfv : ρ z = .func (.yield l) #[] #[] := hρ _ _ hz
  obtain ⟨f, tmps, assign, body, hy, hr⟩ := h w hw
  unfold Op1
  have : (execOp ρ ⟨d, .call ⟨.value z, args, ts⟩, ty, pos, af, g⟩).run P w = .ok (.round l f tmps assign body) w := by
    simp [execOp, resolve, hfv, Deferred.ofValue, e, invoke, hy]
  rw [this]
  exact hr.mono fun e' w' ⟨he, hR⟩ => ⟨_, he, rfl, hR⟩

def fset : List Nat → List Value → Fr → Fr
  | p :: ps, v :: vs, fr => fset ps vs ((p, v) :: fr)
  | _, _, fr => fr

theorem Ag.fset {D' : List Deferred} : ∀ (ps : List Nat) (vs : List Value) (fr : Fr) (t : Array Value), ps.length = vs.length → (∀ p ∈ ps, p < nt) → Ag nt D' fr ⟨t, D'⟩ → Ag nt D' (fset ps vs fr) ⟨(ps.zip vs).foldl (fun t q => t.setIfInBounds q.1 q.2) t, D'⟩
  | [], _, fr, t, _, _, h => by simpa [Go.Proofs.Ytbgolbkolcmldaa.fset] using h
  | p :: ps, [], fr, t, hl, _, h => by simp at hl
  | p :: ps, v :: vs, fr, t, hl, hp, h => by
    simp only [Go.Proofs.Ytbgolbkolcmldaa.fset, List.zip_cons_cons, List.foldl_cons]
    refine Ag.fset ps vs _ _ (by simpa using hl) (fun q hq => hp q (List.mem_cons_of_mem _ hq)) ?_
    have := h.put (hp p (List.mem_cons_self ..)) v
    simpa [Act.put] using this

def recO (rec : Loop) (st : LoopState) : Obj → Prop := fun o => o = .loop { rec with state := st, pending := none }
def defO : Obj → Prop := fun o => o = .deferred (some [])

/-- behind the assignment of the loop's variables -/
def Qbegin (P : Program) (l : Nat) (body : Code) (Qb : Exit → Act → World → Prop) : Exit → Act → World → Prop
  | .normal, a, w => ∃ w2, (Instr.beginRound l).run P w = .ok () w2 ∧ body.wpIn (Wd (some l)) 0 P Qb a w2
  | _, _, _ => False
/-- at the body's end -/
def Qround (W : World) (X : List Nat) (L : HL) : Exit → Act → World → Prop
  | .normal, _, w => St W X L w
  | _, _, _ => False

theorem grownBy_putObj (w : World) (l : Nat) (o : Obj) : w.grownBy (w.putObj l o) (some l) :=
  ⟨rfl, rfl, rfl, by simp [World.putObj], fun k _ hk => World.putObj_heap_other (fun e => hk (by rw [e]))⟩

theorem St.turn {l : Nat} {q q' : Obj → Prop} {w : World} {o : Obj} (h : St w0 X (L ++ [(l, q)]) w) (hq : q' o) : St w0 X (L ++ [(l, q')]) (w.putObj l o) := by
  have h1 : St w0 X ((l, q) :: L) w := h.perm List.perm_append_comm
  have hlt := h1.lt (List.mem_cons_self ..)
  exact (h1.put (grownBy_putObj w l o) (World.putObj_heap_same hlt) hq).perm (List.perm_append_comm (l₁ := [(l, q')]))

theorem xt_begin {l : Nat} {body : Code} {Qb : Exit → Act → World → Prop} {rec : Loop} {L' : HL} (h : T P (some l) body Qb nt D fr (St w0 X (L' ++ [(l, recO rec .busy)]))) : Xt P .normal (Qbegin P l body Qb) nt D fr (St w0 X (L' ++ [(l, recO rec .ready)])) := by
  intro a w ha hw
  obtain ⟨o, ho, hr⟩ := hw.here (l, recO rec .ready) (by simp)
  rw [hr] at ho
  refine ⟨_, run_beginRound ho rfl, h a _ ha (hw.turn (q' := recO rec .busy) rfl)⟩

theorem xt_roundEnd {W : World} {X : List Nat} {L L' : HL} (h : ∀ w, St W X L w → St W X L' w) : Xt P .normal (Qround W X L') nt D fr (St W X L) := fun _ w _ hw => h w hw

theorem range_core {α : Type} {gf : FuncId} {cap : List Value} {encs : α → List Value} {xs : List α} {Data : World → Prop} (hit : Iter P gf cap encs xs Data) (Lp : List α → HL) (ids : List Nat) (hids : ∀ pre, (Lp pre).map (·.1) = ids)
    (hdata : ∀ pre w, St w0 X (Lp pre) w → Data w) {rec : Loop} {ps : List Nat} {assign body : Code} (hrp : rec.params = ps.toArray) (hra : rec.assign = assign) (hrb : rec.body = body) (hps : ∀ x, (encs x).length = ps.length) (hpn : ∀ p ∈ ps, p < nt) (ha : Ag nt [] fr ⟨rec.tmps, []⟩) {l : Nat} {W1 : World}
    (hW : St w0 X (Lp [] ++ [(l, recO rec .ready)]) W1)
    (hround : ∀ pre x W, (pre ++ [x]) <+: xs → St w0 X (Lp pre) W → T P (some l) assign (Qbegin P l body (Qround W (l :: ids) (Lp (pre ++ [x]) ++ [(l, recO rec .busy)]))) nt [] (fset ps (encs x) fr) (St W (l :: ids) (Lp pre ++ [(l, recO rec .ready)]))) :
    Calls P gf (.func (.yield l) #[] #[] :: cap).toArray W1 fun e W' => (∃ v, e = .returned v) ∧ St w0 X (Lp xs ++ [(l, recO rec .ready)]) W' := by
  have hl0 : ∀ pre, ((Lp pre ++ [(l, recO rec .ready)]).map (·.1)) = ids ++ [l] := fun pre => by simp [hids pre]
  have hltB : ∀ i ∈ ids ++ [l], i < W1.heap.size := fun i hi => by
    rw [← hl0 []] at hi
    obtain ⟨p, hp, rfl⟩ := List.mem_map.1 hi
    exact hW.lt hp
  refine hit l W1.heap.size (fun pre w => St w0 X (Lp pre ++ [(l, recO rec .ready)]) w) W1 rfl ?_ ?_ ?_ hW
  · intro pre w w' h hs
    have hlt : ∀ p ∈ Lp pre ++ [(l, recO rec .ready)], p.1 < W1.heap.size := fun p hp => hltB _ (by rw [← hl0 pre]; exact List.mem_map.2 ⟨p, hp, rfl⟩)
    refine ⟨hs.os.trans h.os, hs.tape.trans h.tape, hs.output.trans h.output, Nat.le_trans hW.size hs.size', fun k hk hx => (hs.block k (Nat.lt_of_lt_of_le hk hW.size)).trans (h.old k hk hx), ?_, h.mine, h.apart⟩
    intro p hp
    obtain ⟨o, ho, hq⟩ := h.here p hp
    exact ⟨o, (hs.block p.1 (hlt p hp)).trans ho, hq⟩
  · intro pre w h
    exact hdata pre w (h.sublist (List.sublist_append_left ..))
  · intro pre x Wy hpre hJ hB
    obtain ⟨o, ho, hro⟩ := hJ.here (l, recO rec .ready) (by simp)
    rw [hro] at ho
    have hlids : l ∉ ids := by
      have := hJ.apart
      rw [hl0 pre, List.nodup_append] at this
      intro hm
      exact this.2.2 l hm l (by simp) rfl
    have hy := run_yield (P := P) (args := (encs x).toArray) ho (by simp [hrp, hps x])
    refine ⟨_, _, _, _, hy, ?_⟩
    simp only [hra, hrb]
    refine roundIn_of_wpIn (F := Fence.wide) trivial ?_
    have hag : Ag nt [] (fset ps (encs x) fr) ⟨(ps.zip (encs x)).foldl (fun t q => t.setIfInBounds q.1 q.2) rec.tmps, []⟩ := Ag.fset ps (encs x) fr rec.tmps (hps x).symm hpn ha
    have htm : (rec.params.zip (encs x).toArray).foldl (fun tmps (q : Nat × Value) => tmps.setIfInBounds q.1 q.2) rec.tmps = (ps.zip (encs x)).foldl (fun t q => t.setIfInBounds q.1 q.2) rec.tmps := by
      rw [hrp]
      simp
    have hst : St Wy (l :: ids) (Lp pre ++ [(l, recO rec .ready)]) Wy := ⟨rfl, rfl, rfl, Nat.le_refl _, fun _ _ _ => rfl, hJ.here, fun p hp => .inr (by
      have : p.1 ∈ ids ++ [l] := by rw [← hl0 pre]; exact List.mem_map.2 ⟨p, hp, rfl⟩
      simp at this ⊢
      rcases this with h | h
      · exact .inr h
      · exact .inl h), hJ.apart⟩
    have hwp := hround pre x Wy hpre (hJ.sublist (List.sublist_append_left ..)) _ Wy hag hst
    have := wpIn_mono (Q' := Exit.then (fun a₁ w₁ => ∃ w₂, (Instr.beginRound l).run P w₁ = .ok () w₂ ∧ body.wpIn (Fence.wide.inRound l) 0 P (roundPost P l fun e w' => e = .returned (.bool true) ∧ (St w0 X (Lp (pre ++ [x]) ++ [(l, recO rec .ready)]) w' ∧ OnlyLow W1.heap.size Wy w')) a₁ w₂) (fun _ _ _ => False)) hwp ?_
    · rw [← htm] at this
      exact this
    · intro e a2 w2 hq
      cases e with
      | normal =>
        obtain ⟨w3, hb, hbody⟩ := hq
        refine ⟨w3, hb, wpIn_mono hbody ?_⟩
        intro e a4 w4 h4
        cases e with
        | normal =>
          have h4 : St Wy (l :: ids) (Lp (pre ++ [x]) ++ [(l, recO rec .busy)]) w4 := h4
          obtain ⟨o4, ho4, hr4⟩ := h4.here (l, recO rec .busy) (by simp)
          rw [hr4] at ho4
          refine ⟨_, _, run_endRound none ho4, rfl, ?_, ?_⟩
          · have h5 := h4.turn (o := .loop { rec with state := .ready, pending := none }) (q' := recO rec .ready) rfl
            have hmine : ∀ i ∈ ids ++ [l], w0.heap.size ≤ i ∨ i ∈ X := fun i hi => by
              rw [← hl0 pre] at hi
              obtain ⟨p, hp, rfl⟩ := List.mem_map.1 hi
              exact hJ.mine p hp
            refine ⟨h5.os.trans hJ.os, h5.tape.trans hJ.tape, h5.output.trans hJ.output, Nat.le_trans hJ.size h5.size, ?_, h5.here, ?_, h5.apart⟩
            · intro k hk hx
              refine (h5.old k (Nat.lt_of_lt_of_le hk hJ.size) ?_).trans (hJ.old k hk hx)
              intro hm
              have : k ∈ ids ++ [l] := by simp at hm ⊢; rcases hm with h | h <;> simp [h]
              rcases hmine k this with h | h
              · omega
              · exact hx h
            · intro p hp
              exact hmine p.1 (by rw [← hl0 (pre ++ [x])]; exact List.mem_map.2 ⟨p, hp, rfl⟩)
          · have h5 := h4.turn (o := .loop { rec with state := .ready, pending := none }) (q' := recO rec .ready) rfl
            refine ⟨h5.os, h5.tape, h5.output, h5.size, fun k hk hlt => h5.old k hlt ?_⟩
            intro hm
            have : k ∈ ids ++ [l] := by simp at hm ⊢; rcases hm with h | h <;> simp [h]
            have := hltB k this
            omega
        | _ => exact h4.elim
      | _ => exact hq.elim

/-- the statement, outside every round -/
theorem t_range {α : Type} {gf : FuncId} {cap : List Value} {encs : α → List Value} {xs : List α} {Data : World → Prop} (hit : Iter P gf cap encs xs Data) [hf : CFn P gf] {g : Operand} {ps : List Nat} {assign body : Code} (hg : fev fr g = some (.func (.func gf) #[] cap.toArray))
    (Lp : List α → HL) (ids : List Nat) (hids : ∀ pre, (Lp pre).map (·.1) = ids) (hL : ∀ w, St w0 X L w → St w0 X (Lp []) w) (hdata : ∀ pre w, St w0 X (Lp pre) w → Data w) (hps : ∀ x, (encs x).length = ps.length) (hpn : ps.all (fun p => Nat.blt p nt) = true)
    (hround : ∀ l db rec pre x W, (pre ++ [x]) <+: xs → St w0 X (Lp pre ++ [(db, defO)]) W → T P (some l) assign (Qbegin P l body (Qround W (l :: (ids ++ [db])) ((Lp (pre ++ [x]) ++ [(db, defO)]) ++ [(l, recO rec .busy)]))) nt [] (fset ps (encs x) fr) (St W (l :: (ids ++ [db])) ((Lp pre ++ [(db, defO)]) ++ [(l, recO rec .ready)])))
    (hdone : ∀ db, Xt P .normal Q nt ({ target := .collected db, args := #[] } :: D) fr (St w0 X (Lp xs ++ [(db, defO)]))) : T P none (.rangeFunc g ps.toArray assign body) Q nt D fr (St w0 X L) := by
  intro a w ha hw
  refine wpIn_rangeFunc ?_
  intro fn hfn
  have hw1 := hL w hw
  obtain ⟨rec, hrec⟩ : ∃ rec : Loop, rec = { state := .ready, pending := none, fn, tmps := a.tmps, params := ps.toArray, assign, body, defers := w.heap.size } := ⟨_, rfl⟩
  have h1 := (hw1.alloc (.deferred (some [])) (q := defO) rfl).perm (List.perm_append_comm (l₁ := [(w.heap.size, defO)]))
  have h2 := (h1.alloc (.loop rec) (q := recO rec .ready) (by rw [hrec]; rfl)).perm (List.perm_append_comm (l₁ := [((w.alloc (.deferred (some []))).heap.size, recO rec .ready)]))
  simp only [World.size_alloc] at h2
  refine ⟨w.heap.size + 1, [{ target := .collected w.heap.size, args := #[] }], (w.alloc (.deferred (some []))).alloc (.loop rec), { target := .fn (.func gf) cap.toArray, args := #[.func (.yield (w.heap.size + 1)) #[] #[]] }, (w.alloc (.deferred (some []))).alloc (.loop rec), gf,
    #[.func (.yield (w.heap.size + 1)) #[] #[]] ++ cap.toArray, (w.alloc (.deferred (some []))).alloc (.loop rec), ?_, ?_, fun _ _ => trivial, ?_, fun h => by simp [Fence.wide] at h, ?_⟩
  · rw [hrec]; exact run_enterLoop_outer _ _ _ _ _
  · simp only [resolve, rangeCall, ha.eval hg]
    simp [Deferred.ofValue, Act.eval]
  · simp [invoke, hf.enters]
  · have hc := range_core (nt := nt) (fr := fr) (P := P) hit (fun pre => Lp pre ++ [(w.heap.size, defO)]) (ids ++ [w.heap.size]) (fun pre => by simp [hids pre]) (fun pre w h => hdata pre w (h.sublist (List.sublist_append_left ..))) (rec := rec) (ps := ps) (assign := assign) (body := body)
      (by rw [hrec]) (by rw [hrec]) (by rw [hrec]) hps (fun p hp => by have := List.all_eq_true.1 hpn p hp; simpa [Nat.blt_eq] using this) (by rw [hrec]; exact ⟨ha.size, rfl, ha.look⟩) (l := w.heap.size + 1) h2 (fun pre x W hp hs => hround _ _ rec pre x W hp hs)
    have hc' : Calls P gf (#[.func (.yield (w.heap.size + 1)) #[] #[]] ++ cap.toArray) ((w.alloc (.deferred (some []))).alloc (.loop rec)) fun e W' => (∃ v, e = .returned v) ∧ St w0 X ((Lp xs ++ [(w.heap.size, defO)]) ++ [(w.heap.size + 1, recO rec .ready)]) W' := by simpa using hc
    refine callsIn_any (hc'.mono ?_)
    rintro e W' ⟨⟨v, rfl⟩, hst⟩
    obtain ⟨o, ho, hr⟩ := hst.here (w.heap.size + 1, recO rec .ready) (by simp)
    rw [hr] at ho
    refine ⟨none, _, run_endLoop ho (by simp), ?_⟩
    refine hdone w.heap.size _ _ ⟨ha.size, by simp [ha.defers], ha.look⟩ ?_
    exact (hst.turn (q' := fun _ => True) trivial).sublist (List.sublist_append_left ..)

/-- the statement within a round of another loop -/
theorem t_rangeIn {α : Type} {gf : FuncId} {cap : List Value} {encs : α → List Value} {xs : List α} {Data : World → Prop} (hit : Iter P gf cap encs xs Data) [hf : CFn P gf] {g : Operand} {ps : List Nat} {assign body : Code} {l₀ : Nat} {rec₀ : Loop} {st₀ : LoopState} (hl₀ : (l₀, recO rec₀ st₀) ∈ L) (hg : fev fr g = some (.func (.func gf) #[] cap.toArray))
    (Lp : List α → HL) (ids : List Nat) (hids : ∀ pre, (Lp pre).map (·.1) = ids) (hL : ∀ w, St w0 X L w → St w0 X (Lp []) w) (hdata : ∀ pre w, St w0 X (Lp pre) w → Data w) (hps : ∀ x, (encs x).length = ps.length) (hpn : ps.all (fun p => Nat.blt p nt) = true)
    (hround : ∀ l rec pre x W, (pre ++ [x]) <+: xs → St w0 X (Lp pre) W → T P (some l) assign (Qbegin P l body (Qround W (l :: ids) (Lp (pre ++ [x]) ++ [(l, recO rec .busy)]))) nt [] (fset ps (encs x) fr) (St W (l :: ids) (Lp pre ++ [(l, recO rec .ready)])))
    (hdone : Xt P .normal Q nt D fr (St w0 X (Lp xs))) : T P (some l₀) (.rangeFunc g ps.toArray assign body) Q nt D fr (St w0 X L) := by
  intro a w ha hw
  refine wpIn_rangeFunc ?_
  intro fn hfn
  have hw1 := hL w hw
  obtain ⟨o₀, ho₀, hr₀⟩ := hw.here _ hl₀
  rw [hr₀] at ho₀
  obtain ⟨rec, hrec⟩ : ∃ rec : Loop, rec = { state := .ready, pending := none, fn, tmps := a.tmps, params := ps.toArray, assign, body, defers := rec₀.defers } := ⟨_, rfl⟩
  have h2 := (hw1.alloc (.loop rec) (q := recO rec .ready) (by rw [hrec]; rfl)).perm (List.perm_append_comm (l₁ := [(w.heap.size, recO rec .ready)]))
  refine ⟨w.heap.size, [], w.alloc (.loop rec), { target := .fn (.func gf) cap.toArray, args := #[.func (.yield w.heap.size) #[] #[]] }, w.alloc (.loop rec), gf, #[.func (.yield w.heap.size) #[] #[]] ++ cap.toArray, w.alloc (.loop rec), ?_, ?_, fun _ _ => trivial, ?_, fun h => by simp [Fence.wide] at h, ?_⟩
  · rw [hrec]; exact run_enterLoop_inner ho₀ _ _ _ _ _
  · simp only [resolve, rangeCall, ha.eval hg]
    simp [Deferred.ofValue, Act.eval]
  · simp [invoke, hf.enters]
  · have hc := range_core (nt := nt) (fr := fr) (P := P) hit Lp ids hids hdata (rec := rec) (ps := ps) (assign := assign) (body := body)
      (by rw [hrec]) (by rw [hrec]) (by rw [hrec]) hps (fun p hp => by have := List.all_eq_true.1 hpn p hp; simpa [Nat.blt_eq] using this) (by rw [hrec]; exact ⟨ha.size, rfl, ha.look⟩) (l := w.heap.size) h2 (fun pre x W hp hs => hround _ rec pre x W hp hs)
    have hc' : Calls P gf (#[.func (.yield w.heap.size) #[] #[]] ++ cap.toArray) (w.alloc (.loop rec)) fun e W' => (∃ v, e = .returned v) ∧ St w0 X (Lp xs ++ [(w.heap.size, recO rec .ready)]) W' := by simpa using hc
    refine callsIn_any (hc'.mono ?_)
    rintro e W' ⟨⟨v, rfl⟩, hst⟩
    obtain ⟨o, ho, hr⟩ := hst.here (w.heap.size, recO rec .ready) (by simp)
    rw [hr] at ho
    refine ⟨none, _, run_endLoop ho (by simp), ?_⟩
    refine hdone _ _ ⟨ha.size, by simp [ha.defers], ha.look⟩ ?_
    exact (hst.turn (q' := fun _ => True) trivial).sublist (List.sublist_append_left ..)

/-! ### a function whose body holds such a range: its end -/
theorem calls_M {f : FuncId} {fn : Func} {c : Code} {vs : List Value} {w : World} {R : Ending → World → Prop} (hf : P.funcs[f]? = some fn) (hb : fn.body = some c) (hn : fn.ntmps = nt) (hs : Nat.ble vs.length nt = true)
    (h : T P none c (bodyPostM Fence.wide 0 P fn R) nt [] (fargs 0 vs) (St w [] [])) : Calls P f vs.toArray w R := by
  have hs' : vs.length ≤ nt := by simpa [Nat.ble_eq] using hs
  refine (callsIn_wide (n := 0)).1 (callsIn_of_wp_marks hf hb trivial (h _ w ⟨?_, rfl, ?_⟩ (St.init _ _)))
  · simp [hn]; omega
  · intro t v hl
    obtain ⟨_, h2⟩ := fargs_look vs 0 t v hl
    simp only [Nat.sub_zero] at h2
    simp only [Array.getD_eq_getD_getElem?]
    have hlt : t < vs.length := (List.getElem?_eq_some_iff.1 h2).1
    rw [Array.getElem?_append_left (by simpa using hlt)]
    simp [h2]

theorem xt_retM1 {fn : Func} {w : World} {Post : Value → World → Prop} {t : Tmp} {v : Value} {db : Nat} (hr : fn.results = #[.tmp t]) (hv : flook fr t = some v) (h : ∀ w', St w [] L w' → Post v w') :
    Xt P .ret (bodyPostM Fence.wide 0 P fn (Ret w Post)) nt [{ target := .collected db, args := #[] }] fr (St w [] (L ++ [(db, defO)])) := by
  intro a w' ha hw
  obtain ⟨o, ho, hq⟩ := hw.here (db, defO) (by simp)
  rw [hq] at ho
  have hL : St w [] L (w'.putObj db (.deferred none)) := (hw.turn (q' := fun _ => True) trivial).sublist (List.sublist_append_left ..)
  show LeavesInM _ _ _ _ _ _ a.defers _ _
  rw [ha.defers]
  refine ⟨by simp, .inl ⟨_, _, rfl, run_takeDeferred ho, ?_⟩⟩
  exact ⟨_, results_tmp hr _ _ _, v, by rw [ha.look t v hv], hL.toExt, h _ hL⟩

/-! ### for an iterator's walk: the world as the last round left it, cut at B -/
def trunc (B : Nat) (w : World) : World := { w with heap := w.heap.extract 0 B }
theorem trunc_size {B : Nat} {w : World} (h : B ≤ w.heap.size) : (trunc B w).heap.size = B := by simp [trunc, h]
theorem trunc_get {B k : Nat} {w : World} (h : k < B) : (trunc B w).heap[k]? = w.heap[k]? := by
  simp only [trunc]
  rw [Array.getElem?_extract]
  simp
  omega
theorem trunc_same {B : Nat} {w : World} (h : B ≤ w.heap.size) : Same B w (trunc B w) := ⟨rfl, rfl, rfl, h, by rw [trunc_size h]; exact Nat.le_refl _, fun k hk => trunc_get hk⟩
theorem St.same {w1 w : World} (h : St w1 [] L w) : Same w1.heap.size w1 w := ⟨h.os, h.tape, h.output, Nat.le_refl _, h.size, fun k hk => h.old k hk (by simp)⟩
theorem St.retrunc {w1 W1 W' : World} (h : St w1 [] L W1) (ho : OnlyLow w1.heap.size W1 W') : St (trunc w1.heap.size W') [] L W' := by
  have hB : w1.heap.size ≤ W'.heap.size := Nat.le_trans h.size ho.size
  refine ⟨rfl, rfl, rfl, by rw [trunc_size hB]; exact hB, fun k hk _ => by rw [trunc_size hB] at hk; exact (trunc_get hk).symm, ?_, ?_, h.apart⟩
  · intro p hp
    obtain ⟨o, h1, h2⟩ := h.here p hp
    have hm := h.mine p hp
    simp at hm
    exact ⟨o, (ho.block p.1 hm (Array.getElem?_eq_some_iff.1 h1).1).trans h1, h2⟩
  · intro p hp
    have hm := h.mine p hp
    simp at hm
    exact .inl (by rw [trunc_size hB]; exact hm)

/-! ### reading what came in -/
section
variable {d : Option Tmp} {ty t : TypeId} {pos : String} {af : Array Edge} {g : Option (Nat × Bool)} {x : Operand}
theorem o_loadO {a : Addr} {v : Value} [CSc P t] (hx : fev fr x = some (.pointer (some a))) (hb : a.block < w0.heap.size) (hc : w0.cell? a = some v) : Pv P ⟨d, .load t x, ty, pos, af, g⟩ fr (St w0 [] L) v :=
  o_load hx fun w hw => by rw [hw.oldCell hb (by simp)]; exact hc
theorem o_loadOA {b o k : Nat} {cs : List Value} [CAg P t k] (hx : fev fr x = some (.pointer (some ⟨b, o, none⟩))) (hl : cs.length = k) (hb : b < w0.heap.size) (hc : ∀ j v, cs[j]? = some v → w0.cell? ⟨b, o + j, none⟩ = some v) : Pv P ⟨d, .load t x, ty, pos, af, g⟩ fr (St w0 [] L) (.agg cs.toArray) :=
  o_loadA hx hl fun w hw j v hj => by rw [hw.oldCell (a := ⟨b, o + j, none⟩) hb (by simp)]; exact hc j v hj
theorem tl_indexAddr {ops : Array Oper} {rest : List Oper} {d : Nat} {y : Operand} {u : Value} {I' : World → Prop} (ho : O P ⟨some d, .indexAddr t x y, ty, pos, af, none⟩ fr I (fun v w => v = u ∧ I' w)) (hd : Nat.ble nt d = false) (h : TL P r ops Q nt D rest ((d, u) :: fr) I') : TL P r ops Q nt D (⟨some d, .indexAddr t x y, ty, pos, af, none⟩ :: rest) fr I := tl_val ho hd rfl h
end

theorem xt_roundW {α : Type} {Inv : α → Fr} {C : α → Prop} {J : α → World → Prop} {μ : α → Nat} {x : α} (h : ∀ w, I w → ∃ x', fle (Inv x') fr ∧ (C x' ∧ J x' w) ∧ μ x' < μ x) :
    Xt P .normal (Exit.then (fun a w => ∃ x', Ag nt D (Inv x') a ∧ (C x' ∧ J x' w) ∧ μ x' < μ x) Q) nt D fr I :=
  fun a w ha hw => by
    obtain ⟨x', hf, hc, hm⟩ := h w hw
    exact ⟨x', ha.weak hf, hc, hm⟩
theorem Yields.mono {l : Nat} {args : List Value} {W : World} {R R' : World → Prop} (h : Yields P l args W R) (hr : ∀ w, R w → R' w) : Yields P l args W R' := by
  obtain ⟨f, tmps, assign, body, hy, hR⟩ := h
  exact ⟨f, tmps, assign, body, hy, hR.mono fun e w' ⟨he, hw⟩ => ⟨he, hr w' hw⟩⟩

/-- a block that a callee has made -/
theorem St.addNew {w w' : World} {b : Nat} {o : Obj} {q : Obj → Prop} (h : St w0 X L w) (e : Ext w w') (hb : w.heap.size ≤ b) (ho : w'.heap[b]? = some o) (hq : q o) : St w0 X ((b, q) :: L) w' := by
  have h' := h.ext e
  refine ⟨h'.os, h'.tape, h'.output, h'.size, h'.old, ?_, ?_, ?_⟩
  · intro p hp
    rcases List.mem_cons.1 hp with rfl | hp
    · exact ⟨o, ho, hq⟩
    · exact h'.here p hp
  · intro p hp
    rcases List.mem_cons.1 hp with rfl | hp
    · exact .inl (Nat.le_trans h.size hb)
    · exact h'.mine p hp
  · simp only [List.map_cons, List.nodup_cons]
    refine ⟨fun hm => ?_, h.apart⟩
    obtain ⟨p, hp, he⟩ := List.mem_map.1 hm
    have := h.lt hp
    omega

theorem tl_ret {β : Type} {ops : Array Oper} {rest : List Oper} {d : Nat} {f : FuncId} {args : Array Operand} {ts : Array TypeId} {ty : TypeId} {pos : String} {af : Array Edge} {vs : List Value} {Post : World → Value → World → Prop} [CFn P f] (V : β → Value) (Ln : β → HL) (hc : ∀ w, St w0 X L w → Calls P f vs.toArray w (Ret w (Post w))) (hv : fevs fr args.toList = some vs)
    (hp : ∀ w v w', St w0 X L w → Ext w w' → Post w v w' → ∃ x, v = V x ∧ St w0 X (Ln x ++ L) w') (hd : Nat.ble nt d = false) (h : ∀ x, TL P r ops Q nt D rest ((d, V x) :: fr) (St w0 X (Ln x ++ L))) : TL P r ops Q nt D (⟨some d, .call ⟨.value (.func f), args, ts⟩, ty, pos, af, none⟩ :: rest) fr (St w0 X L) :=
  tl_op hd rfl (o_ret hv hc) fun v a w' ha hw => by
    obtain ⟨w, hw, he, hpost⟩ := hw
    obtain ⟨x, rfl, hs⟩ := hp w v w' hw he hpost
    exact h x a w' ha hs

end Go.Proofs.Ytbgolbkolcmldaa

/-
  Lines as they came in; the edges of lines, one by one.
-/
namespace Go.Proofs.Ytbgolbkolcmldaa
open Go.RowKit
attribute [local irreducible] T TL Xt O Op1 Kt DV ObsB DE

abbrev Pts := List (Int × Int)
def ptCells (l : Pts) : List Value := l.flatMap fun p => [.int .i64 p.1, .int .i64 p.2]

theorem ptCells_length (l : Pts) : (ptCells l).length = l.length * 2 := by
  induction l with
  | nil => rfl
  | cons p l ih => simp [ptCells] at ih ⊢; omega
theorem ptCells_get (l : Pts) (k : Nat) (p : Int × Int) (h : l[k]? = some p) : (ptCells l)[k * 2]? = some (.int .i64 p.1) ∧ (ptCells l)[k * 2 + 1]? = some (.int .i64 p.2) := by
  induction l generalizing k with
  | nil => simp at h
  | cons q l ih =>
    cases k with
    | zero => simp at h; subst h; simp [ptCells]
    | succ k =>
      have := ih k (by simpa using h)
      rw [show (k + 1) * 2 = k * 2 + 2 by omega, show k * 2 + 2 + 1 = (k * 2 + 1) + 2 by omega]
      simpa [ptCells] using this

/-- a row of points in memory -/
abbrev Row (w : World) (v : Value) (l : Pts) : Prop := Rd w 2 v (ptCells l)
/-- rows of points in memory -/
def Lines (w : World) (v : Value) (ls : List Pts) : Prop :=
  ∃ rows : List Value, Rd w 1 v rows ∧ rows.length = ls.length ∧ ∀ (i : Nat) (r : Value) (l : Pts), rows[i]? = some r → ls[i]? = some l → Row w r l

/-- the edges of a row, from its i-th point on: so many points more -/
abbrev Edg := Int × Int × Int × Int × Int
def edgeAt (l : Pts) (i : Nat) : List Edg := match l[i]?, l[(i + 1) % l.length]? with
  | some p, some q => if (edgeV p.1 p.2 q.1 q.2).2.1 < (edgeV p.1 p.2 q.1 q.2).2.2.2.1 then [edgeV p.1 p.2 q.1 q.2] else []
  | _, _ => []
def edgesTo (l : Pts) (k : Nat) : List Edg := (List.range k).flatMap (edgeAt l)
def edgesOf (l : Pts) : List Edg := edgesTo l l.length
def edgesAll (ls : List Pts) : List Edg := ls.flatMap edgesOf

def encE (e : Edg) : List Value := [edg e.1 e.2.1 e.2.2.1 e.2.2.2.1 e.2.2.2.2]

theorem edgesTo_succ (l : Pts) (k : Nat) : edgesTo l (k + 1) = edgesTo l k ++ edgeAt l k := by
  simp [edgesTo, List.range_succ]

theorem flatMap_take_succ {α β : Type} (f : α → List β) (ls : List α) (i : Nat) (l : α) (h : ls[i]? = some l) : (ls.take (i + 1)).flatMap f = (ls.take i).flatMap f ++ f l := by
  rw [List.take_add_one, h]; simp

theorem row_at {w : World} {l : Pts} {A : Option Addr} {n cap k : Nat} {p : Int × Int} (h : Row w (.slice A n cap) l) (hp : l[k]? = some p) : ∃ b off, A = some ⟨b, off, none⟩ ∧ b < w.heap.size ∧ n = l.length ∧ ∀ j v, [Value.int .i64 p.1, .int .i64 p.2][j]? = some v → w.cell? ⟨b, off + k * 2 + j, none⟩ = some v := by
  obtain ⟨A', n', cap', he, hl, _, _, hr⟩ := h
  cases he
  rw [ptCells_length] at hl
  have hk : k < l.length := (List.getElem?_eq_some_iff.1 hp).1
  obtain ⟨b, off, rfl, hb, hc⟩ := hr (by omega)
  refine ⟨b, off, rfl, hb, by omega, fun j v hj => ?_⟩
  obtain ⟨g1, g2⟩ := ptCells_get l k p hp
  match j, hj with
  | 0, hj => simp at hj; subst hj; have := hc _ _ g1; simpa using this
  | 1, hj => simp at hj; subst hj; have := hc _ _ g2; rwa [← Nat.add_assoc] at this
  | j + 2, hj => simp at hj

theorem row_len {w : World} {l : Pts} {A : Option Addr} {n cap : Nat} (h : Row w (.slice A n cap) l) : n = l.length := by
  obtain ⟨A', n', cap', he, hl, _⟩ := h
  cases he
  rw [ptCells_length] at hl
  omega

theorem row_le {w : World} {l : Pts} {A : Option Addr} {n cap : Nat} (h : Row w (.slice A n cap) l) : n ≤ 9223372036854775807 := by
  obtain ⟨A', n', cap', he, _, h1, h2, _⟩ := h
  cases he
  unfold maxLen at h2
  omega
theorem lines_le {w : World} {ls : List Pts} {A : Option Addr} {n cap : Nat} (h : Lines w (.slice A n cap) ls) : n ≤ 9223372036854775807 := by
  obtain ⟨rows, ⟨A', n', cap', he, _, h1, h2, _⟩, _⟩ := h
  cases he
  unfold maxLen at h2
  omega

theorem lines_len {w : World} {ls : List Pts} {A : Option Addr} {n cap : Nat} (h : Lines w (.slice A n cap) ls) : n = ls.length := by
  obtain ⟨rows, ⟨A', n', cap', he, hl, _⟩, hlen, _⟩ := h
  cases he
  omega

theorem lines_at {w : World} {ls : List Pts} {A : Option Addr} {n cap i : Nat} {l : Pts} (h : Lines w (.slice A n cap) ls) (hl : ls[i]? = some l) : ∃ b off A' n' cap', A = some ⟨b, off, none⟩ ∧ b < w.heap.size ∧ w.cell? ⟨b, off + i * 1, none⟩ = some (.slice A' n' cap') ∧ Row w (.slice A' n' cap') l := by
  obtain ⟨rows, ⟨A1, n1, cap1, he, hlr, _, _, hr⟩, hlen, hrow⟩ := h
  cases he
  have hi : i < ls.length := (List.getElem?_eq_some_iff.1 hl).1
  obtain ⟨b, off, rfl, hb, hc⟩ := hr (by omega)
  obtain ⟨rv, hrv⟩ : ∃ rv, rows[i]? = some rv := ⟨_, List.getElem?_eq_getElem (by omega)⟩
  have hR := hrow i rv l hrv hl
  obtain ⟨A', n', cap', rfl, _⟩ := id hR
  exact ⟨b, off, A', n', cap', rfl, hb, by rw [Nat.mul_one]; exact hc i _ hrv, hR⟩

/-- the memory that an iterator reads is as it was -/
structure Keeps (w0 : World) (w : World) : Prop where
  size : w0.heap.size ≤ w.heap.size
  block : ∀ k, k < w0.heap.size → w.heap[k]? = w0.heap[k]?
theorem Keeps.cell {w0 w : World} (h : Keeps w0 w) {a : Addr} (hb : a.block < w0.heap.size) {v : Value} (hc : w0.cell? a = some v) : w.cell? a = some v := by
  rw [World.cell?_of_block (h.block a.block hb)]; exact hc

theorem edges_prefix {ls : List Pts} {i k : Nat} {row : Pts} (h : ls[i]? = some row) (hk : k ≤ row.length) : ((ls.take i).flatMap edgesOf ++ edgesTo row k) <+: edgesAll ls := by
  have h1 : edgesTo row k <+: edgesOf row := by
    refine ⟨((List.range' k (row.length - k)).flatMap (edgeAt row)), ?_⟩
    unfold edgesOf edgesTo
    rw [← List.flatMap_append, List.range_eq_range', List.range_eq_range']
    congr 1
    have := List.range'_append (s := 0) (m := k) (n := row.length - k) (step := 1)
    simp at this
    rw [this]; congr 1; omega
  have h2 : (ls.take i).flatMap edgesOf ++ edgesOf row <+: edgesAll ls := by
    rw [← flatMap_take_succ edgesOf ls i row h]
    refine ⟨(ls.drop (i + 1)).flatMap edgesOf, ?_⟩
    rw [← List.flatMap_append, List.take_append_drop]; rfl
  exact ((List.prefix_append_right_inj _).2 h1).trans h2
theorem prefix_mid {α : Type} {a b c e : List α} {x : α} (h : a ++ b ++ [x] ++ c = e) : (a ++ b ++ [x]) <+: e := ⟨c, h⟩

theorem edges_iter (w0 : World) (bl : Nat) (A : Option Addr) (n cap : Nat) (ls : List Pts) (hL : Lines w0 (.slice A n cap) ls) :
    Iter Try.prog 72 [.pointer (some ⟨bl, 0, none⟩)] encE (edgesAll ls) (fun w => Keeps w0 w ∧ bl < w.heap.size ∧ w.cell? ⟨bl, 0, none⟩ = some (.slice A n cap)) := by
  intro l B J W hB hloc hdata hY h0
  obtain ⟨hk0, hbl, hcl⟩ := hdata [] W h0
  have hnl := lines_len hL
  have hn := lines_le hL
  refine calls_S Try.func72 rfl Try.ntmps72 rfl ?_
  (repeat' (first
    |refine t_seq ?_|refine t_region ?_|fail))
  refine tl_load (o_loadO rfl hbl hcl) rfl ?_
  (repeat' (first
    |refine xt_then ?_|refine tl_nil ?_|refine t_block ?_|refine tl_run tab rfl rfl ?_|fail))
  refine t_loopC (α := Nat × World) (fun x => [(0, .func (.yield l) #[] #[]), (10, .slice A n cap), (11, .int .i64 n), (12, .int .i64 x.1)]) (fun x => x.1 ≤ ls.length ∧ x.2.heap.size = B ∧ J ((ls.take x.1).flatMap edgesOf) x.2) (fun x => St x.2 [] []) (fun x => ls.length - x.1) (0, W) ⟨by simp, hB, by simpa using h0⟩ ⟨rfl, rfl, rfl, rfl, trivial⟩ (fun _ h => h) ?_
  rintro ⟨i, w1⟩ ⟨hi, hs1, hJ1⟩
  simp only at hi hs1 hJ1
  (repeat' (first
    |refine t_seq ?_|refine t_region ?_|refine xt_then ?_|refine tl_nil ?_|refine tl_run tab rfl rfl ?_|fail))
  refine t_cond rfl (fun h => ?_) (fun h => ?_)
  · have hin : i < ls.length := by have := of_decide_eq_true h; omega
    obtain ⟨row, hrow⟩ : ∃ row, ls[i]? = some row := ⟨_, List.getElem?_eq_getElem hin⟩
    obtain ⟨b, off, A', n', cap', rfl, hb, hc, hR⟩ := lines_at hL hrow
    have hk1 := (hdata _ _ hJ1).1
    (repeat' (first
      |refine t_seq ?_|refine t_region ?_|refine xt_then ?_|refine t_block ?_|refine t_skip ?_|fail))
    refine tl_indexAddr (o_indexAddr rfl rfl (by omega)) rfl ?_
    refine tl_load (o_loadO rfl (Nat.lt_of_lt_of_le hb hk1.size) (hk1.cell (a := ⟨b, off + i * 1, none⟩) hb hc)) rfl ?_
    have hnr := row_len hR
    have hn' := row_le hR
    (repeat' (first
      |refine t_seq ?_|refine t_region ?_|refine xt_then ?_|refine tl_nil ?_|refine t_block ?_|refine tl_run tab rfl rfl ?_|fail))
    refine t_loopC (α := Nat × World) (fun x => [(0, .func (.yield l) #[] #[]), (10, .slice (some ⟨b, off, none⟩) n cap), (11, .int .i64 n), (12, .int .i64 i), (4, .slice A' n' cap'), (16, .slice A' n' cap'), (17, .int .i64 n'), (18, .int .i64 x.1)]) (fun x => x.1 ≤ row.length ∧ x.2.heap.size = B ∧ J ((ls.take i).flatMap edgesOf ++ edgesTo row x.1) x.2) (fun x => St x.2 [] []) (fun x => row.length - x.1) (0, w1) ⟨by simp, hs1, by simpa [edgesTo] using hJ1⟩ ⟨rfl, rfl, rfl, rfl, rfl, rfl, rfl, rfl, trivial⟩ (fun _ h => h) ?_
    rintro ⟨k, w2⟩ ⟨hk, hs2, hJ2⟩
    simp only at hk hs2 hJ2
    have hk2 := (hdata _ _ hJ2).1
    (repeat' (first
      |refine t_seq ?_|refine t_region ?_|refine xt_then ?_|refine tl_nil ?_|refine tl_run tab rfl rfl ?_|fail))
    refine t_cond rfl (fun h => ?_) (fun h => ?_)
    · have hkn : k < row.length := by have := of_decide_eq_true h; omega
      obtain ⟨p, hp⟩ : ∃ p, row[k]? = some p := ⟨_, List.getElem?_eq_getElem hkn⟩
      have hmod : (k + 1) % row.length < row.length := Nat.mod_lt _ (by omega)
      obtain ⟨q, hq⟩ : ∃ q, row[(k + 1) % row.length]? = some q := ⟨_, List.getElem?_eq_getElem hmod⟩
      obtain ⟨b', off', rfl, hb', _, hcp⟩ := row_at hR hp
      obtain ⟨b'', off'', he, _, _, hcq⟩ := row_at hR hq
      cases he
      (repeat' (first
        |refine t_seq ?_|refine t_region ?_|refine xt_then ?_|refine t_block ?_|refine t_skip ?_|refine tl_run tab rfl rfl ?_|fail))
      refine tl_indexAddr (o_indexAddr rfl rfl (by omega)) rfl ?_
      refine tl_load (o_loadOA (cs := [.int .i64 p.1, .int .i64 p.2]) rfl rfl (Nat.lt_of_lt_of_le hb' hk2.size) (fun j v hj => hk2.cell (a := ⟨b', off' + k * 2 + j, none⟩) hb' (hcp j v hj))) rfl ?_
      (repeat' (first
        |refine t_seq ?_|refine t_region ?_|refine xt_then ?_|refine tl_nil ?_|refine tl_run tab rfl rfl ?_|refine tl_bin (by first | exact o_add64 rfl rfl (by omega) | exact o_sub64 rfl rfl (by omega) | exact o_mul64 rfl rfl (by first | assumption | omega)) rfl ?_|refine tl_store (by first | exact o_storeB 0 rfl rfl rfl rfl rfl | exact o_storeB 1 rfl rfl rfl rfl rfl | exact o_storeB 2 rfl rfl rfl rfl rfl | exact o_storeBA 0 rfl rfl rfl rfl rfl rfl | exact o_storeBA 1 rfl rfl rfl rfl rfl rfl | exact o_storeBA 2 rfl rfl rfl rfl rfl rfl) ?_|refine tl_alloc rfl (fun _ => ?_)|fail))
      rename_i b6
      refine tl_bin (o_rem rfl rfl (by omega)) rfl ?_
      have hrem : ((k : Int) + 1).tmod (n' : Int) = (((k + 1) % row.length : Nat) : Int) := by
        rw [hnr, Int.tmod_eq_emod_of_nonneg (by omega)]; simp
      rw [hrem]
      refine tl_indexAddr (o_indexAddr rfl rfl (by omega)) rfl ?_
      refine tl_load (o_loadOA (cs := [.int .i64 q.1, .int .i64 q.2]) rfl rfl (Nat.lt_of_lt_of_le hb' hk2.size) (fun j v hj => hk2.cell (a := ⟨b', off' + (k + 1) % row.length * 2 + j, none⟩) hb' (hcq j v hj))) rfl ?_
      (repeat' (first
        |refine t_seq ?_|refine t_region ?_|refine xt_then ?_|refine tl_nil ?_|refine tl_load (by first | exact o_loadB 0 rfl rfl rfl | exact o_loadB 1 rfl rfl rfl | exact o_loadB 2 rfl rfl rfl | exact o_loadB 3 rfl rfl rfl | exact o_loadB 4 rfl rfl rfl | exact o_loadBA 0 rfl rfl rfl | exact o_loadBA 1 rfl rfl rfl | exact o_loadBA 2 rfl rfl rfl | exact o_loadBA 3 rfl rfl rfl) rfl ?_|refine tl_store (by first | exact o_storeB 0 rfl rfl rfl rfl rfl | exact o_storeB 1 rfl rfl rfl rfl rfl | exact o_storeB 2 rfl rfl rfl rfl rfl | exact o_storeBA 0 rfl rfl rfl rfl rfl rfl | exact o_storeBA 1 rfl rfl rfl rfl rfl rfl | exact o_storeBA 2 rfl rfl rfl rfl rfl rfl) ?_|refine tl_alloc rfl (fun _ => ?_)|fail))
      have hpre := edges_prefix hrow (k := k + 1) (by omega)
      rw [edgesTo_succ] at hpre
      refine tl_call (o_det (edgeOf_det p.1 p.2 q.1 q.2) rfl) rfl ?_
      (repeat' (first
        |refine t_seq ?_|refine t_region ?_|refine xt_then ?_|refine tl_nil ?_|refine tl_run tab rfl rfl ?_|refine tl_store (by first | exact o_storeB 0 rfl rfl rfl rfl rfl | exact o_storeB 1 rfl rfl rfl rfl rfl | exact o_storeB 2 rfl rfl rfl rfl rfl | exact o_storeBA 0 rfl rfl rfl rfl rfl rfl | exact o_storeBA 1 rfl rfl rfl rfl rfl rfl | exact o_storeBA 2 rfl rfl rfl rfl rfl rfl) ?_|refine tl_alloc rfl (fun _ => ?_)|fail))
      refine tl_guard rfl rfl rfl (fun h1 => ?_) (fun h1 => ?_)
      · have h1' := of_decide_eq_true h1
        have hat : edgeAt row k = [edgeV p.1 p.2 q.1 q.2] := by simp only [edgeAt, hp, hq, if_pos h1']
        rw [hat, ← List.append_assoc] at hpre
        (repeat' (first
          |refine tl_run tab rfl rfl ?_|refine tl_guard_yes rfl rfl ?_|refine tl_load (by first | exact o_loadB 0 rfl rfl rfl | exact o_loadB 1 rfl rfl rfl | exact o_loadB 2 rfl rfl rfl | exact o_loadB 3 rfl rfl rfl | exact o_loadB 4 rfl rfl rfl | exact o_loadBA 0 rfl rfl rfl | exact o_loadBA 1 rfl rfl rfl | exact o_loadBA 2 rfl rfl rfl | exact o_loadBA 3 rfl rfl rfl) rfl ?_|fail))
        refine tl_call (I' := fun w => J ((ls.take i).flatMap edgesOf ++ edgesTo row k ++ [edgeV p.1 p.2 q.1 q.2]) w ∧ St (trunc B w) [] [] w ∧ B ≤ w.heap.size) (o_yield (encE (edgeV p.1 p.2 q.1 q.2)) rfl rfl (fun w3 hw3 => ?_)) rfl ?_
        · have hsame := hw3.same
          rw [hs2] at hsame
          refine (hY _ _ w3 hpre (hloc _ _ _ hJ2 hsame) (by have : w2.heap.size ≤ w3.heap.size := hw3.size; omega)).mono ?_
          rintro w4 ⟨hJ4, ho4⟩
          have hs4 := (hw3.sublist (List.nil_sublist _)).retrunc (by rw [hs2]; exact ho4)
          rw [hs2] at hs4
          exact ⟨hJ4, hs4, by have : w2.heap.size ≤ w3.heap.size := hw3.size; have := ho4.size; omega⟩
        (repeat' (first
          |refine xt_then ?_|refine tl_nil ?_|refine tl_run tab rfl rfl ?_|refine tl_guard_yes rfl rfl ?_|refine tl_pick (by first | exact o_pick_t rfl rfl | exact o_pick_f rfl rfl) rfl ?_|fail))
        refine t_cond rfl (fun h => by cases h) (fun _ => ?_)
        (repeat' (first
          |refine t_region ?_|refine xt_then ?_|refine tl_nil ?_|refine t_skip ?_|refine xt_blk ?_|refine tl_run tab rfl rfl ?_|refine tl_bin (by first | exact o_add64 rfl rfl (by omega) | exact o_sub64 rfl rfl (by omega) | exact o_mul64 rfl rfl (by first | assumption | omega)) rfl ?_|fail))
        refine xt_roundW fun w4 hw4 => ⟨(k + 1, trunc B w4), ⟨rfl, rfl, rfl, rfl, rfl, rfl, rfl, rfl, trivial⟩, ⟨⟨by omega, trunc_size hw4.2.2, ?_⟩, hw4.2.1⟩, by simp only; omega⟩
        simp only [edgesTo_succ, hat, ← List.append_assoc]
        exact hloc _ _ _ hw4.1 (trunc_same hw4.2.2)
      · have h1' : ¬ (edgeV p.1 p.2 q.1 q.2).2.1 < (edgeV p.1 p.2 q.1 q.2).2.2.2.1 := of_decide_eq_false h1
        have hat : edgeAt row k = [] := by simp only [edgeAt, hp, hq, if_neg h1']
        (repeat' (first
          |refine xt_then ?_|refine tl_nil ?_|refine tl_guard_no rfl rfl rfl rfl ?_|refine tl_pick (by first | exact o_pick_t rfl rfl | exact o_pick_f rfl rfl) rfl ?_|fail))
        refine t_cond rfl (fun h => by cases h) (fun _ => ?_)
        (repeat' (first
          |refine t_region ?_|refine xt_then ?_|refine tl_nil ?_|refine t_skip ?_|refine xt_blk ?_|refine tl_run tab rfl rfl ?_|refine tl_bin (by first | exact o_add64 rfl rfl (by omega) | exact o_sub64 rfl rfl (by omega) | exact o_mul64 rfl rfl (by first | assumption | omega)) rfl ?_|fail))
        refine xt_roundC (k + 1, w2) ⟨rfl, rfl, rfl, rfl, rfl, rfl, rfl, rfl, trivial⟩ ⟨by omega, hs2, ?_⟩ (fun w h => h.sublist (List.nil_sublist _)) (by simp only; omega)
        simp only [edgesTo_succ, hat, List.append_nil]
        exact hJ2
    · (repeat' (first
        |refine t_region ?_|refine xt_then ?_|refine tl_nil ?_|refine t_exit ?_|refine xt_blk ?_|refine xt_blk_exit ?_|refine xt_then_exit ?_|refine xt_round_exit ?_|refine tl_run tab rfl rfl ?_|refine tl_bin (by first | exact o_add64 rfl rfl (by omega) | exact o_sub64 rfl rfl (by omega) | exact o_mul64 rfl rfl (by first | assumption | omega)) rfl ?_|fail))
      have hkk : k = row.length := by have := of_decide_eq_false h; omega
      subst hkk
      refine xt_roundC (i + 1, w2) ⟨rfl, rfl, rfl, rfl, trivial⟩ ⟨by omega, hs2, ?_⟩ (fun _ h => h) (by simp only; omega)
      simp only [flatMap_take_succ edgesOf ls i row hrow]
      exact hJ2
  · (repeat' (first
      |refine t_exit ?_|refine xt_blk_exit ?_|refine xt_then_exit ?_|refine xt_round_exit ?_|fail))
    have hii : i = ls.length := by have := of_decide_eq_false h; omega
    subst hii
    refine xt_end0 rfl fun w' hw' => ⟨⟨_, rfl⟩, ?_⟩
    have hsame := hw'.same
    rw [hs1] at hsame
    rw [List.take_length] at hJ1
    exact hloc _ _ _ hJ1 hsame

end Go.Proofs.Ytbgolbkolcmldaa

/-
  How often lines go around a place.
-/
namespace Go.Proofs.Ytbgolbkolcmldaa
open Go.RowKit
attribute [local irreducible] T TL Xt O Op1 Kt DV ObsB DE

theorem mul_bd {a b A B : Int} (ha : -A ≤ a ∧ a ≤ A) (hb : -B ≤ b ∧ b ≤ B) : -(A * B) ≤ a * b ∧ a * b ≤ A * B := by
  have hA : 0 ≤ A := by omega
  have hB : 0 ≤ B := by omega
  have h : (a * b).natAbs ≤ (A * B).natAbs := by
    rw [Int.natAbs_mul, Int.natAbs_mul]
    exact Nat.mul_le_mul (by omega) (by omega)
  have h2 : 0 ≤ A * B := Int.mul_nonneg hA hB
  omega

theorem cut_bd (n : Int) : -268435456 ≤ cut n ∧ cut n ≤ 268435456 := by unfold cut; omega

structure EdgeOk (e : Edg) : Prop where
  x0 : -268435456 ≤ e.1 ∧ e.1 ≤ 268435456
  y0 : -268435456 ≤ e.2.1 ∧ e.2.1 ≤ 268435456
  x1 : -268435456 ≤ e.2.2.1 ∧ e.2.2.1 ≤ 268435456
  y1 : -268435456 ≤ e.2.2.2.1 ∧ e.2.2.2.1 ≤ 268435456
  up : e.2.1 < e.2.2.2.1
  turn : e.2.2.2.2 = 1 ∨ e.2.2.2.2 = -1

theorem edgeAt_ok {l : Pts} {i : Nat} {e : Edg} (h : e ∈ edgeAt l i) : EdgeOk e := by
  unfold edgeAt at h
  split at h
  · rename_i p q _ _
    split at h
    · rename_i hlt
      simp at h; subst h
      have a1 := cut_bd p.1; have a2 := cut_bd p.2; have a3 := cut_bd q.1; have a4 := cut_bd q.2
      unfold edgeV at hlt ⊢
      by_cases hc : cut q.2 < cut p.2
      · rw [if_pos hc] at hlt ⊢
        exact ⟨a3, a4, a1, a2, hlt, .inr rfl⟩
      · rw [if_neg hc] at hlt ⊢
        exact ⟨a1, a2, a3, a4, hlt, .inl rfl⟩
    · simp at h
  · simp at h
theorem edgesAll_ok {ls : List Pts} {e : Edg} (h : e ∈ edgesAll ls) : EdgeOk e := by
  unfold edgesAll edgesOf edgesTo at h
  simp only [List.mem_flatMap] at h
  obtain ⟨l, _, i, _, he⟩ := h
  exact edgeAt_ok he

/-- where an edge crosses a height: n by d -/
def atN (e : Edg) (y : Int) : Int := e.1 * (e.2.2.2.1 - e.2.1) + (e.2.2.1 - e.1) * (y - e.2.1)
def atD (e : Edg) : Int := e.2.2.2.1 - e.2.1

theorem atN_bd {e : Edg} {y : Int} (h : EdgeOk e) (hy : -268435456 ≤ y ∧ y ≤ 268435456) : (-144115188075855872 ≤ e.1 * (e.2.2.2.1 - e.2.1) ∧ e.1 * (e.2.2.2.1 - e.2.1) ≤ 144115188075855872) ∧ (-288230376151711744 ≤ (e.2.2.1 - e.1) * (y - e.2.1) ∧ (e.2.2.1 - e.1) * (y - e.2.1) ≤ 288230376151711744) := by
  obtain ⟨h1, h2, h3, h4, h5, _⟩ := h
  have a := mul_bd (a := e.1) (b := e.2.2.2.1 - e.2.1) (A := 268435456) (B := 536870912) h1 (by omega)
  have b := mul_bd (a := e.2.2.1 - e.1) (b := y - e.2.1) (A := 536870912) (B := 536870912) (by omega) (by omega)
  omega

def windOne (x y : Int) (e : Edg) : Int := if (decide (e.2.1 ≤ y) && decide (y < e.2.2.2.1)) = true ∧ cmpI (atN e y * 1) (x * atD e) ≤ 0 then e.2.2.2.2 else 0
def windE (x y : Int) (es : List Edg) : Int := (es.map (windOne x y)).sum
def wind (ls : List Pts) (x y : Int) : Int := windE (cut x) (cut y) (edgesAll ls)

theorem windE_snoc (x y : Int) (es : List Edg) (e : Edg) : windE x y (es ++ [e]) = windE x y es + windOne x y e := by simp [windE]
theorem windOne_bd (x y : Int) (e : Edg) (h : EdgeOk e) : -1 ≤ windOne x y e ∧ windOne x y e ≤ 1 := by
  unfold windOne
  have := h.turn
  split <;> omega
theorem windE_bd (x y : Int) (es : List Edg) (h : ∀ e ∈ es, EdgeOk e) : -(es.length : Int) ≤ windE x y es ∧ windE x y es ≤ es.length := by
  induction es with
  | nil => simp [windE]
  | cons e es ih =>
    have a := ih fun e' he => h e' (List.mem_cons_of_mem _ he)
    have b := windOne_bd x y e (h e (List.mem_cons_self ..))
    have : windE x y (e :: es) = windOne x y e + windE x y es := by simp [windE]
    rw [this]; simp; omega

theorem o_makeFunc {P : Program} {fr : Fr} {I : World → Prop} {d : Option Tmp} {ty : TypeId} {pos : String} {af : Array Edge} {g : Option (Nat × Bool)} {f : FuncId} {cap : Array Operand} (vs : List Value) (hv : fevs fr cap.toList = some vs) : Pv P ⟨d, .makeFunc (.func f) #[] cap, ty, pos, af, g⟩ fr I (.func (.func f) #[] vs.toArray) :=
  pv_of fun ρ w hρ _ => by
    have e : cap.map ρ = vs.toArray := by
      apply Array.toList_inj.1
      simp [fevs_map hρ _ _ hv]
    simp [execOp, Instr.makeFunc, e]

def Closure1 (f : FuncId) (t : TypeId) (v : Value) (w : World) (u : Value) (w' : World) : Prop := ∃ bl, u = .func (.func f) #[] #[.pointer (some ⟨bl, 0, none⟩)] ∧ w.heap.size ≤ bl ∧ w'.heap[bl]? = some (.cells #[v] t (0, 0))

theorem edges_calls (v : Value) (h1 : v.cells = #[v]) (w : World) : Calls Try.prog 42 #[v] w (Ret w (Closure1 72 22 v w)) := by
  refine calls_S (vs := [v]) Try.func42 rfl Try.ntmps42 rfl ?_
  (repeat' (first
    |refine t_seq ?_|refine t_region ?_|refine xt_then ?_|refine tl_nil ?_|refine tl_run tab rfl rfl ?_|refine tl_box (o_box rfl rfl) rfl (fun _ => ?_)|fail))
  rename_i b
  refine tl_val (o_makeFunc [.pointer (some ⟨b, 0, none⟩)] rfl) rfl rfl ?_
  (repeat' (first
    |refine xt_then ?_|refine tl_nil ?_|refine t_ret ?_|refine tl_run tab rfl rfl ?_|fail))
  refine xt_ret1 rfl rfl fun w' hw => ⟨_, rfl, hw.toExt, b, rfl, ?_, ?_⟩
  · have := hw.mine (b, _) (List.mem_cons_self ..)
    simpa using this
  · have := hw.get (List.mem_cons_self ..)
    rw [this]; simp [h1]

theorem winding_calls (w : World) (A : Option Addr) (n cap : Nat) (ls : List Pts) (hL : Lines w (.slice A n cap) ls) (x y : Int) (hcount : (edgesAll ls).length ≤ 4000000000000000000) :
    Calls Try.prog 18 #[.slice A n cap, pt x y] w (Ret w fun v _ => v = .int .i64 (wind ls x y)) := by
  refine calls_M (vs := [.slice A n cap, pt x y]) Try.func18 rfl Try.ntmps18 rfl ?_
  (repeat' (first
    |refine t_seq ?_|refine t_region ?_|refine xt_then ?_|refine tl_nil ?_|refine tl_run tab rfl rfl ?_|refine tl_box (o_box rfl rfl) rfl (fun _ => ?_)|fail))
  rename_i b3
  apply t_drawB0 [.val _, .val _, .val (.int .i64 (cut x)), .val _, .val _, .val (.int .i64 (cut y)), .box 3 [.int .i64 0] [.int .i64 (cut x)] 8, .box 2 [.int .i64 0] [.int .i64 (cut y)] 9, .put 6, .put 7] rfl ?hob mixed (by kernel_rfl) rfl ?fin
  case hob =>
    (repeat' (first
      |refine ob_p tab (fun _ => rfl) ?_|(apply ob_v; focus (intro _ _; first | exact o_loadB 0 rfl rfl rfl | exact o_loadB 1 rfl rfl rfl | exact o_loadB 2 rfl rfl rfl | exact o_loadB 3 rfl rfl rfl | exact o_loadBA 0 rfl rfl rfl | exact o_loadBA 1 rfl rfl rfl | exact o_loadBA 2 rfl rfl rfl | exact o_loadBA 3 rfl rfl rfl | exact o_add64 rfl rfl (by omega) | exact o_sub64 rfl rfl (by omega)))|fail))
    apply ob_v
    · intro _ _; exact o_det (cut_det x) rfl
    (repeat' (first
      |refine ob_p tab (fun _ => rfl) ?_|(apply ob_v; focus (intro _ _; first | exact o_loadB 0 rfl rfl rfl | exact o_loadB 1 rfl rfl rfl | exact o_loadB 2 rfl rfl rfl | exact o_loadB 3 rfl rfl rfl | exact o_loadBA 0 rfl rfl rfl | exact o_loadBA 1 rfl rfl rfl | exact o_loadBA 2 rfl rfl rfl | exact o_loadBA 3 rfl rfl rfl | exact o_add64 rfl rfl (by omega) | exact o_sub64 rfl rfl (by omega)))|fail))
    apply ob_v
    · intro _ _; exact o_det (cut_det y) rfl
    refine ob_box rfl rfl rfl ?_
    refine ob_box rfl rfl rfl ?_
    refine ob_put rfl rfl rfl (fun _ => rfl) (fun _ => rfl) (stores_sc rfl) ?_
    refine ob_put rfl rfl rfl (fun _ => rfl) (fun _ => rfl) (stores_sc rfl) ?_
    exact ob_nil
  case fin =>
    intro bs
    generalize h5 : bs 6 = b5
    generalize h6 : bs 7 = b6
    refine xt_weak (fr' := [(0, .slice A n cap), (5, .pointer (some ⟨bs 6, 0, none⟩)), (6, .pointer (some ⟨bs 7, 0, none⟩))]) (I' := St w [] [(bs 6, bx [.int .i64 (cut x)] 3), (bs 7, bx [.int .i64 (cut y)] 2)]) ⟨rfl, rfl, rfl, trivial⟩ (fun _ h => h.sublist (.cons_cons _ (.cons_cons _ (List.nil_sublist _)))) ?_
    rw [h5, h6]
    (repeat' (first
      |refine t_seq ?_|refine t_region ?_|refine xt_then ?_|refine tl_nil ?_|refine tl_run tab rfl rfl ?_|refine tl_store (by first | exact o_storeB 0 rfl rfl rfl rfl rfl | exact o_storeB 1 rfl rfl rfl rfl rfl | exact o_storeB 2 rfl rfl rfl rfl rfl | exact o_storeBA 0 rfl rfl rfl rfl rfl rfl | exact o_storeBA 1 rfl rfl rfl rfl rfl rfl | exact o_storeBA 2 rfl rfl rfl rfl rfl rfl) ?_|refine tl_alloc rfl (fun _ => ?_)|fail))
    rename_i b7
    refine tl_ret (fun bl => .func (.func 72) #[] #[.pointer (some ⟨bl, 0, none⟩)]) (fun bl => [(bl, bx [.slice A n cap] 22)]) (fun w _ => edges_calls (.slice A n cap) rfl w) rfl (fun w1 v w2 hs he ⟨bl, hv, hb, hh⟩ => ⟨bl, hv, hs.addNew he hb hh rfl⟩) rfl fun bl => ?_
    (repeat' (first
      |refine xt_then ?_|refine tl_nil ?_|refine t_block ?_|fail))
    refine t_range (edges_iter w bl A n cap ls hL) rfl (fun pre => [(b7, bx [.int .i64 (windE (cut x) (cut y) pre)] 3), (b5, bx [.int .i64 (cut x)] 3), (b6, bx [.int .i64 (cut y)] 2), (bl, bx [.slice A n cap] 22)]) [b7, b5, b6, bl] (fun _ => rfl) ?_ ?_ (fun _ => rfl) rfl ?_ ?_
    · intro w' h
      exact h.perm (List.perm_append_comm (l₁ := [(bl, bx [.slice A n cap] 22)]) (l₂ := [(b7, bx [.int .i64 0] 3), (b5, bx [.int .i64 (cut x)] 3), (b6, bx [.int .i64 (cut y)] 2)]))
    · intro pre w' h
      have hbl := h.get (b := bl) (cs := [.slice A n cap]) (t := 22) (by simp)
      exact ⟨⟨h.size, fun k hk => h.old k hk (by simp)⟩, (Array.getElem?_eq_some_iff.1 hbl).1, by rw [cell_of hbl]; rfl⟩
    · intro l db rec pre e W hpre hst
      have hmem : e ∈ edgesAll ls := hpre.subset (by simp)
      have hok := edgesAll_ok hmem
      obtain ⟨hb1, hb2⟩ := atN_bd hok (cut_bd y)
      have hdb : 0 < atD e ∧ atD e ≤ 536870912 := by unfold atD; have := hok.up; have := hok.y0; have := hok.y1; omega
      have hlen : pre.length + 1 ≤ (edgesAll ls).length := by have := hpre.length_le; simpa using this
      have hbd := windE_bd (cut x) (cut y) pre (fun e' he => edgesAll_ok (hpre.subset (by simp [he])))
      have hxd := mul_bd (a := cut x) (b := atD e) (A := 268435456) (B := 536870912) (cut_bd x) (by omega)
      have hx0 := hok.x0; have hx1 := hok.x1; have hy0 := hok.y0; have hy1 := hok.y1; have hup := hok.up; have hcy := cut_bd y
      have hsn := windE_snoc (cut x) (cut y) pre e
      (repeat' (first
        |refine t_region ?_|refine tl_nil ?_|refine tl_store (by first | exact o_storeB 0 rfl rfl rfl rfl rfl | exact o_storeB 1 rfl rfl rfl rfl rfl | exact o_storeB 2 rfl rfl rfl rfl rfl | exact o_storeBA 0 rfl rfl rfl rfl rfl rfl | exact o_storeBA 1 rfl rfl rfl rfl rfl rfl | exact o_storeBA 2 rfl rfl rfl rfl rfl rfl) ?_|refine tl_alloc rfl (fun _ => ?_)|fail))
      rename_i b8
      refine xt_weak (fr' := [(5, .pointer (some ⟨b5, 0, none⟩)), (6, .pointer (some ⟨b6, 0, none⟩)), (7, .pointer (some ⟨b7, 0, none⟩)), (8, .pointer (some ⟨b8, 0, none⟩))]) (I' := St W (l :: ([b7, b5, b6, bl] ++ [db])) ([(b8, bx [.int .i64 e.1, .int .i64 e.2.1, .int .i64 e.2.2.1, .int .i64 e.2.2.2.1, .int .i64 e.2.2.2.2] 83), (b7, bx [.int .i64 (windE (cut x) (cut y) pre)] 3), (b5, bx [.int .i64 (cut x)] 3), (b6, bx [.int .i64 (cut y)] 2), (bl, bx [.slice A n cap] 22), (db, defO)] ++ [(l, recO rec .ready)])) ⟨rfl, rfl, rfl, rfl, trivial⟩ (fun _ h => h) ?_
      refine xt_begin ?_
      (repeat' (first
        |refine t_seq ?_|refine t_block ?_|fail))
      by_cases hc : (decide (e.2.1 ≤ cut y) && decide (cut y < e.2.2.2.1)) = true
      · have hcr : Det Try.prog 43 [edg e.1 e.2.1 e.2.2.1 e.2.2.2.1 e.2.2.2.2, .int .i64 (cut y)] (.bool true) := by
          have := crosses_det e.1 e.2.1 e.2.2.1 e.2.2.2.1 e.2.2.2.2 (cut y)
          rwa [hc] at this
        refine t_drawV (fun w n h => h.drew n) ?_ mixed (by kernel_rfl) rfl
        (repeat' (first
          |(apply dv_op; focus (first | exact o_loadB 0 rfl rfl rfl | exact o_loadB 1 rfl rfl rfl | exact o_loadB 2 rfl rfl rfl | exact o_loadB 3 rfl rfl rfl | exact o_loadBA 0 rfl rfl rfl | exact o_loadBA 1 rfl rfl rfl | exact o_loadBA 2 rfl rfl rfl | exact o_loadBA 3 rfl rfl rfl | exact o_add64 rfl rfl (by omega) | exact o_sub64 rfl rfl (by omega) | exact o_pick_t rfl rfl | exact o_pick_f rfl rfl))|fail))
        apply dv_op
        · exact o_det hcr rfl
        (repeat' (first
          |refine dv_p tab rfl ?_|(apply dv_yes rfl; focus (first | exact o_loadB 0 rfl rfl rfl | exact o_loadB 1 rfl rfl rfl | exact o_loadB 2 rfl rfl rfl | exact o_loadB 3 rfl rfl rfl | exact o_loadBA 0 rfl rfl rfl | exact o_loadBA 1 rfl rfl rfl | exact o_loadBA 2 rfl rfl rfl | exact o_loadBA 3 rfl rfl rfl | exact o_add64 rfl rfl (by omega) | exact o_sub64 rfl rfl (by omega) | exact o_pick_t rfl rfl | exact o_pick_f rfl rfl))|fail))
        apply dv_yes rfl
        · exact o_det (at_det e.1 e.2.1 e.2.2.1 e.2.2.2.1 e.2.2.2.2 (cut y) (by omega) (by omega) (by omega) (by omega) (by omega) (by omega)) rfl
        (repeat' (first
          |(apply dv_yes rfl; focus (first | exact o_loadB 0 rfl rfl rfl | exact o_loadB 1 rfl rfl rfl | exact o_loadB 2 rfl rfl rfl | exact o_loadB 3 rfl rfl rfl | exact o_loadBA 0 rfl rfl rfl | exact o_loadBA 1 rfl rfl rfl | exact o_loadBA 2 rfl rfl rfl | exact o_loadBA 3 rfl rfl rfl | exact o_add64 rfl rfl (by omega) | exact o_sub64 rfl rfl (by omega) | exact o_pick_t rfl rfl | exact o_pick_f rfl rfl))|fail))
        apply dv_yes rfl
        · exact o_det (whole_det (cut x)) rfl
        apply dv_yes rfl
        · exact o_det (compare_det (atN e (cut y)) (atD e) (cut x) 1 (by unfold atN; omega) (by omega)) rfl
        (repeat' (first
          |refine dv_py tab rfl rfl ?_|(apply dv_op; focus (first | exact o_loadB 0 rfl rfl rfl | exact o_loadB 1 rfl rfl rfl | exact o_loadB 2 rfl rfl rfl | exact o_loadB 3 rfl rfl rfl | exact o_loadBA 0 rfl rfl rfl | exact o_loadBA 1 rfl rfl rfl | exact o_loadBA 2 rfl rfl rfl | exact o_loadBA 3 rfl rfl rfl | exact o_add64 rfl rfl (by omega) | exact o_sub64 rfl rfl (by omega) | exact o_pick_t rfl rfl | exact o_pick_f rfl rfl))|fail))
        refine dv_nil ?_
        refine xt_weak (fr' := [(7, .pointer (some ⟨b7, 0, none⟩)), (8, .pointer (some ⟨b8, 0, none⟩)), (29, .bool (decide (cmpI (atN e (cut y) * 1) (cut x * atD e) ≤ 0)))]) ⟨rfl, rfl, rfl, trivial⟩ (fun _ h => h) ?_
        (repeat' (first
          |refine xt_then ?_|fail))
        refine t_cond rfl (fun h => ?_) (fun h => ?_)
        · have hw1 : windOne (cut x) (cut y) e = e.2.2.2.2 := by unfold windOne; rw [if_pos ⟨hc, of_decide_eq_true h⟩]
          have ht := hok.turn
          (repeat' (first
            |refine t_region ?_|refine tl_nil ?_|refine xt_blk ?_|refine tl_run tab rfl rfl ?_|refine tl_load (by first | exact o_loadB 0 rfl rfl rfl | exact o_loadB 1 rfl rfl rfl | exact o_loadB 2 rfl rfl rfl | exact o_loadB 3 rfl rfl rfl | exact o_loadB 4 rfl rfl rfl | exact o_loadBA 0 rfl rfl rfl | exact o_loadBA 1 rfl rfl rfl | exact o_loadBA 2 rfl rfl rfl | exact o_loadBA 3 rfl rfl rfl) rfl ?_|refine tl_bin (by first | exact o_add64 rfl rfl (by omega) | exact o_sub64 rfl rfl (by omega) | exact o_mul64 rfl rfl (by first | assumption | omega)) rfl ?_|refine tl_store (by first | exact o_storeB 0 rfl rfl rfl rfl rfl | exact o_storeB 1 rfl rfl rfl rfl rfl | exact o_storeB 2 rfl rfl rfl rfl rfl | exact o_storeBA 0 rfl rfl rfl rfl rfl rfl | exact o_storeBA 1 rfl rfl rfl rfl rfl rfl | exact o_storeBA 2 rfl rfl rfl rfl rfl rfl) ?_|fail))
          refine xt_roundEnd fun w' h' => ?_
          rw [hsn, hw1]
          exact h'.sublist (.cons _ (List.Sublist.refl _))
        · have hw1 : windOne (cut x) (cut y) e = 0 := by unfold windOne; rw [if_neg (fun hh => (of_decide_eq_false h) hh.2)]
          (repeat' (first
            |refine t_skip ?_|refine xt_blk ?_|fail))
          refine xt_roundEnd fun w' h' => ?_
          rw [hsn, hw1, Int.add_zero]
          exact h'.sublist (.cons _ (List.Sublist.refl _))
      · have hw1 : windOne (cut x) (cut y) e = 0 := by unfold windOne; rw [if_neg (fun hh => hc hh.1)]
        have hcr : Det Try.prog 43 [edg e.1 e.2.1 e.2.2.1 e.2.2.2.1 e.2.2.2.2, .int .i64 (cut y)] (.bool false) := by
          have := crosses_det e.1 e.2.1 e.2.2.1 e.2.2.2.1 e.2.2.2.2 (cut y)
          rwa [Bool.eq_false_iff.2 hc] at this
        refine t_drawV (fun w n h => h.drew n) ?_ mixed (by kernel_rfl) rfl
        (repeat' (first
          |(apply dv_op; focus (first | exact o_loadB 0 rfl rfl rfl | exact o_loadB 1 rfl rfl rfl | exact o_loadB 2 rfl rfl rfl | exact o_loadB 3 rfl rfl rfl | exact o_loadBA 0 rfl rfl rfl | exact o_loadBA 1 rfl rfl rfl | exact o_loadBA 2 rfl rfl rfl | exact o_loadBA 3 rfl rfl rfl | exact o_add64 rfl rfl (by omega) | exact o_sub64 rfl rfl (by omega) | exact o_pick_t rfl rfl | exact o_pick_f rfl rfl))|fail))
        apply dv_op
        · exact o_det hcr rfl
        (repeat' (first
          |refine dv_p tab rfl ?_|refine dv_no rfl rfl ?_|(apply dv_op; focus (first | exact o_loadB 0 rfl rfl rfl | exact o_loadB 1 rfl rfl rfl | exact o_loadB 2 rfl rfl rfl | exact o_loadB 3 rfl rfl rfl | exact o_loadBA 0 rfl rfl rfl | exact o_loadBA 1 rfl rfl rfl | exact o_loadBA 2 rfl rfl rfl | exact o_loadBA 3 rfl rfl rfl | exact o_add64 rfl rfl (by omega) | exact o_sub64 rfl rfl (by omega) | exact o_pick_t rfl rfl | exact o_pick_f rfl rfl))|fail))
        refine dv_nil ?_
        refine xt_weak (fr' := [(7, .pointer (some ⟨b7, 0, none⟩)), (8, .pointer (some ⟨b8, 0, none⟩)), (29, .bool false)]) ⟨rfl, rfl, rfl, trivial⟩ (fun _ h => h) ?_
        (repeat' (first
          |refine xt_then ?_|fail))
        refine t_cond rfl (fun h => by cases h) (fun _ => ?_)
        (repeat' (first
          |refine t_skip ?_|refine xt_blk ?_|fail))
        refine xt_roundEnd fun w' h' => ?_
        rw [hsn, hw1, Int.add_zero]
        exact h'.sublist (.cons _ (List.Sublist.refl _))
    · intro db
      (repeat' (first
        |refine t_seq ?_|refine t_region ?_|refine xt_then ?_|refine tl_nil ?_|refine t_ret ?_|refine xt_blk ?_|refine tl_run tab rfl rfl ?_|refine tl_load (by first | exact o_loadB 0 rfl rfl rfl | exact o_loadB 1 rfl rfl rfl | exact o_loadB 2 rfl rfl rfl | exact o_loadB 3 rfl rfl rfl | exact o_loadB 4 rfl rfl rfl | exact o_loadBA 0 rfl rfl rfl | exact o_loadBA 1 rfl rfl rfl | exact o_loadBA 2 rfl rfl rfl | exact o_loadBA 3 rfl rfl rfl) rfl ?_|fail))
      exact xt_retM1 rfl rfl fun _ _ => rfl

end Go.Proofs.Ytbgolbkolcmldaa
