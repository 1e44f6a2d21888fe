/-
  Rows of pixels: bytes, repeated.
-/
import Derived.Test.YtbgolbkolcmldaaW5
import Derived.Test.YtbgolbkolcmldaaSl
import Derived.Lib.MakeNoZero
namespace Go.Proofs.Ytbgolbkolcmldaa
open Go.RowKit
attribute [local irreducible] T TL Xt O Op1 Kt DV ObsB DE

section
variable {P : Program} {fr : Fr} {I : World → Prop} {d : Option Tmp} {ty t t' : TypeId} {pos : String} {af : Array Edge} {g : Option (Nat × Bool)} {x y : Operand}
theorem fitsU {n : Int} (h : 0 ≤ n ∧ n ≤ 18446744073709551615) : IntKind.u64.wrap n = n := by
  rw [IntKind.wrap_u64]; omega
theorem o_addU {a b : Int} (hx : fev fr x = some (.int .u64 a)) (hy : fev fr y = some (.int .u64 b)) (h : 0 ≤ a + b ∧ a + b ≤ 18446744073709551615) : Pv P ⟨d, .binOp .add t x y t', ty, pos, af, g⟩ fr I (.int .u64 (a + b)) := by
  have := o_add (P := P) (I := I) (d := d) (ty := ty) (t := t) (t' := t') (pos := pos) (af := af) (g := g) hx hy
  rwa [fitsU h] at this
theorem o_mulU {a b : Int} (hx : fev fr x = some (.int .u64 a)) (hy : fev fr y = some (.int .u64 b)) (h : 0 ≤ a * b ∧ a * b ≤ 18446744073709551615) : Pv P ⟨d, .binOp .mul t x y t', ty, pos, af, g⟩ fr I (.int .u64 (a * b)) := by
  have := o_mul (P := P) (I := I) (d := d) (ty := ty) (t := t) (t' := t') (pos := pos) (af := af) (g := g) hx hy
  rwa [fitsU h] at this
theorem o_convertU {k : IntKind} {a : Int} (hx : fev fr x = some (.int k a)) [hs : CInt P t k] [hd : CInt P t' .u64] (h : 0 ≤ a ∧ a ≤ 18446744073709551615) : Pv P ⟨d, .convert t t' x, ty, pos, af, g⟩ fr I (.int .u64 a) := by
  have := o_convert (P := P) (I := I) (d := d) (ty := ty) (t := t) (t' := t') (pos := pos) (af := af) (g := g) hx
  rwa [fitsU h] at this
theorem o_convertI {k : IntKind} {a : Int} (hx : fev fr x = some (.int k a)) [hs : CInt P t k] [hd : CInt P t' .i64] (h : -9223372036854775808 ≤ a ∧ a ≤ 9223372036854775807) : Pv P ⟨d, .convert t t' x, ty, pos, af, g⟩ fr I (.int .i64 a) := by
  have := o_convert (P := P) (I := I) (d := d) (ty := ty) (t := t) (t' := t') (pos := pos) (af := af) (g := g) hx
  rwa [fits64 h] at this
theorem o_and32 {a : Int} (hx : fev fr x = some (.int .u64 a)) (hy : fev fr y = some (.int .u64 4294967295)) (h : 0 ≤ a ∧ a < 18446744073709551616) : Pv P ⟨d, .binOp .and t x y t', ty, pos, af, g⟩ fr I (.int .u64 (a % 4294967296)) := by
  have := o_and (P := P) (I := I) (d := d) (ty := ty) (t := t) (t' := t') (pos := pos) (af := af) (g := g) hx hy
  rwa [and_low32 a h.1 h.2] at this
theorem o_shr32 {a : Int} {k : IntKind} (hx : fev fr x = some (.int .u64 a)) (hy : fev fr y = some (.int k 32)) : Pv P ⟨d, .binOp .shr t x y t', ty, pos, af, g⟩ fr I (.int .u64 (a / 4294967296)) :=
  pv_of fun ρ w hρ _ => by
    simp [execOp, hρ _ _ hx, hρ _ _ hy, eqGuard, binOp, shift_shr_u64]
end

theorem mul64_det (c : Int) (hc : 0 ≤ c ∧ c ≤ 1000000000) : Det Try.prog 104 [.int .u64 1, .int .u64 c] (.tuple #[.int .u64 0, .int .u64 c]) := by
  intro w
  refine calls_S Try.func104 rfl Try.ntmps104 rfl ?_
  (repeat' (first
    | refine t_seq ?_
    | refine t_region ?_
    | refine xt_then ?_
    | refine tl_nil ?_
    | refine t_block ?_
    | refine t_skip ?_
    | refine t_ret ?_
    | refine t_exit ?_
    | refine xt_blk ?_
    | refine xt_blk_exit ?_
    | refine xt_then_ret ?_
    | refine xt_then_exit ?_
    | refine xt_blk_ret ?_
    | refine xt_blk_other rfl ?_
    | refine xt_round_exit ?_
    | refine xt_round_ret ?_
    | refine tl_run tab rfl rfl ?_
    | refine tl_guard_yes rfl rfl ?_
    | refine tl_guard_no rfl rfl rfl rfl ?_
    | refine tl_guard_undef rfl rfl rfl ?_
    | refine tl_load (by first | exact o_loadB 0 rfl rfl rfl | exact o_loadB 1 rfl rfl rfl | exact o_loadB 2 rfl rfl rfl | exact o_loadB 3 rfl rfl rfl | exact o_loadB 4 rfl rfl rfl | exact o_loadBA 0 rfl rfl rfl | exact o_loadBA 1 rfl rfl rfl | exact o_loadBA 2 rfl rfl rfl | exact o_loadBA 3 rfl rfl rfl) rfl ?_
    | refine tl_pick (by first | exact o_pick_t rfl rfl | exact o_pick_f rfl rfl) rfl ?_
    | refine tl_bin (by first | exact o_add64 rfl rfl (by omega) | exact o_sub64 rfl rfl (by omega) | exact o_mul64 rfl rfl (by first | assumption | omega)) rfl ?_
    | refine tl_store (by first | exact o_storeB 0 rfl rfl rfl rfl rfl | exact o_storeB 1 rfl rfl rfl rfl rfl | exact o_storeB 2 rfl rfl rfl rfl rfl | exact o_storeBA 0 rfl rfl rfl rfl rfl rfl | exact o_storeBA 1 rfl rfl rfl rfl rfl rfl | exact o_storeBA 2 rfl rfl rfl rfl rfl rfl) ?_
    | refine tl_box (o_box rfl rfl) rfl (fun _ => ?_)
    | refine tl_alloc rfl (fun _ => ?_)))
  refine tl_bin (o_and32 rfl rfl (by omega)) rfl ?_
  (repeat' (first
    | refine t_seq ?_
    | refine t_region ?_
    | refine xt_then ?_
    | refine tl_nil ?_
    | refine t_block ?_
    | refine t_skip ?_
    | refine t_ret ?_
    | refine t_exit ?_
    | refine xt_blk ?_
    | refine xt_blk_exit ?_
    | refine xt_then_ret ?_
    | refine xt_then_exit ?_
    | refine xt_blk_ret ?_
    | refine xt_blk_other rfl ?_
    | refine xt_round_exit ?_
    | refine xt_round_ret ?_
    | refine tl_run tab rfl rfl ?_
    | refine tl_guard_yes rfl rfl ?_
    | refine tl_guard_no rfl rfl rfl rfl ?_
    | refine tl_guard_undef rfl rfl rfl ?_
    | refine tl_load (by first | exact o_loadB 0 rfl rfl rfl | exact o_loadB 1 rfl rfl rfl | exact o_loadB 2 rfl rfl rfl | exact o_loadB 3 rfl rfl rfl | exact o_loadB 4 rfl rfl rfl | exact o_loadBA 0 rfl rfl rfl | exact o_loadBA 1 rfl rfl rfl | exact o_loadBA 2 rfl rfl rfl | exact o_loadBA 3 rfl rfl rfl) rfl ?_
    | refine tl_pick (by first | exact o_pick_t rfl rfl | exact o_pick_f rfl rfl) rfl ?_
    | refine tl_bin (by first | exact o_add64 rfl rfl (by omega) | exact o_sub64 rfl rfl (by omega) | exact o_mul64 rfl rfl (by first | assumption | omega)) rfl ?_
    | refine tl_store (by first | exact o_storeB 0 rfl rfl rfl rfl rfl | exact o_storeB 1 rfl rfl rfl rfl rfl | exact o_storeB 2 rfl rfl rfl rfl rfl | exact o_storeBA 0 rfl rfl rfl rfl rfl rfl | exact o_storeBA 1 rfl rfl rfl rfl rfl rfl | exact o_storeBA 2 rfl rfl rfl rfl rfl rfl) ?_
    | refine tl_box (o_box rfl rfl) rfl (fun _ => ?_)
    | refine tl_alloc rfl (fun _ => ?_)))
  refine tl_bin (o_shr32 rfl rfl) rfl ?_
  (repeat' (first
    | refine t_seq ?_
    | refine t_region ?_
    | refine xt_then ?_
    | refine tl_nil ?_
    | refine t_block ?_
    | refine t_skip ?_
    | refine t_ret ?_
    | refine t_exit ?_
    | refine xt_blk ?_
    | refine xt_blk_exit ?_
    | refine xt_then_ret ?_
    | refine xt_then_exit ?_
    | refine xt_blk_ret ?_
    | refine xt_blk_other rfl ?_
    | refine xt_round_exit ?_
    | refine xt_round_ret ?_
    | refine tl_run tab rfl rfl ?_
    | refine tl_guard_yes rfl rfl ?_
    | refine tl_guard_no rfl rfl rfl rfl ?_
    | refine tl_guard_undef rfl rfl rfl ?_
    | refine tl_load (by first | exact o_loadB 0 rfl rfl rfl | exact o_loadB 1 rfl rfl rfl | exact o_loadB 2 rfl rfl rfl | exact o_loadB 3 rfl rfl rfl | exact o_loadB 4 rfl rfl rfl | exact o_loadBA 0 rfl rfl rfl | exact o_loadBA 1 rfl rfl rfl | exact o_loadBA 2 rfl rfl rfl | exact o_loadBA 3 rfl rfl rfl) rfl ?_
    | refine tl_pick (by first | exact o_pick_t rfl rfl | exact o_pick_f rfl rfl) rfl ?_
    | refine tl_bin (by first | exact o_add64 rfl rfl (by omega) | exact o_sub64 rfl rfl (by omega) | exact o_mul64 rfl rfl (by first | assumption | omega)) rfl ?_
    | refine tl_store (by first | exact o_storeB 0 rfl rfl rfl rfl rfl | exact o_storeB 1 rfl rfl rfl rfl rfl | exact o_storeB 2 rfl rfl rfl rfl rfl | exact o_storeBA 0 rfl rfl rfl rfl rfl rfl | exact o_storeBA 1 rfl rfl rfl rfl rfl rfl | exact o_storeBA 2 rfl rfl rfl rfl rfl rfl) ?_
    | refine tl_box (o_box rfl rfl) rfl (fun _ => ?_)
    | refine tl_alloc rfl (fun _ => ?_)))
  refine tl_bin (o_and32 rfl rfl (by omega)) rfl ?_
  (repeat' (first
    | refine t_seq ?_
    | refine t_region ?_
    | refine xt_then ?_
    | refine tl_nil ?_
    | refine t_block ?_
    | refine t_skip ?_
    | refine t_ret ?_
    | refine t_exit ?_
    | refine xt_blk ?_
    | refine xt_blk_exit ?_
    | refine xt_then_ret ?_
    | refine xt_then_exit ?_
    | refine xt_blk_ret ?_
    | refine xt_blk_other rfl ?_
    | refine xt_round_exit ?_
    | refine xt_round_ret ?_
    | refine tl_run tab rfl rfl ?_
    | refine tl_guard_yes rfl rfl ?_
    | refine tl_guard_no rfl rfl rfl rfl ?_
    | refine tl_guard_undef rfl rfl rfl ?_
    | refine tl_load (by first | exact o_loadB 0 rfl rfl rfl | exact o_loadB 1 rfl rfl rfl | exact o_loadB 2 rfl rfl rfl | exact o_loadB 3 rfl rfl rfl | exact o_loadB 4 rfl rfl rfl | exact o_loadBA 0 rfl rfl rfl | exact o_loadBA 1 rfl rfl rfl | exact o_loadBA 2 rfl rfl rfl | exact o_loadBA 3 rfl rfl rfl) rfl ?_
    | refine tl_pick (by first | exact o_pick_t rfl rfl | exact o_pick_f rfl rfl) rfl ?_
    | refine tl_bin (by first | exact o_add64 rfl rfl (by omega) | exact o_sub64 rfl rfl (by omega) | exact o_mul64 rfl rfl (by first | assumption | omega)) rfl ?_
    | refine tl_store (by first | exact o_storeB 0 rfl rfl rfl rfl rfl | exact o_storeB 1 rfl rfl rfl rfl rfl | exact o_storeB 2 rfl rfl rfl rfl rfl | exact o_storeBA 0 rfl rfl rfl rfl rfl rfl | exact o_storeBA 1 rfl rfl rfl rfl rfl rfl | exact o_storeBA 2 rfl rfl rfl rfl rfl rfl) ?_
    | refine tl_box (o_box rfl rfl) rfl (fun _ => ?_)
    | refine tl_alloc rfl (fun _ => ?_)))
  refine tl_bin (o_shr32 rfl rfl) rfl ?_
  have e1 : c % 4294967296 = c := by omega
  have e2 : c / 4294967296 = 0 := by omega
  have e3 : (1 : Int) % 4294967296 = 1 := by omega
  have e4 : (1 : Int) / 4294967296 = 0 := by omega
  rw [e1, e2, e3, e4]
  (repeat' (first
    | refine t_seq ?_
    | refine t_region ?_
    | refine xt_then ?_
    | refine tl_nil ?_
    | refine t_block ?_
    | refine t_skip ?_
    | refine t_ret ?_
    | refine t_exit ?_
    | refine xt_blk ?_
    | refine xt_blk_exit ?_
    | refine xt_then_ret ?_
    | refine xt_then_exit ?_
    | refine xt_blk_ret ?_
    | refine xt_blk_other rfl ?_
    | refine xt_round_exit ?_
    | refine xt_round_ret ?_
    | refine tl_run tab rfl rfl ?_
    | refine tl_guard_yes rfl rfl ?_
    | refine tl_guard_no rfl rfl rfl rfl ?_
    | refine tl_guard_undef rfl rfl rfl ?_
    | refine tl_load (by first | exact o_loadB 0 rfl rfl rfl | exact o_loadB 1 rfl rfl rfl | exact o_loadB 2 rfl rfl rfl | exact o_loadB 3 rfl rfl rfl | exact o_loadB 4 rfl rfl rfl | exact o_loadBA 0 rfl rfl rfl | exact o_loadBA 1 rfl rfl rfl | exact o_loadBA 2 rfl rfl rfl | exact o_loadBA 3 rfl rfl rfl) rfl ?_
    | refine tl_pick (by first | exact o_pick_t rfl rfl | exact o_pick_f rfl rfl) rfl ?_
    | refine tl_bin (by first | exact o_add64 rfl rfl (by omega) | exact o_sub64 rfl rfl (by omega) | exact o_mul64 rfl rfl (by first | assumption | omega)) rfl ?_
    | refine tl_store (by first | exact o_storeB 0 rfl rfl rfl rfl rfl | exact o_storeB 1 rfl rfl rfl rfl rfl | exact o_storeB 2 rfl rfl rfl rfl rfl | exact o_storeBA 0 rfl rfl rfl rfl rfl rfl | exact o_storeBA 1 rfl rfl rfl rfl rfl rfl | exact o_storeBA 2 rfl rfl rfl rfl rfl rfl) ?_
    | refine tl_box (o_box rfl rfl) rfl (fun _ => ?_)
    | refine tl_alloc rfl (fun _ => ?_)))
  refine tl_bin (o_mulU rfl rfl (by omega)) rfl ?_
  (repeat' (first
    | refine t_seq ?_
    | refine t_region ?_
    | refine xt_then ?_
    | refine tl_nil ?_
    | refine t_block ?_
    | refine t_skip ?_
    | refine t_ret ?_
    | refine t_exit ?_
    | refine xt_blk ?_
    | refine xt_blk_exit ?_
    | refine xt_then_ret ?_
    | refine xt_then_exit ?_
    | refine xt_blk_ret ?_
    | refine xt_blk_other rfl ?_
    | refine xt_round_exit ?_
    | refine xt_round_ret ?_
    | refine tl_run tab rfl rfl ?_
    | refine tl_guard_yes rfl rfl ?_
    | refine tl_guard_no rfl rfl rfl rfl ?_
    | refine tl_guard_undef rfl rfl rfl ?_
    | refine tl_load (by first | exact o_loadB 0 rfl rfl rfl | exact o_loadB 1 rfl rfl rfl | exact o_loadB 2 rfl rfl rfl | exact o_loadB 3 rfl rfl rfl | exact o_loadB 4 rfl rfl rfl | exact o_loadBA 0 rfl rfl rfl | exact o_loadBA 1 rfl rfl rfl | exact o_loadBA 2 rfl rfl rfl | exact o_loadBA 3 rfl rfl rfl) rfl ?_
    | refine tl_pick (by first | exact o_pick_t rfl rfl | exact o_pick_f rfl rfl) rfl ?_
    | refine tl_bin (by first | exact o_add64 rfl rfl (by omega) | exact o_sub64 rfl rfl (by omega) | exact o_mul64 rfl rfl (by first | assumption | omega)) rfl ?_
    | refine tl_store (by first | exact o_storeB 0 rfl rfl rfl rfl rfl | exact o_storeB 1 rfl rfl rfl rfl rfl | exact o_storeB 2 rfl rfl rfl rfl rfl | exact o_storeBA 0 rfl rfl rfl rfl rfl rfl | exact o_storeBA 1 rfl rfl rfl rfl rfl rfl | exact o_storeBA 2 rfl rfl rfl rfl rfl rfl) ?_
    | refine tl_box (o_box rfl rfl) rfl (fun _ => ?_)
    | refine tl_alloc rfl (fun _ => ?_)))
  refine tl_bin (o_mulU rfl rfl (by omega)) rfl ?_
  (repeat' (first
    | refine t_seq ?_
    | refine t_region ?_
    | refine xt_then ?_
    | refine tl_nil ?_
    | refine t_block ?_
    | refine t_skip ?_
    | refine t_ret ?_
    | refine t_exit ?_
    | refine xt_blk ?_
    | refine xt_blk_exit ?_
    | refine xt_then_ret ?_
    | refine xt_then_exit ?_
    | refine xt_blk_ret ?_
    | refine xt_blk_other rfl ?_
    | refine xt_round_exit ?_
    | refine xt_round_ret ?_
    | refine tl_run tab rfl rfl ?_
    | refine tl_guard_yes rfl rfl ?_
    | refine tl_guard_no rfl rfl rfl rfl ?_
    | refine tl_guard_undef rfl rfl rfl ?_
    | refine tl_load (by first | exact o_loadB 0 rfl rfl rfl | exact o_loadB 1 rfl rfl rfl | exact o_loadB 2 rfl rfl rfl | exact o_loadB 3 rfl rfl rfl | exact o_loadB 4 rfl rfl rfl | exact o_loadBA 0 rfl rfl rfl | exact o_loadBA 1 rfl rfl rfl | exact o_loadBA 2 rfl rfl rfl | exact o_loadBA 3 rfl rfl rfl) rfl ?_
    | refine tl_pick (by first | exact o_pick_t rfl rfl | exact o_pick_f rfl rfl) rfl ?_
    | refine tl_bin (by first | exact o_add64 rfl rfl (by omega) | exact o_sub64 rfl rfl (by omega) | exact o_mul64 rfl rfl (by first | assumption | omega)) rfl ?_
    | refine tl_store (by first | exact o_storeB 0 rfl rfl rfl rfl rfl | exact o_storeB 1 rfl rfl rfl rfl rfl | exact o_storeB 2 rfl rfl rfl rfl rfl | exact o_storeBA 0 rfl rfl rfl rfl rfl rfl | exact o_storeBA 1 rfl rfl rfl rfl rfl rfl | exact o_storeBA 2 rfl rfl rfl rfl rfl rfl) ?_
    | refine tl_box (o_box rfl rfl) rfl (fun _ => ?_)
    | refine tl_alloc rfl (fun _ => ?_)))
  refine tl_bin (o_shr32 rfl rfl) rfl ?_
  refine tl_bin (o_addU rfl rfl (by omega)) rfl ?_
  have e5 : 0 * c + 1 * c / 4294967296 = 0 := by omega
  rw [e5]
  (repeat' (first
    | refine t_seq ?_
    | refine t_region ?_
    | refine xt_then ?_
    | refine tl_nil ?_
    | refine t_block ?_
    | refine t_skip ?_
    | refine t_ret ?_
    | refine t_exit ?_
    | refine xt_blk ?_
    | refine xt_blk_exit ?_
    | refine xt_then_ret ?_
    | refine xt_then_exit ?_
    | refine xt_blk_ret ?_
    | refine xt_blk_other rfl ?_
    | refine xt_round_exit ?_
    | refine xt_round_ret ?_
    | refine tl_run tab rfl rfl ?_
    | refine tl_guard_yes rfl rfl ?_
    | refine tl_guard_no rfl rfl rfl rfl ?_
    | refine tl_guard_undef rfl rfl rfl ?_
    | refine tl_load (by first | exact o_loadB 0 rfl rfl rfl | exact o_loadB 1 rfl rfl rfl | exact o_loadB 2 rfl rfl rfl | exact o_loadB 3 rfl rfl rfl | exact o_loadB 4 rfl rfl rfl | exact o_loadBA 0 rfl rfl rfl | exact o_loadBA 1 rfl rfl rfl | exact o_loadBA 2 rfl rfl rfl | exact o_loadBA 3 rfl rfl rfl) rfl ?_
    | refine tl_pick (by first | exact o_pick_t rfl rfl | exact o_pick_f rfl rfl) rfl ?_
    | refine tl_bin (by first | exact o_add64 rfl rfl (by omega) | exact o_sub64 rfl rfl (by omega) | exact o_mul64 rfl rfl (by first | assumption | omega)) rfl ?_
    | refine tl_store (by first | exact o_storeB 0 rfl rfl rfl rfl rfl | exact o_storeB 1 rfl rfl rfl rfl rfl | exact o_storeB 2 rfl rfl rfl rfl rfl | exact o_storeBA 0 rfl rfl rfl rfl rfl rfl | exact o_storeBA 1 rfl rfl rfl rfl rfl rfl | exact o_storeBA 2 rfl rfl rfl rfl rfl rfl) ?_
    | refine tl_box (o_box rfl rfl) rfl (fun _ => ?_)
    | refine tl_alloc rfl (fun _ => ?_)))
  refine tl_bin (o_and32 rfl rfl (by omega)) rfl ?_
  (repeat' (first
    | refine t_seq ?_
    | refine t_region ?_
    | refine xt_then ?_
    | refine tl_nil ?_
    | refine t_block ?_
    | refine t_skip ?_
    | refine t_ret ?_
    | refine t_exit ?_
    | refine xt_blk ?_
    | refine xt_blk_exit ?_
    | refine xt_then_ret ?_
    | refine xt_then_exit ?_
    | refine xt_blk_ret ?_
    | refine xt_blk_other rfl ?_
    | refine xt_round_exit ?_
    | refine xt_round_ret ?_
    | refine tl_run tab rfl rfl ?_
    | refine tl_guard_yes rfl rfl ?_
    | refine tl_guard_no rfl rfl rfl rfl ?_
    | refine tl_guard_undef rfl rfl rfl ?_
    | refine tl_load (by first | exact o_loadB 0 rfl rfl rfl | exact o_loadB 1 rfl rfl rfl | exact o_loadB 2 rfl rfl rfl | exact o_loadB 3 rfl rfl rfl | exact o_loadB 4 rfl rfl rfl | exact o_loadBA 0 rfl rfl rfl | exact o_loadBA 1 rfl rfl rfl | exact o_loadBA 2 rfl rfl rfl | exact o_loadBA 3 rfl rfl rfl) rfl ?_
    | refine tl_pick (by first | exact o_pick_t rfl rfl | exact o_pick_f rfl rfl) rfl ?_
    | refine tl_bin (by first | exact o_add64 rfl rfl (by omega) | exact o_sub64 rfl rfl (by omega) | exact o_mul64 rfl rfl (by first | assumption | omega)) rfl ?_
    | refine tl_store (by first | exact o_storeB 0 rfl rfl rfl rfl rfl | exact o_storeB 1 rfl rfl rfl rfl rfl | exact o_storeB 2 rfl rfl rfl rfl rfl | exact o_storeBA 0 rfl rfl rfl rfl rfl rfl | exact o_storeBA 1 rfl rfl rfl rfl rfl rfl | exact o_storeBA 2 rfl rfl rfl rfl rfl rfl) ?_
    | refine tl_box (o_box rfl rfl) rfl (fun _ => ?_)
    | refine tl_alloc rfl (fun _ => ?_)))
  refine tl_bin (o_shr32 rfl rfl) rfl ?_
  (repeat' (first
    | refine t_seq ?_
    | refine t_region ?_
    | refine xt_then ?_
    | refine tl_nil ?_
    | refine t_block ?_
    | refine t_skip ?_
    | refine t_ret ?_
    | refine t_exit ?_
    | refine xt_blk ?_
    | refine xt_blk_exit ?_
    | refine xt_then_ret ?_
    | refine xt_then_exit ?_
    | refine xt_blk_ret ?_
    | refine xt_blk_other rfl ?_
    | refine xt_round_exit ?_
    | refine xt_round_ret ?_
    | refine tl_run tab rfl rfl ?_
    | refine tl_guard_yes rfl rfl ?_
    | refine tl_guard_no rfl rfl rfl rfl ?_
    | refine tl_guard_undef rfl rfl rfl ?_
    | refine tl_load (by first | exact o_loadB 0 rfl rfl rfl | exact o_loadB 1 rfl rfl rfl | exact o_loadB 2 rfl rfl rfl | exact o_loadB 3 rfl rfl rfl | exact o_loadB 4 rfl rfl rfl | exact o_loadBA 0 rfl rfl rfl | exact o_loadBA 1 rfl rfl rfl | exact o_loadBA 2 rfl rfl rfl | exact o_loadBA 3 rfl rfl rfl) rfl ?_
    | refine tl_pick (by first | exact o_pick_t rfl rfl | exact o_pick_f rfl rfl) rfl ?_
    | refine tl_bin (by first | exact o_add64 rfl rfl (by omega) | exact o_sub64 rfl rfl (by omega) | exact o_mul64 rfl rfl (by first | assumption | omega)) rfl ?_
    | refine tl_store (by first | exact o_storeB 0 rfl rfl rfl rfl rfl | exact o_storeB 1 rfl rfl rfl rfl rfl | exact o_storeB 2 rfl rfl rfl rfl rfl | exact o_storeBA 0 rfl rfl rfl rfl rfl rfl | exact o_storeBA 1 rfl rfl rfl rfl rfl rfl | exact o_storeBA 2 rfl rfl rfl rfl rfl rfl) ?_
    | refine tl_box (o_box rfl rfl) rfl (fun _ => ?_)
    | refine tl_alloc rfl (fun _ => ?_)))
  refine tl_bin (o_mulU rfl rfl (by omega)) rfl ?_
  refine tl_bin (o_addU rfl rfl (by omega)) rfl ?_
  (repeat' (first
    | refine t_seq ?_
    | refine t_region ?_
    | refine xt_then ?_
    | refine tl_nil ?_
    | refine t_block ?_
    | refine t_skip ?_
    | refine t_ret ?_
    | refine t_exit ?_
    | refine xt_blk ?_
    | refine xt_blk_exit ?_
    | refine xt_then_ret ?_
    | refine xt_then_exit ?_
    | refine xt_blk_ret ?_
    | refine xt_blk_other rfl ?_
    | refine xt_round_exit ?_
    | refine xt_round_ret ?_
    | refine tl_run tab rfl rfl ?_
    | refine tl_guard_yes rfl rfl ?_
    | refine tl_guard_no rfl rfl rfl rfl ?_
    | refine tl_guard_undef rfl rfl rfl ?_
    | refine tl_load (by first | exact o_loadB 0 rfl rfl rfl | exact o_loadB 1 rfl rfl rfl | exact o_loadB 2 rfl rfl rfl | exact o_loadB 3 rfl rfl rfl | exact o_loadB 4 rfl rfl rfl | exact o_loadBA 0 rfl rfl rfl | exact o_loadBA 1 rfl rfl rfl | exact o_loadBA 2 rfl rfl rfl | exact o_loadBA 3 rfl rfl rfl) rfl ?_
    | refine tl_pick (by first | exact o_pick_t rfl rfl | exact o_pick_f rfl rfl) rfl ?_
    | refine tl_bin (by first | exact o_add64 rfl rfl (by omega) | exact o_sub64 rfl rfl (by omega) | exact o_mul64 rfl rfl (by first | assumption | omega)) rfl ?_
    | refine tl_store (by first | exact o_storeB 0 rfl rfl rfl rfl rfl | exact o_storeB 1 rfl rfl rfl rfl rfl | exact o_storeB 2 rfl rfl rfl rfl rfl | exact o_storeBA 0 rfl rfl rfl rfl rfl rfl | exact o_storeBA 1 rfl rfl rfl rfl rfl rfl | exact o_storeBA 2 rfl rfl rfl rfl rfl rfl) ?_
    | refine tl_box (o_box rfl rfl) rfl (fun _ => ?_)
    | refine tl_alloc rfl (fun _ => ?_)))
  refine tl_bin (o_mulU rfl rfl (by omega)) rfl ?_
  (repeat' (first
    | refine t_seq ?_
    | refine t_region ?_
    | refine xt_then ?_
    | refine tl_nil ?_
    | refine t_block ?_
    | refine t_skip ?_
    | refine t_ret ?_
    | refine t_exit ?_
    | refine xt_blk ?_
    | refine xt_blk_exit ?_
    | refine xt_then_ret ?_
    | refine xt_then_exit ?_
    | refine xt_blk_ret ?_
    | refine xt_blk_other rfl ?_
    | refine xt_round_exit ?_
    | refine xt_round_ret ?_
    | refine tl_run tab rfl rfl ?_
    | refine tl_guard_yes rfl rfl ?_
    | refine tl_guard_no rfl rfl rfl rfl ?_
    | refine tl_guard_undef rfl rfl rfl ?_
    | refine tl_load (by first | exact o_loadB 0 rfl rfl rfl | exact o_loadB 1 rfl rfl rfl | exact o_loadB 2 rfl rfl rfl | exact o_loadB 3 rfl rfl rfl | exact o_loadB 4 rfl rfl rfl | exact o_loadBA 0 rfl rfl rfl | exact o_loadBA 1 rfl rfl rfl | exact o_loadBA 2 rfl rfl rfl | exact o_loadBA 3 rfl rfl rfl) rfl ?_
    | refine tl_pick (by first | exact o_pick_t rfl rfl | exact o_pick_f rfl rfl) rfl ?_
    | refine tl_bin (by first | exact o_add64 rfl rfl (by omega) | exact o_sub64 rfl rfl (by omega) | exact o_mul64 rfl rfl (by first | assumption | omega)) rfl ?_
    | refine tl_store (by first | exact o_storeB 0 rfl rfl rfl rfl rfl | exact o_storeB 1 rfl rfl rfl rfl rfl | exact o_storeB 2 rfl rfl rfl rfl rfl | exact o_storeBA 0 rfl rfl rfl rfl rfl rfl | exact o_storeBA 1 rfl rfl rfl rfl rfl rfl | exact o_storeBA 2 rfl rfl rfl rfl rfl rfl) ?_
    | refine tl_box (o_box rfl rfl) rfl (fun _ => ?_)
    | refine tl_alloc rfl (fun _ => ?_)))
  refine tl_bin (o_addU rfl rfl (by omega)) rfl ?_
  (repeat' (first
    | refine t_seq ?_
    | refine t_region ?_
    | refine xt_then ?_
    | refine tl_nil ?_
    | refine t_block ?_
    | refine t_skip ?_
    | refine t_ret ?_
    | refine t_exit ?_
    | refine xt_blk ?_
    | refine xt_blk_exit ?_
    | refine xt_then_ret ?_
    | refine xt_then_exit ?_
    | refine xt_blk_ret ?_
    | refine xt_blk_other rfl ?_
    | refine xt_round_exit ?_
    | refine xt_round_ret ?_
    | refine tl_run tab rfl rfl ?_
    | refine tl_guard_yes rfl rfl ?_
    | refine tl_guard_no rfl rfl rfl rfl ?_
    | refine tl_guard_undef rfl rfl rfl ?_
    | refine tl_load (by first | exact o_loadB 0 rfl rfl rfl | exact o_loadB 1 rfl rfl rfl | exact o_loadB 2 rfl rfl rfl | exact o_loadB 3 rfl rfl rfl | exact o_loadB 4 rfl rfl rfl | exact o_loadBA 0 rfl rfl rfl | exact o_loadBA 1 rfl rfl rfl | exact o_loadBA 2 rfl rfl rfl | exact o_loadBA 3 rfl rfl rfl) rfl ?_
    | refine tl_pick (by first | exact o_pick_t rfl rfl | exact o_pick_f rfl rfl) rfl ?_
    | refine tl_bin (by first | exact o_add64 rfl rfl (by omega) | exact o_sub64 rfl rfl (by omega) | exact o_mul64 rfl rfl (by first | assumption | omega)) rfl ?_
    | refine tl_store (by first | exact o_storeB 0 rfl rfl rfl rfl rfl | exact o_storeB 1 rfl rfl rfl rfl rfl | exact o_storeB 2 rfl rfl rfl rfl rfl | exact o_storeBA 0 rfl rfl rfl rfl rfl rfl | exact o_storeBA 1 rfl rfl rfl rfl rfl rfl | exact o_storeBA 2 rfl rfl rfl rfl rfl rfl) ?_
    | refine tl_box (o_box rfl rfl) rfl (fun _ => ?_)
    | refine tl_alloc rfl (fun _ => ?_)))
  refine tl_bin (o_shr32 rfl rfl) rfl ?_
  refine tl_bin (o_addU rfl rfl (by omega)) rfl ?_
  (repeat' (first
    | refine t_seq ?_
    | refine t_region ?_
    | refine xt_then ?_
    | refine tl_nil ?_
    | refine t_block ?_
    | refine t_skip ?_
    | refine t_ret ?_
    | refine t_exit ?_
    | refine xt_blk ?_
    | refine xt_blk_exit ?_
    | refine xt_then_ret ?_
    | refine xt_then_exit ?_
    | refine xt_blk_ret ?_
    | refine xt_blk_other rfl ?_
    | refine xt_round_exit ?_
    | refine xt_round_ret ?_
    | refine tl_run tab rfl rfl ?_
    | refine tl_guard_yes rfl rfl ?_
    | refine tl_guard_no rfl rfl rfl rfl ?_
    | refine tl_guard_undef rfl rfl rfl ?_
    | refine tl_load (by first | exact o_loadB 0 rfl rfl rfl | exact o_loadB 1 rfl rfl rfl | exact o_loadB 2 rfl rfl rfl | exact o_loadB 3 rfl rfl rfl | exact o_loadB 4 rfl rfl rfl | exact o_loadBA 0 rfl rfl rfl | exact o_loadBA 1 rfl rfl rfl | exact o_loadBA 2 rfl rfl rfl | exact o_loadBA 3 rfl rfl rfl) rfl ?_
    | refine tl_pick (by first | exact o_pick_t rfl rfl | exact o_pick_f rfl rfl) rfl ?_
    | refine tl_bin (by first | exact o_add64 rfl rfl (by omega) | exact o_sub64 rfl rfl (by omega) | exact o_mul64 rfl rfl (by first | assumption | omega)) rfl ?_
    | refine tl_store (by first | exact o_storeB 0 rfl rfl rfl rfl rfl | exact o_storeB 1 rfl rfl rfl rfl rfl | exact o_storeB 2 rfl rfl rfl rfl rfl | exact o_storeBA 0 rfl rfl rfl rfl rfl rfl | exact o_storeBA 1 rfl rfl rfl rfl rfl rfl | exact o_storeBA 2 rfl rfl rfl rfl rfl rfl) ?_
    | refine tl_box (o_box rfl rfl) rfl (fun _ => ?_)
    | refine tl_alloc rfl (fun _ => ?_)))
  refine tl_bin (o_mulU rfl rfl (by omega)) rfl ?_
  (repeat' (first
    | refine t_seq ?_
    | refine t_region ?_
    | refine xt_then ?_
    | refine tl_nil ?_
    | refine t_block ?_
    | refine t_skip ?_
    | refine t_ret ?_
    | refine t_exit ?_
    | refine xt_blk ?_
    | refine xt_blk_exit ?_
    | refine xt_then_ret ?_
    | refine xt_then_exit ?_
    | refine xt_blk_ret ?_
    | refine xt_blk_other rfl ?_
    | refine xt_round_exit ?_
    | refine xt_round_ret ?_
    | refine tl_run tab rfl rfl ?_
    | refine tl_guard_yes rfl rfl ?_
    | refine tl_guard_no rfl rfl rfl rfl ?_
    | refine tl_guard_undef rfl rfl rfl ?_
    | refine tl_load (by first | exact o_loadB 0 rfl rfl rfl | exact o_loadB 1 rfl rfl rfl | exact o_loadB 2 rfl rfl rfl | exact o_loadB 3 rfl rfl rfl | exact o_loadB 4 rfl rfl rfl | exact o_loadBA 0 rfl rfl rfl | exact o_loadBA 1 rfl rfl rfl | exact o_loadBA 2 rfl rfl rfl | exact o_loadBA 3 rfl rfl rfl) rfl ?_
    | refine tl_pick (by first | exact o_pick_t rfl rfl | exact o_pick_f rfl rfl) rfl ?_
    | refine tl_bin (by first | exact o_add64 rfl rfl (by omega) | exact o_sub64 rfl rfl (by omega) | exact o_mul64 rfl rfl (by first | assumption | omega)) rfl ?_
    | refine tl_store (by first | exact o_storeB 0 rfl rfl rfl rfl rfl | exact o_storeB 1 rfl rfl rfl rfl rfl | exact o_storeB 2 rfl rfl rfl rfl rfl | exact o_storeBA 0 rfl rfl rfl rfl rfl rfl | exact o_storeBA 1 rfl rfl rfl rfl rfl rfl | exact o_storeBA 2 rfl rfl rfl rfl rfl rfl) ?_
    | refine tl_box (o_box rfl rfl) rfl (fun _ => ?_)
    | refine tl_alloc rfl (fun _ => ?_)))
  refine xt_ret2S rfl rfl rfl fun _ _ => ?_
  have e6 : (0 : Int) * 0 + 0 / 4294967296 + (0 % 4294967296 + 1 * 0) / 4294967296 = 0 := by omega
  have e7 : 1 * c = c := by omega
  rw [e6, e7]

theorem mul_det (c : Int) (hc : 0 ≤ c ∧ c ≤ 1000000000) : Det Try.prog 83 [.int .u64 1, .int .u64 c] (.tuple #[.int .u64 0, .int .u64 c]) := by
  intro w
  refine calls_S Try.func83 rfl Try.ntmps83 rfl ?_
  (repeat' (first
    | refine t_seq ?_
    | refine t_region ?_
    | refine xt_then ?_
    | refine tl_nil ?_
    | refine t_block ?_
    | refine t_skip ?_
    | refine t_ret ?_
    | refine t_exit ?_
    | refine xt_blk ?_
    | refine xt_blk_exit ?_
    | refine xt_then_ret ?_
    | refine xt_then_exit ?_
    | refine xt_blk_ret ?_
    | refine xt_blk_other rfl ?_
    | refine xt_round_exit ?_
    | refine xt_round_ret ?_
    | refine tl_run tab rfl rfl ?_
    | refine tl_guard_yes rfl rfl ?_
    | refine tl_guard_no rfl rfl rfl rfl ?_
    | refine tl_guard_undef rfl rfl rfl ?_
    | refine tl_load (by first | exact o_loadB 0 rfl rfl rfl | exact o_loadB 1 rfl rfl rfl | exact o_loadB 2 rfl rfl rfl | exact o_loadB 3 rfl rfl rfl | exact o_loadB 4 rfl rfl rfl | exact o_loadBA 0 rfl rfl rfl | exact o_loadBA 1 rfl rfl rfl | exact o_loadBA 2 rfl rfl rfl | exact o_loadBA 3 rfl rfl rfl) rfl ?_
    | refine tl_pick (by first | exact o_pick_t rfl rfl | exact o_pick_f rfl rfl) rfl ?_
    | refine tl_bin (by first | exact o_add64 rfl rfl (by omega) | exact o_sub64 rfl rfl (by omega) | exact o_mul64 rfl rfl (by first | assumption | omega)) rfl ?_
    | refine tl_store (by first | exact o_storeB 0 rfl rfl rfl rfl rfl | exact o_storeB 1 rfl rfl rfl rfl rfl | exact o_storeB 2 rfl rfl rfl rfl rfl | exact o_storeBA 0 rfl rfl rfl rfl rfl rfl | exact o_storeBA 1 rfl rfl rfl rfl rfl rfl | exact o_storeBA 2 rfl rfl rfl rfl rfl rfl) ?_
    | refine tl_box (o_box rfl rfl) rfl (fun _ => ?_)
    | refine tl_alloc rfl (fun _ => ?_)))
  refine t_cond rfl (fun h => by cases h) (fun _ => ?_)
  (repeat' (first
    | refine t_seq ?_
    | refine t_region ?_
    | refine xt_then ?_
    | refine tl_nil ?_
    | refine t_block ?_
    | refine t_skip ?_
    | refine t_ret ?_
    | refine t_exit ?_
    | refine xt_blk ?_
    | refine xt_blk_exit ?_
    | refine xt_then_ret ?_
    | refine xt_then_exit ?_
    | refine xt_blk_ret ?_
    | refine xt_blk_other rfl ?_
    | refine xt_round_exit ?_
    | refine xt_round_ret ?_
    | refine tl_run tab rfl rfl ?_
    | refine tl_guard_yes rfl rfl ?_
    | refine tl_guard_no rfl rfl rfl rfl ?_
    | refine tl_guard_undef rfl rfl rfl ?_
    | refine tl_load (by first | exact o_loadB 0 rfl rfl rfl | exact o_loadB 1 rfl rfl rfl | exact o_loadB 2 rfl rfl rfl | exact o_loadB 3 rfl rfl rfl | exact o_loadB 4 rfl rfl rfl | exact o_loadBA 0 rfl rfl rfl | exact o_loadBA 1 rfl rfl rfl | exact o_loadBA 2 rfl rfl rfl | exact o_loadBA 3 rfl rfl rfl) rfl ?_
    | refine tl_pick (by first | exact o_pick_t rfl rfl | exact o_pick_f rfl rfl) rfl ?_
    | refine tl_bin (by first | exact o_add64 rfl rfl (by omega) | exact o_sub64 rfl rfl (by omega) | exact o_mul64 rfl rfl (by first | assumption | omega)) rfl ?_
    | refine tl_store (by first | exact o_storeB 0 rfl rfl rfl rfl rfl | exact o_storeB 1 rfl rfl rfl rfl rfl | exact o_storeB 2 rfl rfl rfl rfl rfl | exact o_storeBA 0 rfl rfl rfl rfl rfl rfl | exact o_storeBA 1 rfl rfl rfl rfl rfl rfl | exact o_storeBA 2 rfl rfl rfl rfl rfl rfl) ?_
    | refine tl_box (o_box rfl rfl) rfl (fun _ => ?_)
    | refine tl_alloc rfl (fun _ => ?_)))
  refine tl_call (o_det (mul64_det c hc) rfl) rfl ?_
  (repeat' (first
    | refine t_seq ?_
    | refine t_region ?_
    | refine xt_then ?_
    | refine tl_nil ?_
    | refine t_block ?_
    | refine t_skip ?_
    | refine t_ret ?_
    | refine t_exit ?_
    | refine xt_blk ?_
    | refine xt_blk_exit ?_
    | refine xt_then_ret ?_
    | refine xt_then_exit ?_
    | refine xt_blk_ret ?_
    | refine xt_blk_other rfl ?_
    | refine xt_round_exit ?_
    | refine xt_round_ret ?_
    | refine tl_run tab rfl rfl ?_
    | refine tl_guard_yes rfl rfl ?_
    | refine tl_guard_no rfl rfl rfl rfl ?_
    | refine tl_guard_undef rfl rfl rfl ?_
    | refine tl_load (by first | exact o_loadB 0 rfl rfl rfl | exact o_loadB 1 rfl rfl rfl | exact o_loadB 2 rfl rfl rfl | exact o_loadB 3 rfl rfl rfl | exact o_loadB 4 rfl rfl rfl | exact o_loadBA 0 rfl rfl rfl | exact o_loadBA 1 rfl rfl rfl | exact o_loadBA 2 rfl rfl rfl | exact o_loadBA 3 rfl rfl rfl) rfl ?_
    | refine tl_pick (by first | exact o_pick_t rfl rfl | exact o_pick_f rfl rfl) rfl ?_
    | refine tl_bin (by first | exact o_add64 rfl rfl (by omega) | exact o_sub64 rfl rfl (by omega) | exact o_mul64 rfl rfl (by first | assumption | omega)) rfl ?_
    | refine tl_store (by first | exact o_storeB 0 rfl rfl rfl rfl rfl | exact o_storeB 1 rfl rfl rfl rfl rfl | exact o_storeB 2 rfl rfl rfl rfl rfl | exact o_storeBA 0 rfl rfl rfl rfl rfl rfl | exact o_storeBA 1 rfl rfl rfl rfl rfl rfl | exact o_storeBA 2 rfl rfl rfl rfl rfl rfl) ?_
    | refine tl_box (o_box rfl rfl) rfl (fun _ => ?_)
    | refine tl_alloc rfl (fun _ => ?_)))
  exact xt_ret2S rfl rfl rfl fun _ _ => rfl

/-- MakeNoZero: a new block of whatever bytes -/
theorem tl_makeNoZero {r : Option Nat} {Q : Exit → Act → World → Prop} {nt : Nat} {D : List Deferred} {fr : Fr} {w0 : World} {X : List Nat} {L : HL} {ops : Array Oper} {rest : List Oper} {d n : Nat} {ty t : TypeId} {pos : String} {af : Array Edge} {x : Operand} (hx : fev fr x = some (.int .i64 (n : Int))) (hn : n ≤ 281474976710656) (hd : Nat.ble nt d = false)
    (h : ∀ b cap, n ≤ cap → TL Try.prog r ops Q nt D rest ((d, .slice (some ⟨b, 0, none⟩) n cap) :: fr) (St w0 X ((b, pre 5 n []) :: L))) : TL Try.prog r ops Q nt D (⟨some d, .call ⟨.value (.func 84), #[x], #[t]⟩, ty, pos, af, none⟩ :: rest) fr (St w0 X L) := by
  refine tl_op hd rfl (R := fun v' w' => ∃ b cap, v' = .slice (some ⟨b, 0, none⟩) n cap ∧ n ≤ cap ∧ St w0 X ((b, pre 5 n []) :: L) w') (o_of fun ρ w hρ hw => ?_) ?_
  · obtain ⟨cs, hr, hsz, _⟩ := Go.Lib.run_makeNoZero (P := Try.prog) w #[3] 65 5 Try.underlying65 n hn
    have hcall : (callFunc 84 #[.int .i64 (n : Int)]).run Try.prog w = .ok (.value (.slice (some ⟨w.heap.size, 0, none⟩) n cs.size)) (w.drew.drew.alloc (.cells cs 5)) := by
      have := run_callFunc_extern (P := Try.prog) (f := 84) (e := Extern.BytealgMakeNoZero.makeNoZero #[3] #[65]) Try.func84 rfl rfl rfl rfl #[.int .i64 (n : Int)] w
      rw [this, hr]
      rfl
    refine ⟨.slice (some ⟨w.heap.size, 0, none⟩) n cs.size, w.drew.drew.alloc (.cells cs 5), ?_, w.heap.size, cs.size, rfl, hsz, ?_⟩
    · have hfv : ρ (.func 84) = .func (.func 84) #[] #[] := hρ _ _ rfl
      simp [execOp, resolve, hfv, Deferred.ofValue, hρ _ _ hx, invoke, hcall]
    · have h1 : St w0 X L w.drew.drew := (hw.drew _).drew _
      exact h1.alloc (.cells cs 5) ⟨cs, rfl, hsz, List.nil_prefix⟩
  · intro v'
    unfold TL
    rintro a' w' ha ⟨b, cap, rfl, hcap, hs⟩
    have h' := h b cap hcap
    unfold TL at h'
    exact h' a' w' ha hs

theorem repeat_calls (n : Nat) (hn : 1 ≤ n ∧ n ≤ 8192) (w : World) (b0 c0 : Nat) (hb0 : b0 < w.heap.size) (hc0 : w.cell? ⟨b0, 0, none⟩ = some (.int .u8 46)) : Calls Try.prog 65 #[.slice (some ⟨b0, 0, none⟩) 1 c0, .int .i64 (n : Int)] w (Ret w fun v w' => ∃ b o, v = .slice (some ⟨b, 0, none⟩) n n ∧ w.heap.size ≤ b ∧ w'.heap[b]? = some o ∧ pre 5 n (List.replicate n (.int .u8 46)) o) := by
  refine calls_S (vs := [.slice (some ⟨b0, 0, none⟩) 1 c0, .int .i64 (n : Int)]) Try.func65 rfl Try.ntmps65 rfl ?_
  (repeat' (first
    | refine t_seq ?_
    | refine t_region ?_
    | refine xt_then ?_
    | refine tl_nil ?_
    | refine t_block ?_
    | refine t_skip ?_
    | refine t_ret ?_
    | refine t_exit ?_
    | refine xt_blk ?_
    | refine xt_blk_exit ?_
    | refine xt_then_ret ?_
    | refine xt_then_exit ?_
    | refine xt_blk_ret ?_
    | refine xt_blk_other rfl ?_
    | refine xt_round_exit ?_
    | refine xt_round_ret ?_
    | refine tl_run tab rfl rfl ?_
    | refine tl_guard_yes rfl rfl ?_
    | refine tl_guard_no rfl rfl rfl rfl ?_
    | refine tl_guard_undef rfl rfl rfl ?_
    | refine tl_load (by first | exact o_loadB 0 rfl rfl rfl | exact o_loadB 1 rfl rfl rfl | exact o_loadB 2 rfl rfl rfl | exact o_loadB 3 rfl rfl rfl | exact o_loadB 4 rfl rfl rfl | exact o_loadBA 0 rfl rfl rfl | exact o_loadBA 1 rfl rfl rfl | exact o_loadBA 2 rfl rfl rfl | exact o_loadBA 3 rfl rfl rfl) rfl ?_
    | refine tl_pick (by first | exact o_pick_t rfl rfl | exact o_pick_f rfl rfl) rfl ?_
    | refine tl_bin (by first | exact o_add64 rfl rfl (by omega) | exact o_sub64 rfl rfl (by omega) | exact o_mul64 rfl rfl (by first | assumption | omega)) rfl ?_
    | refine tl_store (by first | exact o_storeB 0 rfl rfl rfl rfl rfl | exact o_storeB 1 rfl rfl rfl rfl rfl | exact o_storeB 2 rfl rfl rfl rfl rfl | exact o_storeBA 0 rfl rfl rfl rfl rfl rfl | exact o_storeBA 1 rfl rfl rfl rfl rfl rfl | exact o_storeBA 2 rfl rfl rfl rfl rfl rfl) ?_
    | refine tl_box (o_box rfl rfl) rfl (fun _ => ?_)
    | refine tl_alloc rfl (fun _ => ?_)))
  refine t_cond rfl (fun h => ?_) (fun _ => ?_)
  · simp at h; omega
  (repeat' (first
    | refine t_seq ?_
    | refine t_region ?_
    | refine xt_then ?_
    | refine tl_nil ?_
    | refine t_block ?_
    | refine t_skip ?_
    | refine t_ret ?_
    | refine t_exit ?_
    | refine xt_blk ?_
    | refine xt_blk_exit ?_
    | refine xt_then_ret ?_
    | refine xt_then_exit ?_
    | refine xt_blk_ret ?_
    | refine xt_blk_other rfl ?_
    | refine xt_round_exit ?_
    | refine xt_round_ret ?_
    | refine tl_run tab rfl rfl ?_
    | refine tl_guard_yes rfl rfl ?_
    | refine tl_guard_no rfl rfl rfl rfl ?_
    | refine tl_guard_undef rfl rfl rfl ?_
    | refine tl_load (by first | exact o_loadB 0 rfl rfl rfl | exact o_loadB 1 rfl rfl rfl | exact o_loadB 2 rfl rfl rfl | exact o_loadB 3 rfl rfl rfl | exact o_loadB 4 rfl rfl rfl | exact o_loadBA 0 rfl rfl rfl | exact o_loadBA 1 rfl rfl rfl | exact o_loadBA 2 rfl rfl rfl | exact o_loadBA 3 rfl rfl rfl) rfl ?_
    | refine tl_pick (by first | exact o_pick_t rfl rfl | exact o_pick_f rfl rfl) rfl ?_
    | refine tl_bin (by first | exact o_add64 rfl rfl (by omega) | exact o_sub64 rfl rfl (by omega) | exact o_mul64 rfl rfl (by first | assumption | omega)) rfl ?_
    | refine tl_store (by first | exact o_storeB 0 rfl rfl rfl rfl rfl | exact o_storeB 1 rfl rfl rfl rfl rfl | exact o_storeB 2 rfl rfl rfl rfl rfl | exact o_storeBA 0 rfl rfl rfl rfl rfl rfl | exact o_storeBA 1 rfl rfl rfl rfl rfl rfl | exact o_storeBA 2 rfl rfl rfl rfl rfl rfl) ?_
    | refine tl_box (o_box rfl rfl) rfl (fun _ => ?_)
    | refine tl_alloc rfl (fun _ => ?_)))
  refine t_cond rfl (fun h => ?_) (fun _ => ?_)
  · simp at h; omega
  (repeat' (first
    | refine t_seq ?_
    | refine t_region ?_
    | refine xt_then ?_
    | refine tl_nil ?_
    | refine t_block ?_
    | refine t_skip ?_
    | refine t_ret ?_
    | refine t_exit ?_
    | refine xt_blk ?_
    | refine xt_blk_exit ?_
    | refine xt_then_ret ?_
    | refine xt_then_exit ?_
    | refine xt_blk_ret ?_
    | refine xt_blk_other rfl ?_
    | refine xt_round_exit ?_
    | refine xt_round_ret ?_
    | refine tl_run tab rfl rfl ?_
    | refine tl_guard_yes rfl rfl ?_
    | refine tl_guard_no rfl rfl rfl rfl ?_
    | refine tl_guard_undef rfl rfl rfl ?_
    | refine tl_load (by first | exact o_loadB 0 rfl rfl rfl | exact o_loadB 1 rfl rfl rfl | exact o_loadB 2 rfl rfl rfl | exact o_loadB 3 rfl rfl rfl | exact o_loadB 4 rfl rfl rfl | exact o_loadBA 0 rfl rfl rfl | exact o_loadBA 1 rfl rfl rfl | exact o_loadBA 2 rfl rfl rfl | exact o_loadBA 3 rfl rfl rfl) rfl ?_
    | refine tl_pick (by first | exact o_pick_t rfl rfl | exact o_pick_f rfl rfl) rfl ?_
    | refine tl_bin (by first | exact o_add64 rfl rfl (by omega) | exact o_sub64 rfl rfl (by omega) | exact o_mul64 rfl rfl (by first | assumption | omega)) rfl ?_
    | refine tl_store (by first | exact o_storeB 0 rfl rfl rfl rfl rfl | exact o_storeB 1 rfl rfl rfl rfl rfl | exact o_storeB 2 rfl rfl rfl rfl rfl | exact o_storeBA 0 rfl rfl rfl rfl rfl rfl | exact o_storeBA 1 rfl rfl rfl rfl rfl rfl | exact o_storeBA 2 rfl rfl rfl rfl rfl rfl) ?_
    | refine tl_box (o_box rfl rfl) rfl (fun _ => ?_)
    | refine tl_alloc rfl (fun _ => ?_)))
  refine tl_val (o_convertU (a := 1) rfl (by omega)) rfl rfl ?_
  (repeat' (first
    | refine t_seq ?_
    | refine t_region ?_
    | refine xt_then ?_
    | refine tl_nil ?_
    | refine t_block ?_
    | refine t_skip ?_
    | refine t_ret ?_
    | refine t_exit ?_
    | refine xt_blk ?_
    | refine xt_blk_exit ?_
    | refine xt_then_ret ?_
    | refine xt_then_exit ?_
    | refine xt_blk_ret ?_
    | refine xt_blk_other rfl ?_
    | refine xt_round_exit ?_
    | refine xt_round_ret ?_
    | refine tl_run tab rfl rfl ?_
    | refine tl_guard_yes rfl rfl ?_
    | refine tl_guard_no rfl rfl rfl rfl ?_
    | refine tl_guard_undef rfl rfl rfl ?_
    | refine tl_load (by first | exact o_loadB 0 rfl rfl rfl | exact o_loadB 1 rfl rfl rfl | exact o_loadB 2 rfl rfl rfl | exact o_loadB 3 rfl rfl rfl | exact o_loadB 4 rfl rfl rfl | exact o_loadBA 0 rfl rfl rfl | exact o_loadBA 1 rfl rfl rfl | exact o_loadBA 2 rfl rfl rfl | exact o_loadBA 3 rfl rfl rfl) rfl ?_
    | refine tl_pick (by first | exact o_pick_t rfl rfl | exact o_pick_f rfl rfl) rfl ?_
    | refine tl_bin (by first | exact o_add64 rfl rfl (by omega) | exact o_sub64 rfl rfl (by omega) | exact o_mul64 rfl rfl (by first | assumption | omega)) rfl ?_
    | refine tl_store (by first | exact o_storeB 0 rfl rfl rfl rfl rfl | exact o_storeB 1 rfl rfl rfl rfl rfl | exact o_storeB 2 rfl rfl rfl rfl rfl | exact o_storeBA 0 rfl rfl rfl rfl rfl rfl | exact o_storeBA 1 rfl rfl rfl rfl rfl rfl | exact o_storeBA 2 rfl rfl rfl rfl rfl rfl) ?_
    | refine tl_box (o_box rfl rfl) rfl (fun _ => ?_)
    | refine tl_alloc rfl (fun _ => ?_)))
  refine tl_val (o_convertU (a := (n : Int)) rfl (by omega)) rfl rfl ?_
  refine tl_call (o_det (mul_det (n : Int) (by omega)) rfl) rfl ?_
  (repeat' (first
    | refine t_seq ?_
    | refine t_region ?_
    | refine xt_then ?_
    | refine tl_nil ?_
    | refine t_block ?_
    | refine t_skip ?_
    | refine t_ret ?_
    | refine t_exit ?_
    | refine xt_blk ?_
    | refine xt_blk_exit ?_
    | refine xt_then_ret ?_
    | refine xt_then_exit ?_
    | refine xt_blk_ret ?_
    | refine xt_blk_other rfl ?_
    | refine xt_round_exit ?_
    | refine xt_round_ret ?_
    | refine tl_run tab rfl rfl ?_
    | refine tl_guard_yes rfl rfl ?_
    | refine tl_guard_no rfl rfl rfl rfl ?_
    | refine tl_guard_undef rfl rfl rfl ?_
    | refine tl_load (by first | exact o_loadB 0 rfl rfl rfl | exact o_loadB 1 rfl rfl rfl | exact o_loadB 2 rfl rfl rfl | exact o_loadB 3 rfl rfl rfl | exact o_loadB 4 rfl rfl rfl | exact o_loadBA 0 rfl rfl rfl | exact o_loadBA 1 rfl rfl rfl | exact o_loadBA 2 rfl rfl rfl | exact o_loadBA 3 rfl rfl rfl) rfl ?_
    | refine tl_pick (by first | exact o_pick_t rfl rfl | exact o_pick_f rfl rfl) rfl ?_
    | refine tl_bin (by first | exact o_add64 rfl rfl (by omega) | exact o_sub64 rfl rfl (by omega) | exact o_mul64 rfl rfl (by first | assumption | omega)) rfl ?_
    | refine tl_store (by first | exact o_storeB 0 rfl rfl rfl rfl rfl | exact o_storeB 1 rfl rfl rfl rfl rfl | exact o_storeB 2 rfl rfl rfl rfl rfl | exact o_storeBA 0 rfl rfl rfl rfl rfl rfl | exact o_storeBA 1 rfl rfl rfl rfl rfl rfl | exact o_storeBA 2 rfl rfl rfl rfl rfl rfl) ?_
    | refine tl_box (o_box rfl rfl) rfl (fun _ => ?_)
    | refine tl_alloc rfl (fun _ => ?_)))
  refine t_cond rfl (fun h => ?_) (fun _ => ?_)
  · simp at h; omega
  (repeat' (first
    | refine t_seq ?_
    | refine t_region ?_
    | refine xt_then ?_
    | refine tl_nil ?_
    | refine t_block ?_
    | refine t_skip ?_
    | refine t_ret ?_
    | refine t_exit ?_
    | refine xt_blk ?_
    | refine xt_blk_exit ?_
    | refine xt_then_ret ?_
    | refine xt_then_exit ?_
    | refine xt_blk_ret ?_
    | refine xt_blk_other rfl ?_
    | refine xt_round_exit ?_
    | refine xt_round_ret ?_
    | refine tl_run tab rfl rfl ?_
    | refine tl_guard_yes rfl rfl ?_
    | refine tl_guard_no rfl rfl rfl rfl ?_
    | refine tl_guard_undef rfl rfl rfl ?_
    | refine tl_load (by first | exact o_loadB 0 rfl rfl rfl | exact o_loadB 1 rfl rfl rfl | exact o_loadB 2 rfl rfl rfl | exact o_loadB 3 rfl rfl rfl | exact o_loadB 4 rfl rfl rfl | exact o_loadBA 0 rfl rfl rfl | exact o_loadBA 1 rfl rfl rfl | exact o_loadBA 2 rfl rfl rfl | exact o_loadBA 3 rfl rfl rfl) rfl ?_
    | refine tl_pick (by first | exact o_pick_t rfl rfl | exact o_pick_f rfl rfl) rfl ?_
    | refine tl_bin (by first | exact o_add64 rfl rfl (by omega) | exact o_sub64 rfl rfl (by omega) | exact o_mul64 rfl rfl (by first | assumption | omega)) rfl ?_
    | refine tl_store (by first | exact o_storeB 0 rfl rfl rfl rfl rfl | exact o_storeB 1 rfl rfl rfl rfl rfl | exact o_storeB 2 rfl rfl rfl rfl rfl | exact o_storeBA 0 rfl rfl rfl rfl rfl rfl | exact o_storeBA 1 rfl rfl rfl rfl rfl rfl | exact o_storeBA 2 rfl rfl rfl rfl rfl rfl) ?_
    | refine tl_box (o_box rfl rfl) rfl (fun _ => ?_)
    | refine tl_alloc rfl (fun _ => ?_)))
  refine tl_val (o_convertI (a := (n : Int)) rfl (by omega)) rfl rfl ?_
  (repeat' (first
    | refine t_seq ?_
    | refine t_region ?_
    | refine xt_then ?_
    | refine tl_nil ?_
    | refine t_block ?_
    | refine t_skip ?_
    | refine t_ret ?_
    | refine t_exit ?_
    | refine xt_blk ?_
    | refine xt_blk_exit ?_
    | refine xt_then_ret ?_
    | refine xt_then_exit ?_
    | refine xt_blk_ret ?_
    | refine xt_blk_other rfl ?_
    | refine xt_round_exit ?_
    | refine xt_round_ret ?_
    | refine tl_run tab rfl rfl ?_
    | refine tl_guard_yes rfl rfl ?_
    | refine tl_guard_no rfl rfl rfl rfl ?_
    | refine tl_guard_undef rfl rfl rfl ?_
    | refine tl_load (by first | exact o_loadB 0 rfl rfl rfl | exact o_loadB 1 rfl rfl rfl | exact o_loadB 2 rfl rfl rfl | exact o_loadB 3 rfl rfl rfl | exact o_loadB 4 rfl rfl rfl | exact o_loadBA 0 rfl rfl rfl | exact o_loadBA 1 rfl rfl rfl | exact o_loadBA 2 rfl rfl rfl | exact o_loadBA 3 rfl rfl rfl) rfl ?_
    | refine tl_pick (by first | exact o_pick_t rfl rfl | exact o_pick_f rfl rfl) rfl ?_
    | refine tl_bin (by first | exact o_add64 rfl rfl (by omega) | exact o_sub64 rfl rfl (by omega) | exact o_mul64 rfl rfl (by first | assumption | omega)) rfl ?_
    | refine tl_store (by first | exact o_storeB 0 rfl rfl rfl rfl rfl | exact o_storeB 1 rfl rfl rfl rfl rfl | exact o_storeB 2 rfl rfl rfl rfl rfl | exact o_storeBA 0 rfl rfl rfl rfl rfl rfl | exact o_storeBA 1 rfl rfl rfl rfl rfl rfl | exact o_storeBA 2 rfl rfl rfl rfl rfl rfl) ?_
    | refine tl_box (o_box rfl rfl) rfl (fun _ => ?_)
    | refine tl_alloc rfl (fun _ => ?_)))
  refine t_cond rfl (fun h => ?_) (fun _ => ?_)
  · simp at h
  (repeat' (first
    | refine t_seq ?_
    | refine t_region ?_
    | refine xt_then ?_
    | refine tl_nil ?_
    | refine t_block ?_
    | refine t_skip ?_
    | refine t_ret ?_
    | refine t_exit ?_
    | refine xt_blk ?_
    | refine xt_blk_exit ?_
    | refine xt_then_ret ?_
    | refine xt_then_exit ?_
    | refine xt_blk_ret ?_
    | refine xt_blk_other rfl ?_
    | refine xt_round_exit ?_
    | refine xt_round_ret ?_
    | refine tl_run tab rfl rfl ?_
    | refine tl_guard_yes rfl rfl ?_
    | refine tl_guard_no rfl rfl rfl rfl ?_
    | refine tl_guard_undef rfl rfl rfl ?_
    | refine tl_load (by first | exact o_loadB 0 rfl rfl rfl | exact o_loadB 1 rfl rfl rfl | exact o_loadB 2 rfl rfl rfl | exact o_loadB 3 rfl rfl rfl | exact o_loadB 4 rfl rfl rfl | exact o_loadBA 0 rfl rfl rfl | exact o_loadBA 1 rfl rfl rfl | exact o_loadBA 2 rfl rfl rfl | exact o_loadBA 3 rfl rfl rfl) rfl ?_
    | refine tl_pick (by first | exact o_pick_t rfl rfl | exact o_pick_f rfl rfl) rfl ?_
    | refine tl_bin (by first | exact o_add64 rfl rfl (by omega) | exact o_sub64 rfl rfl (by omega) | exact o_mul64 rfl rfl (by first | assumption | omega)) rfl ?_
    | refine tl_store (by first | exact o_storeB 0 rfl rfl rfl rfl rfl | exact o_storeB 1 rfl rfl rfl rfl rfl | exact o_storeB 2 rfl rfl rfl rfl rfl | exact o_storeBA 0 rfl rfl rfl rfl rfl rfl | exact o_storeBA 1 rfl rfl rfl rfl rfl rfl | exact o_storeBA 2 rfl rfl rfl rfl rfl rfl) ?_
    | refine tl_box (o_box rfl rfl) rfl (fun _ => ?_)
    | refine tl_alloc rfl (fun _ => ?_)))
  refine t_cond rfl (fun h => ?_) (fun _ => ?_)
  · simp at h; omega
  (repeat' (first
    | refine t_seq ?_
    | refine t_region ?_
    | refine xt_then ?_
    | refine tl_nil ?_
    | refine t_block ?_
    | refine t_skip ?_
    | refine t_ret ?_
    | refine t_exit ?_
    | refine xt_blk ?_
    | refine xt_blk_exit ?_
    | refine xt_then_ret ?_
    | refine xt_then_exit ?_
    | refine xt_blk_ret ?_
    | refine xt_blk_other rfl ?_
    | refine xt_round_exit ?_
    | refine xt_round_ret ?_
    | refine tl_run tab rfl rfl ?_
    | refine tl_guard_yes rfl rfl ?_
    | refine tl_guard_no rfl rfl rfl rfl ?_
    | refine tl_guard_undef rfl rfl rfl ?_
    | refine tl_load (by first | exact o_loadB 0 rfl rfl rfl | exact o_loadB 1 rfl rfl rfl | exact o_loadB 2 rfl rfl rfl | exact o_loadB 3 rfl rfl rfl | exact o_loadB 4 rfl rfl rfl | exact o_loadBA 0 rfl rfl rfl | exact o_loadBA 1 rfl rfl rfl | exact o_loadBA 2 rfl rfl rfl | exact o_loadBA 3 rfl rfl rfl) rfl ?_
    | refine tl_pick (by first | exact o_pick_t rfl rfl | exact o_pick_f rfl rfl) rfl ?_
    | refine tl_bin (by first | exact o_add64 rfl rfl (by omega) | exact o_sub64 rfl rfl (by omega) | exact o_mul64 rfl rfl (by first | assumption | omega)) rfl ?_
    | refine tl_store (by first | exact o_storeB 0 rfl rfl rfl rfl rfl | exact o_storeB 1 rfl rfl rfl rfl rfl | exact o_storeB 2 rfl rfl rfl rfl rfl | exact o_storeBA 0 rfl rfl rfl rfl rfl rfl | exact o_storeBA 1 rfl rfl rfl rfl rfl rfl | exact o_storeBA 2 rfl rfl rfl rfl rfl rfl) ?_
    | refine tl_box (o_box rfl rfl) rfl (fun _ => ?_)
    | refine tl_alloc rfl (fun _ => ?_)))
  refine tl_makeNoZero rfl (by omega) rfl fun b cap hcap => ?_
  (repeat' (first
    | refine t_seq ?_
    | refine t_region ?_
    | refine xt_then ?_
    | refine tl_nil ?_
    | refine t_block ?_
    | refine t_skip ?_
    | refine t_ret ?_
    | refine t_exit ?_
    | refine xt_blk ?_
    | refine xt_blk_exit ?_
    | refine xt_then_ret ?_
    | refine xt_then_exit ?_
    | refine xt_blk_ret ?_
    | refine xt_blk_other rfl ?_
    | refine xt_round_exit ?_
    | refine xt_round_ret ?_
    | refine tl_run tab rfl rfl ?_
    | refine tl_guard_yes rfl rfl ?_
    | refine tl_guard_no rfl rfl rfl rfl ?_
    | refine tl_guard_undef rfl rfl rfl ?_
    | refine tl_load (by first | exact o_loadB 0 rfl rfl rfl | exact o_loadB 1 rfl rfl rfl | exact o_loadB 2 rfl rfl rfl | exact o_loadB 3 rfl rfl rfl | exact o_loadB 4 rfl rfl rfl | exact o_loadBA 0 rfl rfl rfl | exact o_loadBA 1 rfl rfl rfl | exact o_loadBA 2 rfl rfl rfl | exact o_loadBA 3 rfl rfl rfl) rfl ?_
    | refine tl_pick (by first | exact o_pick_t rfl rfl | exact o_pick_f rfl rfl) rfl ?_
    | refine tl_bin (by first | exact o_add64 rfl rfl (by omega) | exact o_sub64 rfl rfl (by omega) | exact o_mul64 rfl rfl (by first | assumption | omega)) rfl ?_
    | refine tl_store (by first | exact o_storeB 0 rfl rfl rfl rfl rfl | exact o_storeB 1 rfl rfl rfl rfl rfl | exact o_storeB 2 rfl rfl rfl rfl rfl | exact o_storeBA 0 rfl rfl rfl rfl rfl rfl | exact o_storeBA 1 rfl rfl rfl rfl rfl rfl | exact o_storeBA 2 rfl rfl rfl rfl rfl rfl) ?_
    | refine tl_box (o_box rfl rfl) rfl (fun _ => ?_)
    | refine tl_alloc rfl (fun _ => ?_)))
  refine tl_val (o_sliceHM rfl rfl rfl (Nat.le_refl _) hcap) rfl rfl ?_
  (repeat' (first
    | refine t_seq ?_
    | refine t_region ?_
    | refine xt_then ?_
    | refine tl_nil ?_
    | refine t_block ?_
    | refine t_skip ?_
    | refine t_ret ?_
    | refine t_exit ?_
    | refine xt_blk ?_
    | refine xt_blk_exit ?_
    | refine xt_then_ret ?_
    | refine xt_then_exit ?_
    | refine xt_blk_ret ?_
    | refine xt_blk_other rfl ?_
    | refine xt_round_exit ?_
    | refine xt_round_ret ?_
    | refine tl_run tab rfl rfl ?_
    | refine tl_guard_yes rfl rfl ?_
    | refine tl_guard_no rfl rfl rfl rfl ?_
    | refine tl_guard_undef rfl rfl rfl ?_
    | refine tl_load (by first | exact o_loadB 0 rfl rfl rfl | exact o_loadB 1 rfl rfl rfl | exact o_loadB 2 rfl rfl rfl | exact o_loadB 3 rfl rfl rfl | exact o_loadB 4 rfl rfl rfl | exact o_loadBA 0 rfl rfl rfl | exact o_loadBA 1 rfl rfl rfl | exact o_loadBA 2 rfl rfl rfl | exact o_loadBA 3 rfl rfl rfl) rfl ?_
    | refine tl_pick (by first | exact o_pick_t rfl rfl | exact o_pick_f rfl rfl) rfl ?_
    | refine tl_bin (by first | exact o_add64 rfl rfl (by omega) | exact o_sub64 rfl rfl (by omega) | exact o_mul64 rfl rfl (by first | assumption | omega)) rfl ?_
    | refine tl_store (by first | exact o_storeB 0 rfl rfl rfl rfl rfl | exact o_storeB 1 rfl rfl rfl rfl rfl | exact o_storeB 2 rfl rfl rfl rfl rfl | exact o_storeBA 0 rfl rfl rfl rfl rfl rfl | exact o_storeBA 1 rfl rfl rfl rfl rfl rfl | exact o_storeBA 2 rfl rfl rfl rfl rfl rfl) ?_
    | refine tl_box (o_box rfl rfl) rfl (fun _ => ?_)
    | refine tl_alloc rfl (fun _ => ?_)))
  refine tl_call (o_copyP (cs0 := []) (cs := [.int .u8 46]) rfl rfl rfl (by show 1 = min 1 n; omega) (by show 0 + 1 ≤ n; omega) (by simp [Value.oneCell']) ?_) rfl ?_
  · intro w' hw' j v hj
    cases j with
    | succ j => simp at hj
    | zero =>
      simp at hj
      subst hj
      rw [add_mk, hw'.oldCell hb0 (by simp)]
      exact hc0
  (repeat' (first
    | refine t_seq ?_
    | refine t_region ?_
    | refine xt_then ?_
    | refine tl_nil ?_
    | refine t_block ?_
    | refine t_skip ?_
    | refine t_ret ?_
    | refine t_exit ?_
    | refine xt_blk ?_
    | refine xt_blk_exit ?_
    | refine xt_then_ret ?_
    | refine xt_then_exit ?_
    | refine xt_blk_ret ?_
    | refine xt_blk_other rfl ?_
    | refine xt_round_exit ?_
    | refine xt_round_ret ?_
    | refine tl_run tab rfl rfl ?_
    | refine tl_guard_yes rfl rfl ?_
    | refine tl_guard_no rfl rfl rfl rfl ?_
    | refine tl_guard_undef rfl rfl rfl ?_
    | refine tl_load (by first | exact o_loadB 0 rfl rfl rfl | exact o_loadB 1 rfl rfl rfl | exact o_loadB 2 rfl rfl rfl | exact o_loadB 3 rfl rfl rfl | exact o_loadB 4 rfl rfl rfl | exact o_loadBA 0 rfl rfl rfl | exact o_loadBA 1 rfl rfl rfl | exact o_loadBA 2 rfl rfl rfl | exact o_loadBA 3 rfl rfl rfl) rfl ?_
    | refine tl_pick (by first | exact o_pick_t rfl rfl | exact o_pick_f rfl rfl) rfl ?_
    | refine tl_bin (by first | exact o_add64 rfl rfl (by omega) | exact o_sub64 rfl rfl (by omega) | exact o_mul64 rfl rfl (by first | assumption | omega)) rfl ?_
    | refine tl_store (by first | exact o_storeB 0 rfl rfl rfl rfl rfl | exact o_storeB 1 rfl rfl rfl rfl rfl | exact o_storeB 2 rfl rfl rfl rfl rfl | exact o_storeBA 0 rfl rfl rfl rfl rfl rfl | exact o_storeBA 1 rfl rfl rfl rfl rfl rfl | exact o_storeBA 2 rfl rfl rfl rfl rfl rfl) ?_
    | refine tl_box (o_box rfl rfl) rfl (fun _ => ?_)
    | refine tl_alloc rfl (fun _ => ?_)))
  refine t_loopC (α := Nat) (fun k => [(10, .int .i64 (k : Int)), (9, .slice (some ⟨b, 0, none⟩) n n), (8, .int .i64 (n : Int)), (7, .int .i64 (n : Int))]) (fun k => 1 ≤ k ∧ k ≤ n) (fun k => St w [] [(b, pre 5 n (List.replicate k (.int .u8 46)))]) (fun k => n - k) 1 (by omega) ⟨rfl, rfl, rfl, rfl, trivial⟩ (fun _ h => h) fun k hk => ?_
  (repeat' (first
    | refine t_seq ?_
    | refine t_region ?_
    | refine xt_then ?_
    | refine tl_nil ?_
    | refine t_block ?_
    | refine t_skip ?_
    | refine t_ret ?_
    | refine t_exit ?_
    | refine xt_blk ?_
    | refine xt_blk_exit ?_
    | refine xt_then_ret ?_
    | refine xt_then_exit ?_
    | refine xt_blk_ret ?_
    | refine xt_blk_other rfl ?_
    | refine xt_round_exit ?_
    | refine xt_round_ret ?_
    | refine tl_run tab rfl rfl ?_
    | refine tl_guard_yes rfl rfl ?_
    | refine tl_guard_no rfl rfl rfl rfl ?_
    | refine tl_guard_undef rfl rfl rfl ?_
    | refine tl_load (by first | exact o_loadB 0 rfl rfl rfl | exact o_loadB 1 rfl rfl rfl | exact o_loadB 2 rfl rfl rfl | exact o_loadB 3 rfl rfl rfl | exact o_loadB 4 rfl rfl rfl | exact o_loadBA 0 rfl rfl rfl | exact o_loadBA 1 rfl rfl rfl | exact o_loadBA 2 rfl rfl rfl | exact o_loadBA 3 rfl rfl rfl) rfl ?_
    | refine tl_pick (by first | exact o_pick_t rfl rfl | exact o_pick_f rfl rfl) rfl ?_
    | refine tl_bin (by first | exact o_add64 rfl rfl (by omega) | exact o_sub64 rfl rfl (by omega) | exact o_mul64 rfl rfl (by first | assumption | omega)) rfl ?_
    | refine tl_store (by first | exact o_storeB 0 rfl rfl rfl rfl rfl | exact o_storeB 1 rfl rfl rfl rfl rfl | exact o_storeB 2 rfl rfl rfl rfl rfl | exact o_storeBA 0 rfl rfl rfl rfl rfl rfl | exact o_storeBA 1 rfl rfl rfl rfl rfl rfl | exact o_storeBA 2 rfl rfl rfl rfl rfl rfl) ?_
    | refine tl_box (o_box rfl rfl) rfl (fun _ => ?_)
    | refine tl_alloc rfl (fun _ => ?_)))
  refine t_cond rfl (fun h => ?_) (fun h => ?_)
  · simp at h
    (repeat' (first
      | refine t_seq ?_
      | refine t_region ?_
      | refine xt_then ?_
      | refine tl_nil ?_
      | refine t_block ?_
      | refine t_skip ?_
      | refine t_ret ?_
      | refine t_exit ?_
      | refine xt_blk ?_
      | refine xt_blk_exit ?_
      | refine xt_then_ret ?_
      | refine xt_then_exit ?_
      | refine xt_blk_ret ?_
      | refine xt_blk_other rfl ?_
      | refine xt_round_exit ?_
      | refine xt_round_ret ?_
      | refine tl_run tab rfl rfl ?_
      | refine tl_guard_yes rfl rfl ?_
      | refine tl_guard_no rfl rfl rfl rfl ?_
      | refine tl_guard_undef rfl rfl rfl ?_
      | refine tl_load (by first | exact o_loadB 0 rfl rfl rfl | exact o_loadB 1 rfl rfl rfl | exact o_loadB 2 rfl rfl rfl | exact o_loadB 3 rfl rfl rfl | exact o_loadB 4 rfl rfl rfl | exact o_loadBA 0 rfl rfl rfl | exact o_loadBA 1 rfl rfl rfl | exact o_loadBA 2 rfl rfl rfl | exact o_loadBA 3 rfl rfl rfl) rfl ?_
      | refine tl_pick (by first | exact o_pick_t rfl rfl | exact o_pick_f rfl rfl) rfl ?_
      | refine tl_bin (by first | exact o_add64 rfl rfl (by omega) | exact o_sub64 rfl rfl (by omega) | exact o_mul64 rfl rfl (by first | assumption | omega)) rfl ?_
      | refine tl_store (by first | exact o_storeB 0 rfl rfl rfl rfl rfl | exact o_storeB 1 rfl rfl rfl rfl rfl | exact o_storeB 2 rfl rfl rfl rfl rfl | exact o_storeBA 0 rfl rfl rfl rfl rfl rfl | exact o_storeBA 1 rfl rfl rfl rfl rfl rfl | exact o_storeBA 2 rfl rfl rfl rfl rfl rfl) ?_
      | refine tl_box (o_box rfl rfl) rfl (fun _ => ?_)
      | refine tl_alloc rfl (fun _ => ?_)))
    have em : min (k : Int) (n : Int) = (k : Int) := by omega
    rw [em]
    refine t_drawE 8 7 (Bf := St w [] [(b, pre 5 n (List.replicate k (.int .u8 46)))]) (Af := St w [] [(b, pre 5 n (List.replicate (k + min k (n - k)) (.int .u8 46)))]) (fun _ _ h => h.drew _) ?_ rfl rfl (by kernel_rfl) mixed (by kernel_rfl) rfl
    (repeat' (first
      | refine de_p tab rfl rfl ?_))
    apply de_v rfl
    · intro _ _
      exact o_sliceL rfl rfl (n := k) (by omega) (by omega)
    (repeat' (first
      | refine de_p tab rfl rfl ?_))
    apply de_v rfl
    · intro _ _
      exact o_sliceH rfl rfl (n := k) (by omega)
    (repeat' (first
      | refine de_p tab rfl rfl ?_))
    apply de_e
    · rw [← List.replicate_append_replicate]
      exact o_copyP (cs := List.replicate (min k (n - k)) (.int .u8 46)) rfl rfl (by simp) (by simp) (by simp; omega) (fun v hv => by rw [List.eq_of_mem_replicate hv]; rfl) (fun w' hw' j v hj => by rw [add_mk]; refine pre_cell hw' (List.mem_cons_self ..) ?_; rw [List.getElem?_replicate] at hj ⊢; split at hj <;> rename_i hh <;> simp at hj; rw [if_pos (by omega), hj])
    refine de_tail ?_
    simp only [List.length_replicate]
    refine tl_bin (o_add64 rfl rfl (by omega)) rfl ?_
    (repeat' (first
      | refine t_seq ?_
      | refine t_region ?_
      | refine xt_then ?_
      | refine tl_nil ?_
      | refine t_block ?_
      | refine t_skip ?_
      | refine t_ret ?_
      | refine t_exit ?_
      | refine xt_blk ?_
      | refine xt_blk_exit ?_
      | refine xt_then_ret ?_
      | refine xt_then_exit ?_
      | refine xt_blk_ret ?_
      | refine xt_blk_other rfl ?_
      | refine xt_round_exit ?_
      | refine xt_round_ret ?_
      | refine tl_run tab rfl rfl ?_
      | refine tl_guard_yes rfl rfl ?_
      | refine tl_guard_no rfl rfl rfl rfl ?_
      | refine tl_guard_undef rfl rfl rfl ?_
      | refine tl_load (by first | exact o_loadB 0 rfl rfl rfl | exact o_loadB 1 rfl rfl rfl | exact o_loadB 2 rfl rfl rfl | exact o_loadB 3 rfl rfl rfl | exact o_loadB 4 rfl rfl rfl | exact o_loadBA 0 rfl rfl rfl | exact o_loadBA 1 rfl rfl rfl | exact o_loadBA 2 rfl rfl rfl | exact o_loadBA 3 rfl rfl rfl) rfl ?_
      | refine tl_pick (by first | exact o_pick_t rfl rfl | exact o_pick_f rfl rfl) rfl ?_
      | refine tl_bin (by first | exact o_add64 rfl rfl (by omega) | exact o_sub64 rfl rfl (by omega) | exact o_mul64 rfl rfl (by first | assumption | omega)) rfl ?_
      | refine tl_store (by first | exact o_storeB 0 rfl rfl rfl rfl rfl | exact o_storeB 1 rfl rfl rfl rfl rfl | exact o_storeB 2 rfl rfl rfl rfl rfl | exact o_storeBA 0 rfl rfl rfl rfl rfl rfl | exact o_storeBA 1 rfl rfl rfl rfl rfl rfl | exact o_storeBA 2 rfl rfl rfl rfl rfl rfl) ?_
      | refine tl_box (o_box rfl rfl) rfl (fun _ => ?_)
      | refine tl_alloc rfl (fun _ => ?_)))
    refine xt_roundC (k + min k (n - k)) ⟨?_, rfl, rfl, rfl, trivial⟩ (by omega) (fun _ h => h) (by omega)
    show some _ = some _
    congr
  · simp at h
    (repeat' (first
      | refine t_seq ?_
      | refine t_region ?_
      | refine xt_then ?_
      | refine tl_nil ?_
      | refine t_block ?_
      | refine t_skip ?_
      | refine t_ret ?_
      | refine t_exit ?_
      | refine xt_blk ?_
      | refine xt_blk_exit ?_
      | refine xt_then_ret ?_
      | refine xt_then_exit ?_
      | refine xt_blk_ret ?_
      | refine xt_blk_other rfl ?_
      | refine xt_round_exit ?_
      | refine xt_round_ret ?_
      | refine tl_run tab rfl rfl ?_
      | refine tl_guard_yes rfl rfl ?_
      | refine tl_guard_no rfl rfl rfl rfl ?_
      | refine tl_guard_undef rfl rfl rfl ?_
      | refine tl_load (by first | exact o_loadB 0 rfl rfl rfl | exact o_loadB 1 rfl rfl rfl | exact o_loadB 2 rfl rfl rfl | exact o_loadB 3 rfl rfl rfl | exact o_loadB 4 rfl rfl rfl | exact o_loadBA 0 rfl rfl rfl | exact o_loadBA 1 rfl rfl rfl | exact o_loadBA 2 rfl rfl rfl | exact o_loadBA 3 rfl rfl rfl) rfl ?_
      | refine tl_pick (by first | exact o_pick_t rfl rfl | exact o_pick_f rfl rfl) rfl ?_
      | refine tl_bin (by first | exact o_add64 rfl rfl (by omega) | exact o_sub64 rfl rfl (by omega) | exact o_mul64 rfl rfl (by first | assumption | omega)) rfl ?_
      | refine tl_store (by first | exact o_storeB 0 rfl rfl rfl rfl rfl | exact o_storeB 1 rfl rfl rfl rfl rfl | exact o_storeB 2 rfl rfl rfl rfl rfl | exact o_storeBA 0 rfl rfl rfl rfl rfl rfl | exact o_storeBA 1 rfl rfl rfl rfl rfl rfl | exact o_storeBA 2 rfl rfl rfl rfl rfl rfl) ?_
      | refine tl_box (o_box rfl rfl) rfl (fun _ => ?_)
      | refine tl_alloc rfl (fun _ => ?_)))
    have e : k = n := by omega
    subst e
    refine xt_ret1S rfl rfl fun w' hw' => ?_
    obtain ⟨o, ho, hq⟩ := hw'.here _ (List.mem_cons_self ..)
    refine ⟨b, o, rfl, ?_, ho, hq⟩
    have := hw'.mine _ (List.mem_cons_self ..)
    simpa using this

theorem blank_calls (n : Nat) (hn : 1 ≤ n ∧ n ≤ 8192) (w : World) : Calls Try.prog 37 #[.int .i64 (n : Int)] w (Ret w fun v w' => ∃ b o, v = .slice (some ⟨b, 0, none⟩) n n ∧ w.heap.size ≤ b ∧ w'.heap[b]? = some o ∧ pre 5 n (List.replicate n (.int .u8 46)) o) := by
  refine calls_S (vs := [.int .i64 (n : Int)]) Try.func37 rfl Try.ntmps37 rfl ?_
  (repeat' (first
    | refine t_seq ?_
    | refine t_region ?_
    | refine xt_then ?_
    | refine tl_nil ?_
    | refine t_block ?_
    | refine t_skip ?_
    | refine t_ret ?_
    | refine t_exit ?_
    | refine xt_blk ?_
    | refine xt_blk_exit ?_
    | refine xt_then_ret ?_
    | refine xt_then_exit ?_
    | refine xt_blk_ret ?_
    | refine xt_blk_other rfl ?_
    | refine xt_round_exit ?_
    | refine xt_round_ret ?_
    | refine tl_run tab rfl rfl ?_
    | refine tl_guard_yes rfl rfl ?_
    | refine tl_guard_no rfl rfl rfl rfl ?_
    | refine tl_guard_undef rfl rfl rfl ?_
    | refine tl_load (by first | exact o_loadB 0 rfl rfl rfl | exact o_loadB 1 rfl rfl rfl | exact o_loadB 2 rfl rfl rfl | exact o_loadB 3 rfl rfl rfl | exact o_loadB 4 rfl rfl rfl | exact o_loadBA 0 rfl rfl rfl | exact o_loadBA 1 rfl rfl rfl | exact o_loadBA 2 rfl rfl rfl | exact o_loadBA 3 rfl rfl rfl) rfl ?_
    | refine tl_pick (by first | exact o_pick_t rfl rfl | exact o_pick_f rfl rfl) rfl ?_
    | refine tl_bin (by first | exact o_add64 rfl rfl (by omega) | exact o_sub64 rfl rfl (by omega) | exact o_mul64 rfl rfl (by first | assumption | omega)) rfl ?_
    | refine tl_store (by first | exact o_storeB 0 rfl rfl rfl rfl rfl | exact o_storeB 1 rfl rfl rfl rfl rfl | exact o_storeB 2 rfl rfl rfl rfl rfl | exact o_storeBA 0 rfl rfl rfl rfl rfl rfl | exact o_storeBA 1 rfl rfl rfl rfl rfl rfl | exact o_storeBA 2 rfl rfl rfl rfl rfl rfl) ?_
    | refine tl_box (o_box rfl rfl) rfl (fun _ => ?_)
    | refine tl_alloc rfl (fun _ => ?_)))
  refine tl_buildSlice (e := 5) [.int .u8 46] [.int .u8 46] rfl (fun w => run_bs (t := 65) (P := Try.prog) rfl [.int .u8 46] (by simp [Value.cells]) rfl w) rfl fun b => ?_
  (repeat' (first
    | refine t_seq ?_
    | refine t_region ?_
    | refine xt_then ?_
    | refine tl_nil ?_
    | refine t_block ?_
    | refine t_skip ?_
    | refine t_ret ?_
    | refine t_exit ?_
    | refine xt_blk ?_
    | refine xt_blk_exit ?_
    | refine xt_then_ret ?_
    | refine xt_then_exit ?_
    | refine xt_blk_ret ?_
    | refine xt_blk_other rfl ?_
    | refine xt_round_exit ?_
    | refine xt_round_ret ?_
    | refine tl_run tab rfl rfl ?_
    | refine tl_guard_yes rfl rfl ?_
    | refine tl_guard_no rfl rfl rfl rfl ?_
    | refine tl_guard_undef rfl rfl rfl ?_
    | refine tl_load (by first | exact o_loadB 0 rfl rfl rfl | exact o_loadB 1 rfl rfl rfl | exact o_loadB 2 rfl rfl rfl | exact o_loadB 3 rfl rfl rfl | exact o_loadB 4 rfl rfl rfl | exact o_loadBA 0 rfl rfl rfl | exact o_loadBA 1 rfl rfl rfl | exact o_loadBA 2 rfl rfl rfl | exact o_loadBA 3 rfl rfl rfl) rfl ?_
    | refine tl_pick (by first | exact o_pick_t rfl rfl | exact o_pick_f rfl rfl) rfl ?_
    | refine tl_bin (by first | exact o_add64 rfl rfl (by omega) | exact o_sub64 rfl rfl (by omega) | exact o_mul64 rfl rfl (by first | assumption | omega)) rfl ?_
    | refine tl_store (by first | exact o_storeB 0 rfl rfl rfl rfl rfl | exact o_storeB 1 rfl rfl rfl rfl rfl | exact o_storeB 2 rfl rfl rfl rfl rfl | exact o_storeBA 0 rfl rfl rfl rfl rfl rfl | exact o_storeBA 1 rfl rfl rfl rfl rfl rfl | exact o_storeBA 2 rfl rfl rfl rfl rfl rfl) ?_
    | refine tl_box (o_box rfl rfl) rfl (fun _ => ?_)
    | refine tl_alloc rfl (fun _ => ?_)))
  refine tl_ret (fun b => .slice (some ⟨b, 0, none⟩) n n) (fun b => [(b, pre 5 n (List.replicate n (.int .u8 46)))]) (fun w' hw' => repeat_calls n hn w' b 1 (hw'.lt (List.mem_cons_self ..)) (hw'.cell (List.mem_cons_self ..) 0)) rfl (fun w1 v w2 hs he ⟨b, o, hv, hb, hh, hq⟩ => ⟨b, hv, hs.addNew he hb hh hq⟩) rfl fun b2 => ?_
  (repeat' (first
    | refine t_seq ?_
    | refine t_region ?_
    | refine xt_then ?_
    | refine tl_nil ?_
    | refine t_block ?_
    | refine t_skip ?_
    | refine t_ret ?_
    | refine t_exit ?_
    | refine xt_blk ?_
    | refine xt_blk_exit ?_
    | refine xt_then_ret ?_
    | refine xt_then_exit ?_
    | refine xt_blk_ret ?_
    | refine xt_blk_other rfl ?_
    | refine xt_round_exit ?_
    | refine xt_round_ret ?_
    | refine tl_run tab rfl rfl ?_
    | refine tl_guard_yes rfl rfl ?_
    | refine tl_guard_no rfl rfl rfl rfl ?_
    | refine tl_guard_undef rfl rfl rfl ?_
    | refine tl_load (by first | exact o_loadB 0 rfl rfl rfl | exact o_loadB 1 rfl rfl rfl | exact o_loadB 2 rfl rfl rfl | exact o_loadB 3 rfl rfl rfl | exact o_loadB 4 rfl rfl rfl | exact o_loadBA 0 rfl rfl rfl | exact o_loadBA 1 rfl rfl rfl | exact o_loadBA 2 rfl rfl rfl | exact o_loadBA 3 rfl rfl rfl) rfl ?_
    | refine tl_pick (by first | exact o_pick_t rfl rfl | exact o_pick_f rfl rfl) rfl ?_
    | refine tl_bin (by first | exact o_add64 rfl rfl (by omega) | exact o_sub64 rfl rfl (by omega) | exact o_mul64 rfl rfl (by first | assumption | omega)) rfl ?_
    | refine tl_store (by first | exact o_storeB 0 rfl rfl rfl rfl rfl | exact o_storeB 1 rfl rfl rfl rfl rfl | exact o_storeB 2 rfl rfl rfl rfl rfl | exact o_storeBA 0 rfl rfl rfl rfl rfl rfl | exact o_storeBA 1 rfl rfl rfl rfl rfl rfl | exact o_storeBA 2 rfl rfl rfl rfl rfl rfl) ?_
    | refine tl_box (o_box rfl rfl) rfl (fun _ => ?_)
    | refine tl_alloc rfl (fun _ => ?_)))
  refine xt_ret1S rfl rfl fun w' hw' => ?_
  obtain ⟨o, ho, hq⟩ := hw'.here _ (List.mem_cons_self ..)
  refine ⟨b2, o, rfl, ?_, ho, hq⟩
  have := hw'.mine _ (List.mem_cons_self ..)
  simpa using this

end Go.Proofs.Ytbgolbkolcmldaa
