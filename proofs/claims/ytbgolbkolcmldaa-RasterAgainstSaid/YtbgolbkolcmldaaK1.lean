/-
  What the sort asks of the closure that compares crossings, walked with the kit's own words.
-/
import Derived.Test.YtbgolbkolcmldaaW14
import Derived.WalkKit
import Derived.Outline
namespace Go.Proofs.Ytbgolbkolcmldaa
open Go.RowKit

theorem isNaN_k (n : Int) (w : World) : Calls Try.prog 87 #[.int .i64 n] w fun e w' => e = .returned (.bool false) ∧ w = w' := by
  go_enter Try.func87, Try.ntmps87
  go_wp2
  go_ret
  exact ⟨rfl, rfl⟩

theorem cmp_k (a b : Int) (w : World) : Calls Try.prog 74 #[.int .i64 a, .int .i64 b] w fun e w' => e = .returned (.int .i64 (cmpI a b)) ∧ w = w' := by
  by_cases h1 : a < b
  · go_enter Try.func74, Try.ntmps74
    go_wp2_with (go_at_call 87; refine (isNaN_k _ _).mono ?_; rintro e w' ⟨rfl, rfl⟩)
    go_ret
    exact ⟨by simp [cmpI, h1], rfl⟩
  · by_cases h2 : b < a
    · go_enter Try.func74, Try.ntmps74
      go_wp2_with (go_at_call 87; refine (isNaN_k _ _).mono ?_; rintro e w' ⟨rfl, rfl⟩)
      go_ret
      exact ⟨by simp [cmpI, h1, h2], rfl⟩
    · go_enter Try.func74, Try.ntmps74
      go_wp2_with (go_at_call 87; refine (isNaN_k _ _).mono ?_; rintro e w' ⟨rfl, rfl⟩)
      go_ret
      exact ⟨by unfold cmpI; rw [if_neg (by omega), if_neg (by omega)]; rfl, rfl⟩

theorem compare_k (n e m f : Int) (h1 : -9223372036854775808 ≤ n * f ∧ n * f ≤ 9223372036854775807) (h2 : -9223372036854775808 ≤ m * e ∧ m * e ≤ 9223372036854775807) (w : World) : Calls Try.prog 45 #[pl n e, pl m f] w fun r w' => r = .returned (.int .i64 (cmpI (n * f) (m * e))) ∧ w' = (w.alloc (.cells #[.int .i64 n, .int .i64 e] 71)).alloc (.cells #[.int .i64 m, .int .i64 f] 71) := by
  have e1 := fits64 h1
  have e2 := fits64 h2
  go_enter Try.func45, Try.ntmps45
  go_wp2_with (go_at_call 74; refine (cmp_k _ _ _).mono ?_; rintro e w' ⟨rfl, rfl⟩)
  go_ret
  exact ⟨rfl, rfl⟩

theorem closure_k (a b : Cr) (h1 : -9223372036854775808 ≤ a.n * b.d ∧ a.n * b.d ≤ 9223372036854775807) (h2 : -9223372036854775808 ≤ b.n * a.d ∧ b.n * a.d ≤ 9223372036854775807) (w : World) : Calls Try.prog 64 #[.agg (crCells a).toArray, .agg (crCells b).toArray] w fun r w' => r = .returned (.int .i64 (cmpI (a.n * b.d) (b.n * a.d))) ∧ ∃ o1 o2 o3 o4, w' = (((w.alloc o1).alloc o2).alloc o3).alloc o4 := by
  obtain ⟨an, ad, at_⟩ := a
  obtain ⟨bn, bd, bt⟩ := b
  simp only at h1 h2
  have hc := fun w => compare_k an ad bn bd h1 h2 w
  unfold crCells
  go_enter Try.func64, Try.ntmps64
  go_wp2_with (go_at_call 45; refine (hc _).mono ?_; rintro e w' ⟨rfl, rfl⟩)
  go_ret
  exact ⟨rfl, _, _, _, _, rfl⟩

end Go.Proofs.Ytbgolbkolcmldaa
