/-
  'RasterParts', walked.
-/
import Derived.Test.YtbgolbkolcmldaaP11
import Derived.Test.YtbgolbkolcmldaaP12
import Derived.Test.YtbgolbkolcmldaaGI
namespace Go.Proofs.Ytbgolbkolcmldaa
open Go.RowKit
attribute [local irreducible] T TL Xt O Op1 Kt DV ObsB DE DW DW1 LoopQ LoopJ

theorem tmod_in (a m : Int) (ha : 0 ≤ a) (hm : 0 < m) : 0 ≤ a.tmod m ∧ a.tmod m < m := by
  rw [Int.tmod_eq_emod_of_nonneg ha]
  exact ⟨Int.emod_nonneg _ (by omega), Int.emod_lt_of_pos _ hm⟩
set_option maxHeartbeats 1000000 in
theorem parts_calls (w : World) (x0 : Int) (hx0 : fit x0) (x1 : Int) (hx1 : fit x1) (x2 : Int) (hx2 : fit x2) : Calls Try.prog 9 #[.int .i64 x0, .int .i64 x1, .int .i64 x2] w (Ret w fun v _ => v = .bool true) := by
  refine calls_S (vs := [.int .i64 x0, .int .i64 x1, .int .i64 x2]) Try.func9 rfl Try.ntmps9 rfl ?_
  (repeat' (first|refine Za ?_|refine Zb ?_|refine Zc ?_|refine Zd ?_|refine Zu tab rfl rfl ?_|(apply Yt;refine Yu ?_)|fail))
  refine tl_bin (o_mask 16 (m := 65535) rfl rfl m16 rfl) rfl ?_
  (repeat' (first|fail))
  refine tl_bin (o_rem rfl rfl (by omega)) rfl ?_
  have t0 := tmod_in (x0 % (65535 + 1)) 20 (Int.emod_nonneg _ (by omega)) (by omega)
  generalize (x0 % (65535 + 1)).tmod 20 = r0 at t0 ⊢
  obtain ⟨wd, hwd⟩ : ∃ wd : Int, 3 + r0 = wd ∧ 3 ≤ wd ∧ wd ≤ 22 := ⟨_, rfl, by omega, by omega⟩
  (repeat' (first|refine Za ?_|refine Zb ?_|refine Zc ?_|refine Zd ?_|refine Zu tab rfl rfl ?_|(apply Yc;refine Yd ?_)|fail))
  rw [hwd.1]
  refine tl_bin (o_mask 16 (m := 65535) rfl rfl m16 rfl) rfl ?_
  (repeat' (first|fail))
  refine tl_bin (o_rem rfl rfl (by omega)) rfl ?_
  have t1 := tmod_in (x1 % (65535 + 1)) 20 (Int.emod_nonneg _ (by omega)) (by omega)
  generalize (x1 % (65535 + 1)).tmod 20 = r1 at t1 ⊢
  obtain ⟨h, hh⟩ : ∃ h : Nat, 1 + r1 = h ∧ 1 ≤ h ∧ h ≤ 20 := ⟨(1 + r1).toNat, by omega, by omega, by omega⟩
  (repeat' (first|refine Za ?_|refine Zb ?_|refine Zc ?_|refine Zd ?_|refine Zu tab rfl rfl ?_|(apply Yc;refine Yd ?_)|fail))
  rw [hh.1]
  refine tl_bin (o_mask 16 (m := 65535) rfl rfl m16 rfl) rfl ?_
  (repeat' (first|refine Zu tab rfl rfl ?_|(apply Yc;refine Yd ?_)|fail))
  refine tl_bin (o_rem rfl rfl (by omega)) rfl ?_
  have t2 := tmod_in (x2 % (65535 + 1)) (64 * wd - 127) (Int.emod_nonneg _ (by omega)) (by omega)
  generalize (x2 % (65535 + 1)).tmod (64 * wd - 127) = r2 at t2 ⊢
  obtain ⟨x, hx⟩ : ∃ x : Int, 64 + r2 = x ∧ 64 ≤ x ∧ x ≤ 64 * wd - 64 := ⟨_, rfl, by omega, by omega⟩
  (repeat' (first|refine Za ?_|refine Zb ?_|refine Zc ?_|refine Zd ?_|refine Zu tab rfl rfl ?_|(apply Yc;refine Yd ?_)|fail))
  rw [hx.1]
  obtain ⟨q1, q2, q3, q4, q5, q6, q7, q8, q9⟩ := parts_law hwd.2 hh.2 hx.2
  refine tl_callR (Post := fun w1 v w2 => RowI w1 w2 v (boxL 0 0 x (64 * h))) (fun w1 hw1 => lbox_calls 0 0 x (64 * h) (by omega) (by omega) (by omega) (by omega) w1) rfl rfl ?_
  rintro w1 w2 v1 hw1 he1 hr1
  obtain ⟨A1, n1, c1, rfl, _⟩ := id hr1
  (repeat' (first|(apply Yv;refine Yw fun _=>?_)|fail))
  rename_i b1
  refine tl_callR (Post := fun w1 v w2 => BmI w1 w2 v (fillB [boxL 0 0 x (64 * h)])) (fun w3 hw3 => ?_) rfl rfl ?_
  · exact fill_calls w3 _ _ _ [boxL 0 0 x (64 * h)] (lines_one (hw3.get (List.mem_cons_self ..)) (RdI.move hr1 (hw3.sg fun p hp => by simp [hp])).rd) (Nat.le_trans (edgesAll_le _) (by simp [boxL]))
  rintro w3 w4 v2 hw3 he3 ⟨rv2, rfl, hr2⟩
  obtain ⟨A2, n2, c2, rfl, _⟩ := id hr2
  have s1 := fill_small [boxL 0 0 x (64 * h)]
  generalize fillB [boxL 0 0 x (64 * h)] = B1 at *
  (repeat' (first|refine Za ?_|refine Zb ?_|refine Zc ?_|refine Zd ?_|refine Zu tab rfl rfl ?_|(apply Yc;refine Yd ?_)|(apply Ye;refine Yf ?_)|refine Yk rfl fun _=>?_|fail))
  rename_i a1
  refine tl_callR (Post := fun w1 v w2 => RowI w1 w2 v (boxL x 0 (64 * wd - x) (64 * h))) (fun w1 hw1 => lbox_calls x 0 (64 * wd - x) (64 * h) (by omega) (by omega) (by omega) (by omega) w1) rfl rfl ?_
  rintro w5 w6 v3 hw5 he5 hr3
  obtain ⟨A3, n3, c3, rfl, _⟩ := id hr3
  (repeat' (first|(apply Yv;refine Yw fun _=>?_)|fail))
  rename_i b2
  refine tl_callR (Post := fun w1 v w2 => BmI w1 w2 v (fillB [boxL x 0 (64 * wd - x) (64 * h)])) (fun w7 hw7 => ?_) rfl rfl ?_
  · exact fill_calls w7 _ _ _ [boxL x 0 (64 * wd - x) (64 * h)] (lines_one (hw7.get (List.mem_cons_self ..)) (RdI.move hr3 (hw7.sg fun p hp => by simp [hp])).rd) (Nat.le_trans (edgesAll_le _) (by simp [boxL]))
  rintro w7 w8 v4 hw7 he7 ⟨rv4, rfl, hr4⟩
  obtain ⟨A4, n4, c4, rfl, _⟩ := id hr4
  have s2 := fill_small [boxL x 0 (64 * wd - x) (64 * h)]
  generalize fillB [boxL x 0 (64 * wd - x) (64 * h)] = B2 at *
  (repeat' (first|refine Za ?_|refine Zb ?_|refine Zc ?_|refine Zd ?_|refine Zu tab rfl rfl ?_|(apply Yc;refine Yd ?_)|(apply Ye;refine Yf ?_)|refine Yk rfl fun _=>?_|fail))
  rename_i a2
  refine tl_callR (Post := fun w1 v w2 => RowI w1 w2 v (boxL 0 0 (64 * wd) (64 * h))) (fun w1 hw1 => lbox_calls 0 0 (64 * wd) (64 * h) (by omega) (by omega) (by omega) (by omega) w1) rfl rfl ?_
  rintro w9 wa v5 hw9 he9 hr5
  obtain ⟨A5, n5, c5, rfl, _⟩ := id hr5
  (repeat' (first|(apply Yv;refine Yw fun _=>?_)|fail))
  rename_i b3
  refine tl_callR (Post := fun w1 v w2 => BmI w1 w2 v (fillB [boxL 0 0 (64 * wd) (64 * h)])) (fun wb hwb => ?_) rfl rfl ?_
  · exact fill_calls wb _ _ _ [boxL 0 0 (64 * wd) (64 * h)] (lines_one (hwb.get (List.mem_cons_self ..)) (RdI.move hr5 (hwb.sg fun p hp => by simp [hp])).rd) (Nat.le_trans (edgesAll_le _) (by simp [boxL]))
  rintro wb wc v6 hwb heb ⟨rv6, rfl, hr6⟩
  obtain ⟨A6, n6, c6, rfl, _⟩ := id hr6
  generalize fillB [boxL 0 0 (64 * wd) (64 * h)] = B3 at *
  (repeat' (first|refine Za ?_|refine Zc ?_|refine Zd ?_|(apply Ye;refine Yf ?_)|refine Yk rfl fun _=>?_|fail))
  rename_i a3
  refine t_drawW 36 [(0, .v), (1, .v), (2, .v), (3, .v), (5, .v), (4, .e), (6, .e), (7, .v), (8, .v), (9, .v), (10, .v), (11, .v), (12, .v), (13, .v), (14, .v), (15, .v), (16, .v), (17, .v), (18, .v), (19, .v), (20, .v), (21, .v), (22, .v), (23, .v), (24, .v), (25, .v), (26, .v), (27, .v), (28, .v), (29, .v), (30, .v), (31, .v), (32, .v), (33, .v), (34, .v), (35, .v)] ?_ rfl (by kernel_rfl) (by kernel_rfl) rfl (by kernel_rfl) mixed (by kernel_rfl) rfl
  (repeat' (first|refine Yz rfl ?_|refine Vd tab ?_|(apply Vf;refine Vg ?_)|fail))
  refine dw_callR (Post := fun w1 v w2 => BmI w1 w2 v B3) (fun L' wd' hwd' => ?_) rfl rfl rfl ?_
  · rw [← q1]
    exact over_calls wd' _ _ B1 B2 ⟨_, rfl, (RdI.move hr2 (hwd'.sg fun p hp => by simp [hp])).rd⟩ ⟨_, rfl, (RdI.move hr4 (hwd'.sg fun p hp => by simp [hp])).rd⟩ s1 s2 0 0
  rintro wd' we v7 L7 hwd' hed ⟨rv7, rfl, hr7⟩
  obtain ⟨A7, n7, c7, rfl, _⟩ := id hr7
  (repeat' (first|refine Yz rfl ?_|fail))
  refine dw_callV (u := .bool true) (fun L' wf hwf => ?_) rfl rfl rfl rfl ?_
  · have := same_calls wf _ _ B3 B3 ⟨_, rfl, (RdI.move hr7 (hwf.sg fun p hp => by simp [hp])).rd⟩ ⟨_, rfl, (RdI.move hr6 (hwf.sg fun p hp => by simp [hp])).rd⟩
    rw [show decide (Bm.same B3 B3) = true by simp [Bm.same]] at this
    exact this
  (repeat' (first|refine Yz rfl ?_|refine Vd tab ?_|(apply Vf;refine Vg ?_)|(apply Vh;refine Vi ?_)|fail))
  rw [show decide (B3.W = wd) = true from decide_eq_true q2]
  (repeat' (first|refine Yz rfl ?_|refine Vd tab ?_|(apply Vf;refine Vg ?_)|(apply Vh;refine Vi ?_)|fail))
  rw [show decide (B3.H = (h : Int)) = true from decide_eq_true q3]
  (repeat' (first|refine Yz rfl ?_|refine Vd tab ?_|(apply Vf;refine Vg ?_)|(apply Vh;refine Vi ?_)|(apply Vj;refine Vk ?_)|fail))
  rw [show decide (B1.W + B2.W = wd) = true from decide_eq_true q4]
  (repeat' (first|refine Yz rfl ?_|refine Vd tab ?_|(apply Vf;refine Vg ?_)|(apply Vh;refine Vi ?_)|fail))
  rw [show decide (B2.X = B1.W) = true from decide_eq_true q5]
  (repeat' (first|fail))
  refine dw_end [86] (rest := []) rfl ?_
  (repeat' (first|refine Zc ?_|refine Zd ?_|refine Zg ?_|refine Zu tab rfl rfl ?_|fail))
  exact xt_ret1S rfl rfl fun _ _ => rfl

end Go.Proofs.Ytbgolbkolcmldaa
