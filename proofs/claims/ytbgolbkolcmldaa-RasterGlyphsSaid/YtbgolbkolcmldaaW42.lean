/-
  'RasterFills', walked.
-/
import Derived.Test.YtbgolbkolcmldaaP19
namespace Go.Proofs.Ytbgolbkolcmldaa
open Go.RowKit
attribute [local irreducible] T TL Xt O Op1 Kt DV ObsB DE DW DW1 LoopQ LoopJ

set_option maxHeartbeats 1000000 in
theorem fills_calls (w : World) (A : Option Addr) (n cap : Nat) (ls : List Pts) (hL : Lines w (.slice A n cap) ls) : Calls Try.prog 11 #[.slice A n cap] w (Ret w fun v _ => v = .bool true) := by
  obtain ⟨hfl, hn5, hn10⟩ := near_len ls
  have hnin : Near (nearL ls) := fun p hp => near_in hp
  have hed := edgesAll_le (nearL ls)
  have heq := fills_eq hnin
  refine calls_S (vs := [.slice A n cap]) Try.func11 rfl Try.ntmps11 rfl ?_
  (repeat' (first|refine Za ?_|refine Zb ?_|refine Zc ?_|refine Zd ?_|refine Zu tab rfl rfl ?_|refine Zv rfl rfl ?_|(apply Yt;refine Yu ?_)|fail))
  refine tl_callR (Post := fun w1 v w2 => LinesI w1 w2 v (nearL ls)) (fun w1 hw1 => near_calls w1 A n cap ls (hL.to hw1.toExt)) rfl rfl ?_
  rintro w1 w2 v1 hw1 he1 hl1
  obtain ⟨rows1, ⟨A1, n1, c1, rfl, _⟩, _⟩ := id hl1
  (repeat' (first|refine Zv rfl rfl ?_|fail))
  refine tl_callR (Post := fun w1 v w2 => BmI w1 w2 v (fillB (nearL ls))) (fun w3 hw3 => fill_calls w3 _ _ _ (nearL ls) (hl1.at (hw3.sg fun p hp => by simp [hp])) (by omega)) rfl rfl ?_
  rintro w3 w4 v2 hw3 he3 ⟨rv2, rfl, hr2⟩
  obtain ⟨A2, n2, c2, rfl, _⟩ := id hr2
  (repeat' (first|refine Zu tab rfl rfl ?_|refine Zv rfl rfl ?_|fail))
  refine tl_callR (Post := fun w1 v w2 => LinesI w1 w2 v (nearL ls)) (fun w1 hw1 => near_calls w1 A n cap ls (hL.to hw1.toExt)) rfl rfl ?_
  rintro w5 w6 v3 hw5 he5 hl3
  obtain ⟨rows3, ⟨A3, n3, c3, rfl, _⟩, _⟩ := id hl3
  (repeat' (first|refine Zv rfl rfl ?_|fail))
  refine tl_callR (Post := fun w1 v w2 => BmI w1 w2 v (fillB (nearL ls))) (fun w7 hw7 => ?_) rfl rfl ?_
  · rw [heq]
    exact rfill_calls w7 _ _ _ (nearL ls) (hl3.at (hw7.sg fun p hp => by simp [hp])) hnin (by omega) (drops_len (by omega)) (crsR_ok hnin) (crsR_sorted hnin) (drops_bd hnin)
  rintro w7 w8 v4 hw7 he7 ⟨rv4, rfl, hr4⟩
  obtain ⟨A4, n4, c4, rfl, _⟩ := id hr4
  clear heq
  generalize fillB (nearL ls) = B at *
  (repeat' (first|refine Zv rfl rfl ?_|fail))
  refine tl_callV (u := .bool true) (fun wd hwd => ?_) rfl rfl ?_
  · have := same_calls wd _ _ B B ⟨_, rfl, (RdI.move hr2 (hwd.sg fun p hp => by simp [hp])).rd⟩ ⟨_, rfl, (RdI.move hr4 (hwd.sg fun p hp => by simp [hp])).rd⟩
    rw [show decide (Bm.same B B) = true by simp [Bm.same]] at this
    exact this
  (repeat' (first|refine Zc ?_|refine Zd ?_|refine Zg ?_|refine Zu tab rfl rfl ?_|(apply Ya;refine Yb ?_)|fail))
  exact xt_ret1S rfl rfl fun _ _ => rfl

end Go.Proofs.Ytbgolbkolcmldaa
