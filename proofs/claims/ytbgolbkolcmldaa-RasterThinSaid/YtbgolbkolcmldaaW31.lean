/-
  'RasterThin', walked.
-/
import Derived.Test.YtbgolbkolcmldaaP15
namespace Go.Proofs.Ytbgolbkolcmldaa
open Go.RowKit
attribute [local irreducible] T TL Xt O Op1 Kt DV ObsB DE DW DW1 LoopQ LoopJ

set_option maxHeartbeats 1000000 in
theorem thin_calls (w : World) (x0 y0 x1 y1 : Int) : Calls Try.prog 8 #[pt x0 y0, pt x1 y1] w (Ret w fun v _ => v = .bool true) := by
  refine calls_S (vs := [pt x0 y0, pt x1 y1]) Try.func8 rfl Try.ntmps8 rfl ?_
  (repeat' (first|refine Za ?_|refine Zb ?_|refine Zc ?_|refine Zd ?_|refine Zu tab rfl rfl ?_|(apply Zy;refine Zz ?_)|(apply Yg; first|refine Yh fun _=>?_|refine Yi (Yj rfl rfl) rfl fun _=>?_)|(apply Yt;refine Yu ?_)|(apply Yv;refine Yw fun _=>?_)|fail))
  rename_i b2 b3 b19 b20
  refine tl_callR (Post := fun w1 v w2 => LinesI w1 w2 v [[nrP (x0, y0), nrP (x1, y1)]]) (fun w1 hw1 => ?_) rfl rfl ?_
  · exact near_calls w1 _ _ _ [[(x0, y0), (x1, y1)]] (lines_one (hw1.get (List.mem_cons_self ..)) (bx_rdI hw1 (b := b19) (cs := ptCells [(x0, y0), (x1, y1)]) (List.mem_cons_of_mem _ (List.mem_cons_self ..)) rfl (by unfold maxLen; omega)).rd)
  rintro w1 w2 v1 hw1 he1 hl1
  obtain ⟨rows1, ⟨A1, n1, c1, rfl, _⟩, _⟩ := id hl1
  refine tl_rebase fun w3 hw3 => ?_
  have hl3 := hl1.at (hw3.sg fun p hp => by simp [hp])
  have hx3 := hw3.toExt
  clear hl1 hw3 hw1 he1
  have hp : -2048 ≤ (nrP (x0, y0)).1 ∧ (nrP (x0, y0)).1 ≤ 2047 ∧ -2048 ≤ (nrP (x0, y0)).2 ∧ (nrP (x0, y0)).2 ≤ 2047 := by simp only [nrP]; omega
  have hq : -2048 ≤ (nrP (x1, y1)).1 ∧ (nrP (x1, y1)).1 ≤ 2047 ∧ -2048 ≤ (nrP (x1, y1)).2 ∧ (nrP (x1, y1)).2 ≤ 2047 := by simp only [nrP]; omega
  generalize nrP (x0, y0) = p at *
  generalize nrP (x1, y1) = q at *
  obtain ⟨b, off, A3, n3, c3, rfl, hcl, hR⟩ := lines_cl (i := 0) hl3 rfl
  have hn3 : n3 = 2 := row_len hR
  obtain ⟨_, _, hn1, _⟩ := lines_src hl3
  obtain rfl : n1 = 1 := hn1
  subst hn3
  obtain ⟨b4, off4, rfl, hp0⟩ := row_cl (k := 0) hR rfl
  obtain ⟨b5, off5, he5, hp1⟩ := row_cl (k := 1) hR rfl
  cases he5
  have hlaw := thin_law hp hq
  (repeat' (first|refine Za ?_|refine Zb ?_|refine Zc ?_|refine Zd ?_|refine Zu tab rfl rfl ?_|(apply Zy;refine Zz ?_)|(apply Yc;refine Yd ?_)|(apply Ye;refine Yf ?_)|refine Yk rfl fun _=>?_|(apply Yl;refine Ym ?_)|(apply Yn;refine Yo ?_)|(apply Yv;refine Yw fun _=>?_)|fail))
  rename_i b7 b8 b40 b41
  refine tl_callR (Post := fun w1 v w2 => BmI w1 w2 v (fillB (thinL p q))) (fun w4 hw4 => ?_) rfl rfl ?_
  · exact fill_calls w4 _ _ _ (thinL p q) (lines_one (hw4.get (List.mem_cons_self ..)) (bx_rdI hw4 (b := b40) (cs := ptCells [p, (p.1 + 1, p.2), q]) (List.mem_cons_of_mem _ (List.mem_cons_self ..)) rfl (by unfold maxLen; omega)).rd) (Nat.le_trans (edgesAll_le _) (by simp [thinL]))
  rintro w4 w5 v2 hw4 he4 hb2
  refine tl_rebase fun w6 hw6 => ?_
  have hb6 := hb2.at (hw6.sg fun p hp => by simp [hp])
  have hc7 := own_cl (b := b7) (cs := [.int .i64 p.1, .int .i64 p.2]) (t := 24) hw6 (by simp)
  have hc8 := own_cl (b := b8) (cs := [.int .i64 q.1, .int .i64 q.2]) (t := 24) hw6 (by simp)
  have hx6 := hx3.trans hw6.toExt
  clear hl3 hb2 hw4 he4 hw6 hx3 hcl hR hp0 hp1
  obtain ⟨rv2, rfl, hr2⟩ := id hb6
  obtain ⟨A2, n2, c2, rfl, _⟩ := id hr2
  generalize fillB (thinL p q) = B at *
  (repeat' (first|refine Za ?_|refine Zb ?_|refine Zc ?_|refine Zd ?_|refine Ze ?_|refine Zu tab rfl rfl ?_|(apply Zy;refine Zz ?_)|(apply Ye;refine Yf ?_)|refine Yk rfl fun _=>?_|fail))
  rename_i b9
  refine t_loopK [5, 8, 9, 10, 11] (α := Nat) (fun j => [(12, .int .i64 (-33 + j))]) (fun j => j ≤ 67) (fun _ => [(b9, bx [.int .i64 B.X, .int .i64 B.Y, .int .i64 B.W, .int .i64 B.H, .slice A2 n2 c2] 30)]) (fun j => 67 - j) 0 rfl ⟨rfl, trivial⟩ (Nat.zero_le _) (fun w h => h) ?_
  intro j hj
  try dsimp only [List.cons_append, List.nil_append, List.map_cons, List.map_nil]
  (repeat' (first|refine Za ?_|refine Zb ?_|refine Zc ?_|refine Zd ?_|refine Zu tab rfl rfl ?_|fail))
  refine t_cond rfl (fun h => ?_) (fun h => ?_)
  · have hj2 : j < 67 := by have := of_decide_eq_true h; omega
    have hlk := hlaw (-33 + j)
    have ej : (-33 + (j : Int)) + 1 = -33 + ((j + 1 : Nat) : Int) := by omega
    (repeat' (first|refine Za ?_|refine Zb ?_|refine Zc ?_|refine Zd ?_|refine Ze ?_|refine Zf ?_|refine Zu tab rfl rfl ?_|(apply Yc;refine Yd ?_)|fail))
    generalize hkk : (-33 + (j : Int)) = k at *
    refine t_loopK [5, 8, 9, 10, 11, 12, 13] (α := Nat × Bool) (fun x => [(14, .bool x.2), (15, .int .i64 (-34 + x.1))]) (fun x => x.1 ≤ 69 ∧ (x.2 = true ↔ ∃ i : Int, (-34 ≤ i ∧ i < -34 + x.1) ∧ B.at i k = true)) (fun _ => [(b9, bx [.int .i64 B.X, .int .i64 B.Y, .int .i64 B.W, .int .i64 B.H, .slice A2 n2 c2] 30)]) (fun x => 69 - x.1) (0, false) rfl ⟨rfl, rfl, trivial⟩ ⟨Nat.zero_le _, ?_⟩ (fun w h => h) ?_
    · dsimp only
      refine ⟨fun h => (by cases h), ?_⟩
      rintro ⟨i, h1, _⟩
      omega
    rintro ⟨m, sm⟩ ⟨hm, hsm⟩
    dsimp only at hm hsm ⊢
    try dsimp only [List.cons_append, List.nil_append, List.map_cons, List.map_nil]
    (repeat' (first|refine Za ?_|refine Zb ?_|refine Zc ?_|refine Zd ?_|refine Zu tab rfl rfl ?_|fail))
    refine t_cond rfl (fun h => ?_) (fun h => ?_)
    · have hm2 : m < 69 := by have := of_decide_eq_true h; omega
      have em : (-34 + (m : Int)) + 1 = -34 + ((m + 1 : Nat) : Int) := by omega
      cases sm with
      | true =>
        (repeat' (first|refine Za ?_|refine Zb ?_|refine Zc ?_|refine Zd ?_|refine Ze ?_|refine Zf ?_|refine Zi ?_|refine Zu tab rfl rfl ?_|refine Zw rfl rfl rfl rfl ?_|(apply Ya;refine Yb ?_)|(apply Yc;refine Yd ?_)|fail))
        rw [em]
        refine xt_roundK (m + 1, true) rfl ⟨rfl, rfl, trivial⟩ ⟨by dsimp only; omega, ?_⟩ (by dsimp only; omega) (fun _ h => h)
        obtain ⟨i, h1, h2⟩ := hsm.1 rfl
        exact ⟨fun _ => ⟨i, by dsimp only; omega, h2⟩, fun _ => rfl⟩
      | false =>
        (repeat' (first|refine Za ?_|refine Zb ?_|refine Zc ?_|refine Ze ?_|refine Zf ?_|refine Zu tab rfl rfl ?_|refine Zv rfl rfl ?_|(apply Zy;refine Zz ?_)|fail))
        refine tl_callV (u := .bool (B.at (-34 + m) k)) (fun w7 hw7 => at_calls w7 _ B (hb6.to hw7.toExt) _ _) rfl rfl ?_
        (repeat' (first|refine Zb ?_|refine Zc ?_|refine Zd ?_|refine Zi ?_|refine Zu tab rfl rfl ?_|(apply Ya;refine Yb ?_)|(apply Yc;refine Yd ?_)|fail))
        rw [em]
        refine xt_roundK (m + 1, B.at (-34 + m) k) rfl ⟨rfl, rfl, trivial⟩ ⟨by dsimp only; omega, ?_⟩ (by dsimp only; omega) (fun _ h => h)
        dsimp only
        constructor
        · exact fun h => ⟨-34 + m, by omega, h⟩
        · rintro ⟨i, h1, h2⟩
          by_cases hi : i = -34 + m
          · rw [← hi]; exact h2
          · have := hsm.2 ⟨i, by omega, h2⟩
            cases this
    · have hm2 : m = 69 := by have := of_decide_eq_false h; omega
      subst hm2
      have hS : sm = true → min p.2 q.2 ≤ 64 * k + 32 ∧ 64 * k + 32 ≤ max p.2 q.2 := fun h => by
        obtain ⟨i, _, h2⟩ := hsm.1 h
        exact hlk.1 i h2
      have hNS : sm = false → ¬ (min p.2 q.2 ≤ 64 * k + 32 ∧ 64 * k + 32 < max p.2 q.2 ∧ 64 * k + 32 ≠ q.2) := fun h ⟨h1, h2, h3⟩ => by
        obtain ⟨i, h4, h5, h6⟩ := hlk.2 h1 h2 h3
        rw [hsm.2 ⟨i, by omega, h6⟩] at h
        cases h
      clear hsm hlk hlaw
      (repeat' (first|refine Za ?_|refine Zb ?_|refine Zc ?_|refine Zh ?_|refine Zj ?_|refine Zl ?_|refine Zq ?_|refine Zu tab rfl rfl ?_|fail))
      refine tl_if [5, 8, 9, 10, 11, 12] False rfl (fun Q' K => ?_) (fun hC => ?_) (fun hC => ?_)
      · have hcl8 := hc8.2 1 _ rfl
        cases sm with
        | true =>
          have hS2 := hS rfl
          (repeat' (first|refine Zd ?_|refine Zu tab rfl rfl ?_|refine Zv rfl rfl ?_|refine Zw rfl rfl rfl rfl ?_|refine Zx rfl rfl rfl ?_|(apply Ya;refine Yb ?_)|refine tl_guard rfl rfl rfl (fun _ => ?_) (fun _ => ?_)|fail))
          all_goals exact K _ _ rfl rfl (by simp_all <;> omega)
        | false =>
          have hNS2 := hNS rfl
          (repeat' (first|refine Zd ?_|refine Zu tab rfl rfl ?_|refine Zv rfl rfl ?_|refine Zw rfl rfl rfl rfl ?_|refine Zx rfl rfl rfl ?_|(apply Zy;refine Zz ?_)|(apply Ya;refine Yb ?_)|refine tl_guard rfl rfl rfl (fun _ => ?_) (fun _ => ?_)|fail))
          all_goals exact K _ _ rfl rfl (by simp_all <;> omega)
      · exact hC.elim
      · (repeat' (first|refine Zb ?_|refine Zc ?_|refine Zd ?_|refine Zf ?_|refine Zi ?_|refine Zu tab rfl rfl ?_|(apply Yc;refine Yd ?_)|fail))
        rw [ej]
        exact xt_roundK (j + 1) rfl ⟨rfl, trivial⟩ (by omega) (by omega) (fun _ h => h)
  · (repeat' (first|refine Za ?_|refine Zb ?_|refine Zc ?_|refine Zd ?_|refine Zg ?_|refine Zh ?_|refine Zj ?_|refine Zl ?_|refine Zq ?_|refine Zu tab rfl rfl ?_|fail))
    exact xt_ret1 rfl rfl fun wc hwc => ⟨_, rfl, hx6.trans hwc.toExt, rfl⟩

end Go.Proofs.Ytbgolbkolcmldaa
