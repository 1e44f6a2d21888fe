/-
  'RasterExact', walked.
-/
import Derived.Test.YtbgolbkolcmldaaP14
import Derived.Test.YtbgolbkolcmldaaP11
namespace Go.Proofs.Ytbgolbkolcmldaa
open Go.RowKit
attribute [local irreducible] T TL Xt O Op1 Kt DV ObsB DE DW DW1 LoopQ LoopJ

set_option maxHeartbeats 1000000 in
theorem exact_calls (w : World) (A : Option Addr) (n cap : Nat) (ls : List Pts) (hL : Lines w (.slice A n cap) ls) (x y : Int) : Calls Try.prog 3 #[.slice A n cap, pt x y] w (Ret w fun v _ => v = .bool true) := by
  obtain ⟨hfl, hn5, hn10⟩ := near_len ls
  have hnin : ∀ p ∈ (nearL ls).flatten, -2048 ≤ p.1 ∧ p.1 ≤ 2047 ∧ -2048 ≤ p.2 ∧ p.2 ≤ 2047 := fun p hp => near_in hp
  refine calls_S (vs := [.slice A n cap, pt x y]) Try.func3 rfl Try.ntmps3 rfl ?_
  (repeat' (first|refine Za ?_|refine Zb ?_|refine Zc ?_|refine Zd ?_|refine Zu tab rfl rfl ?_|(apply Yg; first|refine Yh fun _=>?_|refine Yi (Yj rfl rfl) rfl fun _=>?_)|(apply Yt;refine Yu ?_)|fail))
  rename_i b3
  refine tl_callR (Post := fun w1 v w2 => LinesI w1 w2 v (nearL ls)) (fun w1 hw1 => near_calls w1 A n cap ls (hL.to hw1.toExt)) rfl rfl ?_
  rintro w1 w2 v1 hw1 he1 hl1
  obtain ⟨rows1, ⟨A1, n1, c1, rfl, _⟩, _⟩ := id hl1
  refine tl_rebase fun w3 hw3 => ?_
  have hl3 := hl1.at (hw3.sg fun p hp => by simp [hp])
  have hat3 := own_cl (b := b3) (cs := [.int .i64 x, .int .i64 y]) (t := 24) hw3 (by simp)
  have hx3 := hw3.toExt
  clear hl1 hw3 hw1 he1
  generalize hN : nearL ls = N at *
  have hedN := edgesAll_le N
  (repeat' (first|refine Za ?_|refine Zb ?_|refine Zc ?_|refine Zd ?_|refine Zu tab rfl rfl ?_|(apply Zy;refine Zz ?_)|fail))
  refine tl_bin (o_mask 7 rfl rfl rfl rfl) rfl ?_
  (repeat' (first|refine Za ?_|refine Zb ?_|refine Zc ?_|refine Zd ?_|refine Zu tab rfl rfl ?_|(apply Zy;refine Zz ?_)|(apply Yc;refine Yd ?_)|fail))
  refine tl_bin (o_mask 7 rfl rfl rfl rfl) rfl ?_
  (repeat' (first|refine Za ?_|refine Zb ?_|refine Zc ?_|refine Zd ?_|refine Zu tab rfl rfl ?_|(apply Yc;refine Yd ?_)|fail))
  obtain ⟨i, hi⟩ : ∃ i, x % (127 + 1) - 64 = i ∧ -64 ≤ i ∧ i ≤ 63 := ⟨_, rfl, by omega, by omega⟩
  obtain ⟨k, hk⟩ : ∃ k, y % (127 + 1) - 64 = k ∧ -64 ≤ k ∧ k ≤ 63 := ⟨_, rfl, by omega, by omega⟩
  rw [hi.1, hk.1]
  have hat := fill_at hnin i k
  have hbw := blk_of_wind (ls := N) (i := i) (k := k) (by omega) (by omega)
  have hb2 := blk_two (ls := N) (i := i) (k := k)
  have hcl := crsR_len N k
  have hwb := wind_bd N (64 * i + 32) (64 * k + 32)
  refine tl_callR (Post := fun w1 v w2 => BmI w1 w2 v (fillB N)) (fun w5 hw5 => fill_calls w5 _ _ _ N (hl3.to hw5.toExt) (by omega)) rfl rfl ?_
  rintro w5 w6 v6 hw5 he5 ⟨rv6, rfl, hr6⟩
  obtain ⟨A6, n6, c6, rfl, _⟩ := id hr6
  generalize fillB N = B at *
  (repeat' (first|refine Zu tab rfl rfl ?_|fail))
  refine tl_callV (u := .bool (B.at i k)) (fun w7 hw7 => at_calls w7 _ B ⟨_, rfl, (RdI.move hr6 (hw7.sg fun p hp => by simp [hp])).rd⟩ i k) rfl rfl ?_
  generalize B.at i k = bl at *
  (repeat' (first|refine Za ?_|refine Zb ?_|refine Zc ?_|refine Zd ?_|refine Zu tab rfl rfl ?_|(apply Yc;refine Yd ?_)|(apply Yl;refine Ym ?_)|fail))
  refine tl_callV (u := .int .i64 (wind N (64 * i + 32) (64 * k + 32))) (fun w7 hw7 => winding_calls w7 _ _ _ N (hl3.to hw7.toExt) _ _ (by omega)) rfl rfl ?_
  generalize wind N (64 * i + 32) (64 * k + 32) = sm at *
  (repeat' (first|refine Za ?_|refine Zb ?_|refine Zc ?_|refine Zd ?_|refine Zu tab rfl rfl ?_|fail))
  refine tl_if [5, 6, 7, 8, 9, 10] (sm ≠ 0 ∨ bl = false) rfl (fun Q' K => ?_) (fun hC => ?_) (fun hC => ?_)
  · (repeat' (first|refine Zd ?_|refine Zu tab rfl rfl ?_|refine Zv rfl rfl ?_|refine Zw rfl rfl rfl rfl ?_|(apply Ya;refine Yb ?_)|refine tl_guard rfl rfl rfl (fun _ => ?_) (fun _ => ?_)|fail))
    all_goals exact K _ _ rfl rfl (by simp_all <;> omega)
  · cases bl with
    | true =>
      (repeat' (first|refine Za ?_|refine Zb ?_|refine Zc ?_|refine Zd ?_|refine Zg ?_|refine Zk ?_|refine Zu tab rfl rfl ?_|refine Zv rfl rfl ?_|refine Zw rfl rfl rfl rfl ?_|(apply Ya;refine Yb ?_)|fail))
      exact xt_ret1 rfl rfl fun wc hwc => ⟨_, rfl, hx3.trans hwc.toExt, rfl⟩
    | false =>
      have hs0 : sm = 0 := Classical.byContradiction fun h => by have := hat.2 (hbw h); cases this
      (repeat' (first|refine Za ?_|refine Zb ?_|refine Zc ?_|refine Zd ?_|refine Zg ?_|refine Zk ?_|refine Zu tab rfl rfl ?_|refine Zv rfl rfl ?_|(apply Ya;refine Yb ?_)|fail))
      rw [show decide (sm = 0) = true from decide_eq_true hs0]
      (repeat' (first|fail))
      exact xt_ret1 rfl rfl fun wc hwc => ⟨_, rfl, hx3.trans hwc.toExt, rfl⟩
  · have hbl : bl = true := by cases bl <;> simp_all
    have h2 := hb2 (hat.1 hbl)
    (repeat' (first|refine Za ?_|refine Zb ?_|refine Zc ?_|refine Zd ?_|refine Zf ?_|refine Zu tab rfl rfl ?_|(apply Yc;refine Yd ?_)|(apply Yl;refine Ym ?_)|fail))
    refine tl_callV (u := .int .i64 (wind N (64 * i - 33) (64 * k + 32))) (fun w7 hw7 => winding_calls w7 _ _ _ N (hl3.to hw7.toExt) _ _ (by omega)) rfl rfl ?_
    generalize wind N (64 * i - 33) (64 * k + 32) = was at *
    (repeat' (first|refine Za ?_|refine Zb ?_|refine Zc ?_|refine Zd ?_|refine Ze ?_|refine Zu tab rfl rfl ?_|(apply Yc;refine Yd ?_)|fail))
    refine t_loopK [5, 6, 7, 8] (α := Nat × Bool × Int) (fun x => [(11, .bool x.2.1), (12, .int .i64 x.2.2), (13, .int .i64 (64 * i - 32 + x.1))]) (fun x => x.1 ≤ 129) (fun _ => []) (fun x => 129 - x.1) (0, false, was) rfl ⟨rfl, rfl, ?_, trivial⟩ (Nat.zero_le _) (fun w h => h.sublist (List.nil_sublist _)) ?_
    · rw [show (64 * i - 32 + ((0 : Nat) : Int)) = 64 * i - 32 by omega]; rfl
    rintro ⟨j, ch, ws⟩ hj
    dsimp only at hj ⊢
    try dsimp only [List.cons_append, List.nil_append, List.map_cons, List.map_nil]
    (repeat' (first|refine Za ?_|refine Zb ?_|refine Zc ?_|refine Zd ?_|refine Zu tab rfl rfl ?_|(apply Yc;refine Yd ?_)|fail))
    refine t_cond rfl (fun h => ?_) (fun h => ?_)
    · have hj2 : j < 129 := by have := of_decide_eq_true h; omega
      (repeat' (first|refine Za ?_|refine Zb ?_|refine Zc ?_|refine Ze ?_|refine Zf ?_|refine Zu tab rfl rfl ?_|(apply Yc;refine Yd ?_)|(apply Yl;refine Ym ?_)|fail))
      refine tl_callV (u := .int .i64 (wind N (64 * i - 32 + j) (64 * k + 32))) (fun w7 hw7 => winding_calls w7 _ _ _ N (hl3.to hw7.toExt) _ _ (by omega)) rfl rfl ?_
      generalize wind N (64 * i - 32 + j) (64 * k + 32) = nw
      have ej : (64 * i - 32 + (j : Int)) + 1 = 64 * i - 32 + ((j + 1 : Nat) : Int) := by omega
      cases ch with
      | true =>
        (repeat' (first|refine Za ?_|refine Zb ?_|refine Zc ?_|refine Zd ?_|refine Zi ?_|refine Zu tab rfl rfl ?_|refine Zw rfl rfl rfl rfl ?_|(apply Ya;refine Yb ?_)|(apply Yc;refine Yd ?_)|fail))
        rw [ej]
        exact xt_roundK (j + 1, true, nw) rfl ⟨rfl, rfl, rfl, trivial⟩ (by dsimp only; omega) (by dsimp only; omega) (fun _ h => h)
      | false =>
        (repeat' (first|refine Za ?_|refine Zb ?_|refine Zc ?_|refine Zd ?_|refine Zi ?_|refine Zu tab rfl rfl ?_|refine Zv rfl rfl ?_|(apply Ya;refine Yb ?_)|(apply Yc;refine Yd ?_)|fail))
        rw [ej]
        exact xt_roundK (j + 1, _, nw) rfl ⟨rfl, rfl, rfl, trivial⟩ (by dsimp only; omega) (by dsimp only; omega) (fun _ h => h)
    · (repeat' (first|refine Za ?_|refine Zb ?_|refine Zc ?_|refine Zh ?_|refine Zj ?_|refine Zl ?_|refine Zq ?_|refine Zu tab rfl rfl ?_|(apply Yc;refine Yd ?_)|fail))
      refine tl_callR (Post := fun w v w' => ∃ v1 v2, v = .tuple #[v1, v2] ∧ RdI w.heap.size w'.heap.size w' 3 v1 ((crsR (64 * k + 32) N).flatMap pcCells) ∧ RdI w.heap.size w'.heap.size w' 1 v2 ((crsR (64 * k + 32) N).flatMap wyCell)) (fun w7 hw7 => crossings_calls w7 _ _ _ N (hl3.to hw7.toExt) _ (by omega) (by omega)) rfl rfl ?_
      rintro w7 w8 v7 hw7 he7 ⟨v8, v9, rfl, h8, h9⟩
      obtain ⟨A8, n8, c8, rfl, hl8, _⟩ := h8
      obtain ⟨A9, n9, c9, rfl, hl9, _⟩ := h9
      rw [flatMap_len pcCells 3 (fun _ => rfl)] at hl8
      have hn8 : 1 < (n8 : Int) := by omega
      cases ch with
      | true =>
        (repeat' (first|refine Za ?_|refine Zb ?_|refine Zc ?_|refine Zd ?_|refine Zg ?_|refine Zu tab rfl rfl ?_|refine Zv rfl rfl ?_|refine Zw rfl rfl rfl rfl ?_|(apply Ya;refine Yb ?_)|fail))
        exact xt_ret1 rfl rfl fun wc hwc => ⟨_, rfl, hx3.trans hwc.toExt, rfl⟩
      | false =>
        (repeat' (first|refine Za ?_|refine Zb ?_|refine Zc ?_|refine Zd ?_|refine Zg ?_|refine Zu tab rfl rfl ?_|refine Zv rfl rfl ?_|(apply Ya;refine Yb ?_)|fail))
        rw [show decide (1 < (n8 : Int)) = true from decide_eq_true hn8]
        (repeat' (first|fail))
        exact xt_ret1 rfl rfl fun wc hwc => ⟨_, rfl, hx3.trans hwc.toExt, rfl⟩

end Go.Proofs.Ytbgolbkolcmldaa
