/-
  'RasterMoves', walked.
-/
import Derived.Test.YtbgolbkolcmldaaP10
import Derived.Test.YtbgolbkolcmldaaP11
import Derived.Test.YtbgolbkolcmldaaGI
namespace Go.Proofs.Ytbgolbkolcmldaa
open Go.RowKit
attribute [local irreducible] T TL Xt O Op1 Kt DV ObsB DE DW DW1 LoopQ LoopJ

set_option maxHeartbeats 1000000 in
theorem moves_calls (w : World) (A : Option Addr) (n cap : Nat) (ls : List Pts) (hL : Lines w (.slice A n cap) ls) (x y : Int) : Calls Try.prog 6 #[.slice A n cap, pt x y] w (Ret w fun v _ => v = .bool true) := by
  obtain ⟨hfl, hn5, hn10⟩ := near_len ls
  have hnin : ∀ p ∈ (nearL ls).flatten, -2048 ≤ p.1 ∧ p.1 ≤ 2047 ∧ -2048 ≤ p.2 ∧ p.2 ≤ 2047 := fun p hp => near_in hp
  refine calls_S (vs := [.slice A n cap, pt x y]) Try.func6 rfl Try.ntmps6 rfl ?_
  (repeat' (first|refine Za ?_|refine Zb ?_|refine Zc ?_|refine Zd ?_|refine Zu tab rfl rfl ?_|(apply Yg; first|refine Yh fun _=>?_|refine Yi (Yj rfl rfl) rfl fun _=>?_)|(apply Yt;refine Yu ?_)|fail))
  rename_i b3
  refine tl_callR (Post := fun w1 v w2 => LinesI w1 w2 v (nearL ls)) (fun w1 hw1 => near_calls w1 A n cap ls (hL.to hw1.toExt)) rfl rfl ?_
  rintro w1 w2 v1 hw1 he1 hl1
  obtain ⟨rows1, ⟨A1, n1, c1, rfl, _⟩, _⟩ := id hl1
  refine tl_rebase fun w3 hw3 => ?_
  have hl3 := hl1.at (hw3.sg fun p hp => by simp [hp])
  have hat3 := own_cl (b := b3) (cs := [.int .i64 x, .int .i64 y]) (t := 24) hw3 (by simp)
  have hx3 := hw3.toExt
  clear hl1 hw3 hw1 he1
  generalize hN : nearL ls = N at *
  have hn1 : n1 = N.length ∧ n1 ≤ 9223372036854775807 := by
    obtain ⟨rows, ⟨A', n', cap', he, h1, h2, h3, h4⟩, hl, _⟩ := hl3
    cases he
    unfold maxLen at h3
    omega
  (repeat' (first|refine Za ?_|refine Zb ?_|refine Zc ?_|refine Zd ?_|refine Zu tab rfl rfl ?_|(apply Zy;refine Zz ?_)|fail))
  refine tl_bin (o_mask 10 rfl rfl rfl rfl) rfl ?_
  (repeat' (first|refine Za ?_|refine Zb ?_|refine Zc ?_|refine Zd ?_|refine Zu tab rfl rfl ?_|(apply Zy;refine Zz ?_)|(apply Yc;refine Yd ?_)|fail))
  refine tl_bin (o_mask 10 rfl rfl rfl rfl) rfl ?_
  (repeat' (first|refine Za ?_|refine Zb ?_|refine Zc ?_|refine Zd ?_|refine Ze ?_|refine Zu tab rfl rfl ?_|(apply Yc;refine Yd ?_)|(apply Yv;refine Yw fun _=>?_)|fail))
  rename_i b26
  obtain ⟨dx, hdx⟩ : ∃ dx, x % (1023 + 1) - 512 = dx ∧ -512 ≤ dx ∧ dx ≤ 511 := ⟨_, rfl, by omega, by omega⟩
  obtain ⟨dy, hdy⟩ : ∃ dy, y % (1023 + 1) - 512 = dy ∧ -512 ≤ dy ∧ dy ≤ 511 := ⟨_, rfl, by omega, by omega⟩
  rw [hdx.1, hdy.1]
  have hq := moves_fill hnin ⟨hdx.2.1, hdx.2.2, hdy.2.1, hdy.2.2⟩
  have hbd := fill_bd hnin
  refine t_loopK [5, 6, 7, 8] (α := Nat × Value × List Value × HL × HL) (fun x => [(9, x.2.1), (10, .int .i64 x.1)]) (fun x => x.1 ≤ N.length ∧ OwnsV x.2.1 38 1 x.1 x.2.2.1 x.2.2.2.2 ∧ x.2.2.1.length = x.1 ∧ ∀ (j : Nat) (r : Value) (l : Pts), x.2.2.1[j]? = some r → N[j]? = some l → ∃ Lj, OwnsV r 24 2 l.length (ptCells (l.map (shPt dx dy))) Lj ∧ ∀ p ∈ Lj, p ∈ x.2.2.2.1) (fun x => x.2.2.2.1 ++ x.2.2.2.2) (fun x => N.length - x.1) (0, .slice (some ⟨b26, 0, none⟩) 0 0, [], [], [(b26, row 38 1 0 0 [])]) rfl ⟨rfl, rfl, trivial⟩ ⟨Nat.zero_le _, OwnsV.at_, rfl, fun j r l h => by simp at h⟩ (fun w h => ?_) ?_
  · exact St.headImp h fun o ho => bx_row0 ho
  rintro ⟨i, v, rs, Lr, Lv⟩ ⟨hi, hv, hrs, hrow⟩
  dsimp only at hi hv hrs hrow ⊢
  try dsimp only [List.cons_append, List.nil_append, List.map_cons, List.map_nil]
  (repeat' (first|refine Za ?_|refine Zb ?_|refine Zc ?_|refine Zd ?_|refine Zu tab rfl rfl ?_|fail))
  refine t_cond rfl (fun h => ?_) (fun h => ?_)
  · have hC : i < N.length := by have := of_decide_eq_true h; omega
    obtain ⟨l, hl⟩ : ∃ l, N[i]? = some l := ⟨N[i], List.getElem?_eq_getElem hC⟩
    obtain ⟨b, off, A2, n2, c2, rfl, hcl, hR⟩ := lines_cl hl3 hl
    have hn2 := row_len hR
    have hn3 := row_le hR
    have hl10 := hn10 l (List.mem_of_getElem? hl)
    subst hn2
    (repeat' (first|refine Za ?_|refine Zb ?_|refine Zc ?_|refine Zd ?_|refine Ze ?_|refine Zf ?_|refine Zu tab rfl rfl ?_|(apply Yv;refine Yw fun _=>?_)|fail))
    rename_i b33
    refine t_loopK [5, 6, 7, 8, 9, 10] (α := Nat × Value × HL) (fun x => [(11, x.2.1), (12, .int .i64 x.1)]) (fun x => x.1 ≤ l.length ∧ OwnsV x.2.1 24 2 x.1 (ptCells ((l.take x.1).map (shPt dx dy))) x.2.2) (fun x => Lr ++ Lv ++ x.2.2) (fun x => l.length - x.1) (0, .slice (some ⟨b33, 0, none⟩) 0 0, [(b33, row 24 2 0 0 [])]) rfl ⟨rfl, rfl, trivial⟩ ⟨Nat.zero_le _, OwnsV.at_⟩ (fun w h => ?_) ?_
    · exact (St.headImp h fun o ho => bx_row0 ho).perm (List.perm_append_comm (l₁ := [_]))
    rintro ⟨k, u, Lu⟩ ⟨hk, hu⟩
    dsimp only at hk hu ⊢
    try dsimp only [List.cons_append, List.nil_append, List.map_cons, List.map_nil]
    (repeat' (first|refine Za ?_|refine Zb ?_|refine Zc ?_|refine Zd ?_|refine Zu tab rfl rfl ?_|(apply Zy;refine Zz ?_)|(apply Yn;refine Yo ?_)|fail))
    refine t_cond rfl (fun h => ?_) (fun h => ?_)
    · have hkl : k < l.length := by have := of_decide_eq_true h; omega
      obtain ⟨p, hp⟩ : ∃ p, l[k]? = some p := ⟨l[k], List.getElem?_eq_getElem hkl⟩
      obtain ⟨b2, off2, rfl, hpc⟩ := row_cl hR hp
      have hpi := hnin p (List.mem_flatten.2 ⟨l, List.mem_of_getElem? hl, List.mem_of_getElem? hp⟩)
      (repeat' (first|refine Za ?_|refine Zc ?_|refine Ze ?_|refine Zf ?_|fail))
      refine t_drawWH 26 [(0, .v), (1, .v), (2, .v), (3, .v), (4, .v), (5, .v), (6, .v), (7, .v), (8, .v), (9, .v), (10, .v), (11, .v), (12, .v), (13, .v), (14, .v), (15, .v), (16, .v), (17, .v), (18, .v), (19, .v), (20, .v), (21, .v), (22, .v), (23, .v), (24, .e), (25, .h)] ?_ rfl (by kernel_rfl) (by kernel_rfl) rfl (by kernel_rfl) mixed (by kernel_rfl) rfl
      (repeat' (first|refine Yz rfl ?_|refine Vd tab ?_|(apply Vf;refine Vg ?_)|(apply Vj;refine Vk ?_)|(apply Vl;refine Vm ?_)|(apply Vn;refine Vo ?_)|(apply Vz;refine Ua fun _=>?_)|fail))
      refine dw_appH rfl rfl hu rfl rfl rfl (by omega) (by omega) rfl trivial fun v' Lv' hv' => ?_
      (repeat' (first|fail))
      refine dw_end [5, 6, 7, 8, 9, 10, 12, 68] (rest := []) rfl ?_
      (repeat' (first|refine Zb ?_|refine Zc ?_|refine Zd ?_|refine Zi ?_|refine Zu tab rfl rfl ?_|(apply Yc;refine Yd ?_)|fail))
      refine xt_roundK (k + 1, v', Lv') rfl ⟨rfl, rfl, trivial⟩ ⟨by dsimp only; omega, ?_⟩ (by dsimp only; omega) (fun w1 hw1 => hw1.perm List.perm_append_comm)
      dsimp only
      rw [List.take_add_one, hp, List.map_append, ptCells_append]
      exact hv'
    · have hkl : k = l.length := by have := of_decide_eq_false h; omega
      obtain ⟨A3, c3, rfl⟩ := hu.shape
      (repeat' (first|refine Zb ?_|refine Zc ?_|refine Zh ?_|refine Zj ?_|refine Zl ?_|refine Zq ?_|refine Zu tab rfl rfl ?_|(apply Yv;refine Yw fun _=>?_)|fail))
      rename_i b71
      refine tl_imp (I' := St w3 [] ((b71, bx [.slice A3 k c3] 38) :: ((Lr ++ Lu) ++ Lv))) (fun w1 hw1 => hw1.perm (List.Perm.cons _ (by rw [List.append_assoc, List.append_assoc]; exact List.perm_append_comm.append_left Lr))) ?_
      refine tl_app (Lr ++ Lu) rfl rfl hv rfl rfl rfl rfl rfl rfl (by omega) (by omega) fun b' cap' => ?_
      (repeat' (first|refine Zb ?_|refine Zc ?_|refine Zd ?_|refine Zi ?_|refine Zu tab rfl rfl ?_|(apply Yc;refine Yd ?_)|fail))
      refine xt_roundK (i + 1, .slice (some ⟨b', 0, none⟩) (i + 1) cap', rs ++ [.slice A3 k c3], Lr ++ Lu, [(b', row 38 1 (i + 1) cap' (rs ++ [.slice A3 k c3]))]) rfl ⟨rfl, rfl, trivial⟩ ⟨by dsimp only; omega, OwnsV.at_, by simp [hrs], fun j r l' h1 h2 => ?_⟩ (by dsimp only; omega) (fun w1 hw1 => hw1)
      dsimp only at h1 ⊢
      by_cases hj : j < rs.length
      · rw [List.getElem?_append_left hj] at h1
        obtain ⟨Lj, hj1, hj2⟩ := hrow j r l' h1 h2
        exact ⟨Lj, hj1, fun p hp => List.mem_append_left _ (hj2 p hp)⟩
      · have hlt := (List.getElem?_eq_some_iff.1 h1).1
        simp at hlt
        obtain rfl : j = i := by omega
        rw [List.getElem?_append_right (by omega), hrs, Nat.sub_self] at h1
        simp at h1
        subst h1
        rw [hl] at h2
        cases h2
        refine ⟨Lu, ?_, fun p hp => List.mem_append_right _ hp⟩
        subst hkl
        rwa [List.take_length] at hu
  · have hiN : i = N.length := by have := of_decide_eq_false h; omega
    refine t_rebase fun w4 hw4 => ?_
    have hl4 := hl3.to hw4.toExt
    have ho4 : Lines w4 v (shL dx dy N) := by
      refine lines_own hv hw4 (fun p hp => List.mem_append_right _ hp) (by rw [hrs, hiN, shL, List.length_map]) fun j r l h1 h2 => ?_
      rw [shL, List.getElem?_map] at h2
      obtain ⟨l0, hl0, rfl⟩ := Option.map_eq_some_iff.1 h2
      obtain ⟨Lj, hj1, hj2⟩ := hrow j r l0 h1 hl0
      exact (hj1.rdI hw4 fun p hp => List.mem_append_left _ (hj2 p hp)).rd
    have hx4 := hx3.trans hw4.toExt
    obtain ⟨A5, c5, rfl⟩ := hv.shape
    have hedN := edgesAll_le N
    have hedR := edgesAll_le (shL dx dy N)
    have hfs : (shL dx dy N).flatten.length = N.flatten.length := by simp [shL, List.length_flatten, Function.comp_def]
    clear hl3 hat3 hw4 hrow hv
    have hsm := fill_small N
    generalize hBN : fillB N = B at *
    (repeat' (first|refine Za ?_|refine Zb ?_|refine Zc ?_|refine Zh ?_|refine Zj ?_|refine Zl ?_|refine Zq ?_|refine Zu tab rfl rfl ?_|fail))
    refine tl_callR (Post := fun w1 v w2 => BmI w1 w2 v B) (fun w5 hw5 => ?_) rfl rfl ?_
    · rw [← hBN]
      exact fill_calls w5 _ _ _ N (hl4.to hw5.toExt) (by omega)
    rintro w5 w6 v6 hw5 he5 ⟨rv6, rfl, hr6⟩
    obtain ⟨A6, n6, c6, rfl, _⟩ := id hr6
    (repeat' (first|refine Za ?_|refine Zb ?_|refine Zc ?_|refine Zd ?_|refine Zu tab rfl rfl ?_|(apply Ye;refine Yf ?_)|refine Yk rfl fun _=>?_|fail))
    rename_i b13
    refine tl_callR (Post := fun w1 v w2 => BmI w1 w2 v (fillB (shL dx dy N))) (fun w7 hw7 => fill_calls w7 _ _ _ (shL dx dy N) (ho4.to hw7.toExt) (by omega)) rfl rfl ?_
    rintro w7 w8 v8 hw7 he7 ⟨rv8, rfl, hr8⟩
    obtain ⟨A8, n8, c8, rfl, _⟩ := id hr8
    generalize hBM : fillB (shL dx dy N) = C at *
    (repeat' (first|refine Za ?_|refine Zb ?_|refine Zc ?_|refine Zd ?_|refine Zu tab rfl rfl ?_|(apply Zy;refine Zz ?_)|(apply Ye;refine Yf ?_)|refine Yk rfl fun _=>?_|fail))
    rename_i b14
    refine t_cond rfl (fun h => ?_) (fun h => ?_)
    · have hW0 : B.W = 0 := of_decide_eq_true h
      have hC : C = Bm.nil := by rw [hq.1, if_pos hW0]
      (repeat' (first|refine Za ?_|refine Zb ?_|refine Zu tab rfl rfl ?_|refine Zv rfl rfl ?_|(apply Zy;refine Zz ?_)|(apply Yl;refine Ym ?_)|fail))
      refine tl_callV (u := .bool true) (fun wb hwb => ?_) rfl rfl ?_
      · have := same_calls wb _ _ C Bm.nil ⟨_, rfl, (RdI.move hr8 (hwb.sg fun p hp => by simp [hp])).rd⟩ ⟨_, rfl, (nil_rdI 0 0 wb 1).rd⟩
        have e : decide (Bm.same C Bm.nil) = true := by rw [hC]; simp [Bm.same]
        rw [e] at this
        exact this
      (repeat' (first|refine Zc ?_|refine Zd ?_|refine Zg ?_|refine Zk ?_|refine Zu tab rfl rfl ?_|(apply Ya;refine Yb ?_)|fail))
      exact xt_ret1 rfl rfl fun wc hwc => ⟨_, rfl, hx4.trans hwc.toExt, rfl⟩
    · have hW0 : B.W ≠ 0 := of_decide_eq_false h
      have hC := hq.1
      rw [if_neg hW0] at hC
      (repeat' (first|refine Za ?_|refine Zb ?_|refine Zc ?_|refine Zd ?_|refine Zf ?_|refine Zu tab rfl rfl ?_|(apply Zy;refine Zz ?_)|(apply Yc;refine Yd ?_)|(apply Ye;refine Yf ?_)|fail))
      refine t_drawW 14 [(0, .v), (1, .v), (2, .v), (3, .v), (4, .e), (5, .v), (6, .v), (7, .v), (8, .v), (10, .v), (11, .v), (13, .v), (9, .e), (12, .e)] ?_ rfl (by kernel_rfl) (by kernel_rfl) rfl (by kernel_rfl) mixed (by kernel_rfl) rfl
      (repeat' (first|refine Yz rfl ?_|refine Vd tab ?_|(apply Vf;refine Vg ?_)|fail))
      refine dw_callV (u := .bool true) (fun L' wb hwb => ?_) rfl rfl rfl rfl ?_
      · have := same_calls wb _ _ ⟨B.X + dx, B.Y + dy, B.W, B.H, B.rows⟩ C ⟨_, rfl, (RdI.move hr6 (hwb.sg fun p hp => by simp [hp])).rd⟩ ⟨_, rfl, (RdI.move hr8 (hwb.sg fun p hp => by simp [hp])).rd⟩
        have e : decide (Bm.same ⟨B.X + dx, B.Y + dy, B.W, B.H, B.rows⟩ C) = true := by rw [hC]; simp [Bm.same]
        rw [e] at this
        exact this
      (repeat' (first|refine Yz rfl ?_|refine Vd tab ?_|(apply Vf;refine Vg ?_)|(apply Vh;refine Vi ?_)|(apply Vn;refine Vo ?_)|fail))
      refine dw_callR (Post := fun w1 v w2 => BmI w1 w2 v B) (fun L' w9 hw9 => ?_) rfl rfl rfl ?_
      · rw [← hBN]
        exact fill_calls w9 _ _ _ N (hl4.to hw9.toExt) (by omega)
      rintro w9 wa va L9 hw9 he9 ⟨rva, rfl, hra⟩
      obtain ⟨Aa, na, ca, rfl, _⟩ := id hra
      (repeat' (first|refine Yz rfl ?_|fail))
      refine dw_callR (Post := fun w1 v w2 => BmI w1 w2 v C) (fun L' wb hwb => ?_) rfl rfl rfl ?_
      · rw [← hq.2]
        exact over_calls wb _ _ Bm.nil B ⟨_, rfl, (nil_rdI 0 0 wb 1).rd⟩ ⟨_, rfl, (RdI.move hra (hwb.sg fun p hp => by simp [hp])).rd⟩ ⟨by simp [Bm.nil], by simp [Bm.nil]⟩ hsm dx dy
      rintro wb wc vc Lb hwb heb ⟨rvc, rfl, hrc⟩
      obtain ⟨Ac, nc, cc, rfl, _⟩ := id hrc
      (repeat' (first|fail))
      refine dw_end [102, 108, 109] (rest := []) rfl ?_
      (repeat' (first|refine Zv rfl rfl ?_|fail))
      refine tl_callV (u := .bool true) (fun wd hwd => ?_) rfl rfl ?_
      · have := same_calls wd _ _ C C ⟨_, rfl, (RdI.move hrc (hwd.sg fun p hp => by simp [hp])).rd⟩ ⟨_, rfl, (RdI.move hr8 (hwd.sg fun p hp => by simp [hp])).rd⟩
        rw [show decide (Bm.same C C) = true by simp [Bm.same]] at this
        exact this
      (repeat' (first|refine Zc ?_|refine Zd ?_|refine Zg ?_|refine Zu tab rfl rfl ?_|(apply Ya;refine Yb ?_)|fail))
      exact xt_ret1 rfl rfl fun wc hwc => ⟨_, rfl, hx4.trans hwc.toExt, rfl⟩

end Go.Proofs.Ytbgolbkolcmldaa
