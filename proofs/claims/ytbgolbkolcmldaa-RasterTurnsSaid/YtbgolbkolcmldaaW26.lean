/-
  'RasterTurns', walked.
-/
import Derived.Test.YtbgolbkolcmldaaP8
import Derived.Test.YtbgolbkolcmldaaGI
namespace Go.Proofs.Ytbgolbkolcmldaa
open Go.RowKit
attribute [local irreducible] T TL Xt O Op1 Kt DV ObsB DE DW DW1 LoopQ LoopJ

set_option maxHeartbeats 1000000 in
theorem turns_calls (w : World) (A : Option Addr) (n cap : Nat) (l0 : Pts) (hR0 : Row w (.slice A n cap) l0) (fm : Int) (hfm : fit fm) (tm : Int) (htm : fit tm) : Calls Try.prog 4 #[.slice A n cap, .int .i64 fm, .int .i64 tm] w (Ret w fun v _ => v = .bool true) := by
  obtain ⟨hfl, hn5, hn10⟩ := near_len [l0]
  have hnin : ∀ p ∈ nrL l0, -2048 ≤ p.1 ∧ p.1 ≤ 2047 ∧ -2048 ≤ p.2 ∧ p.2 ≤ 2047 := fun p hp => near_in (ls := [l0]) (by simpa [nearL] using hp)
  have hlen : (nrL l0).length ≤ 10 := hn10 _ (by simp [nearL])
  refine calls_S (vs := [.slice A n cap, .int .i64 fm, .int .i64 tm]) Try.func4 rfl Try.ntmps4 rfl ?_
  (repeat' (first|refine Za ?_|refine Zb ?_|refine Zc ?_|refine Zd ?_|refine Zu tab rfl rfl ?_|(apply Yt;refine Yu ?_)|(apply Yv;refine Yw fun _=>?_)|fail))
  rename_i b17
  refine tl_callR (Post := fun w1 v w2 => LinesI w1 w2 v [nrL l0]) (fun w1 hw1 => near_calls w1 _ _ _ [l0] (lines_one (hw1.get (List.mem_cons_self ..)) (hR0.ext hw1.toExt))) rfl rfl ?_
  rintro w1 w2 v1 hw1 he1 hl1
  obtain ⟨rows1, ⟨A1, n1, c1, rfl, _⟩, _⟩ := id hl1
  refine tl_rebase fun w3 hw3 => ?_
  have hl3 := hl1.at (hw3.sg fun p hp => by simp [hp])
  have hx3 := hw3.toExt
  clear hl1 hw3 hw1 he1
  generalize nrL l0 = N at *
  have hedN := edgesAll_le [N]
  simp only [List.flatten_cons, List.flatten_nil, List.append_nil] at hedN
  (repeat' (first|refine Za ?_|refine Zb ?_|refine Zc ?_|refine Zd ?_|refine Zu tab rfl rfl ?_|fail))
  refine tl_callR (Post := fun w1 v w2 => BmI w1 w2 v (fillB [N])) (fun w4 hw4 => fill_calls w4 _ _ _ [N] (hl3.to hw4.toExt) (by omega)) rfl rfl ?_
  rintro w4 w5 v2 hw4 he4 hb2
  refine tl_rebase fun w6 hw6 => ?_
  have hb6 := hb2.at (hw6.sg fun p hp => by simp [hp])
  have hl6 := hl3.to hw6.toExt
  have hx6 := hx3.trans hw6.toExt
  clear hl3 hb2 hw4 he4 hw6 hx3
  obtain ⟨rv2, rfl, hr2⟩ := id hb6
  obtain ⟨A2, n2, c2, rfl, _⟩ := id hr2
  generalize hBq : fillB [N] = B at *
  obtain ⟨b, off, A3, n3, c3, rfl, hcl, hR⟩ := lines_cl (i := 0) hl6 rfl
  have hn3 := row_len hR
  have hn4 := row_le hR
  have hn1 := lines_src hl6
  obtain ⟨_, _, hn1, _⟩ := hn1
  subst hn3
  obtain rfl : n1 = 1 := hn1
  (repeat' (first|refine Za ?_|refine Zb ?_|refine Zc ?_|refine Zd ?_|refine Zu tab rfl rfl ?_|(apply Zy;refine Zz ?_)|(apply Ye;refine Yf ?_)|refine Yk rfl fun _=>?_|(apply Yn;refine Yo ?_)|fail))
  rename_i b9
  refine t_cond rfl (fun h => ?_) (fun h => ?_)
  · have hN0 : N = [] := by have := of_decide_eq_true h; exact List.length_eq_zero_iff.1 (by omega)
    subst hN0
    have hB0 : B = Bm.nil := by rw [← hBq]; exact fill_none rfl
    (repeat' (first|refine Za ?_|refine Zb ?_|refine Zu tab rfl rfl ?_|refine Zv rfl rfl ?_|(apply Zy;refine Zz ?_)|(apply Yl;refine Ym ?_)|fail))
    refine tl_callV (u := .bool true) (fun wb hwb => ?_) rfl rfl ?_
    · have := same_calls wb _ _ B Bm.nil (hb6.to hwb.toExt) ⟨_, rfl, (nil_rdI 0 0 wb 1).rd⟩
      have e : decide (Bm.same B Bm.nil) = true := by rw [hB0]; simp [Bm.same]
      rw [e] at this
      exact this
    (repeat' (first|refine Zc ?_|refine Zd ?_|refine Zg ?_|refine Zk ?_|refine Zu tab rfl rfl ?_|(apply Ya;refine Yb ?_)|fail))
    exact xt_ret1 rfl rfl fun wc hwc => ⟨_, rfl, hx6.trans hwc.toExt, rfl⟩
  · have hN0 : 0 < N.length := by have := of_decide_eq_false h; omega
    have hNe : N ≠ [] := fun h => by rw [h] at hN0; exact absurd hN0 (Nat.lt_irrefl 0)
    obtain ⟨_, _, _, he, hl1, hle, hmx, hcells⟩ := id hR
    cases he
    unfold maxLen at hmx
    obtain ⟨b2, off2, rfl, hb2, hc2⟩ := hcells hN0
    (repeat' (first|refine Za ?_|refine Zb ?_|refine Zc ?_|refine Zf ?_|refine Zu tab rfl rfl ?_|fail))
    refine tl_bin (o_mask 16 (m := 65535) rfl rfl m16 rfl) rfl ?_
    (repeat' (first|refine Zu tab rfl rfl ?_|(apply Zy;refine Zz ?_)|(apply Yn;refine Yo ?_)|fail))
    refine tl_bin (o_rem rfl rfl (by omega)) rfl ?_
    obtain ⟨J, hJ, hJl⟩ : ∃ J : Nat, (fm % (65535 + 1)).tmod (N.length : Int) = J ∧ J < N.length := by
      have h0 : 0 ≤ fm % (65535 + 1) := Int.emod_nonneg _ (by omega)
      have h1 : (fm % (65535 + 1)).tmod (N.length : Int) = (fm % (65535 + 1)) % (N.length : Int) := Int.tmod_eq_emod_of_nonneg h0
      have h2 := Int.emod_nonneg (fm % (65535 + 1)) (b := (N.length : Int)) (by omega)
      have h3 := Int.emod_lt_of_pos (fm % (65535 + 1)) (b := (N.length : Int)) (by omega)
      exact ⟨((fm % (65535 + 1)) % (N.length : Int)).toNat, by omega, by omega⟩
    rw [hJ]
    (repeat' (first|refine Za ?_|refine Zc ?_|refine Zd ?_|refine Zu tab rfl rfl ?_|fail))
    refine t_drawW 12 [(1, .v), (2, .v), (3, .v), (4, .v), (5, .v), (7, .v), (8, .v), (9, .v), (10, .v), (11, .v), (0, .e), (6, .h)] ?_ rfl (by kernel_rfl) (by kernel_rfl) rfl (by kernel_rfl) mixed (by kernel_rfl) rfl
    (repeat' (first|refine Yz rfl ?_|refine Vd tab ?_|(apply Vf;refine Vg ?_)|(apply Vl;refine Vm ?_)|fail))
    refine dw_opN rfl rfl (fun _ => o_sliceL (n := J) rfl rfl (by omega) (by omega)) ?_
    (repeat' (first|refine Yz rfl ?_|refine Vd tab ?_|(apply Vf;refine Vg ?_)|(apply Vl;refine Vm ?_)|fail))
    refine dw_opN rfl rfl (fun _ => o_sliceH (n := J) rfl rfl (by omega)) ?_
    (repeat' (first|refine Yz rfl ?_|(apply Vz;refine Ua fun _=>?_)|fail))
    refine dw_appE (news := ptCells (N.drop J)) rfl rfl (fun hpos => ⟨_, rfl, fun w7 L7 hw7 j u hj => ?_⟩) rfl (by rw [ptCells_length, List.length_drop]) (ptCells_one _) (by omega) (by omega) trivial fun b' cap' => ?_
    · rw [add_mk, hw7.oldCell (a := ⟨b2, off2 + J * 2 + j, none⟩) hb2 (by simp), Nat.add_assoc]
      exact hc2 _ _ (by rw [ptCells_drop, List.getElem?_drop] at hj; exact hj)
    (repeat' (first|fail))
    refine dw_end [2, 7, 9, 45, 50] (rest := []) rfl ?_
    refine tl_appA (w0 := w6) (X := []) (news := ptCells (N.take J)) [(b9, bx [.int .i64 B.X, .int .i64 B.Y, .int .i64 B.W, .int .i64 B.H, .slice A2 n2 c2] 30)] rfl rfl OwnsV.at_ (fun w7 hw7 => hw7) (fun hpos => ⟨_, rfl, fun w7 hw7 j u hj => ?_⟩) rfl (by rw [ptCells_length, List.length_take]; omega) (ptCells_one _) (by omega) (by omega) rfl fun v7 Lv7 ho7 => ?_
    · rw [ptCells_take, List.getElem?_take] at hj
      split at hj
      · rw [add_mk, hw7.oldCell (a := ⟨b2, off2 + j, none⟩) hb2 (by simp)]
        exact hc2 j u hj
      · cases hj
    rw [← ptCells_append, Nat.sub_add_cancel (Nat.le_of_lt hJl)] at ho7
    refine tl_rebase fun w8 hw8 => ?_
    have hR8 : Row w8 v7 (turnL N J) := (ho7.rdI hw8 fun p hp => by simp [hp]).rd
    have hc8 := own_cl (b := b9) (cs := [.int .i64 B.X, .int .i64 B.Y, .int .i64 B.W, .int .i64 B.H, .slice A2 n2 c2]) (t := 30) hw8 (by simp)
    have hb8 := hb6.to hw8.toExt
    have hx8 := hx6.trans hw8.toExt
    have hTl : (turnL N J).length = N.length := by rw [turnL, List.length_append, List.length_drop, List.length_take]; omega
    have hq1 := turns_back hnin hNe J
    have hq2 := turns_many hnin hNe J
    rw [hBq] at hq1 hq2
    obtain ⟨A7, c7, rfl⟩ := ho7.shape
    rw [← hTl] at hR8 ⊢
    clear hw8 ho7 hb6 hx6 hl6 hcl hR hcells hc2
    generalize turnL N J = Tn at *
    have hTn := row_le hR8
    (repeat' (first|refine Za ?_|refine Zb ?_|refine Zc ?_|refine Zd ?_|refine Ze ?_|refine Zu tab rfl rfl ?_|(apply Yc;refine Yd ?_)|(apply Yv;refine Yw fun _=>?_)|fail))
    rename_i b52
    refine t_loopK [2, 7, 9, 10] (α := Nat × Value × HL) (fun x => [(11, x.2.1), (12, .int .i64 ((x.1 : Int) - 1))]) (fun x => x.1 ≤ Tn.length ∧ OwnsV x.2.1 24 2 (Tn.length - x.1) (ptCells (Tn.drop x.1).reverse) x.2.2) (fun x => [] ++ x.2.2) (fun x => x.1) (Tn.length, .slice (some ⟨b52, 0, none⟩) 0 0, [(b52, row 24 2 0 0 [])]) rfl ⟨rfl, rfl, trivial⟩ ⟨Nat.le_refl _, by dsimp only; rw [Nat.sub_self, List.drop_length]; exact OwnsV.at_⟩ (fun w h => ?_) ?_
    · exact St.headImp h fun o ho => bx_row0 ho
    rintro ⟨m, u, Lu⟩ ⟨hm, hu⟩
    dsimp only at hm hu ⊢
    try dsimp only [List.cons_append, List.nil_append, List.map_cons, List.map_nil]
    (repeat' (first|refine Za ?_|refine Zb ?_|refine Zc ?_|refine Zd ?_|refine Zu tab rfl rfl ?_|fail))
    refine t_cond rfl (fun h => ?_) (fun h => ?_)
    · obtain ⟨k, rfl⟩ : ∃ k, m = k + 1 := ⟨m - 1, by have := of_decide_eq_true h; omega⟩
      obtain ⟨p, hp⟩ : ∃ p, Tn[k]? = some p := ⟨Tn[k], List.getElem?_eq_getElem (by omega)⟩
      obtain ⟨b3, off3, rfl, hpc⟩ := row_cl hR8 hp
      have ek : ((k + 1 : Nat) : Int) - 1 = (k : Int) := by omega
      rw [ek]
      (repeat' (first|refine Za ?_|refine Zb ?_|refine Zc ?_|refine Ze ?_|refine Zf ?_|refine Zu tab rfl rfl ?_|(apply Zy;refine Zz ?_)|(apply Yn;refine Yo ?_)|(apply Yv;refine Yw fun _=>?_)|fail))
      rename_i b65
      refine tl_app [] rfl rfl hu rfl rfl rfl rfl rfl rfl (by omega) (by omega) fun b' cap' => ?_
      (repeat' (first|refine Zb ?_|refine Zc ?_|refine Zd ?_|refine Zi ?_|refine Zu tab rfl rfl ?_|(apply Yc;refine Yd ?_)|fail))
      refine xt_roundK (k, .slice (some ⟨b', 0, none⟩) (Tn.length - (k + 1) + 1) cap', [(b', row 24 2 (Tn.length - (k + 1) + 1) cap' (ptCells (Tn.drop (k + 1)).reverse ++ [.int .i64 p.1, .int .i64 p.2]))]) rfl ⟨rfl, rfl, trivial⟩ ⟨by dsimp only; omega, ?_⟩ (by dsimp only; omega) (fun w1 hw1 => by rw [List.nil_append] at hw1; exact hw1)
      dsimp only
      have e1 : Tn.length - k = Tn.length - (k + 1) + 1 := by omega
      have e2 : ptCells (Tn.drop k).reverse = ptCells (Tn.drop (k + 1)).reverse ++ [.int .i64 p.1, .int .i64 p.2] := by
        rw [List.drop_eq_getElem_cons (List.getElem?_eq_some_iff.1 hp).1, (List.getElem?_eq_some_iff.1 hp).2, List.reverse_cons, ptCells_append]
        rfl
      rw [e1, e2]
      exact OwnsV.at_
    · have hm0 : m = 0 := by have := of_decide_eq_false h; omega
      subst hm0
      refine t_rebase fun w9 hw9 => ?_
      have hRb : Row w9 u Tn.reverse := by
        have := (hu.rdI hw9 fun p hp => by simp [hp]).rd
        rwa [List.drop_zero] at this
      have hR9 := hR8.ext hw9.toExt
      have hc9 := hc8.to hw9.toExt
      have hb9 := hb8.to hw9.toExt
      have hx9 := hx8.trans hw9.toExt
      obtain ⟨A9, c9, rfl⟩ := hu.shape
      clear hw9 hu hR8 hc8 hb8 hx8
      obtain ⟨M, hM⟩ : ∃ M : Nat, tm % (3 + 1) = M ∧ M ≤ 3 := ⟨(tm % (3 + 1)).toNat, by omega, by omega⟩
      (repeat' (first|refine Za ?_|refine Zb ?_|refine Zc ?_|refine Zd ?_|refine Ze ?_|refine Zh ?_|refine Zj ?_|refine Zl ?_|refine Zq ?_|refine Zu tab rfl rfl ?_|(apply Yv;refine Yw fun _=>?_)|fail))
      rename_i b67
      refine t_loopK [2, 7, 9, 10, 11] (α := Nat × Value × HL) (fun x => [(13, x.2.1), (14, .int .i64 x.1)]) (fun x => x.1 ≤ M + 1 ∧ OwnsV x.2.1 38 1 x.1 (List.replicate x.1 (.slice A7 Tn.length c7)) x.2.2) (fun x => [] ++ x.2.2) (fun x => M + 1 - x.1) (0, .slice (some ⟨b67, 0, none⟩) 0 0, [(b67, row 38 1 0 0 [])]) rfl ⟨rfl, rfl, trivial⟩ ⟨Nat.zero_le _, OwnsV.at_⟩ (fun w h => ?_) ?_
      · exact St.headImp h fun o ho => bx_row0 ho
      rintro ⟨i, v, Lv⟩ ⟨hi, hv⟩
      dsimp only at hi hv ⊢
      try dsimp only [List.cons_append, List.nil_append, List.map_cons, List.map_nil]
      (repeat' (first|refine Za ?_|refine Zb ?_|refine Zu tab rfl rfl ?_|fail))
      refine tl_bin (o_mask 2 rfl rfl rfl rfl) rfl ?_
      rw [hM.1]
      (repeat' (first|refine Zc ?_|refine Zd ?_|refine Zu tab rfl rfl ?_|fail))
      refine t_cond rfl (fun h => ?_) (fun h => ?_)
      · have hiM : i ≤ M := by have := of_decide_eq_true h; omega
        (repeat' (first|refine Za ?_|refine Zb ?_|refine Zc ?_|refine Ze ?_|refine Zf ?_|refine Zu tab rfl rfl ?_|(apply Yv;refine Yw fun _=>?_)|fail))
        rename_i b76
        refine tl_app [] rfl rfl hv rfl rfl rfl rfl rfl rfl (by omega) (by omega) fun b' cap' => ?_
        (repeat' (first|refine Zb ?_|refine Zc ?_|refine Zd ?_|refine Zi ?_|refine Zu tab rfl rfl ?_|(apply Yc;refine Yd ?_)|fail))
        refine xt_roundK (i + 1, .slice (some ⟨b', 0, none⟩) (i + 1) cap', [(b', row 38 1 (i + 1) cap' (List.replicate i (.slice A7 Tn.length c7) ++ [.slice A7 Tn.length c7]))]) rfl ⟨rfl, rfl, trivial⟩ ⟨by dsimp only; omega, ?_⟩ (by dsimp only; omega) (fun w1 hw1 => by rw [List.nil_append] at hw1; exact hw1)
        dsimp only
        rw [List.replicate_succ']
        exact OwnsV.at_
      · have hiM : i = M + 1 := by have := of_decide_eq_false h; omega
        subst hiM
        refine t_rebase fun wa hwa => ?_
        have hLm : Lines wa v (List.replicate (M + 1) Tn) := by
          refine lines_own hv hwa (fun p hp => by simp [hp]) (by simp) fun j r l h1 h2 => ?_
          obtain ⟨_, rfl⟩ := List.mem_replicate.1 (List.mem_of_getElem? h1)
          obtain ⟨_, rfl⟩ := List.mem_replicate.1 (List.mem_of_getElem? h2)
          exact hR9.ext hwa.toExt
        have hRa := hRb.ext hwa.toExt
        have hca := hc9.to hwa.toExt
        have hba := hb9.to hwa.toExt
        have hxa := hx9.trans hwa.toExt
        obtain ⟨Aa, ca, rfl⟩ := hv.shape
        have hq2 := hq2 M
        have hed1 := edgesAll_le (List.replicate (M + 1) Tn)
        have hed2 := edgesAll_le [Tn.reverse]
        have hfl1 : (List.replicate (M + 1) Tn).flatten.length ≤ 40 := by
          rw [List.length_flatten, List.map_replicate, List.sum_replicate_nat]
          have : (M + 1) * Tn.length ≤ 4 * 10 := Nat.mul_le_mul (by omega) (by omega)
          omega
        clear hwa hv hRb hc9 hb9 hx9 hR9
        simp only [List.flatten_cons, List.flatten_nil, List.append_nil, List.length_reverse] at hed2
        (repeat' (first|refine Za ?_|refine Zc ?_|refine Zh ?_|refine Zj ?_|refine Zl ?_|refine Zq ?_|fail))
        refine t_drawW 12 [(0, .v), (1, .v), (2, .v), (3, .v), (4, .e), (5, .e), (6, .v), (7, .v), (8, .v), (9, .v), (10, .e), (11, .e)] ?_ rfl (by kernel_rfl) (by kernel_rfl) rfl (by kernel_rfl) mixed (by kernel_rfl) rfl
        (repeat' (first|refine Yz rfl ?_|refine Vd tab ?_|(apply Vf;refine Vg ?_)|fail))
        refine dw_callR (Post := fun w1 v w2 => BmI w1 w2 v B) (fun L' w1 hw1 => ?_) rfl rfl rfl ?_
        · have := fill_calls w1 _ _ _ (List.replicate (M + 1) Tn) (hLm.to hw1.toExt) (by omega)
          rw [hq2] at this
          exact this
        rintro w1 w2 v3 L1 hw1 he1 ⟨rv3, rfl, hr3⟩
        obtain ⟨Ab, nb, cb, rfl, _⟩ := id hr3
        (repeat' (first|refine Yz rfl ?_|fail))
        refine dw_callV (u := .bool true) (fun L' wb hwb => ?_) rfl rfl rfl rfl ?_
        · have := same_calls wb _ _ B B (hba.to hwb.toExt) ⟨_, rfl, (RdI.move hr3 (hwb.sg fun p hp => by simp [hp])).rd⟩
          rw [show decide (Bm.same B B) = true by simp [Bm.same]] at this
          exact this
        (repeat' (first|refine Yz rfl ?_|refine Vd tab ?_|(apply Vf;refine Vg ?_)|(apply Vh;refine Vi ?_)|(apply Vz;refine Ua fun _=>?_)|fail))
        rename_i b88
        refine dw_callR (Post := fun w1 v w2 => BmI w1 w2 v B) (fun L' w1 hw1 => ?_) rfl rfl rfl ?_
        · have := fill_calls w1 _ _ _ [Tn.reverse] (lines_one (hw1.get (List.mem_cons_self ..)) (hRa.ext hw1.toExt)) (by omega)
          rw [hq1] at this
          exact this
        rintro w3 w4 v4 L2 hw3 he3 ⟨rv4, rfl, hr4⟩
        obtain ⟨Ac, nc, cc, rfl, _⟩ := id hr4
        (repeat' (first|fail))
        refine dw_end [85, 86, 89] (rest := []) rfl ?_
        (repeat' (first|refine Zv rfl rfl ?_|fail))
        refine tl_callV (u := .bool true) (fun wb hwb => ?_) rfl rfl ?_
        · have := same_calls wb _ _ B B (hba.to hwb.toExt) ⟨_, rfl, (RdI.move hr4 (hwb.sg fun p hp => by simp [hp])).rd⟩
          rw [show decide (Bm.same B B) = true by simp [Bm.same]] at this
          exact this
        (repeat' (first|refine Zc ?_|refine Zd ?_|refine Zg ?_|refine Zu tab rfl rfl ?_|(apply Ya;refine Yb ?_)|fail))
        exact xt_ret1 rfl rfl fun wc hwc => ⟨_, rfl, hxa.trans hwc.toExt, rfl⟩

end Go.Proofs.Ytbgolbkolcmldaa
