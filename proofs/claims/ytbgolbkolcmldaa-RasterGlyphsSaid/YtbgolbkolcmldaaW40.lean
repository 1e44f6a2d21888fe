/-
  The document's answer: the columns of a row that are black by drop-out.
-/
import Derived.Test.YtbgolbkolcmldaaP18
import Derived.Test.YtbgolbkolcmldaaW29
namespace Go.Proofs.Ytbgolbkolcmldaa
open Go.RowKit
attribute [local irreducible] T TL Xt O Op1 Kt DV ObsB DE DW DW1 LoopQ LoopJ

theorem pc_cl {w : World} {R : List Pc} {A : Option Addr} {n cap k : Nat} {c : Pc} (h : Rd w 3 (.slice A n cap) (R.flatMap pcCells)) (hs : R[k]? = some c) : ∃ b off, A = some ⟨b, off, none⟩ ∧ ClA w b (off + k * 3) [.int .i64 c.1, .int .i64 c.2.1, .int .i64 c.2.2.1] := by
  obtain ⟨A', n', cap', he, hl, _, _, hr⟩ := h
  cases he
  rw [flatMap_len pcCells 3 (fun _ => rfl)] at hl
  have hk : k < R.length := (List.getElem?_eq_some_iff.1 hs).1
  obtain ⟨b, off, rfl, hb, hc⟩ := hr (by omega)
  refine ⟨b, off, rfl, hb, fun j v hj => ?_⟩
  have := hc _ _ (flatMap_get pcCells 3 (fun _ => rfl) R k j c v hs hj)
  rwa [← Nat.add_assoc] at this
theorem wy_cl {w : World} {R : List Pc} {A : Option Addr} {n cap k : Nat} {c : Pc} (h : Rd w 1 (.slice A n cap) (R.flatMap wyCell)) (hs : R[k]? = some c) : ∃ b off, A = some ⟨b, off, none⟩ ∧ Cl w b (off + k * 1) (.int .i64 c.2.2.2) := by
  obtain ⟨A', n', cap', he, hl, _, _, hr⟩ := h
  cases he
  rw [flatMap_len wyCell 1 (fun _ => rfl)] at hl
  have hk : k < R.length := (List.getElem?_eq_some_iff.1 hs).1
  obtain ⟨b, off, rfl, hb, hc⟩ := hr (by omega)
  refine ⟨b, off, rfl, hb, ?_⟩
  have := hc _ _ (flatMap_get wyCell 1 (fun _ => rfl) R k 0 c _ hs rfl)
  exact this

set_option maxHeartbeats 2000000 in
theorem drops_calls (w : World) (A : Option Addr) (n cap : Nat) (ls : List Pts) (hL : Lines w (.slice A n cap) ls) (k : Int) (hk : -1000 ≤ k ∧ k ≤ 1000) (hcount : ls.flatten.length ≤ 1000000) (hok : ∀ c ∈ crsR (64 * k + 32) ls, PcOk c) (hsr : Sorted ((crsR (64 * k + 32) ls).map ofPc)) :
    Calls Try.prog 54 #[.slice A n cap, .int .i64 k] w (Ret w fun v w' => Own w w' v 3 1 (dr (strs ((crsR (64 * k + 32) ls).map ofPc) 0 (0, 0))).length ((dr (strs ((crsR (64 * k + 32) ls).map ofPc) 0 (0, 0))).map fun z => .int .i64 z)) := by
  have hlenR : (crsR (64 * k + 32) ls).length ≤ 1000000 := by
    have h1 := crsR_len ls k
    have h2 : (crs ls k).length ≤ (edgesAll ls).length := by unfold crs; rw [List.length_map]; exact List.length_filter_le _ _
    have h3 := edgesAll_le ls
    omega
  refine calls_S (vs := [.slice A n cap, .int .i64 k]) Try.func54 rfl Try.ntmps54 rfl ?_
  (repeat' (first|refine Za ?_|refine Zb ?_|refine Zc ?_|refine Zd ?_|refine Zu tab rfl rfl ?_|(apply Yc;refine Yd ?_)|fail))
  refine tl_callR (Post := fun w v w' => ∃ v1 v2, v = .tuple #[v1, v2] ∧ RdI w.heap.size w'.heap.size w' 3 v1 ((crsR (64 * k + 32) ls).flatMap pcCells) ∧ RdI w.heap.size w'.heap.size w' 1 v2 ((crsR (64 * k + 32) ls).flatMap wyCell)) (fun w7 hw7 => crossings_calls w7 _ _ _ ls (hL.to hw7.toExt) _ (by omega) (by omega)) rfl rfl ?_
  rintro w7 w8 v7 hw7 he7 ⟨v8, v9, rfl, h8, h9⟩
  refine tl_rebase fun w3 hw3 => ?_
  have hp3 := (h8.move (hw3.sg fun p hp => by simp [hp])).rd
  have hy3 := (h9.move (hw3.sg fun p hp => by simp [hp])).rd
  have hx3 := hw3.toExt
  clear hw3 h8 h9 hw7 he7
  generalize crsR (64 * k + 32) ls = R at *
  obtain ⟨A8, n8, c8, rfl, hl8, _⟩ := id hp3
  obtain ⟨A9, n9, c9, rfl, hl9, _⟩ := id hy3
  rw [flatMap_len pcCells 3 (fun _ => rfl)] at hl8
  rw [flatMap_len wyCell 1 (fun _ => rfl)] at hl9
  obtain rfl : n8 = R.length := by omega
  obtain rfl : n9 = R.length := by omega
  (repeat' (first|refine Za ?_|refine Zb ?_|refine Zc ?_|refine Zd ?_|refine Ze ?_|refine Zu tab rfl rfl ?_|(apply Ye;refine Yf ?_)|refine Yk rfl fun _=>?_|(apply Yl;refine Ym ?_)|(apply Yv;refine Yw fun _=>?_)|fail))
  rename_i b23 b9
  refine t_loopK [5, 6, 9] (α := Nat × Int × Pc × List (Place × Place) × Value × HL) (fun x => [(7, x.2.2.2.2.1), (8, .int .i64 x.2.1), (10, .int .i64 x.1)]) (fun x => x.1 ≤ R.length ∧ (-(x.1 : Int) ≤ x.2.1 ∧ x.2.1 ≤ x.1) ∧ x.2.2.2.1 ++ strs ((R.map ofPc).drop x.1) x.2.1 (ofPc x.2.2.1).p = strs (R.map ofPc) 0 (0, 0) ∧ (x.2.1 ≠ 0 → PcOk x.2.2.1 ∧ ∀ (j : Nat) (z : Pc), x.1 ≤ j → R[j]? = some z → leP (ofPc x.2.2.1).p (ofPc z).p) ∧ OwnsV x.2.2.2.2.1 3 1 (dr x.2.2.2.1).length ((dr x.2.2.2.1).map fun z => .int .i64 z) x.2.2.2.2.2 ∧ (dr x.2.2.2.1).length ≤ x.1) (fun x => (b9, bx [.int .i64 x.2.2.1.1, .int .i64 x.2.2.1.2.1, .int .i64 x.2.2.1.2.2.1] 89) :: x.2.2.2.2.2) (fun x => R.length - x.1) (0, 0, (0, 0, 0, 0), [], .slice (some ⟨b23, 0, none⟩) 0 0, [(b23, row 3 1 0 0 [])]) rfl ⟨rfl, rfl, rfl, trivial⟩ ⟨Nat.zero_le _, by simp, rfl, by simp, OwnsV.at_, Nat.le_refl _⟩ (fun w h => ?_) ?_
  · exact (St.headImp (h.perm (List.Perm.swap _ _ _)) fun o ho => bx_row0 ho).perm (List.Perm.swap _ _ _)
  rintro ⟨i, t, f, pre, v, Lv⟩ ⟨hi, ht, hq, hf, hv, hvl⟩
  dsimp only at hi ht hq hf hv hvl ⊢
  try dsimp only [List.cons_append, List.nil_append, List.map_cons, List.map_nil]
  (repeat' (first|refine Za ?_|refine Zb ?_|refine Zc ?_|refine Zd ?_|refine Zu tab rfl rfl ?_|fail))
  refine t_cond rfl (fun h => ?_) (fun h => ?_)
  · have hil : i < R.length := by have := of_decide_eq_true h; omega
    obtain ⟨c, hc⟩ : ∃ c, R[i]? = some c := ⟨_, List.getElem?_eq_getElem hil⟩
    have hcok := hok c (List.mem_of_getElem? hc)
    obtain ⟨bp, offp, rfl, hcp⟩ := pc_cl hp3 hc
    (repeat' (first|refine Za ?_|refine Zb ?_|refine Zc ?_|refine Zd ?_|refine Ze ?_|refine Zf ?_|refine Zu tab rfl rfl ?_|(apply Zy;refine Zz ?_)|(apply Ye;refine Yf ?_)|refine Yk rfl fun _=>?_|(apply Yn;refine Yo ?_)|fail))
    rename_i b11
    have hge : ∀ j x, i ≤ j → R[j]? = some x → leP (ofPc c).p (ofPc x).p := by
      intro j x hij hx
      rcases Nat.eq_or_lt_of_le hij with rfl | hlt
      · rw [hc] at hx; cases hx; exact leP_refl _
      · have h1 := List.pairwise_iff_getElem.1 hsr i j (by rw [List.length_map]; exact hil) (by rw [List.length_map]; exact (List.getElem?_eq_some_iff.1 hx).1) hlt
        simp only [List.getElem_map] at h1
        rw [(List.getElem?_eq_some_iff.1 hc).2, (List.getElem?_eq_some_iff.1 hx).2] at h1
        exact h1
    refine t_join (w0 := w3) (X := []) [5, 6, 7, 9, 11, 12] (β := Nat × Int) (fun y => [(8, .int .i64 y.2), (10, .int .i64 y.1)]) (fun y => i < y.1 ∧ y.1 ≤ R.length ∧ (-(y.1 : Int) ≤ y.2 ∧ y.2 ≤ y.1) ∧ takeRun (ofPc c) ((R.map ofPc).drop i) t = (y.2, (R.map ofPc).drop y.1)) (fun _ => (b11, bx [.int .i64 c.1, .int .i64 c.2.1, .int .i64 c.2.2.1] 89) :: (b9, bx [.int .i64 f.1, .int .i64 f.2.1, .int .i64 f.2.2.1] 89) :: Lv) rfl (fun Q' K => ?_) ?_
    refine t_loopK [5, 6, 7, 9, 11, 12] (α := Nat × Int) (fun x => [(8, .int .i64 x.2), (10, .int .i64 x.1)]) (fun x => i ≤ x.1 ∧ x.1 ≤ R.length ∧ (-(x.1 : Int) ≤ x.2 ∧ x.2 ≤ x.1) ∧ takeRun (ofPc c) ((R.map ofPc).drop i) t = takeRun (ofPc c) ((R.map ofPc).drop x.1) x.2) (fun _ => (b11, bx [.int .i64 c.1, .int .i64 c.2.1, .int .i64 c.2.2.1] 89) :: (b9, bx [.int .i64 f.1, .int .i64 f.2.1, .int .i64 f.2.2.1] 89) :: Lv) (fun x => R.length - x.1) (i, t) rfl ⟨rfl, rfl, trivial⟩ ⟨Nat.le_refl _, hi, ht, rfl⟩ (fun w h => h) ?_
    · rintro ⟨j, s⟩ ⟨hij, hj, hs, hrun⟩
      dsimp only at hij hj hs hrun ⊢
      try dsimp only [List.cons_append, List.nil_append, List.map_cons, List.map_nil]
      by_cases hjl : j < R.length
      · obtain ⟨x, hx⟩ : ∃ x, R[j]? = some x := ⟨_, List.getElem?_eq_getElem hjl⟩
        have hxok := hok x (List.mem_of_getElem? hx)
        obtain ⟨_, _, he, hxp⟩ := pc_cl hp3 hx
        cases he
        obtain ⟨bw, offw, rfl, hxw⟩ := wy_cl hy3 hx
        have hlt := lessC_iff hcok hxok
        have hxt := hxok.t
        have hmapj : (R.map ofPc)[j]? = some (ofPc x) := by rw [List.getElem?_map, hx]; rfl
        have hls : CDet Try.prog 49 [.agg #[.int .i64 c.1, .int .i64 c.2.1, .int .i64 c.2.2.1], .agg #[.int .i64 x.1, .int .i64 x.2.1, .int .i64 x.2.2.1]] (.bool (lessC c x)) := by
          have a1 := hcok.n; have a2 := hcok.d; have a3 := hxok.n; have a4 := hxok.d
          have m1 := Int.mul_le_mul (show c.2.1 ≤ 65536 by omega) a4 (by omega) (by omega)
          have m2 := Int.mul_nonneg a1.1 (show 0 ≤ x.2.2.1 by omega)
          have m3 := Int.mul_le_mul (show x.2.1 ≤ 65536 by omega) a2 (by omega) (by omega)
          have m4 := Int.mul_nonneg a3.1 (show 0 ≤ c.2.2.1 by omega)
          exact ⟨less_det c.1 c.2.1 c.2.2.1 x.1 x.2.1 x.2.2.1 (by unfold fit; omega) (by unfold fit; omega)⟩
        (repeat' (first|refine Za ?_|fail))
        refine t_drawW 10 [(0, .v), (1, .v), (2, .v), (3, .v), (4, .v), (5, .v), (6, .v), (7, .v), (8, .v), (9, .v)] ?_ rfl (by kernel_rfl) (by kernel_rfl) rfl (by kernel_rfl) mixed (by kernel_rfl) rfl
        (repeat' (first|refine Yz rfl ?_|refine Vd tab ?_|fail))
        rw [show decide ((j : Int) < (R.length : Int)) = true from decide_eq_true (by omega)]
        (repeat' (first|refine Yz rfl ?_|refine Vd tab ?_|(apply Vf;refine Vg ?_)|(apply Vl;refine Vm ?_)|fail))
        refine dw_end [5, 6, 7, 8, 9, 10, 11, 12, 38, 39, 43] (rest := []) rfl ?_
        (repeat' (first|refine Zc ?_|refine Zd ?_|refine Zu tab rfl rfl ?_|refine Zv rfl rfl ?_|(apply Ya;refine Yb ?_)|(apply Yt;refine Yu ?_)|fail))
        refine t_cond rfl (fun h => ?_) (fun h => ?_)
        · have hnl : lessC c x = false := by simpa using h
          have heq : eqAt (ofPc x) (ofPc c) = true := by
            rw [eqAt_iff]
            refine ⟨?_, hge j x hij hx⟩
            exact Classical.byContradiction fun h5 => by rw [hlt.2 h5] at hnl; cases hnl
          (repeat' (first|refine Za ?_|refine Zb ?_|refine Zc ?_|refine Zd ?_|refine Ze ?_|refine Zf ?_|refine Zi ?_|refine Zu tab rfl rfl ?_|(apply Zy;refine Zz ?_)|(apply Yc;refine Yd ?_)|(apply Yn;refine Yo ?_)|fail))
          refine xt_roundK (j + 1, s + x.2.2.2) rfl ⟨rfl, rfl, trivial⟩ ⟨by dsimp only; omega, by dsimp only; omega, by dsimp only; omega, ?_⟩ (by dsimp only; omega) (fun _ h => h)
          rw [hrun, takeRun_drop hmapj heq]
          rfl
        · have hnl : lessC c x = true := by simpa using h
          have hne : eqAt (ofPc x) (ofPc c) = false := by
            rw [Bool.eq_false_iff]
            intro h5
            exact (hlt.1 hnl) ((eqAt_iff _ _).1 h5).1
          have hij2 : i < j := by
            rcases Nat.eq_or_lt_of_le hij with rfl | h5
            · rw [hc] at hx
              cases hx
              rw [eqAt_self] at hne
              cases hne
            · exact h5
          (repeat' (first|refine Zh ?_|refine Zl ?_|refine Zq ?_|fail))
          exact K _ (j, s) _ ⟨hij2, hj, hs, by rw [hrun, takeRun_stop hmapj hne]⟩ ⟨rfl, rfl, trivial⟩ rfl (fun _ h => h)
      · have hjl2 : j = R.length := by omega
        (repeat' (first|refine Za ?_|fail))
        refine t_drawW 10 [(0, .v), (1, .v), (2, .v), (3, .v), (4, .v), (5, .v), (6, .v), (7, .v), (8, .v), (9, .v)] ?_ rfl (by kernel_rfl) (by kernel_rfl) rfl (by kernel_rfl) mixed (by kernel_rfl) rfl
        (repeat' (first|refine Yz rfl ?_|refine Vd tab ?_|fail))
        rw [show decide ((j : Int) < (R.length : Int)) = false from decide_eq_false (by omega)]
        (repeat' (first|refine Yz rfl ?_|(apply Va; first|refine Vb ?_|refine Vc ?_)|fail))
        refine dw_end [5, 6, 7, 8, 9, 10, 11, 12, 38, 39, 43] (rest := []) rfl ?_
        (repeat' (first|refine Zc ?_|refine Zd ?_|refine Zh ?_|refine Zl ?_|refine Zq ?_|refine Zw rfl rfl rfl rfl ?_|(apply Ya;refine Yb ?_)|refine Yy rfl ?_|fail))
        exact K _ (j, s) _ ⟨by dsimp only; omega, hj, hs, by rw [hrun, List.drop_of_length_le (by rw [List.length_map]; omega)]; rfl⟩ ⟨rfl, rfl, trivial⟩ rfl (fun _ h => h)
    rintro ⟨j, s⟩ ⟨hij, hj, hs, hrun⟩
    dsimp only at hij hj hs hrun ⊢
    have hbody : ∀ T : Int × List Cr, takeRun (ofPc c) ((R.map ofPc).drop i) t = T → pre ++ ((if t ≠ 0 ∧ T.1 = 0 then [((if t = 0 ∧ T.1 ≠ 0 then (ofPc c).p else (ofPc f).p), (ofPc c).p)] else []) ++ strs T.2 T.1 (if t = 0 ∧ T.1 ≠ 0 then (ofPc c).p else (ofPc f).p)) = strs (R.map ofPc) 0 (0, 0) := by
      intro T hT
      have hd : (R.map ofPc).drop i = ofPc c :: (R.map ofPc).drop (i + 1) := by
        rw [List.drop_eq_getElem_cons (by rw [List.length_map]; exact hil), List.getElem_map, (List.getElem?_eq_some_iff.1 hc).2]
      rw [hd, takeRun, if_pos (eqAt_self _)] at hT
      rw [hd, strs, hT] at hq
      exact hq
    have hT := hbody _ hrun
    dsimp only at hT
    clear hbody hrun hq
    try dsimp only [List.cons_append, List.nil_append, List.map_cons, List.map_nil]
    (repeat' (first|refine Za ?_|refine Zb ?_|refine Zc ?_|refine Zd ?_|refine Zu tab rfl rfl ?_|fail))
    refine t_cond rfl (fun h => ?_) (fun h => ?_)
    · have ht0 : t = 0 := of_decide_eq_true h
      subst ht0
      rw [if_neg (by simp), List.nil_append] at hT
      have hT2 : pre ++ strs ((R.map ofPc).drop j) s (ofPc c).p = strs (R.map ofPc) 0 (0, 0) := by
        by_cases hs0 : s = 0
        · subst hs0
          rw [if_neg (by simp)] at hT
          rw [← hT]
          congr 1
          exact strs_zero _ _ _ _ (Nat.le_refl _)
        · rw [if_pos ⟨rfl, hs0⟩] at hT
          exact hT
      (repeat' (first|refine Za ?_|refine Zb ?_|refine Zc ?_|refine Zd ?_|refine Zh ?_|refine Zj ?_|refine Zl ?_|refine Zu tab rfl rfl ?_|refine Zw rfl rfl rfl rfl ?_|(apply Zy;refine Zz ?_)|(apply Ya;refine Yb ?_)|(apply Ye;refine Yf ?_)|refine Yx rfl ?_|fail))
      exact xt_roundK (j, s, c, pre, v, Lv) rfl ⟨rfl, rfl, rfl, trivial⟩ ⟨hj, hs, hT2, fun _ => ⟨hcok, fun j' z hj' hz => hge j' z (by dsimp only at hj'; omega) hz⟩, hv, by dsimp only; omega⟩ (by dsimp only; omega) (fun _ h => h.sublist (.cons _ (List.Sublist.refl _)))
    · have ht0 : t ≠ 0 := of_decide_eq_false h
      obtain ⟨hfok, hfle⟩ := hf ht0
      have e1 : ¬ (t = 0 ∧ s ≠ 0) := fun h5 => ht0 h5.1
      rw [if_neg e1] at hT
      (repeat' (first|refine Za ?_|refine Zb ?_|refine Zc ?_|refine Zf ?_|refine Zu tab rfl rfl ?_|fail))
      rw [show decide (t = 0) = false from decide_eq_false ht0]
      (repeat' (first|refine Zc ?_|refine Zd ?_|refine Zu tab rfl rfl ?_|refine Zv rfl rfl ?_|(apply Ya;refine Yb ?_)|fail))
      by_cases hs0 : s = 0
      · have e2 : t ≠ 0 ∧ s = 0 := ⟨ht0, hs0⟩
        rw [if_pos e2] at hT
        clear e1 e2
        subst hs0
        have hfx := hfok.x
        have hfn := hfok.n
        have hfd := hfok.d
        have hcx := hcok.x
        have hcn := hcok.n
        have hcd := hcok.d
        obtain ⟨K0, hK0⟩ : ∃ K0 : Int, (f.1 - 32) / 64 = K0 := ⟨_, rfl⟩
        have hfl : CDet Try.prog 53 [.int .i64 (f.1 - 32), .int .i64 64] (.int .i64 K0) := ⟨by rw [← hK0]; exact floor_det _ _ (by omega) (by omega)⟩
        have hle0 : K0 ≤ cf (ofPc f).n (ofPc f).d := by
          refine Classical.byContradiction fun h5 => ?_
          have h6 := (cf_le_iff (n := (ofPc f).n) (e := (ofPc f).d) (c := K0 - 1) (by show 0 < f.2.2.1; omega)).1 (by omega)
          have h7 : (ofPc f).n = f.1 * f.2.2.1 + f.2.1 := rfl
          have h8 : (ofPc f).d = f.2.2.1 := rfl
          rw [h7, h8] at h6
          have h9 := Int.mul_le_mul_of_nonneg_right (show 64 * (K0 - 1) + 32 + 1 ≤ f.1 by omega) (show 0 ≤ f.2.2.1 by omega)
          rw [Int.add_mul _ 1, Int.one_mul] at h9
          omega
        have hlf := lessC_centre hfok
        have hlc := lessC_centre hcok
        have hcfb : cf (ofPc f).n (ofPc f).d ≤ 1000 := by
          refine (cf_le_iff (n := (ofPc f).n) (e := (ofPc f).d) (c := 1000) (by show 0 < f.2.2.1; omega)).2 ?_
          have h7 : (ofPc f).n = f.1 * f.2.2.1 + f.2.1 := rfl
          have h8 : (ofPc f).d = f.2.2.1 := rfl
          rw [h7, h8]
          have h9 := Int.mul_le_mul_of_nonneg_right (show f.1 + 1 ≤ 64 * 1000 + 32 by omega) (show 0 ≤ f.2.2.1 by omega)
          rw [Int.add_mul _ 1, Int.one_mul] at h9
          omega
        (repeat' (first|refine Za ?_|refine Zb ?_|refine Zc ?_|refine Zd ?_|refine Ze ?_|refine Zf ?_|refine Zu tab rfl rfl ?_|(apply Zy;refine Zz ?_)|(apply Yc;refine Yd ?_)|(apply Yt;refine Yu ?_)|refine Yy rfl ?_|fail))
        rw [show K0 * 64 + 32 = 64 * K0 + 32 by omega]
        generalize hF : cf (ofPc f).n (ofPc f).d = F at *
        have hlsF : ∀ K : Int, CDet Try.prog 49 [.agg #[.int .i64 (64 * K + 32), .int .i64 0, .int .i64 1], .agg #[.int .i64 f.1, .int .i64 f.2.1, .int .i64 f.2.2.1]] (.bool (lessP (64 * K + 32) 0 1 f.1 f.2.1 f.2.2.1)) := fun K => ⟨less_det (64 * K + 32) 0 1 f.1 f.2.1 f.2.2.1 (by unfold fit; omega) (by unfold fit; omega)⟩
        have hlsC : CDet Try.prog 49 [.agg #[.int .i64 (64 * F + 32), .int .i64 0, .int .i64 1], .agg #[.int .i64 c.1, .int .i64 c.2.1, .int .i64 c.2.2.1]] (.bool (lessP (64 * F + 32) 0 1 c.1 c.2.1 c.2.2.1)) := ⟨less_det (64 * F + 32) 0 1 c.1 c.2.1 c.2.2.1 (by unfold fit; omega) (by unfold fit; omega)⟩
        refine t_loopK [5, 6, 7, 8, 9, 10, 11] (α := Int) (fun K => [(13, .int .i64 (64 * K + 32))]) (fun K => K0 ≤ K ∧ K ≤ F) (fun _ => (b11, bx [.int .i64 c.1, .int .i64 c.2.1, .int .i64 c.2.2.1] 89) :: (b9, bx [.int .i64 f.1, .int .i64 f.2.1, .int .i64 f.2.2.1] 89) :: Lv) (fun K => (F - K).toNat) K0 rfl ⟨rfl, trivial⟩ ⟨Int.le_refl _, hle0⟩ (fun w h => h) ?_
        rintro K ⟨hKa, hKb⟩
        have hlsK := hlsF K
        have hlfK := hlf K
        try dsimp only [List.cons_append, List.nil_append, List.map_cons, List.map_nil]
        (repeat' (first|refine Za ?_|refine Zb ?_|refine Zc ?_|refine Zd ?_|refine Zu tab rfl rfl ?_|(apply Zy;refine Zz ?_)|(apply Yl;refine Ym ?_)|(apply Yt;refine Yu ?_)|fail))
        refine t_cond rfl (fun h => ?_) (fun h => ?_)
        · have hKF : K < F := hlfK.1 h
          (repeat' (first|refine Zb ?_|refine Zc ?_|refine Zd ?_|refine Ze ?_|refine Zf ?_|refine Zi ?_|refine Zu tab rfl rfl ?_|(apply Yc;refine Yd ?_)|fail))
          rw [show 64 * K + 32 + 64 = 64 * (K + 1) + 32 by omega]
          exact xt_roundK (K + 1) rfl ⟨rfl, trivial⟩ ⟨by omega, by omega⟩ (by omega) (fun _ h => h)
        · have hKF : K = F := by
            refine Classical.byContradiction fun h5 => ?_
            rw [hlfK.2 (by omega)] at h
            cases h
          subst hKF
          have m1 : 0 ≤ f.2.1 * c.2.2.1 ∧ f.2.1 * c.2.2.1 ≤ 65536 * 65536 := ⟨Int.mul_nonneg (by omega) (by omega), Int.mul_le_mul (by omega) hcd (by omega) (by omega)⟩
          have m2 : 0 ≤ c.2.1 * f.2.2.1 ∧ c.2.1 * f.2.2.1 ≤ 65536 * 65536 := ⟨Int.mul_nonneg (by omega) (by omega), Int.mul_le_mul (by omega) hfd (by omega) (by omega)⟩
          have m3 : 0 ≤ f.2.2.1 * c.2.2.1 ∧ f.2.2.1 * c.2.2.1 ≤ 65536 * 65536 := ⟨Int.mul_nonneg (by omega) (by omega), Int.mul_le_mul hfd hcd (by omega) (by omega)⟩
          have hmd := sum_floor hfok hcok
          have hlcK := hlc K
          have hlef : K ≤ cf (ofPc c).n (ofPc c).d := by
            rw [← hF]
            have p1 : 0 < (ofPc f).p.2 := by show 0 < f.2.2.1; omega
            have p2 : 0 < (ofPc c).p.2 := by show 0 < c.2.2.1; omega
            exact (cf_leP p1).2 (leP_trans p1 p2 Int.one_pos (hfle i c (Nat.le_refl _) hc) ((cf_leP p2).1 (Int.le_refl _)))
          have hdr0 : dr (pre ++ [((ofPc f).p, (ofPc c).p)]) = dr pre ++ drOne ((ofPc f).p, (ofPc c).p) := by simp [dr]
          have hone : drOne ((ofPc f).p, (ofPc c).p) = if K = cf (ofPc c).n (ofPc c).d then [md (ofPc f).n (ofPc f).d (ofPc c).n (ofPc c).d] else [] := by rw [← hF]; rfl
          (repeat' (first|refine Za ?_|refine Zb ?_|refine Zc ?_|refine Zd ?_|refine Zh ?_|refine Zj ?_|refine Zl ?_|refine Zq ?_|refine Zu tab rfl rfl ?_|(apply Zy;refine Zz ?_)|(apply Yl;refine Ym ?_)|(apply Yt;refine Yu ?_)|fail))
          refine t_cond rfl (fun h2 => ?_) (fun h2 => ?_)
          · have hKc : K = cf (ofPc c).n (ofPc c).d := by
              have : lessP (64 * K + 32) 0 1 c.1 c.2.1 c.2.2.1 = false := by simpa using h2
              refine Classical.byContradiction fun h5 => ?_
              rw [hlcK.2 (by omega)] at this
              cases this
            rw [if_pos hKc, hmd] at hone
            (repeat' (first|refine Za ?_|refine Zb ?_|refine Zc ?_|refine Zd ?_|refine Zu tab rfl rfl ?_|(apply Zy;refine Zz ?_)|(apply Yc;refine Yd ?_)|fail))
            refine t_cond rfl (fun h3 => ?_) (fun h3 => ?_)
            · have hge2 := of_decide_eq_true h3
              rw [if_pos (by omega)] at hone
              obtain ⟨VV, hVV⟩ : ∃ VV : Int, (f.1 + c.1 + 1) / 128 = VV := ⟨_, rfl⟩
              rw [hVV] at hone
              have hdr := hdr0
              rw [hone] at hdr
              have hfl2 : CDet Try.prog 53 [.int .i64 (f.1 + c.1 + 1), .int .i64 128] (.int .i64 VV) := ⟨by rw [← hVV]; exact floor_det _ _ (by omega) (by omega)⟩
              (repeat' (first|refine Zb ?_|refine Zc ?_|refine Zd ?_|refine Zu tab rfl rfl ?_|(apply Yc;refine Yd ?_)|(apply Yt;refine Yu ?_)|(apply Yv;refine Yw fun _=>?_)|fail))
              rename_i b108
              refine tl_app [(b11, bx [.int .i64 c.1, .int .i64 c.2.1, .int .i64 c.2.2.1] 89), (b9, bx [.int .i64 f.1, .int .i64 f.2.1, .int .i64 f.2.2.1] 89)] rfl rfl hv rfl rfl rfl rfl rfl rfl (by omega) (by omega) fun b' cap' => ?_
              (repeat' (first|refine Zd ?_|refine Zi ?_|refine Zu tab rfl rfl ?_|fail))
              refine xt_roundK (j, 0, f, pre ++ [((ofPc f).p, (ofPc c).p)], .slice (some ⟨b', 0, none⟩) ((dr pre).length + 1) cap', [(b', row 3 1 ((dr pre).length + 1) cap' (((dr pre).map fun z => Value.int .i64 z) ++ [Value.int .i64 VV]))]) rfl ⟨rfl, rfl, rfl, trivial⟩ ⟨hj, hs, by dsimp only; rw [List.append_assoc]; exact hT, by simp, ?_, ?_⟩ (by dsimp only; omega) (fun _ h => h.sublist (.cons _ (List.Sublist.refl _)))
              · dsimp only
                have e3 : (dr pre ++ [VV]).length = (dr pre).length + 1 := List.length_append
                rw [hdr, e3, List.map_append]
                exact OwnsV.at_
              · dsimp only
                have e3 : (dr pre ++ [VV]).length = (dr pre).length + 1 := List.length_append
                rw [hdr, e3]
                omega
            · have hge2 := of_decide_eq_false h3
              rw [if_neg (by omega), Int.add_zero] at hone
              obtain ⟨VV, hVV⟩ : ∃ VV : Int, (f.1 + c.1) / 128 = VV := ⟨_, rfl⟩
              rw [hVV] at hone
              have hdr := hdr0
              rw [hone] at hdr
              have hfl2 : CDet Try.prog 53 [.int .i64 (f.1 + c.1), .int .i64 128] (.int .i64 VV) := ⟨by rw [← hVV]; exact floor_det _ _ (by omega) (by omega)⟩
              (repeat' (first|refine Zb ?_|refine Zc ?_|refine Zf ?_|refine Zu tab rfl rfl ?_|(apply Yt;refine Yu ?_)|(apply Yv;refine Yw fun _=>?_)|fail))
              rename_i b108
              refine tl_app [(b11, bx [.int .i64 c.1, .int .i64 c.2.1, .int .i64 c.2.2.1] 89), (b9, bx [.int .i64 f.1, .int .i64 f.2.1, .int .i64 f.2.2.1] 89)] rfl rfl hv rfl rfl rfl rfl rfl rfl (by omega) (by omega) fun b' cap' => ?_
              (repeat' (first|refine Zd ?_|refine Zi ?_|refine Zu tab rfl rfl ?_|fail))
              refine xt_roundK (j, 0, f, pre ++ [((ofPc f).p, (ofPc c).p)], .slice (some ⟨b', 0, none⟩) ((dr pre).length + 1) cap', [(b', row 3 1 ((dr pre).length + 1) cap' (((dr pre).map fun z => Value.int .i64 z) ++ [Value.int .i64 VV]))]) rfl ⟨rfl, rfl, rfl, trivial⟩ ⟨hj, hs, by dsimp only; rw [List.append_assoc]; exact hT, by simp, ?_, ?_⟩ (by dsimp only; omega) (fun _ h => h.sublist (.cons _ (List.Sublist.refl _)))
              · dsimp only
                have e3 : (dr pre ++ [VV]).length = (dr pre).length + 1 := List.length_append
                rw [hdr, e3, List.map_append]
                exact OwnsV.at_
              · dsimp only
                have e3 : (dr pre ++ [VV]).length = (dr pre).length + 1 := List.length_append
                rw [hdr, e3]
                omega
          · have hKc : K ≠ cf (ofPc c).n (ofPc c).d := by
              have : lessP (64 * K + 32) 0 1 c.1 c.2.1 c.2.2.1 = true := by simpa using h2
              have := hlcK.1 this
              omega
            rw [if_neg hKc] at hone
            rw [hone, List.append_nil] at hdr0
            (repeat' (first|refine Zf ?_|refine Zi ?_|fail))
            exact xt_roundK (j, 0, f, pre ++ [((ofPc f).p, (ofPc c).p)], v, Lv) rfl ⟨rfl, rfl, rfl, trivial⟩ ⟨hj, hs, by dsimp only; rw [List.append_assoc]; exact hT, by simp, by dsimp only; rw [hdr0]; exact hv, by dsimp only; rw [hdr0]; omega⟩ (by dsimp only; omega) (fun _ h => h.sublist (.cons _ (List.Sublist.refl _)))
      · have e2 : ¬ (t ≠ 0 ∧ s = 0) := fun h5 => hs0 h5.2
        rw [if_neg e2, List.nil_append] at hT
        rw [show decide (s ≠ 0) = true from decide_eq_true hs0]
        (repeat' (first|refine Zh ?_|refine Zj ?_|refine Zl ?_|refine Yx rfl ?_|fail))
        exact xt_roundK (j, s, f, pre, v, Lv) rfl ⟨rfl, rfl, rfl, trivial⟩ ⟨hj, hs, hT, fun _ => ⟨hfok, fun j' z hj' hz => hfle j' z (by dsimp only at hj'; omega) hz⟩, hv, by dsimp only; omega⟩ (by dsimp only; omega) (fun _ h => h.sublist (.cons _ (List.Sublist.refl _)))
  · have hil : i = R.length := by have := of_decide_eq_false h; omega
    subst hil
    rw [List.drop_of_length_le (by simp), strs, List.append_nil] at hq
    (repeat' (first|refine Za ?_|refine Zb ?_|refine Zc ?_|refine Zd ?_|refine Zg ?_|refine Zh ?_|refine Zj ?_|refine Zl ?_|refine Zq ?_|refine Zu tab rfl rfl ?_|fail))
    refine xt_ret1 rfl rfl fun wc hwc => ⟨_, rfl, hx3.trans hwc.toExt, ?_⟩
    rw [← hq]
    have := hv.own hwc fun p hp => List.mem_cons_of_mem _ hp
    rcases this with h | ⟨b, cp, o, h1, h2, h3⟩
    · exact .inl h
    · exact .inr ⟨b, cp, o, h1, Nat.le_trans hx3.size h2, h3⟩

end Go.Proofs.Ytbgolbkolcmldaa
