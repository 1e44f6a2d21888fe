/-
  The document's answer: the row of points of a contour.
-/
import Derived.Test.YtbgolbkolcmldaaW49
namespace Go.Proofs.Ytbgolbkolcmldaa
open Go.RowKit
attribute [local irreducible] T TL Xt O Op1 Kt DV ObsB DE DW DW1 LoopQ LoopJ

set_option maxHeartbeats 2000000 in
theorem row3_calls (w : World) (A Ao : Option Addr) (n cap no co : Nat) (p : Pts) (on : List Bool) (hp : Row w (.slice A n cap) p) (ho : Rd w 1 (.slice Ao no co) (boolC on)) (heq : on.length = p.length) (hc : InC (p.zip on)) (hl0 : 0 < p.length) (hl1 : p.length ≤ 400) : Calls Try.prog 79 #[.slice A n cap, .slice Ao no co] w (Ret w fun v w' => RowI w w' v (rowPts (ringOf (p.zip on)))) := by
  have hzl : (p.zip on).length = p.length := by rw [List.length_zip]; omega
  have hr := ringOf_in hc
  have hrl := ringTo_len (p.zip on) _ (Nat.le_refl _)
  rw [← ringOf_len] at hrl
  refine calls_S (vs := [.slice A n cap, .slice Ao no co]) Try.func79 rfl Try.ntmps79 rfl ?_
  (repeat' (first|refine Za ?_|refine Zb ?_|refine Zc ?_|refine Zd ?_|refine Zu tab rfl rfl ?_|fail))
  refine tl_callR (Post := fun w v w' => RdI w.heap.size w'.heap.size w' 3 v ((ringOf (p.zip on)).flatMap spC)) (fun w1 hw1 => ring3_calls w1 A Ao n cap no co p on (hp.ext hw1.toExt) (ho.ext hw1.toExt) heq hc hl0 (by omega)) rfl rfl ?_
  intro w1 w2 v14 hw1 he1 hv14
  refine tl_rebase fun w3 hw3 => ?_
  have hR := (hv14.move (hw3.sg fun p hp => by simp [hp])).rd
  have hx3 := hw3.toExt
  clear hw3 hv14 hw1 he1
  generalize ringOf (p.zip on) = r at *
  obtain ⟨A8, n8, c8, rfl, hl8, _⟩ := id hR
  obtain ⟨hn, hn'⟩ := sp_len hR
  subst hn
  have h0 : 0 < r.length := by omega
  obtain ⟨s0, hs0⟩ : ∃ s, r[0]? = some s := ⟨_, List.getElem?_eq_getElem h0⟩
  obtain ⟨b, off, rfl, hc0⟩ := sp_cl hR hs0
  have hc02 : ClA w3 b (off + 0 * 3 + 0) [.int .i64 s0.1.1, .int .i64 s0.1.2] := hc0.two
  obtain ⟨hg1, hg2⟩ := rowGo_in hr _ 0 (Nat.le_refl _)
  have hgp := rowGo_pos h0
  (repeat' (first|refine Za ?_|refine Zb ?_|refine Zc ?_|refine Zd ?_|refine Ze ?_|refine Zu tab rfl rfl ?_|(apply Zy;refine Zz ?_)|(apply Yn;refine Yo ?_)|(apply Yv;refine Yw fun _=>?_)|fail))
  rename_i b19
  refine t_loopK [5] (α := Nat × Pts × Value × HL) (fun x => [(6, x.2.2.1), (7, .int .i64 x.1)]) (fun x => x.1 ≤ r.length + 1 ∧ x.2.1 ++ rowGo r x.1 = s0.1 :: rowGo r 0 ∧ OwnsV x.2.2.1 24 2 x.2.1.length (ptCells x.2.1) x.2.2.2) (fun x => x.2.2.2) (fun x => r.length + 1 - x.1) (0, [s0.1], .slice (some ⟨b19, 0, none⟩) 1 1, [(b19, row 24 2 1 1 (ptCells [s0.1]))]) rfl ⟨rfl, rfl, trivial⟩ ⟨Nat.zero_le _, rfl, OwnsV.at_⟩ (fun w h => St.headImp h fun o ho => bx_row rfl (by omega) ho) ?_
  rintro ⟨i, T0, v, Lv⟩ ⟨hi, hq, hv⟩
  dsimp only at hi hq hv ⊢
  have hT0 : T0.length ≤ 8 * r.length + 1 := by
    have := congrArg List.length hq
    rw [List.length_append, List.length_cons] at this
    omega
  obtain ⟨Av, cv, rfl⟩ := hv.shape
  try dsimp only [List.cons_append, List.nil_append, List.map_cons, List.map_nil]
  (repeat' (first|refine Za ?_|refine Zb ?_|refine Zc ?_|refine Zd ?_|refine Zu tab rfl rfl ?_|fail))
  refine t_cond rfl (fun h => ?_) (fun h => ?_)
  · have hil : i < r.length := by have := of_decide_eq_true h; omega
    obtain ⟨a, ha⟩ : ∃ s, r[i]? = some s := ⟨_, List.getElem?_eq_getElem hil⟩
    have m2 : (i + 1) % r.length < r.length := Nat.mod_lt _ (by omega)
    have m3 : (i + 2) % r.length < r.length := Nat.mod_lt _ (by omega)
    obtain ⟨c, hc⟩ : ∃ t, r[(i + 1) % r.length]? = some t := ⟨_, List.getElem?_eq_getElem m2⟩
    obtain ⟨d, hd⟩ : ∃ t, r[(i + 2) % r.length]? = some t := ⟨_, List.getElem?_eq_getElem m3⟩
    obtain ⟨b', off', he, hca⟩ := sp_cl hR ha
    cases he
    obtain ⟨b', off', he, hcc⟩ := sp_cl hR hc
    cases he
    obtain ⟨b', off', he, hcd⟩ := sp_cl hR hd
    cases he
    have hain := hr a (List.mem_of_getElem? ha)
    have hcin := hr c (List.mem_of_getElem? hc)
    have hdin := hr d (List.mem_of_getElem? hd)
    have hrem1 : ((i : Int) + 1).tmod (r.length : Int) = (((i + 1) % r.length : Nat) : Int) := by
      rw [Int.tmod_eq_emod_of_nonneg (by omega)]; simp
    have hrem2 : ((i : Int) + 2).tmod (r.length : Int) = (((i + 2) % r.length : Nat) : Int) := by
      rw [Int.tmod_eq_emod_of_nonneg (by omega)]; simp
    have hca2 := hca.two
    have hcd2 := hcd.two
    clear hc02 hc0
    (repeat' (first|refine Za ?_|refine Zb ?_|refine Zc ?_|refine Zd ?_|refine Ze ?_|refine Zf ?_|refine Zu tab rfl rfl ?_|(apply Zy;refine Zz ?_)|(apply Yc;refine Yd ?_)|(apply Ye;refine Yf ?_)|refine Yk rfl fun _=>?_|(apply Yn;refine Yo ?_)|fail))
    refine tl_bin (o_rem rfl rfl (by omega)) rfl ?_
    rw [hrem1]
    (repeat' (first|refine Za ?_|refine Zb ?_|refine Zc ?_|refine Zd ?_|refine Zu tab rfl rfl ?_|(apply Zy;refine Zz ?_)|(apply Ye;refine Yf ?_)|refine Yk rfl fun _=>?_|(apply Yn;refine Yo ?_)|fail))
    rename_i b8 b9
    cases hon : c.2 with
    | true =>
      rw [rowGo_on ha hc hd hon] at hq
      (repeat' (first|refine Za ?_|refine Zb ?_|refine Zu tab rfl rfl ?_|refine Yx rfl ?_|fail))
      refine tl_load (o_loadBP 0 (vs := [.int .i64 c.1.1, .int .i64 c.1.2]) rfl rfl rfl rfl) rfl ?_
      (repeat' (first|(apply Yv;refine Yw fun _=>?_)|fail))
      rename_i b42
      refine tl_app [(b9, bx [.int .i64 c.1.1, .int .i64 c.1.2, .bool true] 145), (b8, bx [.int .i64 a.1.1, .int .i64 a.1.2] 24)] rfl rfl hv rfl rfl rfl rfl rfl rfl (by omega) (by omega) fun b31 cap31 => ?_
      (repeat' (first|refine Za ?_|refine Zb ?_|refine Zc ?_|refine Zd ?_|refine Zh ?_|refine Zj ?_|refine Zl ?_|refine Zu tab rfl rfl ?_|(apply Yc;refine Yd ?_)|fail))
      refine xt_roundK (i + 1, T0 ++ [c.1], .slice (some ⟨b31, 0, none⟩) (T0.length + 1) cap31, [(b31, row 24 2 (T0.length + 1) cap31 (ptCells T0 ++ [Value.int .i64 c.1.1, Value.int .i64 c.1.2]))]) rfl ⟨rfl, rfl, trivial⟩ ⟨by dsimp only; omega, by dsimp only; rw [List.append_assoc]; exact hq, ?_⟩ (by dsimp only; omega) (fun _ h => h.sublist (.cons _ (.cons _ (List.Sublist.refl _))))
      dsimp only
      rw [ptCells_append, List.length_append]
      exact OwnsV.at_
    | false =>
      rw [rowGo_off ha hc hd hon, ← List.append_assoc] at hq
      (repeat' (first|refine Za ?_|refine Zb ?_|refine Zc ?_|refine Zf ?_|refine Zu tab rfl rfl ?_|(apply Yc;refine Yd ?_)|refine Yy rfl ?_|fail))
      refine tl_bin (o_rem rfl rfl (by omega)) rfl ?_
      rw [hrem2]
      (repeat' (first|refine Za ?_|refine Zb ?_|refine Zc ?_|refine Zd ?_|refine Ze ?_|refine Zu tab rfl rfl ?_|(apply Zy;refine Zz ?_)|(apply Ye;refine Yf ?_)|refine Yk rfl fun _=>?_|(apply Yn;refine Yo ?_)|fail))
      rename_i b10
      refine t_loopK [5, 7, 8, 9, 10] (α := Nat × Value × HL) (fun x => [(6, x.2.1), (11, .int .i64 ((x.1 : Int) + 1))]) (fun x => x.1 ≤ 8 ∧ OwnsV x.2.1 24 2 (T0 ++ cvTo a.1 c.1 d.1 x.1).length (ptCells (T0 ++ cvTo a.1 c.1 d.1 x.1)) x.2.2) (fun x => [(b10, bx [.int .i64 d.1.1, .int .i64 d.1.2] 24), (b9, bx [.int .i64 c.1.1, .int .i64 c.1.2, .bool false] 145), (b8, bx [.int .i64 a.1.1, .int .i64 a.1.2] 24)] ++ x.2.2) (fun x => 8 - x.1) (0, .slice Av T0.length cv, Lv) rfl ⟨rfl, rfl, trivial⟩ ⟨by simp, by dsimp only; rw [show cvTo a.1 c.1 d.1 0 = [] from rfl, List.append_nil]; exact hv⟩ (fun w h => h) ?_
      rintro ⟨k, u, Lu⟩ ⟨hk, hu⟩
      dsimp only at hk hu ⊢
      have hul : (T0 ++ cvTo a.1 c.1 d.1 k).length ≤ 8 * r.length + 9 := by rw [List.length_append, cvTo_len]; omega
      try dsimp only [List.cons_append, List.nil_append, List.map_cons, List.map_nil]
      (repeat' (first|refine Za ?_|refine Zb ?_|refine Zc ?_|refine Zd ?_|refine Zu tab rfl rfl ?_|fail))
      refine t_cond rfl (fun h2 => ?_) (fun h2 => ?_)
      · have hk8 : k < 8 := by have := of_decide_eq_true h2; omega
        have hcv1 : CDet Try.prog 92 [.int .i64 ((k : Int) + 1), .int .i64 a.1.1, .int .i64 c.1.1, .int .i64 d.1.1] _ := ⟨mix_det ((k : Int) + 1) a.1.1 c.1.1 d.1.1 (by omega) ⟨hain.1, hain.2.1⟩ ⟨hcin.1, hcin.2.1⟩ ⟨hdin.1, hdin.2.1⟩⟩
        have hcv2 : CDet Try.prog 92 [.int .i64 ((k : Int) + 1), .int .i64 a.1.2, .int .i64 c.1.2, .int .i64 d.1.2] _ := ⟨mix_det ((k : Int) + 1) a.1.2 c.1.2 d.1.2 (by omega) hain.2.2 hcin.2.2 hdin.2.2⟩
        (repeat' (first|refine Za ?_|refine Zc ?_|refine Ze ?_|refine Zf ?_|fail))
        refine t_drawW 21 [(0, .v), (1, .v), (2, .v), (3, .v), (4, .v), (5, .v), (6, .v), (7, .v), (8, .v), (9, .v), (10, .v), (11, .v), (12, .v), (13, .v), (14, .v), (15, .v), (16, .v), (17, .v), (18, .v), (19, .v), (20, .e)] ?_ rfl (by kernel_rfl) (by kernel_rfl) rfl (by kernel_rfl) mixed (by kernel_rfl) rfl
        (repeat' (first|refine Yz rfl ?_|refine Vd tab ?_|(apply Vf;refine Vg ?_)|(apply Vn;refine Vo ?_)|(apply Vp;refine Vq ?_)|(apply Vz;refine Ua fun _=>?_)|fail))
        rename_i b79
        refine dw_end [5, 7, 8, 9, 10, 11, 59, 79] (rest := []) rfl ?_
        refine tl_app [(b10, bx [.int .i64 d.1.1, .int .i64 d.1.2] 24), (b9, bx [.int .i64 c.1.1, .int .i64 c.1.2, .bool false] 145), (b8, bx [.int .i64 a.1.1, .int .i64 a.1.2] 24)] rfl rfl hu rfl rfl rfl rfl rfl rfl (by omega) (by omega) fun b59 cap59 => ?_
        (repeat' (first|refine Zb ?_|refine Zc ?_|refine Zd ?_|refine Zi ?_|refine Zu tab rfl rfl ?_|(apply Yc;refine Yd ?_)|fail))
        refine xt_roundK (k + 1, .slice (some ⟨b59, 0, none⟩) ((T0 ++ cvTo a.1 c.1 d.1 k).length + 1) cap59, [(b59, row 24 2 ((T0 ++ cvTo a.1 c.1 d.1 k).length + 1) cap59 (ptCells (T0 ++ cvTo a.1 c.1 d.1 k) ++ [Value.int .i64 (cvP a.1 c.1 d.1 ((k : Int) + 1)).1, Value.int .i64 (cvP a.1 c.1 d.1 ((k : Int) + 1)).2]))]) rfl ⟨rfl, by dsimp only; rw [Int.natCast_add]; rfl, trivial⟩ ⟨by dsimp only; omega, ?_⟩ (by dsimp only; omega) (fun _ h => h)
        dsimp only
        have e3 : (T0 ++ cvTo a.1 c.1 d.1 k ++ [cvP a.1 c.1 d.1 ((k : Int) + 1)]).length = (T0 ++ cvTo a.1 c.1 d.1 k).length + 1 := List.length_append
        rw [cvTo_succ, ← List.append_assoc, ptCells_append, e3]
        exact OwnsV.at_
      · have hk8 : k = 8 := by have := of_decide_eq_false h2; omega
        subst hk8
        (repeat' (first|refine Zb ?_|refine Zc ?_|refine Zd ?_|refine Zh ?_|refine Zi ?_|refine Zj ?_|refine Zl ?_|refine Zq ?_|refine Zu tab rfl rfl ?_|(apply Yc;refine Yd ?_)|fail))
        refine xt_roundK (i + 2, T0 ++ cvTo a.1 c.1 d.1 8, u, Lu) rfl ⟨rfl, rfl, trivial⟩ ⟨by dsimp only; omega, hq, hu⟩ (by dsimp only; omega) (fun _ h => h.sublist (.cons _ (.cons _ (.cons _ (List.Sublist.refl _)))))
  · have hil : r.length ≤ i := by have := of_decide_eq_false h; omega
    rw [rowGo_end hil, List.append_nil] at hq
    subst hq
    refine t_get (φ := (s0.1 :: rowGo r 0).length ≤ cv ∧ cv ≤ 9223372036854775807) (fun w hw => ?_) fun hcv => ?_
    · rcases hv with ⟨_, h2, _, _⟩ | ⟨bo, co, h1, h2⟩
      · simp at h2
      · injection h1 with _ _ e2
        rw [e2]
        rw [h2] at hw
        exact hw.rowLe (List.mem_singleton.2 rfl)
    have hlen : (s0.1 :: rowGo r 0).length = (rowGo r 0).length + 1 := rfl
    have hrp : rowPts r = (s0.1 :: rowGo r 0).take (rowGo r 0).length := by
      unfold rowPts
      rw [hs0]
      show (s0.1 :: rowGo r 0).dropLast = _
      rw [List.dropLast_eq_take]
      rfl
    have e7 : (((s0.1 :: rowGo r 0).length : Nat) : Int) - 1 = ((rowGo r 0).length : Int) := by omega
    (repeat' (first|refine Za ?_|refine Zb ?_|refine Zc ?_|refine Zh ?_|refine Zj ?_|refine Zl ?_|refine Zq ?_|refine Zu tab rfl rfl ?_|(apply Yc;refine Yd ?_)|fail))
    rw [e7]
    refine tl_val (o_sliceH rfl rfl (by omega)) rfl rfl ?_
    (repeat' (first|refine Zc ?_|refine Zd ?_|refine Zg ?_|refine Zu tab rfl rfl ?_|fail))
    refine xt_ret1 rfl rfl fun w1 hw1 => ⟨_, rfl, hx3.trans hw1.toExt, ?_⟩
    rw [hrp]
    show RdI _ _ _ 2 _ (ptCells _)
    rw [ptCells_take]
    exact (hv.cutRdI rfl hw1 (fun p hp => hp) (by omega) (by omega) (by omega)).wide hx3.size (Nat.le_refl _)

end Go.Proofs.Ytbgolbkolcmldaa
