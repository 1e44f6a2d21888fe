/-
  'RasterOvers', walked.
-/
import Derived.Test.YtbgolbkolcmldaaP17
namespace Go.Proofs.Ytbgolbkolcmldaa
open Go.RowKit
theorem run_eqB {P : Program} {t : TypeId} (h : P.underlying t = some .bool) (a b : Bool) (w : World) : (Op.equal t (.bool a) (.bool b)).run P w = .ok (a == b) w := by
  have e : Op.maxDepth = Nat.succ (Op.maxDepth - 1) := by decide
  rw [Op.equal, e, Op.equalIn]
  simp [run_underlying h]
theorem o_eqB {P : Program} {fr : Fr} {I : World → Prop} {d : Option Tmp} {ty t t' : TypeId} {pos : String} {af : Array Edge} {g : Option (Nat × Bool)} {x y : Operand} {a b : Bool} (h : P.underlying t = some .bool) (hx : fev fr x = some (.bool a)) (hy : fev fr y = some (.bool b)) : Pv P ⟨d, .binOp .eql t x y t', ty, pos, af, g⟩ fr I (.bool (a == b)) :=
  pv_of fun ρ w hρ _ => by
    simp [execOp, hρ _ _ hx, hρ _ _ hy, eqGuard, binOp, go_sem, run_eqB h]
end Go.Proofs.Ytbgolbkolcmldaa
namespace Go.Proofs.Ytbgolbkolcmldaa
open Go.RowKit
attribute [local irreducible] T TL Xt O Op1 Kt DV ObsB DE DW DW1 LoopQ LoopJ

theorem small_of1000 {B : Bm} (h : B.rows.length ≤ 1000 ∧ ∀ s ∈ B.rows, s.size ≤ 1000) : B.small := ⟨by have := h.1; omega, fun s hs => by have := h.2 s hs; omega⟩
set_option maxHeartbeats 1000000 in
theorem overs_calls (w : World) (va : Value) (A : Bm) (ha : BmAt w va A) (vb : Value) (B : Bm) (hb : BmAt w vb B) (x y : Int) : Calls Try.prog 12 #[va, vb, pt x y] w (Ret w fun v _ => v = .bool true) := by
  obtain ⟨ra, rfl, hra⟩ := id ha
  obtain ⟨rb, rfl, hrb⟩ := id hb
  obtain ⟨Aa, na, ca, rfl, _⟩ := id hra
  obtain ⟨Ab, nb, cb, rfl, _⟩ := id hrb
  have hsA := rowsB_small A
  have hsB := rowsB_small B
  refine calls_S (vs := [bmV A (.slice Aa na ca), bmV B (.slice Ab nb cb), pt x y]) Try.func12 rfl Try.ntmps12 rfl ?_
  (repeat' (first|refine Za ?_|refine Zb ?_|refine Zc ?_|refine Zd ?_|refine Zu tab rfl rfl ?_|(apply Zy;refine Zz ?_)|(apply Yg; first|refine Yh fun _=>?_|refine Yi (Yj rfl rfl) rfl fun _=>?_)|(apply Yt;refine Yu ?_)|fail))
  rename_i b3 b4 b5
  refine tl_callR (Post := fun w1 v w2 => BmI w1 w2 v (rowsB A)) (fun w1 hw1 => lrows_calls w1 _ A ⟨_, rfl, hra.ext hw1.toExt⟩) rfl rfl ?_
  rintro w1 w2 v1 hw1 he1 ⟨rv1, rfl, hr1⟩
  obtain ⟨A1, n1, c1, rfl, _⟩ := id hr1
  (repeat' (first|refine Za ?_|refine Zb ?_|refine Zc ?_|refine Zd ?_|(apply Zy;refine Zz ?_)|(apply Ye;refine Yf ?_)|fail))
  refine tl_callR (Post := fun w1 v w2 => BmI w1 w2 v (rowsB B)) (fun w3 hw3 => lrows_calls w3 _ B ⟨_, rfl, hrb.ext hw3.toExt⟩) rfl rfl ?_
  rintro w3 w4 v2 hw3 he3 ⟨rv2, rfl, hr2⟩
  obtain ⟨A2, n2, c2, rfl, _⟩ := id hr2
  have hov := overs_eq (rowsB A) (rowsB B) x y
  have hat := black_mem (rowsB A)
  have hha := has_at (rowsB A) x y
  generalize rowsB A = RA at *
  generalize rowsB B = RB at *
  (repeat' (first|refine Za ?_|refine Zb ?_|refine Zc ?_|refine Zd ?_|refine Zu tab rfl rfl ?_|(apply Zy;refine Zz ?_)|(apply Ye;refine Yf ?_)|fail))
  refine tl_rebase fun w5 hw5 => ?_
  have hbA : BmAt w5 (bmV RA (.slice A1 n1 c1)) RA := ⟨_, rfl, (RdI.move hr1 (hw5.sg fun p hp => by simp [hp])).rd⟩
  have hbB : BmAt w5 (bmV RB (.slice A2 n2 c2)) RB := ⟨_, rfl, (RdI.move hr2 (hw5.sg fun p hp => by simp [hp])).rd⟩
  have hc3 := own_cl (b := b3) (cs := [.int .i64 RA.X, .int .i64 RA.Y, .int .i64 RA.W, .int .i64 RA.H, .slice A1 n1 c1]) (t := 30) hw5 (by simp)
  have hc4 := own_cl (b := b4) (cs := [.int .i64 RB.X, .int .i64 RB.Y, .int .i64 RB.W, .int .i64 RB.H, .slice A2 n2 c2]) (t := 30) hw5 (by simp)
  have hc5 := own_cl (b := b5) (cs := [.int .i64 x, .int .i64 y]) (t := 24) hw5 (by simp)
  have hx5 := hw5.toExt
  clear hw5 hr1 hr2 hw1 hw3 he1 he3
  refine tl_callR (Post := fun w1 v w2 => BmI w1 w2 v (overB RA RB x y)) (fun w6 hw6 => over_calls w6 _ _ RA RB (hbA.to hw6.toExt) (hbB.to hw6.toExt) (small_of1000 hsA) (small_of1000 hsB) x y) rfl rfl ?_
  rintro w6 w7 v6 hw6 he6 ⟨rv6, rfl, hr6⟩
  obtain ⟨A6, n6, c6, rfl, _⟩ := id hr6
  generalize overB RA RB x y = OB at *
  (repeat' (first|refine Za ?_|refine Zc ?_|refine Zd ?_|(apply Ye;refine Yf ?_)|refine Yk rfl fun _=>?_|fail))
  rename_i b8
  refine t_drawW 8 [(0, .v), (1, .v), (2, .v), (3, .v), (4, .v), (5, .v), (6, .v), (7, .e)] ?_ rfl (by kernel_rfl) (by kernel_rfl) rfl (by kernel_rfl) mixed (by kernel_rfl) rfl
  (repeat' (first|refine Yz rfl ?_|refine Vd tab ?_|(apply Vf;refine Vg ?_)|fail))
  refine dw_callR (Post := fun w1 v w2 => BmI w1 w2 v OB) (fun L' w8 hw8 => ?_) rfl trivial rfl ?_
  · rw [hov]
    exact rover_calls w8 _ _ RA RB (hbA.to hw8.toExt) (hbB.to hw8.toExt) hsA hsB x y
  rintro w8 w9 v8 L8 hw8 he8 ⟨rv8, rfl, hr8⟩
  obtain ⟨A8, n8, c8, rfl, _⟩ := id hr8
  (repeat' (first|fail))
  refine dw_end [3, 5, 7, 23, 30] (rest := []) rfl ?_
  (repeat' (first|fail))
  refine tl_callV (u := .bool true) (fun wd hwd => ?_) rfl rfl ?_
  · have := same_calls wd _ _ OB OB ⟨_, rfl, (RdI.move hr6 (hwd.sg fun p hp => by simp [hp])).rd⟩ ⟨_, rfl, (RdI.move hr8 (hwd.sg fun p hp => by simp [hp])).rd⟩
    rw [show decide (Bm.same OB OB) = true by simp [Bm.same]] at this
    exact this
  (repeat' (first|refine Za ?_|refine Zb ?_|refine Zc ?_|refine Zd ?_|refine Zf ?_|refine Zu tab rfl rfl ?_|(apply Zy;refine Zz ?_)|refine Yy rfl ?_|fail))
  refine tl_callR (Post := fun w1 v w2 => Own w1 w2 v 24 2 (blackL RA).length (ptCells (blackL RA))) (fun wa hwa => black_calls wa _ RA (hbA.to hwa.toExt) hsA) rfl rfl ?_
  rintro wa wb v9 hwa hea ho9
  refine tl_rebase fun wc hwc => ?_
  have hR9 : Row wc v9 (blackL RA) := (ho9.rdI.move (hwc.sg fun p hp => by simp [hp])).rd
  obtain ⟨A9, n9, c9, rfl, _⟩ := id hR9
  have hbAc := hbA.to hwc.toExt
  have hc3c := hc3.to hwc.toExt
  have hc5c := hc5.to hwc.toExt
  have hxc := hx5.trans hwc.toExt
  clear hwc ho9 hwa hea hbA hbB hc3 hc4 hc5 hx5
  have hn9 := row_len hR9
  have hn9' := row_le hR9
  subst hn9
  (repeat' (first|refine Za ?_|refine Zb ?_|refine Zc ?_|refine Zd ?_|refine Ze ?_|refine Zu tab rfl rfl ?_|fail))
  refine t_loopK [3, 5, 7, 9] (α := Nat) (fun i => [(10, .int .i64 i)]) (fun i => i ≤ (blackL RA).length ∧ i ≤ 10) (fun _ => []) (fun i => 10 - i) 0 rfl ⟨rfl, trivial⟩ ⟨Nat.zero_le _, Nat.zero_le _⟩ (fun _ h => h) ?_
  rintro i ⟨hi, hi10⟩
  try dsimp only [List.cons_append, List.nil_append, List.map_cons, List.map_nil]
  (repeat' (first|refine Za ?_|refine Zb ?_|refine Zu tab rfl rfl ?_|fail))
  refine tl_if [3, 5, 7, 9, 10] (i < (blackL RA).length ∧ i < 10) rfl (fun Q' K => ?_) (fun hC => ?_) (fun hC => ?_)
  · (repeat' (first|refine Zd ?_|refine Zu tab rfl rfl ?_|refine Zv rfl rfl ?_|refine Zw rfl rfl rfl rfl ?_|(apply Ya;refine Yb ?_)|refine tl_guard rfl rfl rfl (fun _ => ?_) (fun _ => ?_)|fail))
    all_goals exact K _ _ rfl rfl (by simp_all <;> omega)
  · obtain ⟨p, hp⟩ : ∃ p, (blackL RA)[i]? = some p := ⟨_, List.getElem?_eq_getElem hC.1⟩
    obtain ⟨b9, off9, rfl, hcp⟩ := row_cl hR9 hp
    have hpa : RA.at p.1 p.2 = true := (hat p.1 p.2).1 (List.mem_of_getElem? hp)
    (repeat' (first|refine Za ?_|refine Zc ?_|refine Ze ?_|refine Zf ?_|fail))
    refine t_drawW 11 [(0, .v), (1, .v), (2, .v), (3, .v), (4, .v), (5, .v), (6, .v), (7, .v), (8, .v), (9, .v), (10, .v)] ?_ rfl (by kernel_rfl) (by kernel_rfl) rfl (by kernel_rfl) mixed (by kernel_rfl) rfl
    (repeat' (first|refine Yz rfl ?_|refine Vd tab ?_|(apply Vf;refine Vg ?_)|(apply Vl;refine Vm ?_)|fail))
    refine dw_end [3, 5, 7, 9, 10, 45, 50, 55] (rest := []) rfl ?_
    (repeat' (first|fail))
    refine tl_callV (u := .bool true) (fun wd hwd => ?_) rfl rfl ?_
    · have := at_calls wd _ RA (hbAc.to hwd.toExt) p.1 p.2
      rw [hpa] at this
      exact this
    (repeat' (first|refine Zb ?_|refine Zc ?_|refine Zd ?_|refine Zf ?_|refine Zi ?_|refine Zu tab rfl rfl ?_|(apply Yc;refine Yd ?_)|refine Yy rfl ?_|fail))
    exact xt_roundK (i + 1) rfl ⟨rfl, trivial⟩ ⟨by omega, by omega⟩ (by omega) (fun _ h => h)
  · (repeat' (first|refine Za ?_|refine Zc ?_|refine Zh ?_|refine Zj ?_|refine Zl ?_|refine Zq ?_|fail))
    refine t_drawW 13 [(0, .v), (1, .v), (2, .v), (3, .v), (4, .v), (5, .v), (6, .v), (8, .v), (9, .v), (10, .v), (11, .v), (12, .v), (7, .e)] ?_ rfl (by kernel_rfl) (by kernel_rfl) rfl (by kernel_rfl) mixed (by kernel_rfl) rfl
    (repeat' (first|refine Yz rfl ?_|refine Vd tab ?_|(apply Vf;refine Vg ?_)|fail))
    refine dw_callV (u := .bool (RA.at x y)) (fun L' wd hwd => at_calls wd _ RA (hbAc.to hwd.toExt) x y) rfl rfl rfl rfl ?_
    (repeat' (first|fail))
    refine dw_end [59, 65, 66, 68, 70] (rest := []) rfl ?_
    (repeat' (first|refine Zv rfl rfl ?_|fail))
    refine tl_callV (u := .bool (RA.at x y)) (fun wd hwd => ?_) rfl rfl ?_
    · have := has_calls wd _ _ _ (blackL RA) (hR9.ext hwd.toExt) x y
      rw [hha] at this
      exact this
    generalize RA.at x y = bt
    (repeat' (first|refine Zv rfl rfl ?_|fail))
    refine tl_bin (o_eqB Try.underlying4 rfl rfl) rfl ?_
    rw [show (bt == bt) = true by simp]
    (repeat' (first|refine Zc ?_|refine Zd ?_|refine Zg ?_|refine Zu tab rfl rfl ?_|(apply Ya;refine Yb ?_)|fail))
    exact xt_ret1 rfl rfl fun we hwe => ⟨_, rfl, hxc.trans hwe.toExt, rfl⟩

end Go.Proofs.Ytbgolbkolcmldaa
