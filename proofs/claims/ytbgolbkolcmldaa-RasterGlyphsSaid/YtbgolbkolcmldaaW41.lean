/-
  The document's answer: which pixels lines have.
-/
import Derived.Test.YtbgolbkolcmldaaW36
import Derived.Test.YtbgolbkolcmldaaW39
import Derived.Test.YtbgolbkolcmldaaW40
namespace Go.Proofs.Ytbgolbkolcmldaa
open Go.RowKit
attribute [local irreducible] T TL Xt O Op1 Kt DV ObsB DE DW DW1 LoopQ LoopJ

noncomputable def dropsOf (N : List Pts) (k : Int) : List Int := dr (strs ((crsR (64 * k + 32) N).map ofPc) 0 (0, 0))
def wOne (N : List Pts) (k i : Int) : Pts := if wind N (64 * i + 32) (64 * k + 32) ≠ 0 then [(i, k)] else []
def wRow (N : List Pts) (x0 k : Int) (j : Nat) : Pts := (List.range j).flatMap fun (m : Nat) => wOne N k (x0 + m)
noncomputable def rowL (N : List Pts) (x0 : Int) (NX : Nat) (k : Int) : Pts := wRow N x0 k NX ++ (dropsOf N k).map fun d => (d, k)
noncomputable def rowsL (N : List Pts) (x0 y0 : Int) (NX : Nat) (m : Nat) : Pts := (List.range m).flatMap fun (m : Nat) => rowL N x0 NX (y0 + m)
noncomputable def rfillL (N : List Pts) (q : Int × Int × Int × Int × Bool) : Pts := rowsL N (q.1 / 64) (q.2.1 / 64) (q.2.2.1 / 64 - q.1 / 64 + 1).toNat (q.2.2.2.1 / 64 - q.2.1 / 64 + 1).toNat
theorem wRow_succ (N : List Pts) (x0 k : Int) (j : Nat) : wRow N x0 k (j + 1) = wRow N x0 k j ++ wOne N k (x0 + j) := by simp [wRow, List.range_succ]
theorem rowsL_succ (N : List Pts) (x0 y0 : Int) (NX m : Nat) : rowsL N x0 y0 NX (m + 1) = rowsL N x0 y0 NX m ++ rowL N x0 NX (y0 + m) := by simp [rowsL, List.range_succ]
theorem wOne_le (N : List Pts) (k i : Int) : (wOne N k i).length ≤ 1 := by unfold wOne; split <;> simp
theorem wRow_le (N : List Pts) (x0 k : Int) (j : Nat) : (wRow N x0 k j).length ≤ j := by
  induction j with
  | zero => simp [wRow]
  | succ j ih =>
    have := wOne_le N k (x0 + j)
    rw [wRow_succ, List.length_append]; omega
def Near (N : List Pts) : Prop := ∀ p ∈ N.flatten, -2048 ≤ p.1 ∧ p.1 ≤ 2047 ∧ -2048 ≤ p.2 ∧ p.2 ≤ 2047

set_option maxHeartbeats 2000000 in
theorem rfill_calls (w : World) (A : Option Addr) (n cap : Nat) (N : List Pts) (hL : Lines w (.slice A n cap) N) (hN : Near N) (hcount : N.flatten.length ≤ 10000) (hdl : ∀ k, (dropsOf N k).length ≤ 10000) (hok : ∀ k, ∀ c ∈ crsR (64 * k + 32) N, PcOk c) (hsr : ∀ k, Sorted ((crsR (64 * k + 32) N).map ofPc)) (hdb : ∀ k, ∀ d ∈ dropsOf N k, -1000 ≤ d ∧ d ≤ 1000) :
    Calls Try.prog 25 #[.slice A n cap] w (Ret w fun v w' => BmI w w' v (if N.flatten = [] then Bm.nil else bmOf ((rfillL N (boxP N)).map ptS))) := by
  refine calls_S (vs := [.slice A n cap]) Try.func25 rfl Try.ntmps25 rfl ?_
  (repeat' (first|refine Za ?_|refine Zb ?_|refine Zc ?_|refine Zd ?_|refine Zu tab rfl rfl ?_|refine Yk rfl fun _=>?_|fail))
  rename_i b2
  refine tl_callV (u := boxV (rboxP N)) (fun w1 hw1 => rbox_calls w1 A n cap N (hL.to hw1.toExt)) rfl rfl ?_
  by_cases hne : N.flatten = []
  · have hb : rboxP N = rb0 := by unfold rboxP; rw [hne]; rfl
    rw [hb, if_pos hne]
    (repeat' (first|refine Za ?_|refine Zb ?_|refine Zc ?_|refine Zd ?_|refine Zg ?_|refine Zk ?_|refine Zu tab rfl rfl ?_|refine Zw rfl rfl rfl rfl ?_|(apply Ya;refine Yb ?_)|(apply Ye;refine Yf ?_)|refine Yk rfl fun _=>?_|(apply Yl;refine Ym ?_)|refine Yx rfl ?_|fail))
    exact xt_retAS 2 rfl rfl rfl rfl fun w1 hw1 => bmI_nil w w1
  · rw [if_neg hne, rbox_eq N hne]
    have hs : Small N := near_small hN hne
    have hw := box_within _ _ _ _ hN (by omega) (by omega) hs
    have hbo := box_ok N hs.1
    have h5 := hs.1
    unfold rfillL
    generalize boxP N = q at *
    obtain ⟨lx, ly, hx, hy, ok⟩ := q
    dsimp only at hw hbo h5 ⊢
    subst h5
    rw [show boxV (lx, ly, hx, hy, true) = .tuple #[pt lx ly, pt hx hy, .bool true] from rfl]
    (repeat' (first|refine Za ?_|refine Zb ?_|refine Zc ?_|refine Zd ?_|refine Zu tab rfl rfl ?_|refine Zv rfl rfl ?_|(apply Zy;refine Zz ?_)|(apply Ya;refine Yb ?_)|(apply Yc;refine Yd ?_)|(apply Ye;refine Yf ?_)|refine Yk rfl fun _=>?_|fail))
    rename_i b3 b4
    refine tl_if [0, 2, 3, 4] False rfl (fun Q' K => ?_) (fun hC => hC.elim) (fun hC => ?_)
    · (repeat' (first|refine Zd ?_|refine Zu tab rfl rfl ?_|refine Zv rfl rfl ?_|refine Zw rfl rfl rfl rfl ?_|(apply Zy;refine Zz ?_)|(apply Ya;refine Yb ?_)|(apply Yc;refine Yd ?_)|refine tl_guard rfl rfl rfl (fun _ => ?_) (fun _ => ?_)|fail))
      all_goals exact K _ _ rfl rfl (by simp_all <;> omega)
    have hdv := hs.2
    obtain ⟨NX, hNX⟩ : ∃ NX : Nat, hx / 64 - lx / 64 + 1 = NX ∧ NX ≤ 100 := ⟨(hx / 64 - lx / 64 + 1).toNat, by omega, by omega⟩
    obtain ⟨NY, hNY⟩ : ∃ NY : Nat, hy / 64 - ly / 64 + 1 = NY ∧ NY ≤ 100 := ⟨(hy / 64 - ly / 64 + 1).toNat, by omega, by omega⟩
    rw [hNX.1, hNY.1, Int.toNat_natCast, Int.toNat_natCast]
    obtain ⟨X0, hX0⟩ : ∃ X0 : Int, lx / 64 = X0 := ⟨_, rfl⟩
    obtain ⟨Y0, hY0⟩ : ∃ Y0 : Int, ly / 64 = Y0 := ⟨_, rfl⟩
    obtain ⟨X1, hX1⟩ : ∃ X1 : Int, hx / 64 = X1 := ⟨_, rfl⟩
    obtain ⟨Y1, hY1⟩ : ∃ Y1 : Int, hy / 64 = Y1 := ⟨_, rfl⟩
    have f1 : CDet Try.prog 53 [.int .i64 lx, .int .i64 64] (.int .i64 X0) := ⟨by rw [← hX0]; exact floor_det _ _ (by omega) (by omega)⟩
    have f2 : CDet Try.prog 53 [.int .i64 ly, .int .i64 64] (.int .i64 Y0) := ⟨by rw [← hY0]; exact floor_det _ _ (by omega) (by omega)⟩
    have f3 : CDet Try.prog 53 [.int .i64 hx, .int .i64 64] (.int .i64 X1) := ⟨by rw [← hX1]; exact floor_det _ _ (by omega) (by omega)⟩
    have f4 : CDet Try.prog 53 [.int .i64 hy, .int .i64 64] (.int .i64 Y1) := ⟨by rw [← hY1]; exact floor_det _ _ (by omega) (by omega)⟩
    rw [hX0, hY0]
    (repeat' (first|refine Za ?_|refine Zb ?_|refine Zc ?_|refine Zd ?_|refine Ze ?_|refine Zf ?_|refine Zu tab rfl rfl ?_|(apply Zy;refine Zz ?_)|(apply Yt;refine Yu ?_)|(apply Yv;refine Yw fun _=>?_)|fail))
    rename_i b36
    refine t_loopK [0, 2, 3, 4] (α := Nat × Value × HL) (fun z => [(6, z.2.1), (7, .int .i64 (Y0 + z.1))]) (fun z => z.1 ≤ NY ∧ OwnsV z.2.1 24 2 (rowsL N X0 Y0 NX z.1).length (ptCells (rowsL N X0 Y0 NX z.1)) z.2.2 ∧ (rowsL N X0 Y0 NX z.1).length ≤ z.1 * 20200) (fun z => (b4, bx [.int .i64 hx, .int .i64 hy] 24) :: (b3, bx [.int .i64 lx, .int .i64 ly] 24) :: (b2, bx [.int .i64 0, .int .i64 0, .int .i64 0, .int .i64 0, .slice none 0 0] 30) :: z.2.2) (fun z => NY - z.1) (0, .slice (some ⟨b36, 0, none⟩) 0 0, [(b36, row 24 2 0 0 [])]) rfl ⟨rfl, ?_, trivial⟩ ⟨Nat.zero_le _, OwnsV.at_, by simp [rowsL]⟩ (fun w1 h1 => (St.headImp h1 fun o ho => bx_row0 ho).perm (List.perm_append_comm (l₁ := [_]))) ?_
    · rw [show Y0 + ((0 : Nat) : Int) = Y0 by omega]; rfl
    rintro ⟨m, v, Lv⟩ ⟨hm, hv, hvl⟩
    dsimp only at hm hv hvl ⊢
    try dsimp only [List.cons_append, List.nil_append, List.map_cons, List.map_nil]
    (repeat' (first|refine Za ?_|refine Zb ?_|refine Zc ?_|refine Zd ?_|refine Zu tab rfl rfl ?_|(apply Zy;refine Zz ?_)|(apply Yt;refine Yu ?_)|fail))
    refine t_cond rfl (fun h => ?_) (fun h => ?_)
    · have hml : m < NY := by have := of_decide_eq_true h; omega
      have hsucc := rowsL_succ N X0 Y0 NX m
      have em : Y0 + (m : Int) + 1 = Y0 + ((m + 1 : Nat) : Int) := by omega
      obtain ⟨k, hkq⟩ : ∃ k : Int, Y0 + (m : Int) = k := ⟨_, rfl⟩
      rw [hkq] at hsucc em ⊢
      have hkb : -100 ≤ k ∧ k ≤ 200 := by omega
      have hdlk := hdl k
      have hdbk := hdb k
      (repeat' (first|refine Za ?_|refine Zb ?_|refine Zc ?_|refine Zd ?_|refine Ze ?_|refine Zf ?_|refine Zu tab rfl rfl ?_|(apply Zy;refine Zz ?_)|(apply Yt;refine Yu ?_)|fail))
      generalize hP0 : rowsL N X0 Y0 NX m = P0 at *
      refine t_loopK [0, 2, 3, 4, 7] (α := Nat × Value × HL) (fun z => [(6, z.2.1), (8, .int .i64 (X0 + z.1))]) (fun z => z.1 ≤ NX ∧ OwnsV z.2.1 24 2 (P0 ++ wRow N X0 k z.1).length (ptCells (P0 ++ wRow N X0 k z.1)) z.2.2) (fun z => (b4, bx [.int .i64 hx, .int .i64 hy] 24) :: (b3, bx [.int .i64 lx, .int .i64 ly] 24) :: (b2, bx [.int .i64 0, .int .i64 0, .int .i64 0, .int .i64 0, .slice none 0 0] 30) :: z.2.2) (fun z => NX - z.1) (0, v, Lv) rfl ⟨rfl, ?_, trivial⟩ ⟨Nat.zero_le _, by dsimp only; rw [show wRow N X0 k 0 = [] from rfl, List.append_nil]; exact hv⟩ (fun w1 h1 => h1) ?_
      · rw [show X0 + ((0 : Nat) : Int) = X0 by omega]; rfl
      rintro ⟨i, u, Lu⟩ ⟨hi, hu⟩
      dsimp only at hi hu ⊢
      have hwl := wRow_le N X0 k i
      have hll : (P0 ++ wRow N X0 k i).length ≤ m * 20200 + i := by rw [List.length_append]; omega
      try dsimp only [List.cons_append, List.nil_append, List.map_cons, List.map_nil]
      (repeat' (first|refine Za ?_|refine Zb ?_|refine Zc ?_|refine Zd ?_|refine Zu tab rfl rfl ?_|(apply Zy;refine Zz ?_)|(apply Yt;refine Yu ?_)|fail))
      refine t_cond rfl (fun h2 => ?_) (fun h2 => ?_)
      · have hil : i < NX := by have := of_decide_eq_true h2; omega
        have hws := wRow_succ N X0 k i
        have ei : X0 + (i : Int) + 1 = X0 + ((i + 1 : Nat) : Int) := by omega
        obtain ⟨x, hxq⟩ : ∃ x : Int, X0 + (i : Int) = x := ⟨_, rfl⟩
        rw [hxq] at hws ei ⊢
        have hxb : -100 ≤ x ∧ x ≤ 200 := by omega
        (repeat' (first|refine Za ?_|refine Zb ?_|refine Zc ?_|refine Ze ?_|refine Zf ?_|refine Zu tab rfl rfl ?_|(apply Yc;refine Yd ?_)|(apply Yl;refine Ym ?_)|fail))
        refine tl_callV (u := .int .i64 (wind N (64 * x + 32) (64 * k + 32))) (fun w1 hw1 => ?_) rfl rfl ?_
        · rw [wind_eq]
          exact rwind_calls w1 _ _ _ N (hL.to hw1.toExt) _ _ (by omega)
        have hwo : wOne N k x = if wind N (64 * x + 32) (64 * k + 32) ≠ 0 then [(x, k)] else [] := rfl
        generalize wind N (64 * x + 32) (64 * k + 32) = wd at *
        (repeat' (first|refine Zc ?_|refine Zd ?_|refine Zu tab rfl rfl ?_|fail))
        refine t_cond rfl (fun h3 => ?_) (fun h3 => ?_)
        · have hw0 : wd ≠ 0 := of_decide_eq_true h3
          rw [if_pos hw0] at hwo
          (repeat' (first|refine Zb ?_|refine Zu tab rfl rfl ?_|(apply Yl;refine Ym ?_)|(apply Yv;refine Yw fun _=>?_)|fail))
          rename_i b71
          refine tl_app [(b4, bx [.int .i64 hx, .int .i64 hy] 24), (b3, bx [.int .i64 lx, .int .i64 ly] 24), (b2, bx [.int .i64 0, .int .i64 0, .int .i64 0, .int .i64 0, .slice none 0 0] 30)] rfl rfl hu rfl rfl rfl rfl rfl rfl (by omega) (by omega) fun b' cap' => ?_
          (repeat' (first|refine Zb ?_|refine Zc ?_|refine Zd ?_|refine Zi ?_|refine Zu tab rfl rfl ?_|(apply Yc;refine Yd ?_)|fail))
          rw [ei]
          refine xt_roundK (i + 1, .slice (some ⟨b', 0, none⟩) ((P0 ++ wRow N X0 k i).length + 1) cap', [(b', row 24 2 ((P0 ++ wRow N X0 k i).length + 1) cap' (ptCells (P0 ++ wRow N X0 k i) ++ [Value.int .i64 x, Value.int .i64 k]))]) rfl ⟨rfl, rfl, trivial⟩ ⟨by dsimp only; omega, ?_⟩ (by dsimp only; omega) (fun _ h => h)
          dsimp only
          have e3 : (P0 ++ wRow N X0 k i ++ [(x, k)]).length = (P0 ++ wRow N X0 k i).length + 1 := List.length_append
          rw [hws, hwo, ← List.append_assoc, ptCells_append, e3]
          exact OwnsV.at_
        · have hw0 : ¬ wd ≠ 0 := of_decide_eq_false h3
          rw [if_neg hw0] at hwo
          (repeat' (first|refine Zb ?_|refine Zc ?_|refine Zd ?_|refine Zf ?_|refine Zi ?_|refine Zu tab rfl rfl ?_|(apply Yc;refine Yd ?_)|fail))
          rw [ei]
          refine xt_roundK (i + 1, u, Lu) rfl ⟨rfl, rfl, trivial⟩ ⟨by dsimp only; omega, ?_⟩ (by dsimp only; omega) (fun _ h => h)
          dsimp only
          rw [hws, hwo, List.append_nil]
          exact hu
      · have hil : i = NX := by have := of_decide_eq_false h2; omega
        subst hil
        (repeat' (first|refine Za ?_|refine Zb ?_|refine Zc ?_|refine Zh ?_|refine Zj ?_|refine Zl ?_|refine Zq ?_|refine Zu tab rfl rfl ?_|fail))
        refine tl_callO (fun w1 hw1 => drops_calls w1 _ _ _ N (hL.to hw1.toExt) k (by omega) (by omega) (hok k) (hsr k)) rfl rfl fun vd Ld hod => ?_
        have hrl : rowL N X0 i k = wRow N X0 k i ++ (dropsOf N k).map fun d => (d, k) := rfl
        have hod2 : OwnsV vd 3 1 (dropsOf N k).length ((dropsOf N k).map fun z => .int .i64 z) Ld := hod
        clear hod
        generalize dropsOf N k = Dk at *
        have hcase : Dk.length = 0 ∨ ∃ bo co, vd = .slice (some ⟨bo, 0, none⟩) Dk.length co ∧ Ld = [(bo, row 3 1 Dk.length co (Dk.map fun z => .int .i64 z))] := by
          rcases hod2 with ⟨_, h2, _, _⟩ | ⟨bo, co, h1, h2⟩
          · exact .inl h2
          · exact .inr ⟨bo, co, h1, h2⟩
        obtain ⟨Ad, cd, rfl⟩ := hod2.shape
        generalize hP1 : P0 ++ wRow N X0 k i = P1 at *
        (repeat' (first|refine Za ?_|refine Zb ?_|refine Zc ?_|refine Zd ?_|refine Ze ?_|refine Zu tab rfl rfl ?_|fail))
        refine t_loopK [0, 2, 3, 4, 7, 9] (α := Nat × Value × HL) (fun z => [(6, z.2.1), (10, .int .i64 z.1)]) (fun z => z.1 ≤ Dk.length ∧ OwnsV z.2.1 24 2 (P1 ++ (Dk.take z.1).map fun d => (d, k)).length (ptCells (P1 ++ (Dk.take z.1).map fun d => (d, k))) z.2.2) (fun z => Ld ++ ((b4, bx [.int .i64 hx, .int .i64 hy] 24) :: (b3, bx [.int .i64 lx, .int .i64 ly] 24) :: (b2, bx [.int .i64 0, .int .i64 0, .int .i64 0, .int .i64 0, .slice none 0 0] 30) :: z.2.2)) (fun z => Dk.length - z.1) (0, u, Lu) rfl ⟨rfl, rfl, trivial⟩ ⟨Nat.zero_le _, by dsimp only; rw [List.take_zero, List.map_nil, List.append_nil]; exact hu⟩ (fun w1 h1 => h1.perm List.perm_append_comm) ?_
        rintro ⟨e, y, Ly⟩ ⟨he, hy'⟩
        dsimp only at he hy' ⊢
        have hll2 : (P1 ++ (Dk.take e).map fun d => (d, k)).length ≤ m * 20200 + i + e := by rw [List.length_append, List.length_map, List.length_take]; omega
        try dsimp only [List.cons_append, List.nil_append, List.map_cons, List.map_nil]
        (repeat' (first|refine Za ?_|refine Zb ?_|refine Zc ?_|refine Zd ?_|refine Zu tab rfl rfl ?_|fail))
        refine t_cond rfl (fun h3 => ?_) (fun h3 => ?_)
        · have hel : e < Dk.length := by have := of_decide_eq_true h3; omega
          obtain ⟨dd, hdd⟩ : ∃ dd, Dk[e]? = some dd := ⟨_, List.getElem?_eq_getElem hel⟩
          have hddb := hdbk dd (List.mem_of_getElem? hdd)
          rcases hcase with hcase | ⟨bo, co', hrb', hLk⟩
          · omega
          injection hrb' with e1 e2 e3
          subst e1
          subst e3
          rw [hLk]
          have hge : (Dk.map fun z => Value.int .i64 z)[0 + (e : Int).toNat * 1]? = some (.int .i64 dd) := by
            rw [Nat.zero_add, Int.toNat_natCast, Nat.mul_one, List.getElem?_map, hdd]; rfl
          have htk : (Dk.take (e + 1)).map (fun d => (d, k)) = (Dk.take e).map (fun d => (d, k)) ++ [(dd, k)] := by rw [List.take_add_one, hdd, List.map_append]; rfl
          (repeat' (first|refine Za ?_|refine Zb ?_|refine Zc ?_|refine Ze ?_|refine Zf ?_|refine Zu tab rfl rfl ?_|(apply Yn;refine Yo ?_)|fail))
          refine tl_load (o_loadRow1' 0 rfl rfl hge) rfl ?_
          (repeat' (first|refine Zu tab rfl rfl ?_|(apply Yl;refine Ym ?_)|(apply Yv;refine Yw fun _=>?_)|fail))
          rename_i b89
          refine tl_app [(bo, row 3 1 Dk.length cd (Dk.map fun z => .int .i64 z)), (b4, bx [.int .i64 hx, .int .i64 hy] 24), (b3, bx [.int .i64 lx, .int .i64 ly] 24), (b2, bx [.int .i64 0, .int .i64 0, .int .i64 0, .int .i64 0, .slice none 0 0] 30)] rfl rfl hy' rfl rfl rfl rfl rfl rfl (by omega) (by omega) fun b' cap' => ?_
          (repeat' (first|refine Zb ?_|refine Zc ?_|refine Zd ?_|refine Zi ?_|refine Zu tab rfl rfl ?_|(apply Yc;refine Yd ?_)|fail))
          refine xt_roundK (e + 1, .slice (some ⟨b', 0, none⟩) ((P1 ++ (Dk.take e).map fun d => (d, k)).length + 1) cap', [(b', row 24 2 ((P1 ++ (Dk.take e).map fun d => (d, k)).length + 1) cap' (ptCells (P1 ++ (Dk.take e).map fun d => (d, k)) ++ [Value.int .i64 dd, Value.int .i64 k]))]) rfl ⟨rfl, rfl, trivial⟩ ⟨by dsimp only; omega, ?_⟩ (by dsimp only; omega) (fun _ h => h)
          dsimp only
          have e3 : (P1 ++ ((Dk.take e).map fun d => (d, k)) ++ [(dd, k)]).length = (P1 ++ (Dk.take e).map fun d => (d, k)).length + 1 := List.length_append
          rw [htk, ← List.append_assoc, ptCells_append, e3]
          exact OwnsV.at_
        · have hel : e = Dk.length := by have := of_decide_eq_false h3; omega
          subst hel
          rw [List.take_length] at hy' hll2
          (repeat' (first|refine Zb ?_|refine Zc ?_|refine Zd ?_|refine Zh ?_|refine Zi ?_|refine Zj ?_|refine Zl ?_|refine Zq ?_|refine Zu tab rfl rfl ?_|(apply Yc;refine Yd ?_)|fail))
          rw [em]
          refine xt_roundK (m + 1, y, Ly) rfl ⟨rfl, rfl, trivial⟩ ⟨by dsimp only; omega, ?_, ?_⟩ (by dsimp only; omega) (fun w1 h1 => h1.sublist (List.sublist_append_right ..))
          · dsimp only
            rw [hsucc, hrl, ← List.append_assoc, hP1]
            exact hy'
          · dsimp only
            rw [hsucc, hrl, ← List.append_assoc, hP1]
            omega
    · have hml : m = NY := by have := of_decide_eq_false h; omega
      subst hml
      obtain ⟨A9, c9, rfl⟩ := hv.shape
      have hbd : ∀ p ∈ rowsL N X0 Y0 NX m, -268435456 ≤ p.1 ∧ p.1 ≤ 268435456 ∧ -268435456 ≤ p.2 ∧ p.2 ≤ 268435456 := by
        intro p hp
        obtain ⟨z, hz, hp⟩ := List.mem_flatMap.1 hp
        rw [List.mem_range] at hz
        rcases List.mem_append.1 hp with hp | hp
        · obtain ⟨g, hg, hp⟩ := List.mem_flatMap.1 hp
          rw [List.mem_range] at hg
          unfold wOne at hp
          split at hp
          · simp only [List.mem_singleton] at hp
            rw [hp]
            dsimp only
            omega
          · cases hp
        · obtain ⟨d, hd, rfl⟩ := List.mem_map.1 hp
          have := hdb _ d hd
          dsimp only
          omega
      generalize rowsL N X0 Y0 NX m = PP at *
      (repeat' (first|refine Za ?_|refine Zb ?_|refine Zc ?_|refine Zh ?_|refine Zj ?_|refine Zl ?_|refine Zq ?_|refine Zu tab rfl rfl ?_|fail))
      refine tl_callR (Post := fun w1 v w2 => BmI w1 w2 v (bmOf (PP.map ptS))) (fun w1 hw1 => of_calls w1 _ _ _ PP (hv.rdI hw1 (fun p hp => by simp [hp])).rd hbd) rfl rfl ?_
      rintro w1 w2 v hw1 he ⟨rv, rfl, hr⟩
      obtain ⟨A4, n4, c4, rfl, _⟩ := id hr
      generalize bmOf (PP.map ptS) = OB at *
      (repeat' (first|refine Zc ?_|refine Zd ?_|refine Zg ?_|(apply Ye;refine Yf ?_)|fail))
      refine xt_retAS 2 rfl rfl rfl rfl fun w3 hw3 => ⟨_, rfl, ?_⟩
      exact (hr.move (hw3.sg (fun p hp => by simp [hp]))).top hw1.size

end Go.Proofs.Ytbgolbkolcmldaa
