/-
  The document's answer: one bitmap over another one; is a pixel one of some?
-/
import Derived.Test.YtbgolbkolcmldaaW35
namespace Go.Proofs.Ytbgolbkolcmldaa
open Go.RowKit
/-- one cell of a row of the call's own -/
theorem o_loadRow1' {P : Program} {fr : Fr} {w0 : World} {X : List Nat} {L : HL} {dd : Option Tmp} {ty t : TypeId} {pos : String} {af : Array Edge} {g : Option (Nat × Bool)} {x : Operand} (i : Nat) {b k e sz n cap : Nat} {xs : List Value} {v : Value} [CSc P t] (hx : fev fr x = some (.pointer (some ⟨b, k, none⟩))) (hL : L[i]? = some (b, row e sz n cap xs)) (hv : xs[k]? = some v) : Pv P ⟨dd, .load t x, ty, pos, af, g⟩ fr (St w0 X L) v :=
  o_load hx fun w hw => hw.rowCell (List.mem_of_getElem? hL) hv
end Go.Proofs.Ytbgolbkolcmldaa
namespace Go.Proofs.Ytbgolbkolcmldaa
open Go.RowKit
attribute [local irreducible] T TL Xt O Op1 Kt DV ObsB DE DW DW1 LoopQ LoopJ

theorem pg0 {M : Pts} {k : Nat} {p : Int × Int} (h : M[k]? = some p) : (ptCells M)[0 + (k : Int).toNat * 2 + 0]? = some (.int .i64 p.1) := by
  rw [Nat.zero_add, Int.toNat_natCast, Nat.add_zero]; exact (ptCells_get M k p h).1
theorem pg1 {M : Pts} {k : Nat} {p : Int × Int} (h : M[k]? = some p) : (ptCells M)[0 + (k : Int).toNat * 2 + 1]? = some (.int .i64 p.2) := by
  rw [Nat.zero_add, Int.toNat_natCast]; exact (ptCells_get M k p h).2
theorem has_calls (w : World) (A : Option Addr) (n cap : Nat) (l : Pts) (hR : Row w (.slice A n cap) l) (x y : Int) : Calls Try.prog 29 #[.slice A n cap, .int .i64 x, .int .i64 y] w (Ret w fun v _ => v = .bool (l.any fun p => decide (p = (x, y)))) := by
  obtain ⟨hn, hn2⟩ := pts_row hR
  subst hn
  refine calls_S (vs := [.slice A l.length cap, .int .i64 x, .int .i64 y]) Try.func29 rfl Try.ntmps29 rfl ?_
  (repeat' (first|refine Za ?_|refine Zb ?_|refine Zc ?_|refine Zd ?_|refine Ze ?_|refine Zu tab rfl rfl ?_|fail))
  refine t_loopK [0, 1, 2] (α := Nat) (fun i => [(7, .int .i64 i)]) (fun i => i ≤ l.length ∧ ((l.take i).any fun p => decide (p = (x, y))) = false) (fun _ => []) (fun i => l.length - i) 0 rfl ⟨rfl, trivial⟩ ⟨Nat.zero_le _, rfl⟩ (fun _ h => h) ?_
  rintro i ⟨hi, hany⟩
  try dsimp only [List.cons_append, List.nil_append, List.map_cons, List.map_nil]
  (repeat' (first|refine Za ?_|refine Zb ?_|refine Zc ?_|refine Zd ?_|refine Zu tab rfl rfl ?_|fail))
  refine t_cond rfl (fun h => ?_) (fun h => ?_)
  · have hil : i < l.length := by have := of_decide_eq_true h; omega
    obtain ⟨p, hp⟩ : ∃ p, l[i]? = some p := ⟨l[i], List.getElem?_eq_getElem hil⟩
    obtain ⟨b, off, rfl, hcp⟩ := row_cl hR hp
    (repeat' (first|refine Za ?_|refine Zb ?_|refine Zc ?_|refine Ze ?_|refine Zf ?_|refine Zu tab rfl rfl ?_|(apply Zy;refine Zz ?_)|(apply Yn;refine Yo ?_)|fail))
    refine tl_if [0, 1, 2, 7] (p.1 = x ∧ p.2 = y) rfl (fun Q' K => ?_) (fun hC => ?_) (fun hC => ?_)
    · (repeat' (first|refine Zd ?_|refine Zu tab rfl rfl ?_|refine Zv rfl rfl ?_|refine Zw rfl rfl rfl rfl ?_|(apply Zy;refine Zz ?_)|(apply Ya;refine Yb ?_)|(apply Yn;refine Yo ?_)|refine tl_guard rfl rfl rfl (fun _ => ?_) (fun _ => ?_)|fail))
      all_goals exact K _ _ rfl rfl (by simp_all)
    · (repeat' (first|refine Za ?_|refine Zb ?_|refine Zc ?_|refine Zd ?_|refine Zg ?_|refine Zk ?_|refine Zm ?_|refine Zr ?_|refine Zu tab rfl rfl ?_|fail))
      refine xt_ret1S rfl rfl fun _ _ => ?_
      congr 1
      symm
      rw [List.any_eq_true]
      exact ⟨p, List.mem_of_getElem? hp, by obtain ⟨a, b⟩ := p; simp only at hC; simp [hC.1, hC.2]⟩
    · (repeat' (first|refine Zb ?_|refine Zc ?_|refine Zd ?_|refine Zf ?_|refine Zi ?_|refine Zu tab rfl rfl ?_|(apply Yc;refine Yd ?_)|fail))
      refine xt_roundK (i + 1) rfl ⟨rfl, trivial⟩ ⟨by omega, ?_⟩ (by omega) (fun _ h => h)
      rw [List.take_add_one, hp, List.any_append, hany]
      simp only [Option.toList_some, List.any_cons, List.any_nil, Bool.or_false, Bool.false_or, decide_eq_false_iff_not]
      exact fun h => hC (by rw [h]; exact ⟨rfl, rfl⟩)
  · have hil : i = l.length := by have := of_decide_eq_false h; omega
    subst hil
    rw [List.take_length] at hany
    (repeat' (first|refine Za ?_|refine Zb ?_|refine Zc ?_|refine Zd ?_|refine Zg ?_|refine Zh ?_|refine Zj ?_|refine Zl ?_|refine Zq ?_|refine Zu tab rfl rfl ?_|fail))
    exact xt_ret1S rfl rfl fun _ _ => by rw [hany]

def mvPt (x y : Int) (p : Int × Int) : Pts := if cut (p.1 + cut x) = p.1 + cut x ∧ cut (p.2 + cut y) = p.2 + cut y then [(p.1 + cut x, p.2 + cut y)] else []
def ovL (A B : Bm) (x y : Int) : Pts := blackL A ++ (blackL B).flatMap (mvPt x y)
theorem bkTake_mem {B : Bm} {k : Nat} {p : Int × Int} (h : p ∈ bkTake B k) : (-268435456 ≤ p.1 ∧ p.1 ≤ 268435456) ∧ -268435456 ≤ p.2 ∧ p.2 ≤ 268435456 := by
  obtain ⟨m, _, hm⟩ := List.mem_flatMap.1 h
  split at hm
  · obtain ⟨i, _, hi⟩ := List.mem_flatMap.1 hm
    unfold bkOne at hi
    split at hi
    · rename_i hc
      simp only [List.mem_singleton] at hi
      have h1 := cut_bd p.1
      have h2 := cut_bd p.2
      rw [hi] at h1 h2 ⊢
      dsimp only at h1 h2 ⊢
      rw [hc.2.1] at h1
      rw [hc.2.2] at h2
      exact ⟨h1, h2⟩
    · cases hi
  · cases hm
theorem black_in {B : Bm} {p : Int × Int} (h : p ∈ blackL B) : (-268435456 ≤ p.1 ∧ p.1 ≤ 268435456) ∧ -268435456 ≤ p.2 ∧ p.2 ≤ 268435456 := by
  unfold blackL at h
  split at h
  · exact bkTake_mem h
  · cases h
theorem bkTake_le (B : Bm) (h : ∀ s ∈ B.rows, s.size ≤ 1000) (k : Nat) : (bkTake B k).length ≤ k * 1000 := by
  induction k with
  | zero => simp [bkTake]
  | succ k ih =>
    cases hr : B.rows[k]? with
    | none =>
      have e : bkTake B (k + 1) = bkTake B k := by simp [bkTake, List.range_succ, hr]
      have h2 : (bkTake B (k + 1)).length = (bkTake B k).length := congrArg List.length e
      omega
    | some row =>
      have h1 := bkRow_le B k row (bkW B row)
      have h2 : bkW B row ≤ row.size := Nat.min_le_left ..
      have h3 := h row (List.mem_of_getElem? hr)
      rw [bkTake_succ B k hr, List.length_append]; omega
theorem black_le {B : Bm} (hsz : B.rows.length ≤ 1000 ∧ ∀ s ∈ B.rows, s.size ≤ 1000) : (blackL B).length ≤ 1000000 := by
  have h1 := bkTake_le B hsz.2 (mvN B)
  have h2 : mvN B ≤ B.rows.length := Nat.min_le_left ..
  have h3 := hsz.1
  unfold blackL
  by_cases h : B.near = true
  · rw [if_pos h]; omega
  · rw [if_neg h]
    simp
theorem mvPt_le (x y : Int) (p : Int × Int) : (mvPt x y p).length ≤ 1 := by unfold mvPt; split <;> simp

set_option maxHeartbeats 1000000 in
theorem rover_calls (w : World) (a b : Value) (A B : Bm) (ha : BmAt w a A) (hb : BmAt w b B) (hA : A.rows.length ≤ 1000 ∧ ∀ s ∈ A.rows, s.size ≤ 1000) (hB : B.rows.length ≤ 1000 ∧ ∀ s ∈ B.rows, s.size ≤ 1000) (x y : Int) : Calls Try.prog 27 #[a, b, .int .i64 x, .int .i64 y] w (Ret w fun v w' => BmI w w' v (bmOf ((ovL A B x y).map ptS))) := by
  obtain ⟨ra, rfl, hra⟩ := id ha
  obtain ⟨rb, rfl, hrb⟩ := id hb
  obtain ⟨Aa, na, ca, rfl, _⟩ := id hra
  obtain ⟨Ab, nb, cb, rfl, _⟩ := id hrb
  have hlA := black_le hA
  have hlB := black_le hB
  have hcx := cut_bd x
  have hcy := cut_bd y
  refine calls_S (vs := [bmV A (.slice Aa na ca), bmV B (.slice Ab nb cb), .int .i64 x, .int .i64 y]) Try.func27 rfl Try.ntmps27 rfl ?_
  (repeat' (first|refine Za ?_|refine Zb ?_|refine Zc ?_|refine Zd ?_|(apply Zy;refine Zz ?_)|(apply Yg; first|refine Yh fun _=>?_|refine Yi (Yj rfl rfl) rfl fun _=>?_)|refine Yk rfl fun _=>?_|fail))
  rename_i b4 b5 b8
  refine tl_callO (fun w1 hw1 => black_calls w1 _ A ⟨_, rfl, hra.ext hw1.toExt⟩ hA) rfl rfl fun v9 Lv9 ho9 => ?_
  (repeat' (first|refine Za ?_|refine Zb ?_|refine Zc ?_|refine Zd ?_|refine Zu tab rfl rfl ?_|(apply Zy;refine Zz ?_)|fail))
  refine tl_callO (fun w1 hw1 => black_calls w1 _ B ⟨_, rfl, hrb.ext hw1.toExt⟩ hB) rfl rfl fun v10 Lv10 ho10 => ?_
  have hin := fun p (hp : p ∈ blackL B) => black_in hp
  have hinA := fun p (hp : p ∈ blackL A) => black_in hp
  have hO : ovL A B x y = blackL A ++ (blackL B).flatMap (mvPt x y) := rfl
  rw [hO]
  generalize blackL A = PA at *
  generalize blackL B = PB at *
  have hcase : PB.length = 0 ∨ ∃ bo co, v10 = .slice (some ⟨bo, 0, none⟩) PB.length co ∧ Lv10 = [(bo, row 24 2 PB.length co (ptCells PB))] := by
    rcases ho10 with ⟨_, h2, _, _⟩ | ⟨bo, co, h1, h2⟩
    · exact .inl h2
    · exact .inr ⟨bo, co, h1, h2⟩
  obtain ⟨Ao, co, rfl⟩ := ho10.shape
  (repeat' (first|refine Za ?_|refine Zb ?_|refine Zc ?_|refine Zd ?_|refine Ze ?_|refine Zu tab rfl rfl ?_|fail))
  refine t_loopK [2, 3, 8, 10] (α := Nat × Value × HL) (fun z => [(9, z.2.1), (11, .int .i64 z.1)]) (fun z => z.1 ≤ PB.length ∧ OwnsV z.2.1 24 2 (PA ++ (PB.take z.1).flatMap (mvPt x y)).length (ptCells (PA ++ (PB.take z.1).flatMap (mvPt x y))) z.2.2 ∧ (PA ++ (PB.take z.1).flatMap (mvPt x y)).length ≤ PA.length + z.1) (fun z => Lv10 ++ ((b8, bx [.int .i64 0, .int .i64 0, .int .i64 0, .int .i64 0, .slice none 0 0] 30) :: z.2.2)) (fun z => PB.length - z.1) (0, v9, Lv9) rfl ⟨rfl, rfl, trivial⟩ ⟨Nat.zero_le _, by simpa using ho9, by simp⟩ (fun w1 h1 => ?_) ?_
  · have h2 : St w [] ([(b8, bx [.int .i64 0, .int .i64 0, .int .i64 0, .int .i64 0, .slice none 0 0] 30)] ++ Lv9 ++ Lv10) w1 := h1.sublist ((List.Sublist.append (List.Sublist.append (List.Sublist.cons_cons _ (List.nil_sublist _)) (List.Sublist.refl _)) (List.Sublist.refl _)))
    exact h2.perm List.perm_append_comm
  rintro ⟨i, v, Lv⟩ ⟨hi, hv, hvl⟩
  dsimp only at hi hv hvl ⊢
  try dsimp only [List.cons_append, List.nil_append, List.map_cons, List.map_nil]
  (repeat' (first|refine Za ?_|refine Zb ?_|refine Zc ?_|refine Zd ?_|refine Zu tab rfl rfl ?_|fail))
  refine t_cond rfl (fun h => ?_) (fun h => ?_)
  · have hil : i < PB.length := by have := of_decide_eq_true h; omega
    obtain ⟨p, hp⟩ : ∃ p, PB[i]? = some p := ⟨PB[i], List.getElem?_eq_getElem hil⟩
    have hpi := hin p (List.mem_of_getElem? hp)
    rcases hcase with hcase | ⟨bo, co', hrb', hLk⟩
    · omega
    injection hrb' with e1 e2 e3
    subst e1
    subst e3
    rw [hLk]
    have htk : (PB.take (i + 1)).flatMap (mvPt x y) = (PB.take i).flatMap (mvPt x y) ++ mvPt x y p := by rw [List.take_add_one, hp, List.flatMap_append]; simp
    have hml := mvPt_le x y p
    have hone : mvPt x y p = if cut (p.1 + cut x) = p.1 + cut x ∧ cut (p.2 + cut y) = p.2 + cut y then [(p.1 + cut x, p.2 + cut y)] else [] := rfl
    (repeat' (first|refine Za ?_|refine Zc ?_|refine Ze ?_|refine Zf ?_|fail))
    refine t_drawW 18 [(0, .v), (1, .v), (2, .v), (3, .v), (4, .v), (5, .v), (8, .v), (9, .v), (10, .v), (11, .v), (12, .v), (13, .v), (6, .e), (7, .v), (14, .e), (15, .v), (16, .v), (17, .a)] ?_ rfl (by kernel_rfl) (by kernel_rfl) rfl (by kernel_rfl) mixed (by kernel_rfl) rfl
    (repeat' (first|refine Yz rfl ?_|refine Vd tab ?_|(apply Vl;refine Vm ?_)|fail))
    refine dw_opN rfl rfl (fun _ => o_loadRow1' 0 rfl rfl (pg0 hp)) ?_
    (repeat' (first|refine Yz rfl ?_|refine Vd tab ?_|(apply Vl;refine Vm ?_)|fail))
    refine dw_opN rfl rfl (fun _ => o_loadRow1' 0 rfl rfl (pg1 hp)) ?_
    (repeat' (first|refine Yz rfl ?_|refine Vd tab ?_|refine Ve fun _=>?_|(apply Vj;refine Vk ?_)|(apply Vn;refine Vo ?_)|(apply Vp;refine Vq ?_)|fail))
    refine dw_end [2, 3, 8, 9, 10, 11, 12, 39] (rest := []) rfl ?_
    rename_i b12
    generalize hX1 : p.1 + cut x = X1 at *
    generalize hY1 : p.2 + cut y = Y1 at *
    (repeat' (first|refine Za ?_|refine Zc ?_|refine Zd ?_|(apply Ye;refine Yf ?_)|fail))
    by_cases hcX : cut X1 = X1
    · by_cases hcY : cut Y1 = Y1
      · rw [if_pos ⟨hcX, hcY⟩] at hone
        refine t_drawW 12 [(0, .v), (1, .v), (3, .v), (4, .v), (2, .e), (5, .v), (6, .v), (7, .v), (8, .v), (10, .v), (11, .v), (9, .e)] ?_ rfl (by kernel_rfl) (by kernel_rfl) rfl (by kernel_rfl) mixed (by kernel_rfl) rfl
        (repeat' (first|refine Yz rfl ?_|refine Vd tab ?_|(apply Vf;refine Vg ?_)|(apply Vp;refine Vq ?_)|fail))
        rw [show decide (cut X1 = X1) = true from decide_eq_true hcX]
        (repeat' (first|refine Yz rfl ?_|refine Vd tab ?_|(apply Vf;refine Vg ?_)|(apply Vp;refine Vq ?_)|fail))
        refine dw_end [2, 3, 8, 9, 10, 11, 12, 46, 49, 51] (rest := []) rfl ?_
        (repeat' (first|refine Zc ?_|refine Zd ?_|refine Zu tab rfl rfl ?_|refine Zv rfl rfl ?_|(apply Ya;refine Yb ?_)|fail))
        rw [show decide (cut Y1 = Y1) = true from decide_eq_true hcY]
        (repeat' (first|refine Zb ?_|refine Zu tab rfl rfl ?_|(apply Zy;refine Zz ?_)|(apply Yv;refine Yw fun _=>?_)|refine Yx rfl ?_|fail))
        rename_i b56
        refine tl_app [(b12, bx [.int .i64 X1, .int .i64 Y1] 24), (bo, row 24 2 PB.length co (ptCells PB)), (b8, bx [.int .i64 0, .int .i64 0, .int .i64 0, .int .i64 0, .slice none 0 0] 30)] rfl rfl hv rfl rfl rfl rfl rfl rfl (by omega) (by omega) fun b' cap' => ?_
        (repeat' (first|refine Zb ?_|refine Zc ?_|refine Zd ?_|refine Zi ?_|refine Zu tab rfl rfl ?_|(apply Yc;refine Yd ?_)|fail))
        refine xt_roundK (i + 1, .slice (some ⟨b', 0, none⟩) ((PA ++ (PB.take i).flatMap (mvPt x y)).length + 1) cap', [(b', row 24 2 ((PA ++ (PB.take i).flatMap (mvPt x y)).length + 1) cap' (ptCells (PA ++ (PB.take i).flatMap (mvPt x y)) ++ [Value.int .i64 X1, Value.int .i64 Y1]))]) rfl ⟨rfl, rfl, trivial⟩ ⟨by dsimp only; omega, ?_, ?_⟩ (by dsimp only; omega) (fun w1 h1 => ?_)
        · dsimp only
          have e3 : (PA ++ (PB.take i).flatMap (mvPt x y) ++ [(X1, Y1)]).length = (PA ++ (PB.take i).flatMap (mvPt x y)).length + 1 := List.length_append
          rw [htk, hone, ← List.append_assoc, ptCells_append, e3]
          exact OwnsV.at_
        · dsimp only
          have e3 : (PA ++ (PB.take i).flatMap (mvPt x y) ++ [(X1, Y1)]).length = (PA ++ (PB.take i).flatMap (mvPt x y)).length + 1 := List.length_append
          rw [htk, hone, ← List.append_assoc, e3]
          omega
        · exact h1.sublist (.cons _ (List.Sublist.refl _))
      · rw [if_neg fun h => hcY h.2] at hone
        refine t_drawW 12 [(0, .v), (1, .v), (3, .v), (4, .v), (2, .e), (5, .v), (6, .v), (7, .v), (8, .v), (10, .v), (11, .v), (9, .e)] ?_ rfl (by kernel_rfl) (by kernel_rfl) rfl (by kernel_rfl) mixed (by kernel_rfl) rfl
        (repeat' (first|refine Yz rfl ?_|refine Vd tab ?_|(apply Vf;refine Vg ?_)|(apply Vp;refine Vq ?_)|fail))
        rw [show decide (cut X1 = X1) = true from decide_eq_true hcX]
        (repeat' (first|refine Yz rfl ?_|refine Vd tab ?_|(apply Vf;refine Vg ?_)|(apply Vp;refine Vq ?_)|fail))
        refine dw_end [2, 3, 8, 9, 10, 11, 12, 46, 49, 51] (rest := []) rfl ?_
        (repeat' (first|refine Zc ?_|refine Zd ?_|refine Zu tab rfl rfl ?_|refine Zv rfl rfl ?_|(apply Ya;refine Yb ?_)|fail))
        rw [show decide (cut Y1 = Y1) = false from decide_eq_false hcY]
        (repeat' (first|refine Zb ?_|refine Zc ?_|refine Zd ?_|refine Zf ?_|refine Zi ?_|refine Zu tab rfl rfl ?_|(apply Yc;refine Yd ?_)|refine Yy rfl ?_|fail))
        refine xt_roundK (i + 1, v, Lv) rfl ⟨rfl, rfl, trivial⟩ ⟨by dsimp only; omega, by dsimp only; rw [htk, hone, List.append_nil]; exact hv, by dsimp only; rw [htk, hone, List.append_nil]; omega⟩ (by dsimp only; omega) (fun w1 h1 => ?_)
        exact h1.sublist (.cons _ (List.Sublist.refl _))
    · rw [if_neg fun h => hcX h.1] at hone
      refine t_drawW 12 [(0, .v), (1, .v), (3, .v), (4, .v), (2, .e), (5, .v), (6, .v), (7, .v), (8, .v), (10, .v), (11, .v), (9, .e)] ?_ rfl (by kernel_rfl) (by kernel_rfl) rfl (by kernel_rfl) mixed (by kernel_rfl) rfl
      (repeat' (first|refine Yz rfl ?_|refine Vd tab ?_|(apply Vf;refine Vg ?_)|(apply Vp;refine Vq ?_)|fail))
      rw [show decide (cut X1 = X1) = false from decide_eq_false hcX]
      (repeat' (first|refine Yz rfl ?_|(apply Va; first|refine Vb ?_|refine Vc ?_)|fail))
      refine dw_end [2, 3, 8, 9, 10, 11, 12, 46, 49, 51] (rest := []) rfl ?_
      (repeat' (first|refine Zb ?_|refine Zc ?_|refine Zd ?_|refine Zf ?_|refine Zi ?_|refine Zu tab rfl rfl ?_|refine Zw rfl rfl rfl rfl ?_|(apply Ya;refine Yb ?_)|(apply Yc;refine Yd ?_)|refine Yy rfl ?_|fail))
      refine xt_roundK (i + 1, v, Lv) rfl ⟨rfl, rfl, trivial⟩ ⟨by dsimp only; omega, by dsimp only; rw [htk, hone, List.append_nil]; exact hv, by dsimp only; rw [htk, hone, List.append_nil]; omega⟩ (by dsimp only; omega) (fun w1 h1 => ?_)
      exact h1.sublist (.cons _ (List.Sublist.refl _))
  · have hil : i = PB.length := by have := of_decide_eq_false h; omega
    subst hil
    rw [List.take_length] at hv
    obtain ⟨A9, c9, rfl⟩ := hv.shape
    have hbd : ∀ p ∈ PA ++ PB.flatMap (mvPt x y), -268435456 ≤ p.1 ∧ p.1 ≤ 268435456 ∧ -268435456 ≤ p.2 ∧ p.2 ≤ 268435456 := by
      intro p hp
      rcases List.mem_append.1 hp with hp | hp
      · have := hinA p hp
        omega
      · obtain ⟨z, _, hz⟩ := List.mem_flatMap.1 hp
        unfold mvPt at hz
        split at hz
        · rename_i hc
          simp only [List.mem_singleton] at hz
          have h1 := cut_bd (z.1 + cut x)
          have h2 := cut_bd (z.2 + cut y)
          rw [hc.1] at h1
          rw [hc.2] at h2
          rw [hz]
          dsimp only
          omega
        · cases hz
    generalize PA ++ PB.flatMap (mvPt x y) = PP at *
    (repeat' (first|refine Za ?_|refine Zb ?_|refine Zc ?_|refine Zh ?_|refine Zj ?_|refine Zl ?_|refine Zq ?_|refine Zu tab rfl rfl ?_|fail))
    refine tl_imp (I' := St w [] ((b8, bx [.int .i64 0, .int .i64 0, .int .i64 0, .int .i64 0, .slice none 0 0] 30) :: (Lv10 ++ Lv))) (fun w1 h1 => h1.perm List.perm_middle) ?_
    refine tl_callR (Post := fun w1 v w2 => BmI w1 w2 v (bmOf (PP.map ptS))) (fun w1 hw1 => of_calls w1 _ _ _ PP (hv.rdI hw1 (fun p hp => by simp [hp])).rd hbd) rfl rfl ?_
    rintro w1 w2 v hw1 he ⟨rv, rfl, hr⟩
    obtain ⟨A4, n4, c4, rfl, _⟩ := id hr
    generalize bmOf (PP.map ptS) = OB at *
    (repeat' (first|refine Zc ?_|refine Zd ?_|refine Zg ?_|(apply Ye;refine Yf ?_)|fail))
    refine xt_retAS 0 rfl rfl rfl rfl fun w3 hw3 => ⟨_, rfl, ?_⟩
    exact (hr.move (hw3.sg (fun p hp => by simp [hp]))).top hw1.size

end Go.Proofs.Ytbgolbkolcmldaa
