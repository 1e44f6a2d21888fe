/-
  The document's answer: a bitmap's black pixels; is a pixel one of some?
-/
import Derived.Test.YtbgolbkolcmldaaW34
namespace Go.Proofs.Ytbgolbkolcmldaa
open Go.RowKit
attribute [local irreducible] T TL Xt O Op1 Kt DV ObsB DE DW DW1 LoopQ LoopJ

theorem far_det (n : Int) : Det Try.prog 56 [.int .i64 n] (.bool (!inB n)) := by
  intro w
  refine calls_S (vs := [.int .i64 n]) Try.func56 rfl Try.ntmps56 rfl ?_
  (repeat' (first|refine Za ?_|refine Zb ?_|refine Zc ?_|refine Zd ?_|refine Zg ?_|refine Zu tab rfl rfl ?_|refine Zv rfl rfl ?_|refine Zw rfl rfl rfl rfl ?_|(apply Ya;refine Yb ?_)|refine tl_guard rfl rfl rfl (fun _ => ?_) (fun _ => ?_)|fail))
  all_goals exact xt_ret1S rfl rfl fun _ _ => by simp_all [inB] <;> omega
instance (n : Int) : CDet Try.prog 56 [.int .i64 n] (.bool (!inB n)) := ⟨far_det n⟩

def bkOne (B : Bm) (m : Nat) (row : ByteArray) (i : Nat) : Pts := if bk row i = true ∧ cut (B.X + i) = B.X + i ∧ cut (B.Y + B.H - 1 - m) = B.Y + B.H - 1 - m then [(B.X + i, B.Y + B.H - 1 - m)] else []
def bkRow (B : Bm) (m : Nat) (row : ByteArray) (k : Nat) : Pts := (List.range k).flatMap (bkOne B m row)
def bkW (B : Bm) (row : ByteArray) : Nat := min row.size (max B.W 0).toNat
def bkTake (B : Bm) (k : Nat) : Pts := (List.range k).flatMap fun m => match B.rows[m]? with | some row => bkRow B m row (bkW B row) | none => []
def blackL (B : Bm) : Pts := if B.near then bkTake B (mvN B) else []
theorem bkRow_succ (B : Bm) (m : Nat) (row : ByteArray) (k : Nat) : bkRow B m row (k + 1) = bkRow B m row k ++ bkOne B m row k := by simp [bkRow, List.range_succ]
theorem bkTake_succ (B : Bm) (k : Nat) {row : ByteArray} (h : B.rows[k]? = some row) : bkTake B (k + 1) = bkTake B k ++ bkRow B k row (bkW B row) := by simp [bkTake, List.range_succ, h]
theorem bkOne_le (B : Bm) (m : Nat) (row : ByteArray) (i : Nat) : (bkOne B m row i).length ≤ 1 := by unfold bkOne; split <;> simp
theorem bkRow_le (B : Bm) (m : Nat) (row : ByteArray) : ∀ k, (bkRow B m row k).length ≤ k
  | 0 => by simp [bkRow]
  | k + 1 => by
    have h1 := bkRow_le B m row k
    have h2 := bkOne_le B m row k
    rw [bkRow_succ, List.length_append]; omega

set_option maxHeartbeats 1000000 in
theorem black_calls (w : World) (b : Value) (B : Bm) (hb : BmAt w b B) (hsz : B.rows.length ≤ 1000 ∧ ∀ s ∈ B.rows, s.size ≤ 1000) : Calls Try.prog 28 #[b] w (Ret w fun v w' => Own w w' v 24 2 (blackL B).length (ptCells (blackL B))) := by
  obtain ⟨rb, rfl, hrb⟩ := hb
  obtain ⟨Ab, nb, cb, rfl, _, hcap, _⟩ := id hrb
  obtain ⟨hnb, hnb'⟩ := rows_len hrb
  refine calls_S (vs := [bmV B (.slice Ab nb cb)]) Try.func28 rfl Try.ntmps28 rfl ?_
  (repeat' (first|refine Za ?_|refine Zb ?_|refine Zc ?_|refine Zd ?_|refine Zu tab rfl rfl ?_|(apply Zy;refine Zz ?_)|(apply Yg; first|refine Yh fun _=>?_|refine Yi (Yj rfl rfl) rfl fun _=>?_)|(apply Yt;refine Yu ?_)|(apply Yv;refine Yw fun _=>?_)|fail))
  rename_i b1 b8
  refine tl_if [1, 3] (B.near = false) rfl (fun Q' K => ?_) (fun hC => ?_) (fun hC => ?_)
  · (repeat' (first|refine Zd ?_|refine Zu tab rfl rfl ?_|refine Zv rfl rfl ?_|refine Zw rfl rfl rfl rfl ?_|(apply Zy;refine Zz ?_)|(apply Ya;refine Yb ?_)|(apply Yt;refine Yu ?_)|refine tl_guard rfl rfl rfl (fun _ => ?_) (fun _ => ?_)|fail))
    all_goals exact K _ _ rfl rfl (by simp_all [Bm.near, nearB])
  · (repeat' (first|refine Za ?_|refine Zb ?_|refine Zc ?_|refine Zd ?_|refine Zg ?_|refine Zk ?_|refine Zu tab rfl rfl ?_|fail))
    refine xt_ret1S rfl rfl fun w1 hw1 => ?_
    have hnil : blackL B = [] := by rw [blackL, hC]; rfl
    rw [hnil]
    have ho : OwnsV (.slice (some ⟨b8, 0, none⟩) 0 0) 24 2 0 [] [(b8, row 24 2 0 0 [])] := OwnsV.at_
    exact ho.own (St.headImp hw1 fun o ho => bx_row0 ho) (fun p hp => by rw [List.mem_singleton] at hp; subst hp; exact List.mem_cons_self ..)
  · have hn : B.near = true := by simpa using hC
    have hBL : blackL B = bkTake B (mvN B) := by rw [blackL, hn]; rfl
    rw [hBL]
    clear hBL hC
    simp only [Bm.near, nearB, inB, Bool.and_eq_true, Bool.not_eq_true', Bool.or_eq_false_iff, decide_eq_false_iff_not] at hn
    have hmv : mvN B ≤ B.rows.length := Nat.min_le_left ..
    (repeat' (first|refine Za ?_|refine Zb ?_|refine Zc ?_|refine Zd ?_|refine Ze ?_|refine Zf ?_|refine Zu tab rfl rfl ?_|fail))
    refine t_loopK [1] (α := Nat × Value × HL) (fun z => [(3, z.2.1), (4, .int .i64 z.1)]) (fun z => z.1 ≤ mvN B ∧ OwnsV z.2.1 24 2 (bkTake B z.1).length (ptCells (bkTake B z.1)) z.2.2 ∧ (bkTake B z.1).length ≤ z.1 * 1000)
      (fun z => (b1, bx [.int .i64 B.X, .int .i64 B.Y, .int .i64 B.W, .int .i64 B.H, .slice Ab nb cb] 30) :: z.2.2) (fun z => mvN B - z.1) (0, .slice (some ⟨b8, 0, none⟩) 0 0, [(b8, row 24 2 0 0 [])]) rfl ⟨rfl, rfl, trivial⟩ ⟨Nat.zero_le _, OwnsV.at_, by simp [bkTake]⟩ (fun _ h => (St.headImp h fun o ho => bx_row0 ho).perm (List.Perm.swap _ _ _)) ?_
    rintro ⟨m, v, Lv⟩ ⟨hm, hown, hlen⟩
    dsimp only at hm hown hlen ⊢
    try dsimp only [List.cons_append, List.nil_append, List.map_cons, List.map_nil]
    (repeat' (first|refine Za ?_|refine Zb ?_|refine Zu tab rfl rfl ?_|(apply Zy;refine Zz ?_)|fail))
    refine tl_if [1, 3, 4] (m < mvN B) rfl (fun Q' K => ?_) (fun hC => ?_) (fun hC => ?_)
    · (repeat' (first|refine Zd ?_|refine Zu tab rfl rfl ?_|refine Zv rfl rfl ?_|refine Zw rfl rfl rfl rfl ?_|(apply Zy;refine Zz ?_)|(apply Ya;refine Yb ?_)|refine tl_guard rfl rfl rfl (fun _ => ?_) (fun _ => ?_)|fail))
      all_goals exact K _ _ rfl rfl (by unfold mvN at *; simp_all <;> omega)
    · obtain ⟨s, hs⟩ : ∃ s, B.rows[m]? = some s := ⟨_, List.getElem?_eq_getElem (by omega)⟩
      obtain ⟨b5, o5, rfl, hc5⟩ := rows_cl hrb hs
      have hss := hsz.2 s (List.mem_of_getElem? hs)
      have hsucc := bkTake_succ B m hs
      have hbw : bkW B s ≤ s.size := Nat.min_le_left ..
      have hmH : (m : Int) < B.H := by unfold mvN at hC; omega
      (repeat' (first|refine Za ?_|refine Zb ?_|refine Zc ?_|refine Zd ?_|refine Ze ?_|refine Zf ?_|refine Zu tab rfl rfl ?_|fail))
      refine t_loopK [1, 4] (α := Nat × Value × HL) (fun z => [(3, z.2.1), (5, .int .i64 z.1)]) (fun z => z.1 ≤ bkW B s ∧ OwnsV z.2.1 24 2 (bkTake B m ++ bkRow B m s z.1).length (ptCells (bkTake B m ++ bkRow B m s z.1)) z.2.2)
        (fun z => (b1, bx [.int .i64 B.X, .int .i64 B.Y, .int .i64 B.W, .int .i64 B.H, .slice (some ⟨b5, o5, none⟩) nb cb] 30) :: z.2.2) (fun z => bkW B s - z.1) (0, v, Lv) rfl ⟨rfl, rfl, trivial⟩ ⟨Nat.zero_le _, by dsimp only; rw [show bkRow B m s 0 = [] from rfl, List.append_nil]; exact hown⟩ (fun _ h => h) ?_
      rintro ⟨i, u, Lu⟩ ⟨hi, hu⟩
      dsimp only at hi hu ⊢
      have hri := bkRow_le B m s i
      have hrs := bkRow_succ B m s i
      try dsimp only [List.cons_append, List.nil_append, List.map_cons, List.map_nil]
      (repeat' (first|refine Za ?_|refine Zb ?_|refine Zu tab rfl rfl ?_|(apply Zy;refine Zz ?_)|(apply Yn;refine Yo ?_)|fail))
      refine tl_if [1, 3, 4, 5] (i < bkW B s) rfl (fun Q' K => ?_) (fun hD => ?_) (fun hD => ?_)
      · (repeat' (first|refine Zd ?_|refine Zu tab rfl rfl ?_|refine Zv rfl rfl ?_|refine Zw rfl rfl rfl rfl ?_|(apply Zy;refine Zz ?_)|(apply Ya;refine Yb ?_)|refine tl_guard rfl rfl rfl (fun _ => ?_) (fun _ => ?_)|fail))
        all_goals exact K _ _ rfl rfl (by unfold bkW at *; simp_all <;> omega)
      · obtain ⟨c, hc⟩ : ∃ c, s[i]? = some c := ⟨_, getElem?_pos s i (by omega)⟩
        have hbk : bk s i = decide ((c.toNat : Int) = 35) := by
          rw [bk, hc, Bool.eq_iff_iff]
          simp only [decide_eq_true_eq, beq_iff_eq, Option.some.injEq]
          exact ⟨fun h => by rw [h]; rfl, fun h => u35 h⟩
        (repeat' (first|refine Za ?_|refine Zb ?_|refine Zc ?_|refine Zd ?_|refine Ze ?_|refine Zf ?_|refine Zu tab rfl rfl ?_|(apply Zy;refine Zz ?_)|(apply Yc;refine Yd ?_)|(apply Yn;refine Yo ?_)|fail))
        refine tl_val (o_index rfl rfl (by omega) hc) rfl rfl ?_
        have hone : bkOne B m s i = if bk s i = true ∧ cut (B.X + i) = B.X + i ∧ cut (B.Y + B.H - 1 - m) = B.Y + B.H - 1 - m then [(B.X + i, B.Y + B.H - 1 - m)] else [] := rfl
        generalize hpx : B.X + (i : Int) = X1 at *
        generalize hpy : B.Y + B.H - 1 - (m : Int) = Y1 at *
        refine tl_if [1, 3, 4, 5, 6, 7] (bk s i = true ∧ cut X1 = X1 ∧ cut Y1 = Y1) rfl (fun Q' K => ?_) (fun hE => ?_) (fun hE => ?_)
        · (repeat' (first|refine Zd ?_|refine Zu tab rfl rfl ?_|refine Zv rfl rfl ?_|refine Zw rfl rfl rfl rfl ?_|(apply Ya;refine Yb ?_)|(apply Yt;refine Yu ?_)|refine tl_guard rfl rfl rfl (fun _ => ?_) (fun _ => ?_)|fail))
          all_goals exact K _ _ rfl rfl (by simp_all)
        · rw [if_pos hE] at hone
          rw [hone] at hrs
          have hll : (bkTake B m ++ bkRow B m s i).length ≤ 2000000 := by rw [List.length_append]; omega
          (repeat' (first|refine Zb ?_|refine Zu tab rfl rfl ?_|(apply Yl;refine Ym ?_)|(apply Yv;refine Yw fun _=>?_)|fail))
          rename_i b93
          refine tl_app [(b1, bx [.int .i64 B.X, .int .i64 B.Y, .int .i64 B.W, .int .i64 B.H, .slice (some ⟨b5, o5, none⟩) nb cb] 30)] rfl rfl hu rfl rfl rfl rfl rfl rfl (by omega) (by omega) fun b' cap' => ?_
          (repeat' (first|refine Zb ?_|refine Zc ?_|refine Zd ?_|refine Zi ?_|refine Zu tab rfl rfl ?_|(apply Yc;refine Yd ?_)|fail))
          refine xt_roundK (i + 1, .slice (some ⟨b', 0, none⟩) ((bkTake B m ++ bkRow B m s i).length + 1) cap', [(b', row 24 2 ((bkTake B m ++ bkRow B m s i).length + 1) cap' (ptCells (bkTake B m ++ bkRow B m s i) ++ [Value.int .i64 X1, Value.int .i64 Y1]))]) rfl ⟨rfl, rfl, trivial⟩ ⟨by dsimp only; omega, ?_⟩ (by dsimp only; omega) (fun w1 h1 => h1)
          dsimp only
          have e3 : (bkTake B m ++ bkRow B m s i ++ [(X1, Y1)]).length = (bkTake B m ++ bkRow B m s i).length + 1 := List.length_append
          rw [hrs, ← List.append_assoc, ptCells_append, e3]
          exact OwnsV.at_
        · rw [if_neg hE] at hone
          rw [hone, List.append_nil] at hrs
          (repeat' (first|refine Zb ?_|refine Zc ?_|refine Zd ?_|refine Zf ?_|refine Zi ?_|refine Zu tab rfl rfl ?_|(apply Yc;refine Yd ?_)|fail))
          refine xt_roundK (i + 1, u, Lu) rfl ⟨rfl, rfl, trivial⟩ ⟨by dsimp only; omega, ?_⟩ (by dsimp only; omega) (fun w1 h1 => h1)
          dsimp only
          rw [hrs]
          exact hu
      · have hiw : i = bkW B s := by omega
        subst hiw
        (repeat' (first|refine Zb ?_|refine Zc ?_|refine Zd ?_|refine Zh ?_|refine Zi ?_|refine Zj ?_|refine Zl ?_|refine Zq ?_|refine Zu tab rfl rfl ?_|(apply Yc;refine Yd ?_)|fail))
        refine xt_roundK (m + 1, u, Lu) rfl ⟨rfl, rfl, trivial⟩ ⟨by dsimp only; omega, by dsimp only; rw [hsucc]; exact hu, by dsimp only; rw [hsucc, List.length_append]; omega⟩ (by dsimp only; omega) (fun w1 h1 => h1)
    · have hmm : m = mvN B := by omega
      subst hmm
      (repeat' (first|refine Za ?_|refine Zb ?_|refine Zc ?_|refine Zd ?_|refine Zg ?_|refine Zh ?_|refine Zj ?_|refine Zl ?_|refine Zq ?_|refine Zu tab rfl rfl ?_|fail))
      exact xt_ret1S rfl rfl fun w1 hw1 => hown.own hw1 fun p hp => List.mem_cons_of_mem _ hp

end Go.Proofs.Ytbgolbkolcmldaa
