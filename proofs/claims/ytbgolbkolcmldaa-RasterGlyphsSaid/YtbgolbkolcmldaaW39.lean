/-
  The document's answer: the least box of all points.
-/
import Derived.Test.YtbgolbkolcmldaaW34
namespace Go.Proofs.Ytbgolbkolcmldaa
open Go.RowKit
attribute [local irreducible] T TL Xt O Op1 Kt DV ObsB DE DW DW1 LoopQ LoopJ

def rbS (q : Int × Int × Int × Int × Bool) (p : Int × Int) : Int × Int × Int × Int × Bool := (min q.1 (cut p.1), min q.2.1 (cut p.2), max q.2.2.1 (cut p.1), max q.2.2.2.1 (cut p.2), true)
def rb0 : Int × Int × Int × Int × Bool := (268435456, 268435456, -268435456, -268435456, false)
def rboxP (ls : List Pts) : Int × Int × Int × Int × Bool := ls.flatten.foldl rbS rb0
theorem rbS_true : ∀ (l : Pts) (q : Int × Int × Int × Int × Bool), q.2.2.2.2 = true → l.foldl rbS q = l.foldl bxS q
  | [], q, _ => rfl
  | p :: l, q, h => by
    have e : bxS q p = rbS q p := by unfold bxS rbS; rw [if_pos h]
    rw [List.foldl_cons, List.foldl_cons, e]
    exact rbS_true l _ rfl
theorem rbox_eq (ls : List Pts) (h : ls.flatten ≠ []) : rboxP ls = boxP ls := by
  unfold rboxP boxP
  cases hf : ls.flatten with
  | nil => exact absurd hf h
  | cons p l =>
    rw [List.foldl_cons, List.foldl_cons]
    have h1 := cut_bd p.1
    have h2 := cut_bd p.2
    have e : rbS rb0 p = bxS (0, 0, 0, 0, false) p := by
      simp only [rbS, rb0, bxS, Bool.false_eq_true, if_false, Prod.mk.injEq, and_true]
      omega
    rw [e]
    exact rbS_true l _ rfl
theorem flat_takes {ls : List Pts} {i : Nat} {l : Pts} (h : ls[i]? = some l) : (ls.take (i + 1)).flatten = (ls.take i).flatten ++ l := by
  rw [List.take_add_one, h, List.flatten_append]; simp

set_option maxHeartbeats 1000000 in
theorem rbox_calls (w : World) (A : Option Addr) (n cap : Nat) (ls : List Pts) (hL : Lines w (.slice A n cap) ls) : Calls Try.prog 52 #[.slice A n cap] w (Ret w fun v _ => v = boxV (rboxP ls)) := by
  have hn := lines_len hL
  have hn' := lines_le hL
  refine calls_S (vs := [.slice A n cap]) Try.func52 rfl Try.ntmps52 rfl ?_
  (repeat' (first|refine Za ?_|refine Zb ?_|refine Zc ?_|refine Zd ?_|refine Ze ?_|refine Zu tab rfl rfl ?_|(apply Ye;refine Yf ?_)|refine Yk rfl fun _=>?_|(apply Yl;refine Ym ?_)|fail))
  rename_i b2 b3 b5 b6
  refine t_loopK [0, 2, 3, 5, 6] (α := Nat × (Int × Int × Int × Int × Bool)) (fun x => [(7, .bool x.2.2.2.2.2), (8, .int .i64 x.1)]) (fun x => x.1 ≤ ls.length ∧ x.2 = (ls.take x.1).flatten.foldl rbS rb0) (fun x => [(b6, bx [.int .i64 x.2.2.2.1, .int .i64 x.2.2.2.2.1] 24), (b5, bx [.int .i64 x.2.1, .int .i64 x.2.2.1] 24), (b3, bx [.int .i64 0, .int .i64 0] 24), (b2, bx [.int .i64 0, .int .i64 0] 24)]) (fun x => ls.length - x.1) (0, rb0) rfl ⟨rfl, rfl, trivial⟩ ⟨Nat.zero_le _, rfl⟩ (fun w h => h) ?_
  rintro ⟨i, lx, ly, hx, hy, ok⟩ ⟨hi, hq⟩
  dsimp only at hi hq ⊢
  try dsimp only [List.cons_append, List.nil_append, List.map_cons, List.map_nil]
  (repeat' (first|refine Za ?_|refine Zb ?_|refine Zc ?_|refine Zd ?_|refine Zu tab rfl rfl ?_|fail))
  refine t_cond rfl (fun h => ?_) (fun h => ?_)
  · have hin : i < ls.length := by have := of_decide_eq_true h; omega
    obtain ⟨l, hl⟩ : ∃ l, ls[i]? = some l := ⟨_, List.getElem?_eq_getElem hin⟩
    obtain ⟨b, off, A', n', cap', rfl, hc, hR⟩ := lines_cl hL hl
    have hr := row_len hR
    have hr' := row_le hR
    (repeat' (first|refine Za ?_|refine Zb ?_|refine Zc ?_|refine Zd ?_|refine Ze ?_|refine Zf ?_|refine Zu tab rfl rfl ?_|fail))
    refine t_loopK [0, 2, 3, 5, 6, 8] (α := Nat × (Int × Int × Int × Int × Bool)) (fun x => [(7, .bool x.2.2.2.2.2), (9, .int .i64 x.1)]) (fun x => x.1 ≤ l.length ∧ x.2 = ((ls.take i).flatten ++ l.take x.1).foldl rbS rb0) (fun x => [(b6, bx [.int .i64 x.2.2.2.1, .int .i64 x.2.2.2.2.1] 24), (b5, bx [.int .i64 x.2.1, .int .i64 x.2.2.1] 24), (b3, bx [.int .i64 0, .int .i64 0] 24), (b2, bx [.int .i64 0, .int .i64 0] 24)]) (fun x => l.length - x.1) (0, lx, ly, hx, hy, ok) rfl ⟨rfl, rfl, trivial⟩ ⟨Nat.zero_le _, by dsimp only; rw [hq]; simp⟩ (fun w h => h) ?_
    rintro ⟨k, lx, ly, hx, hy, ok⟩ ⟨hk, hq⟩
    dsimp only at hk hq ⊢
    try dsimp only [List.cons_append, List.nil_append, List.map_cons, List.map_nil]
    (repeat' (first|refine Za ?_|refine Zb ?_|refine Zc ?_|refine Zd ?_|refine Zu tab rfl rfl ?_|(apply Zy;refine Zz ?_)|(apply Yn;refine Yo ?_)|fail))
    refine t_cond rfl (fun h => ?_) (fun h => ?_)
    · have hkn : k < l.length := by have := of_decide_eq_true h; omega
      obtain ⟨p, hp⟩ : ∃ p, l[k]? = some p := ⟨_, List.getElem?_eq_getElem hkn⟩
      obtain ⟨b', off', rfl, hcp⟩ := row_cl hR hp
      have hnx : ((ls.take i).flatten ++ l.take (k + 1)).foldl rbS rb0 = rbS (lx, ly, hx, hy, ok) p := by
        rw [List.take_add_one, hp, ← List.append_assoc, List.foldl_append, ← hq]; rfl
      (repeat' (first|refine Za ?_|refine Zb ?_|refine Zc ?_|refine Zd ?_|refine Ze ?_|refine Zf ?_|refine Zu tab rfl rfl ?_|(apply Zy;refine Zz ?_)|(apply Ye;refine Yf ?_)|refine Yk rfl fun _=>?_|(apply Yn;refine Yo ?_)|fail))
      refine t_drawW 12 [(0, .v), (1, .v), (2, .v), (3, .v), (6, .v), (7, .v), (8, .v), (9, .v), (4, .e), (5, .v), (10, .e), (11, .v)] ?_ rfl (by kernel_rfl) (by kernel_rfl) rfl (by kernel_rfl) mixed (by kernel_rfl) rfl
      (repeat' (first|refine Yz rfl ?_|refine Vd tab ?_|(apply Vf;refine Vg ?_)|(apply Vp;refine Vq ?_)|fail))
      refine dw_end [0, 2, 3, 5, 6, 7, 8, 9, 10, 40, 46] (rest := []) rfl ?_
      (repeat' (first|refine Zc ?_|refine Zd ?_|(apply Ye;refine Yf ?_)|(apply Yl;refine Ym ?_)|fail))
      refine t_drawW 12 [(0, .v), (1, .v), (2, .v), (3, .v), (6, .v), (7, .v), (8, .v), (9, .v), (4, .e), (5, .v), (10, .e), (11, .v)] ?_ rfl (by kernel_rfl) (by kernel_rfl) rfl (by kernel_rfl) mixed (by kernel_rfl) rfl
      (repeat' (first|refine Yz rfl ?_|refine Vd tab ?_|(apply Vf;refine Vg ?_)|(apply Vp;refine Vq ?_)|fail))
      refine dw_end [0, 2, 3, 5, 6, 7, 8, 9, 53, 59] (rest := []) rfl ?_
      (repeat' (first|refine Zb ?_|refine Zc ?_|refine Zd ?_|refine Zi ?_|refine Zu tab rfl rfl ?_|(apply Yc;refine Yd ?_)|(apply Ye;refine Yf ?_)|(apply Yl;refine Ym ?_)|fail))
      exact xt_roundK (k + 1, rbS (lx, ly, hx, hy, ok) p) rfl ⟨rfl, rfl, trivial⟩ ⟨by dsimp only; omega, hnx.symm⟩ (by dsimp only; omega) fun _ h => h.sublist (.cons _ (List.Sublist.refl _))
    · have hkk : k = l.length := by have := of_decide_eq_false h; omega
      subst hkk
      rw [List.take_length, ← flat_takes hl] at hq
      (repeat' (first|refine Zb ?_|refine Zc ?_|refine Zd ?_|refine Zh ?_|refine Zi ?_|refine Zj ?_|refine Zl ?_|refine Zq ?_|refine Zu tab rfl rfl ?_|(apply Yc;refine Yd ?_)|fail))
      exact xt_roundK (i + 1, lx, ly, hx, hy, ok) rfl ⟨rfl, rfl, trivial⟩ ⟨by dsimp only; omega, hq⟩ (by dsimp only; omega) fun _ h => h
  · have hii : i = ls.length := by have := of_decide_eq_false h; omega
    subst hii
    rw [List.take_of_length_le (Nat.le_refl _)] at hq
    (repeat' (first|refine Za ?_|refine Zc ?_|refine Zh ?_|refine Zj ?_|refine Zl ?_|refine Zq ?_|fail))
    refine t_drawBE [.val (.agg #[.int .i64 lx, .int .i64 ly]), .val (.agg #[.int .i64 hx, .int .i64 hy]), .val (.bool ok), .putE b2 24 [.int .i64 0, .int .i64 0] [.int .i64 lx, .int .i64 ly], .putE b3 24 [.int .i64 0, .int .i64 0] [.int .i64 hx, .int .i64 hy], .val (.bool ok)] [(b6, bx [.int .i64 hx, .int .i64 hy] 24), (b5, bx [.int .i64 lx, .int .i64 ly] 24)] (fun w1 h1 => h1.perm ?_) ?obsq mixed (by kernel_rfl) rfl ?finq
    · exact ((List.perm_append_comm (l₁ := [(b6, bx [.int .i64 hx, .int .i64 hy] 24), (b5, bx [.int .i64 lx, .int .i64 ly] 24)]) (l₂ := [(b3, bx [.int .i64 0, .int .i64 0] 24), (b2, bx [.int .i64 0, .int .i64 0] 24)])).trans ((List.Perm.swap _ _ _)))
    case obsq =>
      (repeat' (first
        |refine ob_p tab (fun _ => rfl) ?_|(apply ob_v; focus (intro _ _; first | exact o_loadB 0 rfl rfl rfl | exact o_loadB 1 rfl rfl rfl | exact o_loadB 2 rfl rfl rfl | exact o_loadB 3 rfl rfl rfl | exact o_loadBA 0 rfl rfl rfl | exact o_loadBA 1 rfl rfl rfl | exact o_loadBA 2 rfl rfl rfl | exact o_loadBA 3 rfl rfl rfl | exact o_add64 rfl rfl (by omega) | exact o_sub64 rfl rfl (by omega)))|fail))
      refine ob_putE rfl (fun _ => rfl) (fun _ => rfl) (stores_ag rfl rfl) ?_
      refine ob_putE rfl (fun _ => rfl) (fun _ => rfl) (stores_ag rfl rfl) ?_
      (repeat' (first
        |refine ob_p tab (fun _ => rfl) ?_|fail))
      exact ob_nil
    case finq =>
      intro bs
      (repeat' (first|refine Zc ?_|refine Zg ?_|fail))
      exact xt_retCCT 0 1 rfl rfl rfl rfl rfl rfl rfl rfl fun _ _ => by rw [rboxP, ← hq]; rfl

end Go.Proofs.Ytbgolbkolcmldaa
