/-
  The document's answer: where contours begin and end.
-/
import Derived.Test.YtbgolbkolcmldaaW46
namespace Go.Proofs.Ytbgolbkolcmldaa
open Go.RowKit
def cutC (x : Nat × Nat × Nat) : List Value := [.int .i64 x.2.1, .int .i64 ((x.2.2 : Int) - 1)]
end Go.Proofs.Ytbgolbkolcmldaa
namespace Go.Proofs.Ytbgolbkolcmldaa
open Go.RowKit
attribute [local irreducible] T TL Xt O Op1 Kt DV ObsB DE DW DW1 LoopQ LoopJ

set_option maxHeartbeats 1000000 in
theorem cuts3_calls (w : World) (Ae : Option Addr) (ne ce N : Nat) (es : List Int) (he : Rd w 1 (.slice Ae ne ce) (intC es)) (hN : N ≤ 1000) (hel : es.length ≤ 1000) : Calls Try.prog 78 #[.slice Ae ne ce, .int .i64 N] w (Ret w fun v w' => RdI w.heap.size w'.heap.size w' 2 v ((cutsN N 0 0 es).flatMap cutC)) := by
  obtain ⟨hne, _⟩ := rd1_len he
  rw [show (intC es).length = es.length by simp [intC]] at hne
  subst hne
  refine calls_S (vs := [.slice Ae es.length ce, .int .i64 N]) Try.func78 rfl Try.ntmps78 rfl ?_
  (repeat' (first|refine Za ?_|refine Zb ?_|refine Zc ?_|refine Zd ?_|refine Ze ?_|refine Zu tab rfl rfl ?_|(apply Yv;refine Yw fun _=>?_)|fail))
  rename_i b8
  refine t_loopK [0, 1] (α := Nat × Nat × List (Nat × Nat × Nat) × Value × HL) (fun x => [(5, x.2.2.2.1), (6, .int .i64 ((x.2.1 : Int) - 1)), (7, .int .i64 x.1)]) (fun x => x.1 ≤ es.length ∧ x.2.1 ≤ N ∧ x.2.2.1 ++ cutsN N x.1 x.2.1 (es.drop x.1) = cutsN N 0 0 es ∧ x.2.2.1.length = x.1 ∧ OwnsV x.2.2.2.1 131 2 x.1 (x.2.2.1.flatMap cutC) x.2.2.2.2) (fun x => x.2.2.2.2) (fun x => es.length - x.1) (0, 0, [], .slice (some ⟨b8, 0, none⟩) 0 0, [(b8, row 131 2 0 0 [])]) rfl ⟨rfl, rfl, rfl, trivial⟩ ⟨Nat.zero_le _, Nat.zero_le _, rfl, rfl, OwnsV.at_⟩ (fun w h => St.headImp h fun o ho => bx_row0 ho) ?_
  rintro ⟨i, f, pre, v, Lv⟩ ⟨hi, hf, hq, hpl, hv⟩
  dsimp only at hi hf hq hpl hv ⊢
  try dsimp only [List.cons_append, List.nil_append, List.map_cons, List.map_nil]
  (repeat' (first|refine Za ?_|refine Zb ?_|refine Zc ?_|refine Zd ?_|refine Zu tab rfl rfl ?_|fail))
  refine t_cond rfl (fun h => ?_) (fun h => ?_)
  · have hil : i < es.length := by have := of_decide_eq_true h; omega
    obtain ⟨e, hee⟩ : ∃ e, es[i]? = some e := ⟨_, List.getElem?_eq_getElem hil⟩
    have hdr : es.drop i = e :: es.drop (i + 1) := by rw [List.drop_eq_getElem_cons hil, (List.getElem?_eq_some_iff.1 hee).2]
    have hcu : cutsN N i f (e :: es.drop (i + 1)) = if e < f ∨ (N : Int) ≤ e then [] else (i, f, e.toNat + 1) :: cutsN N (i + 1) (e.toNat + 1) (es.drop (i + 1)) := rfl
    rw [hdr, hcu] at hq
    obtain ⟨bb, oo, rfl, hce⟩ := rd1_cl he (k := i) (v := .int .i64 e) (by simp [intC, hee])
    (repeat' (first|refine Za ?_|refine Zb ?_|refine Zc ?_|refine Ze ?_|refine Zf ?_|refine Zu tab rfl rfl ?_|(apply Zy;refine Zz ?_)|(apply Yn;refine Yo ?_)|fail))
    refine tl_if [0, 1, 5, 6, 7] (e < f ∨ (N : Int) ≤ e) rfl (fun Q' K => ?_) (fun hC => ?_) (fun hC => ?_)
    · (repeat' (first|refine Zd ?_|refine Zu tab rfl rfl ?_|refine Zv rfl rfl ?_|refine Zw rfl rfl rfl rfl ?_|(apply Zy;refine Zz ?_)|(apply Ya;refine Yb ?_)|(apply Yn;refine Yo ?_)|refine tl_guard rfl rfl rfl (fun _ => ?_) (fun _ => ?_)|fail))
      all_goals exact K _ _ rfl rfl (by simp_all <;> omega)
    · rw [if_pos hC, List.append_nil] at hq
      subst hq
      (repeat' (first|refine Za ?_|refine Zb ?_|refine Zc ?_|refine Zd ?_|refine Zg ?_|refine Zk ?_|refine Zm ?_|refine Zr ?_|refine Zu tab rfl rfl ?_|fail))
      exact xt_ret1S rfl rfl fun w1 hw1 => hv.rdI hw1 (fun p hp => hp)
    · rw [if_neg hC] at hq
      obtain ⟨m, hm⟩ : ∃ m : Nat, e = (m : Int) := ⟨e.toNat, by omega⟩
      subst hm
      rw [Int.toNat_natCast] at hq
      (repeat' (first|refine Za ?_|refine Zb ?_|refine Zc ?_|refine Zf ?_|refine Zu tab rfl rfl ?_|(apply Zy;refine Zz ?_)|(apply Yc;refine Yd ?_)|(apply Yn;refine Yo ?_)|fail))
      refine tl_val (o_build [.int .i64 ((f : Int) - 1 + 1), .int .i64 (m : Int)] rfl (build131 _ _)) rfl rfl ?_
      (repeat' (first|(apply Yv;refine Yw fun _=>?_)|fail))
      rename_i b38
      refine tl_app [] rfl rfl hv rfl rfl rfl rfl rfl rfl (by omega) (by omega) fun b39 cap39 => ?_
      (repeat' (first|refine Zb ?_|refine Zc ?_|refine Zd ?_|refine Zi ?_|refine Zu tab rfl rfl ?_|(apply Zy;refine Zz ?_)|(apply Yc;refine Yd ?_)|(apply Yn;refine Yo ?_)|fail))
      rw [List.append_cons] at hq
      refine xt_roundK (i + 1, m + 1, pre ++ [(i, f, m + 1)], .slice (some ⟨b39, 0, none⟩) (i + 1) cap39, [(b39, row 131 2 (i + 1) cap39 (pre.flatMap cutC ++ [Value.int .i64 ((f : Int) - 1 + 1), .int .i64 (m : Int)]))]) rfl ⟨rfl, ?_, rfl, trivial⟩ ⟨by dsimp only; omega, by dsimp only; omega, hq, by simp [hpl], ?_⟩ (by dsimp only; omega) (fun _ h => h)
      · dsimp only
        rw [show ((m + 1 : Nat) : Int) - 1 = (m : Int) by omega]
        rfl
      · dsimp only
        have e3 : (pre ++ [(i, f, m + 1)]).flatMap cutC = pre.flatMap cutC ++ [Value.int .i64 ((f : Int) - 1 + 1), .int .i64 (m : Int)] := by
          rw [List.flatMap_append]
          have e4 : cutC (i, f, m + 1) = [Value.int .i64 ((f : Int) - 1 + 1), .int .i64 (m : Int)] := by
            show [Value.int .i64 (f : Int), .int .i64 (((m + 1 : Nat) : Int) - 1)] = _
            rw [show ((m + 1 : Nat) : Int) - 1 = (m : Int) by omega, show (f : Int) - 1 + 1 = f by omega]
          rw [List.flatMap_cons, List.flatMap_nil, List.append_nil, e4]
        rw [e3]
        exact OwnsV.at_
  · have hil : i = es.length := by have := of_decide_eq_false h; omega
    subst hil
    rw [List.drop_of_length_le (Nat.le_refl _), cutsN, List.append_nil] at hq
    subst hq
    (repeat' (first|refine Za ?_|refine Zb ?_|refine Zc ?_|refine Zd ?_|refine Zg ?_|refine Zh ?_|refine Zj ?_|refine Zl ?_|refine Zq ?_|refine Zu tab rfl rfl ?_|fail))
    exact xt_ret1S rfl rfl fun w1 hw1 => hv.rdI hw1 (fun p hp => hp)

end Go.Proofs.Ytbgolbkolcmldaa
