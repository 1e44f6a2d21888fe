/-
  Lines near by, whose memory may be written.
-/
import Derived.Test.YtbgolbkolcmldaaGI
namespace Go.Proofs.Ytbgolbkolcmldaa
open Go.RowKit
attribute [local irreducible] T TL Xt O Op1 Kt DV ObsB DE DW DW1 LoopQ LoopJ

/-- lines of the call's own, row by row -/
def NearI (w w' : World) (v : Value) (ls : List Pts) : Prop := ∃ (rs : List Value) (Ls : List HL) (Lv : HL), OwnsV v 38 1 ls.length rs Lv ∧ rs.length = ls.length ∧ Ls.length = ls.length ∧ (∀ (j : Nat) (r : Value) (l : Pts) (Lj : HL), rs[j]? = some r → ls[j]? = some l → Ls[j]? = some Lj → OwnsV r 24 2 l.length (ptCells l) Lj) ∧ St w [] (Ls.flatten ++ Lv) w'

set_option maxHeartbeats 1000000 in
theorem near_own (w : World) (A : Option Addr) (n cap : Nat) (ls : List Pts) (hL : Lines w (.slice A n cap) ls) : Calls Try.prog 15 #[.slice A n cap] w (Ret w fun v w' => NearI w w' v (nearL ls)) := by
  have hn : n = ls.length ∧ n ≤ 9223372036854775807 := by
    obtain ⟨rows, ⟨A', n', cap', he, h1, h2, h3, h4⟩, hl, _⟩ := hL
    cases he
    unfold maxLen at h3
    omega
  refine calls_S (vs := [.slice A n cap]) Try.func15 rfl Try.ntmps15 rfl ?_
  (repeat' (first|refine Za ?_|refine Zb ?_|refine Zc ?_|refine Zd ?_|refine Ze ?_|refine Zu tab rfl rfl ?_|(apply Yv;refine Yw fun _=>?_)|fail))
  rename_i b5
  refine t_loopK [0] (α := Nat × Value × List Value × List HL × HL) (fun x => [(3, x.2.1), (4, .int .i64 x.1)]) (fun x => x.1 ≤ ls.length ∧ x.1 ≤ 5 ∧ OwnsV x.2.1 38 1 x.1 x.2.2.1 x.2.2.2.2 ∧ x.2.2.1.length = x.1 ∧ x.2.2.2.1.length = x.1 ∧ ∀ (j : Nat) (r : Value) (l : Pts) (Lj : HL), x.2.2.1[j]? = some r → ls[j]? = some l → x.2.2.2.1[j]? = some Lj → OwnsV r 24 2 (min l.length 10) (ptCells (nrL l)) Lj) (fun x => x.2.2.2.1.flatten ++ x.2.2.2.2) (fun x => 5 - x.1) (0, .slice (some ⟨b5, 0, none⟩) 0 0, [], [], [(b5, row 38 1 0 0 [])]) rfl ⟨rfl, rfl, trivial⟩ ⟨Nat.zero_le _, Nat.zero_le _, OwnsV.at_, rfl, rfl, fun j r l Lj h => by simp at h⟩ (fun w h => ?_) ?_
  · exact St.headImp h fun o ho => bx_row0 ho
  rintro ⟨i, v, rs, Ls, Lv⟩ ⟨hi, hi5, hv, hrs, hLs, hrow⟩
  dsimp only at hi hi5 hv hrs hLs hrow ⊢
  try dsimp only [List.cons_append, List.nil_append, List.map_cons, List.map_nil]
  (repeat' (first|refine Za ?_|refine Zb ?_|refine Zu tab rfl rfl ?_|fail))
  refine tl_if [0, 3, 4] (i < ls.length ∧ i < 5) rfl (fun Q' K => ?_) (fun hC => ?_) (fun hC => ?_)
  · (repeat' (first|refine Zd ?_|refine Zu tab rfl rfl ?_|refine Zv rfl rfl ?_|refine Zw rfl rfl rfl rfl ?_|(apply Ya;refine Yb ?_)|refine tl_guard rfl rfl rfl (fun _ => ?_) (fun _ => ?_)|fail))
    all_goals exact K _ _ rfl rfl (by simp_all <;> omega)
  · obtain ⟨l, hl⟩ : ∃ l, ls[i]? = some l := ⟨ls[i], List.getElem?_eq_getElem hC.1⟩
    obtain ⟨b, off, A1, n1, c1, rfl, hcl, hR⟩ := lines_cl hL hl
    have hn1 := row_len hR
    have hn2 := row_le hR
    subst hn1
    (repeat' (first|refine Za ?_|refine Zb ?_|refine Zc ?_|refine Zd ?_|refine Ze ?_|refine Zf ?_|refine Zu tab rfl rfl ?_|(apply Yv;refine Yw fun _=>?_)|fail))
    rename_i b18
    refine t_loopK [0, 3, 4] (α := Nat × Value × HL) (fun x => [(5, x.2.1), (6, .int .i64 x.1)]) (fun x => x.1 ≤ l.length ∧ x.1 ≤ 10 ∧ OwnsV x.2.1 24 2 x.1 (ptCells ((l.take x.1).map nrP)) x.2.2) (fun x => Ls.flatten ++ Lv ++ x.2.2) (fun x => 10 - x.1) (0, .slice (some ⟨b18, 0, none⟩) 0 0, [(b18, row 24 2 0 0 [])]) rfl ⟨rfl, rfl, trivial⟩ ⟨Nat.zero_le _, Nat.zero_le _, OwnsV.at_⟩ (fun w h => ?_) ?_
    · exact (St.headImp h fun o ho => bx_row0 ho).perm (List.perm_append_comm (l₁ := [_]))
    rintro ⟨k, u, Lu⟩ ⟨hk, hk10, hu⟩
    dsimp only at hk hk10 hu ⊢
    try dsimp only [List.cons_append, List.nil_append, List.map_cons, List.map_nil]
    (repeat' (first|refine Za ?_|refine Zb ?_|refine Zu tab rfl rfl ?_|(apply Zy;refine Zz ?_)|(apply Yn;refine Yo ?_)|fail))
    refine tl_if [0, 3, 4, 5, 6] (k < l.length ∧ k < 10) rfl (fun Q' K => ?_) (fun hD => ?_) (fun hD => ?_)
    · (repeat' (first|refine Zd ?_|refine Zu tab rfl rfl ?_|refine Zv rfl rfl ?_|refine Zw rfl rfl rfl rfl ?_|(apply Ya;refine Yb ?_)|refine tl_guard rfl rfl rfl (fun _ => ?_) (fun _ => ?_)|fail))
      all_goals exact K _ _ rfl rfl (by simp_all <;> omega)
    · obtain ⟨p, hp⟩ : ∃ p, l[k]? = some p := ⟨l[k], List.getElem?_eq_getElem hD.1⟩
      obtain ⟨b2, off2, rfl, hpc⟩ := row_cl hR hp
      (repeat' (first|refine Za ?_|refine Zc ?_|refine Ze ?_|refine Zf ?_|fail))
      refine t_drawWH 24 [(0, .v), (1, .v), (2, .v), (3, .v), (4, .v), (5, .v), (6, .v), (7, .v), (8, .v), (9, .v), (10, .v), (11, .v), (12, .v), (13, .v), (14, .v), (15, .v), (16, .v), (17, .v), (18, .v), (19, .v), (20, .v), (21, .v), (22, .e), (23, .h)] ?_ rfl (by kernel_rfl) (by kernel_rfl) rfl (by kernel_rfl) mixed (by kernel_rfl) rfl
      (repeat' (first|refine Yz rfl ?_|refine Vd tab ?_|(apply Vf;refine Vg ?_)|(apply Vl;refine Vm ?_)|fail))
      refine dw_opN rfl rfl (fun _ => o_mask 12 rfl rfl rfl rfl) ?_
      (repeat' (first|refine Yz rfl ?_|refine Vd tab ?_|(apply Vf;refine Vg ?_)|(apply Vj;refine Vk ?_)|(apply Vl;refine Vm ?_)|fail))
      refine dw_opN rfl rfl (fun _ => o_mask 12 rfl rfl rfl rfl) ?_
      (repeat' (first|refine Yz rfl ?_|(apply Vj;refine Vk ?_)|(apply Vn;refine Vo ?_)|(apply Vz;refine Ua fun _=>?_)|fail))
      refine dw_appH rfl rfl hu rfl rfl rfl (by omega) (by omega) rfl trivial fun v' Lv' hv' => ?_
      (repeat' (first|fail))
      refine dw_end [0, 3, 4, 6, 55] (rest := []) rfl ?_
      (repeat' (first|refine Zb ?_|refine Zc ?_|refine Zd ?_|refine Zi ?_|refine Zu tab rfl rfl ?_|(apply Yc;refine Yd ?_)|fail))
      refine xt_roundK (k + 1, v', Lv') rfl ⟨rfl, rfl, trivial⟩ ⟨by dsimp only; omega, by dsimp only; omega, ?_⟩ (by dsimp only; omega) (fun w1 hw1 => hw1.perm List.perm_append_comm)
      dsimp only
      rw [List.take_add_one, hp, List.map_append, ptCells_append]
      exact hv'
    · obtain ⟨A3, c3, rfl⟩ := hu.shape
      (repeat' (first|refine Zb ?_|refine Zc ?_|refine Zh ?_|refine Zj ?_|refine Zl ?_|refine Zq ?_|refine Zu tab rfl rfl ?_|(apply Yv;refine Yw fun _=>?_)|fail))
      rename_i b58
      have hkm : k = min l.length 10 := by omega
      refine tl_imp (I' := St w [] ((b58, bx [.slice A3 k c3] 38) :: ((Ls.flatten ++ Lu) ++ Lv))) (fun w1 hw1 => hw1.perm (List.Perm.cons _ (by rw [List.append_assoc, List.append_assoc]; exact List.perm_append_comm.append_left Ls.flatten))) ?_
      refine tl_app (Ls.flatten ++ Lu) rfl rfl hv rfl rfl rfl rfl rfl rfl (by omega) (by omega) fun b' cap' => ?_
      (repeat' (first|refine Zb ?_|refine Zc ?_|refine Zd ?_|refine Zi ?_|refine Zu tab rfl rfl ?_|(apply Yc;refine Yd ?_)|fail))
      refine xt_roundK (i + 1, _, rs ++ [.slice A3 k c3], Ls ++ [Lu], [(b', row 38 1 (i + 1) cap' (rs ++ [.slice A3 k c3]))]) rfl ⟨rfl, rfl, trivial⟩ ⟨by dsimp only; omega, by dsimp only; omega, OwnsV.at_, by simp [hrs], by simp [hLs], fun j r l' Lj h1 h2 h3 => ?_⟩ (by dsimp only; omega) (fun w1 hw1 => by dsimp only; rw [List.flatten_append, List.flatten_cons, List.flatten_nil, List.append_nil]; exact hw1)
      dsimp only at h1 h3 ⊢
      by_cases hj : j < rs.length
      · rw [List.getElem?_append_left hj] at h1
        rw [List.getElem?_append_left (by omega)] at h3
        exact hrow j r l' Lj h1 h2 h3
      · have hlt := (List.getElem?_eq_some_iff.1 h1).1
        simp at hlt
        obtain rfl : j = i := by omega
        rw [List.getElem?_append_right (by omega), hrs, Nat.sub_self] at h1
        rw [List.getElem?_append_right (by omega), hLs, Nat.sub_self] at h3
        simp at h1 h3
        subst h1
        subst h3
        rw [hl] at h2
        cases h2
        rw [← hkm]
        have e : nrL l = (l.take k).map nrP := by
          unfold nrL
          congr 1
          rw [hkm]
          apply List.ext_getElem?
          intro m
          simp only [List.getElem?_take]
          split
          · split
            · rfl
            · rw [List.getElem?_eq_none (by omega)]
          · rw [if_neg (by omega)]
        rw [e]
        exact hu
  · (repeat' (first|refine Za ?_|refine Zb ?_|refine Zc ?_|refine Zd ?_|refine Zg ?_|refine Zh ?_|refine Zj ?_|refine Zl ?_|refine Zq ?_|refine Zu tab rfl rfl ?_|fail))
    refine xt_ret1S rfl rfl fun w1 hw1 => ?_
    have hlen : (nearL ls).length = i := by rw [nearL]; simp; omega
    refine ⟨rs, Ls, Lv, by rw [hlen]; exact hv, by omega, by omega, fun j r l Lj h1 h2 h3 => ?_, hw1⟩
    rw [nearL, List.getElem?_map] at h2
    have hj : j < i := by rw [← hrs]; exact (List.getElem?_eq_some_iff.1 h1).1
    rw [List.getElem?_take, if_pos (by omega)] at h2
    obtain ⟨l0, hl0, rfl⟩ := Option.map_eq_some_iff.1 h2
    have := hrow j r l0 Lj h1 hl0 h3
    rwa [show min l0.length 10 = (nrL l0).length by rw [nrL, List.length_map, List.length_take, Nat.min_comm]] at this

end Go.Proofs.Ytbgolbkolcmldaa
