/-
  Outlines: the lines of points.
-/
import Derived.Test.YtbgolbkolcmldaaW47a
namespace Go.Proofs.Ytbgolbkolcmldaa
open Go.RowKit
attribute [local irreducible] T TL Xt O Op1 Kt DV ObsB DE DW DW1 LoopQ LoopJ

set_option maxHeartbeats 4000000 in
theorem olines_calls (w : World) (A Ao Ae : Option Addr) (n cap no co ne ce : Nat) (p : Pts) (on : List Bool) (es : List Int) (hp : Row w (.slice A n cap) p) (ho : Rd w 1 (.slice Ao no co) (boolC on)) (he : Rd w 1 (.slice Ae ne ce) (intC es)) (hin : InL p) (hpl : p.length ≤ 400) (hel : es.length ≤ 1000) :
    Calls Try.prog 57 #[.slice A n cap, .slice Ao no co, .slice Ae ne ce] w (Ret w fun v w' => LinesI w w' v (linesO p on es)) := by
  have hn := row_len hp
  obtain ⟨hno, _⟩ := rd1_len ho
  rw [show (boolC on).length = on.length by simp [boolC]] at hno
  subst hn hno
  refine calls_M (vs := [.slice A p.length cap, .slice Ao on.length co, .slice Ae ne ce]) Try.func57 rfl Try.ntmps57 rfl ?_
  (repeat' (first|refine Za ?_|refine Zb ?_|refine Zc ?_|refine Zd ?_|refine Zu tab rfl rfl ?_|fail))
  refine t_cond rfl (fun h => ?_) (fun h => ?_)
  · have hne := of_decide_eq_true h
    rw [show linesO p on es = [] from if_neg (by omega)]
    (repeat' (first|refine Za ?_|refine Zb ?_|refine Zc ?_|refine Zd ?_|refine Zg ?_|refine Zk ?_|refine Zu tab rfl rfl ?_|fail))
    refine xt_retM10 rfl rfl fun w1 hw1 => ?_
    exact ⟨[], nil_rdI _ _ _ _, rfl, fun i r l h => by simp at h⟩
  have heq : on.length = p.length := by have := of_decide_eq_false h; omega
  rw [show linesO p on es = (cutsN p.length 0 0 es).map (lineOf (p.zip on)) from if_pos heq]
  (repeat' (first|refine Za ?_|refine Zb ?_|refine Zc ?_|refine Zf ?_|refine Zu tab rfl rfl ?_|fail))
  refine tl_make rfl rfl rfl (by omega) (by omega) rfl fun bS => ?_
  (repeat' (first|refine Za ?_|refine Zb ?_|refine Zc ?_|refine Zd ?_|refine Ze ?_|refine Zu tab rfl rfl ?_|fail))
  refine t_loopK [1, 2, 7, 21, 22] (α := Nat) (fun i => [(23, .int .i64 i)]) (fun i => i ≤ p.length) (fun i => [(bS, row 123 3 p.length p.length ((spL p on i).flatMap spC))]) (fun i => p.length - i) 0 rfl ⟨rfl, trivial⟩ (Nat.zero_le _) (fun w h => ?_) fun i hi => ?_
  · refine St.headImp h fun o ho => ?_
    rw [spL_zero]
    refine bx_row ?_ (by omega) ho
    rw [← spL_zero p on, flatMap_len spC 3 (fun _ => rfl), spL_len p on 0 heq (Nat.zero_le _)]
  try dsimp only [List.cons_append, List.nil_append, List.map_cons, List.map_nil]
  (repeat' (first|refine Za ?_|refine Zb ?_|refine Zc ?_|refine Zd ?_|refine Zu tab rfl rfl ?_|fail))
  refine t_cond rfl (fun h2 => ?_) (fun h2 => ?_)
  · have hil : i < p.length := by have := of_decide_eq_true h2; omega
    obtain ⟨s, hs⟩ : ∃ s, p[i]? = some s := ⟨_, List.getElem?_eq_getElem hil⟩
    obtain ⟨t, ht⟩ : ∃ t, on[i]? = some t := ⟨_, List.getElem?_eq_getElem (by omega)⟩
    obtain ⟨b, off, rfl, hcs⟩ := row_cl hp hs
    obtain ⟨b2, off2, rfl, hct⟩ := rd1_cl ho (k := i) (v := .bool t) (by simp [boolC, ht])
    (repeat' (first|refine Za ?_|refine Zb ?_|refine Zc ?_|refine Zd ?_|refine Ze ?_|refine Zf ?_|refine Zu tab rfl rfl ?_|(apply Zy;refine Zz ?_)|(apply Ye;refine Yf ?_)|refine Yk rfl fun _=>?_|(apply Yn;refine Yo ?_)|fail))
    rename_i b9
    refine t_drawW 8 [(0, .v), (1, .v), (2, .v), (3, .v), (4, .v), (5, .v), (6, .v), (7, .v)] ?_ rfl (by kernel_rfl) (by kernel_rfl) rfl (by kernel_rfl) mixed (by kernel_rfl) rfl
    (repeat' (first|refine Yz rfl ?_|refine Vd tab ?_|(apply Vf;refine Vg ?_)|(apply Vl;refine Vm ?_)|(apply Vn;refine Vo ?_)|fail))
    refine dw_end [1, 2, 7, 21, 22, 23, 28, 29, 35] (rest := []) rfl ?_
    (repeat' (first|(apply Yn;refine Yo ?_)|fail))
    refine tl_store (o_storeRow 1 (m := 3) (vs := spC (s, t)) rfl rfl rfl rfl rfl (by omega)) ?_
    have hput : putL ((spL p on i).flatMap spC) (0 + (i : Int).toNat * 3) (spC (s, t)) = (spL p on (i + 1)).flatMap spC := by
      rw [Nat.zero_add, Int.toNat_natCast, ← spL_succ hs ht]
      exact flat_put spC 3 (by omega) (fun _ => rfl) (a := (s, t)) (by rw [spL_len p on i heq hi]; exact hil)
    rw [hput]
    (repeat' (first|refine Zb ?_|refine Zc ?_|refine Zd ?_|refine Zi ?_|refine Zu tab rfl rfl ?_|(apply Yc;refine Yd ?_)|fail))
    refine xt_roundK (i + 1) rfl ⟨rfl, trivial⟩ (by omega) (by omega) (fun _ h => h.sublist (.cons _ (List.Sublist.refl _)))
  · have hil : i = p.length := by have := of_decide_eq_false h2; omega
    subst hil
    rw [spL_all heq]
    have hcl : (p.zip on).length = p.length := by rw [List.length_zip]; omega
    have hcin : InC (p.zip on) := fun s hs => hin s.1 (List.of_mem_zip hs).1
    (repeat' (first|refine Za ?_|refine Zb ?_|refine Zc ?_|refine Zd ?_|refine Zh ?_|refine Zj ?_|refine Zl ?_|refine Zq ?_|refine Zu tab rfl rfl ?_|refine Yk rfl fun _=>?_|fail))
    rename_i b10
    refine tl_ret (β := Nat × Nat) (fun c => .func (.func 88) #[] #[.pointer (some ⟨c.1, 0, none⟩), .pointer (some ⟨c.2, 0, none⟩)]) (fun c => [(c.1, bx [.slice Ae ne ce] 34), (c.2, bx [.slice (some ⟨bS, 0, none⟩) p.length p.length] 121)]) (fun w1 _ => pieces_calls _ _ _ _ _ _ w1) rfl (fun w1 v w2 hs he ⟨c1, c2, hv, hst⟩ => ⟨(c1, c2), hv, hs.addSt hst⟩) rfl ?_
    rintro ⟨c1, c2⟩
    dsimp only
    (repeat' (first|refine Zc ?_|refine Zd ?_|refine Ze ?_|fail))
    refine t_range2 (pieces_iter c1 c2 bS 0 p.length p.length Ae ne ce es (Nat.le_refl _) (by omega)) rfl (fun pre L => ∃ v rs Lr Lv, OwnsV v 38 1 pre.length rs Lv ∧ RowsIn w.heap.size (lineOf (p.zip on)) pre rs Lr ∧ L = (b10, bx [v] 22) :: (c1, bx [.slice Ae ne ce] 34) :: (c2, bx [.slice (some ⟨bS, 0, none⟩) p.length p.length] 121) :: (bS, row 123 3 p.length p.length ((p.zip on).flatMap spC)) :: (Lr ++ Lv)) ⟨_, [], [], [], OwnsV.nil, ⟨rfl, fun j r x h => by simp at h⟩, rfl⟩ (fun w' hw' => hw'.pick [2, 0, 1, 3] (by decide) rfl) ?_ ?_ rfl ?_ ?_
    · rintro pre L w' ⟨v, rs, Lr, Lv, _, _, rfl⟩ hw'
      exact ⟨he.ext hw'.toExt, ⟨hw'.lt (p := (c1, bx [.slice Ae ne ce] 34)) (by simp), hw'.cell (b := c1) (cs := [.slice Ae ne ce]) (t := 34) (by simp) 0⟩, ⟨hw'.lt (p := (c2, bx [.slice (some ⟨bS, 0, none⟩) p.length p.length] 121)) (by simp), hw'.cell (b := c2) (cs := [.slice (some ⟨bS, 0, none⟩) p.length p.length]) (t := 121) (by simp) 0⟩⟩
    · rintro _ _ _ e vs rfl
      rfl
    · rintro l db rec pre x L W1 vs B1 ids hpre ⟨v, rs, Lr, Lv, hown, hrows, rfl⟩ hst rfl hkB
      have hxm : x ∈ cutsN p.length 0 0 es := hpre.subset (by simp)
      have hx := cutsN_mem hxm
      have hpl2 : pre.length + 1 ≤ 1000 := by
        have h1 := hpre.length_le
        have h2 := cutsN_len (N := p.length) (l := es) (i := 0) (f := 0)
        rw [List.length_append, List.length_singleton] at h1
        omega
      have hsz := hst.size
      clear hst hkB
      unfold encC
      generalize hX : (l :: List.map (fun x : Nat × (Obj → Prop) => x.1) _) = X
      try dsimp only [List.cons_append, List.nil_append, List.map_cons, List.map_nil]
      (repeat' (first|refine Zb ?_|refine Zd ?_|refine Zu tab rfl rfl ?_|fail))
      refine xt_beginK [10, 12] ((b10, bx [v] 22) :: (c1, bx [.slice Ae ne ce] 34) :: (c2, bx [.slice (some ⟨bS, 0, none⟩) p.length p.length] 121) :: (bS, row 123 3 p.length p.length ((p.zip on).flatMap spC)) :: (Lr ++ Lv ++ [(db, defO)])) rfl ?_
      try dsimp only [List.cons_append, List.nil_append, List.map_cons, List.map_nil]
      (repeat' (first|refine Ze ?_|fail))
      obtain ⟨Av, cv, rfl⟩ := hown.shape
      refine t_drawW 5 [(0, .v), (1, .v), (2, .e), (3, .e), (4, .e)] ?_ rfl (by kernel_rfl) (by kernel_rfl) rfl (by kernel_rfl) mixed (by kernel_rfl) rfl
      (repeat' (first|refine Yz rfl ?_|refine Vd tab ?_|(apply Vf;refine Vg ?_)|fail))
      refine dw_callR (Post := fun w v w' => RdI w.heap.size w'.heap.size w' 3 v ((ringOf (pieceOf (p.zip on) x)).flatMap spC)) (fun L' w1 hw1 => ring_calls w1 _ _ _ (pieceOf (p.zip on) x) (piece_rd (n := p.length) (cap := p.length) hw1 (by simp) (by omega) (by omega)) (piece_in hcin x) (by rw [piece_len (by omega)]; omega) (by rw [piece_len (by omega)]; omega)) rfl trivial rfl ?_
      intro w1 w2 v45 L1 hw1 he1 hv45
      obtain ⟨A45, n45, c45, rfl, _⟩ := id hv45
      (repeat' (first|refine Yz rfl ?_|fail))
      have hrl := ringTo_len (pieceOf (p.zip on) x) _ (Nat.le_refl _)
      rw [← ringOf_len, piece_len (by omega)] at hrl
      refine dw_callR (Post := fun w v w' => RowI w w' v (lineOf (p.zip on) x)) (fun L' w3 hw3 => orow_calls w3 _ _ _ (ringOf (pieceOf (p.zip on) x)) ((hv45.move (hw3.sg fun q hq => by simp [hq])).rd) (ringOf_in (piece_in hcin x)) (by omega) (by omega)) rfl trivial rfl ?_
      intro w3 w4 v46 L3 hw3 he3 hv46
      obtain ⟨A46, n46, c46, rfl, _⟩ := id hv46
      (repeat' (first|refine Yz rfl ?_|(apply Vz;refine Ua fun _=>?_)|fail))
      rename_i b47
      refine dw_end [10, 43, 47] (rest := []) rfl ?_
      refine tl_imp (fun w hw => (hw.sublist (.cons_cons _ ((List.sublist_append_left _ (seg w1 w2)).append_right (seg w3 w4)))).perm (.cons _ (perm5 (Pf := [_, _, _, _]) (T1 := [(db, defO)]) (T2 := [(l, recO rec .busy)])))) ?_
      refine tl_app ([(b10, bx [.slice Av pre.length cv] 22), (c1, bx [.slice Ae ne ce] 34), (c2, bx [.slice (some ⟨bS, 0, none⟩) p.length p.length] 121), (bS, row 123 3 p.length p.length ((p.zip on).flatMap spC))] ++ (Lr ++ seg w3 w4 ++ [(db, defO)] ++ [(l, recO rec .busy)])) rfl rfl hown rfl rfl rfl rfl rfl rfl (by omega) (by omega) fun b48 cap48 => ?_
      dsimp only [List.cons_append, List.nil_append]
      (repeat' (first|refine Zd ?_|refine Zi ?_|(apply Ye;refine Yf ?_)|fail))
      refine xt_roundEnd2 (((b10, bx [.slice (some ⟨b48, 0, none⟩) (pre.length + 1) cap48] 22) :: (c1, bx [.slice Ae ne ce] 34) :: (c2, bx [.slice (some ⟨bS, 0, none⟩) p.length p.length] 121) :: (bS, row 123 3 p.length p.length ((p.zip on).flatMap spC)) :: ((Lr ++ seg w3 w4) ++ [(b48, row 38 1 (pre.length + 1) cap48 (rs ++ [.slice A46 n46 c46]))])) ++ [(db, defO)]) ⟨_, rfl, _, rs ++ [.slice A46 n46 c46], Lr ++ seg w3 w4, _, ?_, hrows.snoc (x := x) (v := .slice A46 n46 c46) (w3 := w3) (w4 := w4) (Nat.le_trans hsz hw3.size) (by unfold RowI at hv46; exact hv46), rfl⟩ fun w' hw' => ?_
      · rw [List.length_append]
        exact OwnsV.at_
      · exact hw'.perm (perm_out (Pf := [_, _, _, _]) (T1 := [(db, defO)]) (T2 := [(l, recO rec .busy)]) List.perm_append_comm).symm
    · rintro db L ⟨v, rs, Lr, Lv, hown, hrows, rfl⟩
      (repeat' (first|refine Za ?_|refine Zb ?_|refine Zc ?_|refine Zd ?_|refine Zg ?_|refine Zi ?_|refine Zu tab rfl rfl ?_|(apply Zy;refine Zz ?_)|fail))
      refine xt_retM1 rfl rfl fun w3 hw3 => ⟨rs, hown.rdI hw3 (fun p hp => by simp [hp]), by rw [hrows.1, List.length_map], fun i r l h1 h2 => ?_⟩
      rw [List.getElem?_map] at h2
      obtain ⟨y, hy, rfl⟩ := Option.map_eq_some_iff.1 h2
      obtain ⟨_, w4, w5, h0, hm, hr⟩ := hrows.2 i r y h1 hy
      exact (hr.move (hw3.sg fun p hp => by simp [hm p hp])).top h0

end Go.Proofs.Ytbgolbkolcmldaa
