/-
  The document's answer: the lines of points.
-/
import Derived.Test.YtbgolbkolcmldaaW47
import Derived.Test.YtbgolbkolcmldaaW50
namespace Go.Proofs.Ytbgolbkolcmldaa
open Go.RowKit
/-- a part of a slice -/
theorem rd_sub {w : World} {sz b off n cap f g : Nat} {xs : List Value} (h : Rd w sz (.slice (some ⟨b, off, none⟩) n cap) xs) (hfg : f < g) (hg : g ≤ n) : Rd w sz (.slice (some ⟨b, off + f * sz, none⟩) (g - f) (cap - f)) ((xs.drop (f * sz)).take ((g - f) * sz)) := by
  obtain ⟨_, _, _, he, hl, h1, h2, hr⟩ := h
  cases he
  obtain ⟨b', off', he, hb, hc⟩ := hr (by omega)
  cases he
  have e1 : f * sz ≤ n * sz := Nat.mul_le_mul_right _ (by omega)
  have e2 : (g - f) * sz ≤ (n - f) * sz := Nat.mul_le_mul_right _ (by omega)
  have e3 : (n - f) * sz = n * sz - f * sz := Nat.sub_mul _ _ _
  refine ⟨_, _, _, rfl, by rw [List.length_take, List.length_drop]; omega, by omega, by unfold maxLen at *; omega, fun _ => ⟨b, _, rfl, hb, fun j u hj => ?_⟩⟩
  rw [List.getElem?_take] at hj
  split at hj
  · rw [List.getElem?_drop] at hj
    rw [Nat.add_assoc]
    exact hc _ _ hj
  · cases hj
theorem piece_zip (p : Pts) (on : List Bool) (x : Nat × Nat × Nat) : pieceOf (p.zip on) x = ((p.drop x.2.1).take (x.2.2 - x.2.1)).zip ((on.drop x.2.1).take (x.2.2 - x.2.1)) := by
  unfold pieceOf
  rw [List.zip_eq_zipWith, List.zip_eq_zipWith, List.drop_zipWith, List.take_zipWith]
theorem boolC_sub (on : List Bool) (f l : Nat) : ((boolC on).drop (f * 1)).take (l * 1) = boolC ((on.drop f).take l) := by
  simp [boolC, List.map_drop, List.map_take]
theorem perm_mid {A B C D : HL} : (A ++ B ++ C ++ D).Perm ((A ++ (B ++ D)) ++ C) := by
  simp only [List.append_assoc]
  exact ((List.perm_append_comm (l₁ := C) (l₂ := D)).append_left B).append_left A
end Go.Proofs.Ytbgolbkolcmldaa
namespace Go.Proofs.Ytbgolbkolcmldaa
open Go.RowKit
attribute [local irreducible] T TL Xt O Op1 Kt DV ObsB DE DW DW1 LoopQ LoopJ

set_option maxHeartbeats 4000000 in
theorem rlines_calls (w : World) (A Ao Ae : Option Addr) (n cap no co ne ce : Nat) (p : Pts) (on : List Bool) (es : List Int) (hp : Row w (.slice A n cap) p) (ho : Rd w 1 (.slice Ao no co) (boolC on)) (he : Rd w 1 (.slice Ae ne ce) (intC es)) (hin : InL p) (hpl : p.length ≤ 400) (hel : es.length ≤ 1000) :
    Calls Try.prog 58 #[.slice A n cap, .slice Ao no co, .slice Ae ne ce] w (Ret w fun v w' => LinesI w w' v (linesO p on es)) := by
  have hn := row_len hp
  obtain ⟨hno, _⟩ := rd1_len ho
  rw [show (boolC on).length = on.length by simp [boolC]] at hno
  subst hn hno
  refine calls_S (vs := [.slice A p.length cap, .slice Ao on.length co, .slice Ae ne ce]) Try.func58 rfl Try.ntmps58 rfl ?_
  (repeat' (first|refine Za ?_|refine Zb ?_|refine Zc ?_|refine Zd ?_|refine Zu tab rfl rfl ?_|(apply Yv;refine Yw fun _=>?_)|fail))
  rename_i b12
  refine t_cond rfl (fun h => ?_) (fun h => ?_)
  · have hne := of_decide_eq_true h
    rw [show linesO p on es = [] from if_neg (by omega)]
    (repeat' (first|refine Za ?_|refine Zb ?_|refine Zc ?_|refine Zd ?_|refine Zg ?_|refine Zk ?_|refine Zu tab rfl rfl ?_|fail))
    refine xt_ret1S rfl rfl fun w1 hw1 => ?_
    have hv : OwnsV (.slice (some ⟨b12, 0, none⟩) 0 0) 38 1 0 [] [(b12, row 38 1 0 0 [])] := OwnsV.at_
    exact ⟨[], hv.rdI (St.headImp hw1 fun o ho => bx_row0 ho) (fun p hp => hp), rfl, fun i r l h => by simp at h⟩
  have heq : on.length = p.length := by have := of_decide_eq_false h; omega
  rw [show linesO p on es = (cutsN p.length 0 0 es).map (lineOf (p.zip on)) from if_pos heq]
  (repeat' (first|refine Za ?_|refine Zb ?_|refine Zc ?_|refine Zf ?_|refine Zu tab rfl rfl ?_|fail))
  refine tl_callR (Post := fun w v w' => RdI w.heap.size w'.heap.size w' 2 v ((cutsN p.length 0 0 es).flatMap cutC)) (fun w1 hw1 => cuts3_calls w1 Ae ne ce p.length es (he.ext hw1.toExt) (by omega) hel) rfl rfl ?_
  intro w1 w2 v22 hw1 he1 hv22
  obtain ⟨A22, n22, c22, rfl, _⟩ := id hv22
  have hC0 : (cutsN p.length 0 0 es).length ≤ es.length := cutsN_len
  have hCm : ∀ x ∈ cutsN p.length 0 0 es, 0 ≤ x.2.1 ∧ x.2.1 < x.2.2 ∧ x.2.2 ≤ p.length := fun x hx => cutsN_mem hx
  generalize cutsN p.length 0 0 es = C at *
  have hn22 : n22 = C.length := by
    obtain ⟨_, _, _, hq, hl, _⟩ := id hv22
    cases hq
    rw [flatMap_len cutC 2 (fun _ => rfl)] at hl
    omega
  subst hn22
  (repeat' (first|refine Za ?_|refine Zb ?_|refine Zc ?_|refine Zd ?_|refine Ze ?_|refine Zu tab rfl rfl ?_|fail))
  refine t_loopK [0, 1, 8] (α := Nat × Value × List Value × HL × HL) (fun x => [(7, x.2.1), (9, .int .i64 x.1)]) (fun x => x.1 ≤ C.length ∧ OwnsV x.2.1 38 1 x.1 x.2.2.1 x.2.2.2.2 ∧ RowsIn w.heap.size (lineOf (p.zip on)) (C.take x.1) x.2.2.1 x.2.2.2.1) (fun x => (seg w1 w2 ++ x.2.2.2.1) ++ x.2.2.2.2) (fun x => C.length - x.1) (0, .slice (some ⟨b12, 0, none⟩) 0 0, [], [], [(b12, row 38 1 0 0 [])]) rfl ⟨rfl, rfl, trivial⟩ ⟨Nat.zero_le _, OwnsV.at_, ⟨by simp, fun j r x h => by simp at h⟩⟩ (fun w' h' => ?_) ?_
  · have h3 : St w [] ((b12, row 38 1 0 0 []) :: seg w1 w2) w' := St.headImp h' fun o ho => bx_row0 ho
    have h4 := h3.perm (List.perm_append_comm (l₁ := [_]))
    show St w [] ((seg w1 w2 ++ []) ++ [(b12, row 38 1 0 0 [])]) w'
    rw [List.append_nil]
    exact h4
  rintro ⟨i, v, rs, Lr, Lv⟩ ⟨hi, hv, hrows⟩
  dsimp only at hi hv hrows ⊢
  try dsimp only [List.cons_append, List.nil_append, List.map_cons, List.map_nil]
  (repeat' (first|refine Za ?_|refine Zb ?_|refine Zc ?_|refine Zd ?_|refine Zu tab rfl rfl ?_|fail))
  refine t_cond rfl (fun h2 => ?_) (fun h2 => ?_)
  · have hil : i < C.length := by have := of_decide_eq_true h2; omega
    obtain ⟨x, hx⟩ : ∃ x, C[i]? = some x := ⟨_, List.getElem?_eq_getElem hil⟩
    have hxb := hCm x (List.mem_of_getElem? hx)
    obtain ⟨_, _, _, hq, _, _, _, hcells⟩ := id hv22
    cases hq
    obtain ⟨b22, off22, rfl, g1, g2, _, hcell⟩ := hcells (by omega)
    have hld : ∀ (j : Nat) (u : Value), (cutC x)[j]? = some u → ∀ (L' : HL) (w' : World), St w [] (seg w1 w2 ++ Lr ++ L') w' → w'.cell? ⟨b22, off22 + i * 2 + j, none⟩ = some u := by
      intro j u hj L' w' hs
      have h5 := hcell _ _ (flatMap_get cutC 2 (fun _ => rfl) C i j x u hx hj)
      rw [World.cell?_of_block (hs.sg (w1 := w1) (w2 := w2) (fun q hq => by simp [hq]) b22 g1 g2)]
      rwa [← Nat.add_assoc] at h5
    (repeat' (first|refine Za ?_|refine Zb ?_|refine Zc ?_|refine Ze ?_|refine Zf ?_|refine Zu tab rfl rfl ?_|(apply Yn;refine Yo ?_)|fail))
    refine tl_val (o_indexPA rfl rfl (by omega)) rfl rfl ?_
    refine tl_load (o_load rfl fun w' hw' => hld 0 _ rfl _ w' hw') rfl ?_
    (repeat' (first|refine Za ?_|refine Zb ?_|refine Zc ?_|refine Zd ?_|refine Zu tab rfl rfl ?_|(apply Yn;refine Yo ?_)|fail))
    refine tl_val (o_indexPA rfl rfl (by omega)) rfl rfl ?_
    refine tl_load (o_load rfl fun w' hw' => hld 1 _ rfl _ w' hw') rfl ?_
    (repeat' (first|refine Zc ?_|refine Zd ?_|refine Zu tab rfl rfl ?_|(apply Yc;refine Yd ?_)|fail))
    rw [show ((x.2.2 : Int) - 1 + 1) = (x.2.2 : Int) by omega]
    obtain ⟨Av, cv, rfl⟩ := hv.shape
    obtain ⟨_, _, _, hq, _, hcp, _, hrp⟩ := id hp
    cases hq
    obtain ⟨bp, offp, rfl, gp1, gp2⟩ := hrp (by omega)
    obtain ⟨_, _, _, hq, _, hco, _, hro⟩ := id ho
    cases hq
    obtain ⟨bo, offo, rfl, go1, go2⟩ := hro (by omega)
    refine t_drawW 11 [(0, .v), (1, .v), (2, .v), (3, .v), (4, .v), (5, .v), (6, .v), (7, .v), (8, .v), (9, .e), (10, .e)] ?_ rfl (by kernel_rfl) (by kernel_rfl) rfl (by kernel_rfl) mixed (by kernel_rfl) rfl
    (repeat' (first|refine Yz rfl ?_|refine Vd tab ?_|fail))
    refine dw_opN rfl rfl (fun _ => o_sliceLH (m := x.2.1) (n := x.2.2) rfl rfl rfl (by omega) (by omega) (by omega)) ?_
    (repeat' (first|refine Yz rfl ?_|refine Vd tab ?_|fail))
    refine dw_opN rfl rfl (fun _ => o_sliceLH (m := x.2.1) (n := x.2.2) rfl rfl rfl (by omega) (by omega) (by omega)) ?_
    (repeat' (first|refine Yz rfl ?_|fail))
    have hcin : InC (p.zip on) := fun s hs => hin s.1 (List.of_mem_zip hs).1
    have hzp := piece_zip p on x
    have hlo : lineOf (p.zip on) x = rowPts (ringOf (pieceOf (p.zip on) x)) := rfl
    refine dw_callR (Post := fun w v w' => RowI w w' v (lineOf (p.zip on) x)) (fun L' w3 hw3 => ?_) rfl trivial rfl ?_
    · have hR1 := rd_sub (hp.ext hw3.toExt) hxb.2.1 hxb.2.2
      rw [← ptCells_drop, ← ptCells_take] at hR1
      have hR2 := rd_sub (f := x.2.1) (g := x.2.2) (ho.ext hw3.toExt) hxb.2.1 (by omega)
      rw [boolC_sub] at hR2
      rw [hlo, hzp]
      refine row3_calls w3 _ _ _ _ _ _ _ _ hR1 hR2 ?_ (by rw [← hzp]; exact piece_in hcin x) ?_ ?_
      · simp; omega
      · simp; omega
      · simp; omega
    intro w3 w4 v49 L3 hw3 he3 hv49
    obtain ⟨A49, n49, c49, rfl, _⟩ := id hv49
    (repeat' (first|refine Yz rfl ?_|(apply Vz;refine Ua fun _=>?_)|fail))
    rename_i b50
    refine dw_end [0, 1, 8, 9, 40, 50] (rest := []) rfl ?_
    refine tl_imp (fun w hw => hw.perm (.cons _ (perm_mid (A := seg w1 w2) (B := Lr) (C := Lv) (D := seg w3 w4)))) ?_
    refine tl_app (seg w1 w2 ++ (Lr ++ seg w3 w4)) rfl rfl hv rfl rfl rfl rfl rfl rfl (by omega) (by omega) fun b51 cap51 => ?_
    (repeat' (first|refine Zb ?_|refine Zc ?_|refine Zd ?_|refine Zi ?_|refine Zu tab rfl rfl ?_|(apply Yc;refine Yd ?_)|fail))
    have htk : C.take (i + 1) = C.take i ++ [x] := by rw [List.take_add_one, hx]; rfl
    refine xt_roundK (i + 1, .slice (some ⟨b51, 0, none⟩) (i + 1) cap51, rs ++ [.slice A49 n49 c49], Lr ++ seg w3 w4, [(b51, row 38 1 (i + 1) cap51 (rs ++ [.slice A49 n49 c49]))]) rfl ⟨rfl, rfl, trivial⟩ ⟨by dsimp only; omega, OwnsV.at_, ?_⟩ (by dsimp only; omega) (fun _ h => h)
    dsimp only
    rw [htk]
    exact hrows.snoc (x := x) (v := .slice A49 n49 c49) (w3 := w3) (w4 := w4) hw3.size (by unfold RowI at hv49; exact hv49)
  · have hil : i = C.length := by have := of_decide_eq_false h2; omega
    subst hil
    rw [List.take_length] at hrows
    (repeat' (first|refine Za ?_|refine Zb ?_|refine Zc ?_|refine Zd ?_|refine Zg ?_|refine Zh ?_|refine Zj ?_|refine Zl ?_|refine Zq ?_|refine Zu tab rfl rfl ?_|fail))
    refine xt_ret1S rfl rfl fun w3 hw3 => ⟨rs, hv.rdI hw3 (fun p hp => by simp [hp]), by rw [hrows.1, List.length_map], fun i r l h1 h2 => ?_⟩
    rw [List.getElem?_map] at h2
    obtain ⟨y, hy, rfl⟩ := Option.map_eq_some_iff.1 h2
    obtain ⟨_, w4, w5, h0, hm, hr⟩ := hrows.2 i r y h1 hy
    exact (hr.move (hw3.sg fun p hp => by simp [hm p hp])).top h0

end Go.Proofs.Ytbgolbkolcmldaa
