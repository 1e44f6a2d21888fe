/-
  The maker: glyphs.
-/
import Derived.Test.YtpbinloeemebkaaGreatM22
namespace Go.Proofs.YtpbinloeemebkaaGreat
open Go.RowKit
attribute [local irreducible] AT ATL AX AO Av Kt ALoopK OkA DA DA1
variable (s : List Int) (hs : s.length ≤ 1000000) (F : MF)
theorem bytes_one (a c : UInt8) : (⟨#[a]⟩ : ByteArray) ++ (⟨#[c]⟩ : ByteArray) = bytes [a, c] := by
  apply ByteArray.ext
  simp [bytes]
theorem bytes_two (a b c : UInt8) : (⟨#[a, b]⟩ : ByteArray) ++ (⟨#[c]⟩ : ByteArray) = bytes [a, b, c] := by
  apply ByteArray.ext
  simp [bytes]
theorem wrapU {z : Int} (h : 0 ≤ z ∧ z < 256) : IntKind.wrap .u8 z = z := by
  unfold IntKind.wrap
  simp [IntKind.signed, IntKind.bits]
  try omega
theorem letterUZ (n : Nat) (h : n < 100) : IntKind.wrap .u8 (97 + (n : Int)) = 97 + (n : Int) := wrapU (by omega)
theorem letterN (n : Nat) (h : n < 100) : UInt8.ofNat (97 + (n : Int)).toNat = (97 + n).toUInt8 := by
  rw [show ((97 + (n : Int))).toNat = 97 + n by omega]
theorem p_mid {a c : Nat × AB} {T : AL} : (a :: (T ++ []) ++ [c]).Perm ([a, c] ++ (T ++ [])) := List.Perm.cons a (List.perm_append_comm (l₁ := T ++ []))
def gCells (nm : ByteArray) (ad : Int) (mk : Bool) (o : List FPoint × List Int) (ps an de hi : AV) : List AV := [Str nm, I64 ad, Bol mk, .imm 3 (o.1.map cPoint), .imm 1 (ints o.2), ps, an, de, hi]
theorem anchD_len (mark : Bool) (cl : Int) (m : MS) (k : Nat) : (anchorsD s mark cl k m).1.length ≤ k := by
  refine (DOk.runs (fun i (l : List FAnchor) => l.length ≤ i) k (Nat.le_refl _) fun i l _ h => (DOk.any _).bnd fun z _ => DOk.ite (fun _ => (DOk.any _).bnd fun x _ => (DOk.any _).bnd fun y _ => DOk.ret (by simp; omega)) fun _ => DOk.ret (by omega)) m
theorem deltaD_len (r : Nat) (l : List FDelta) (m : MS) (k : Nat) : (deltaD s r l k m).1.length ≤ l.length + k := by
  refine (DOk.runs (fun i (q : List FDelta) => q.length ≤ l.length + i) k (Nat.le_refl _) fun i q _ h => (DOk.any _).bnd fun z _ => DOk.ite (fun _ => (DOk.any _).bnd fun x _ => DOk.ite (fun _ => DOk.ret (by simp; omega)) fun _ => (DOk.any _).bnd fun y _ => DOk.ret (by simp; omega)) fun _ => DOk.ret (by omega)) m
def kC (cl : Int) : List (List AV) := (anchL cl).map fun p => [I64 p.1, I64 p.2]
abbrev withGl (F : MF) (v : AV) : MF := { F with gl := v }
include hs
set_option maxHeartbeats 16000000 in
theorem glyph_ac {kg : Option (Nat × Nat)} {gl rg fu : List (List AV)} (hF : F.gl = .vec kg 9 gl) (hrg : F.rg = .imm 1 rg) (hfu : F.fu = .imm 1 fu) (R fn n : Nat) (hR : rg.length = R) (hfn : fu.length = fn) (hg : gl.length ≤ 1000) (hRl : R ≤ 1000) (hfl : fn ≤ 1000) (hn : n < 100) (b : Nat) (m : MS) : AC Tryz.prog 64 [Ptr b, I64 n] ([mkB b s F m] ++ (tok kg 64 9 gl.length ++ [])) fun _ L => ∃ kg', L = [mkB b s (withGl F (.vec kg' 9 (gl ++ [cGlyph (glyphD s R fn n m).1]))) (glyphD s R fn n m).2] ++ (tok kg' 64 9 (gl ++ [cGlyph (glyphD s R fn n m).1]).length ++ []) := by
  refine ac_of Tryz.func64 rfl Tryz.ntmps64 rfl fun B => ?_
  (repeat' (first|refine at_seq ?_|fail))
  refine at_draw 15 [(0, .v), (1, .v), (2, .v), (3, .v), (4, .v), (5, .v), (6, .v), (10, .v), (7, .e), (8, .v), (9, .v), (11, .e), (12, .v), (13, .v)] (some (14, .box _ 64)) ?_ ⟨_, rfl, rfl, fun _ _ _ => ao_alloc (zI_spec ttok rfl) rfl⟩ rfl (by kernel_rfl) (by kernel_rfl) (by kernel_rfl) mixed (by kernel_rfl) rfl
  (repeat' (first|refine da_open ?_|refine d_run ttok ?_|(apply ds_bin;refine d_bin ?_)|fail))
  refine d_conv ttok ?_
  rw [letterUZ n hn]
  (repeat' (first|refine da_open ?_|refine d_lit ttok ?_|fail))
  refine d_byteS ttok ?_
  rw [letterN n hn]
  (repeat' (first|refine da_open ?_|fail))
  refine d_cat (hs := Nat.le_of_ble_eq_true rfl) ?_
  rw [bytes_one]
  (repeat' (first|refine da_open ?_|refine d_run ttok ?_|fail))
  refine d_next ?_
  have had := draw_bd s hs m.a (n := 19) (by omega)
  have had : 0 ≤ (dr s 19 m).1 ∧ (dr s 19 m).1 < 19 := had
  generalize e1 : dr s 19 m = ad at had ⊢
  (repeat' (first|refine da_open ?_|(apply ds_bin;refine d_bin ?_)|fail))
  refine d_next ?_
  generalize e2 : dr s 4 ad.2 = mk
  (repeat' (first|refine da_open ?_|refine d_run ttok ?_|fail))
  refine da_endA [0, 1, 4, 23] (fun _ => _) (fun _ => rfl) rfl fun _ => ?_
  rename_i gb
  refine atl_turn (turn_perm (L' := [mkB b s F mk.2, (gb, .box [.sc (.string ⟨#[]⟩), I64 0, Bol false, nilV, nilV, nilV, nilV, nilV, nilV] 64)] ++ (tok kg 64 9 gl.length ++ [])) p_mid) ?_
  (repeat' (first|refine at_seq ?_|refine at_region ?_|refine ax_then ?_|refine atl_nil ?_|refine n_run ttok rfl rfl ?_|(apply s_store; first|refine n_store ttok 0 rfl rfl rfl rfl rfl rfl rfl ?_|refine n_store ttok 1 rfl rfl rfl rfl rfl rfl rfl ?_|refine n_store ttok 2 rfl rfl rfl rfl rfl rfl rfl ?_|refine n_store ttok 3 rfl rfl rfl rfl rfl rfl rfl ?_|fail)|fail))
  refine at_mid [0, 1, 4] ([mkB b s F mk.2, (gb, .box [Str (glyphName n), I64 (100 + ad.1 * 50), Bol (decide (mk.1 = 0) && decide (n ≠ 0)), nilV, nilV, .vec none 3 [], .vec none 4 [], .vec none 4 [], nilV] 64)] ++ (tok kg 64 9 gl.length ++ [])) rfl (fun Q' K => ?_) ?_
  · refine at_cond rfl (fun h => ?_) (fun h => ?_)
    · have h : n = 0 := by have := of_decide_eq_true h; omega
      have hm : (decide (mk.1 = 0) && decide (n ≠ 0)) = false := by simp [h]
      have hgn : glyphName n = notdef := if_pos h
      rw [hm, hgn] at K
      (repeat' (first|refine at_seq ?_|refine at_region ?_|refine ax_then ?_|refine atl_nil ?_|refine n_run ttok rfl rfl ?_|(apply s_store; first|refine n_store ttok 0 rfl rfl rfl rfl rfl rfl rfl ?_|refine n_store ttok 1 rfl rfl rfl rfl rfl rfl rfl ?_|refine n_store ttok 2 rfl rfl rfl rfl rfl rfl rfl ?_|refine n_store ttok 3 rfl rfl rfl rfl rfl rfl rfl ?_|fail)|fail))
      refine ax_turn (turn_cells 1 rfl fun σ vs h => vrs_set (k := 5) (c' := .vec none 3 []) (vrs_set (k := 6) (c' := .vec none 4 []) (vrs_set (k := 7) (c' := .vec none 4 []) h rfl fun v hv => vr_nil 4 hv) rfl fun v hv => vr_nil 4 hv) rfl fun v hv => vr_nil 3 hv) ?_
      exact K _ rfl
    · have h : ¬ n = 0 := by have := of_decide_eq_false h; omega
      have hm : (decide (mk.1 = 0) && decide (n ≠ 0)) = decide (mk.1 = 0) := by simp [h]
      have hgn : glyphName n = letter gNm n := if_neg h
      rw [hm, hgn] at K
      (repeat' (first|refine at_skip ?_|fail))
      refine ax_turn (turn_cells 1 rfl fun σ vs h => vrs_set (k := 5) (c' := .vec none 3 []) (vrs_set (k := 6) (c' := .vec none 4 []) (vrs_set (k := 7) (c' := .vec none 4 []) h rfl fun v hv => vr_nil 4 hv) rfl fun v hv => vr_nil 4 hv) rfl fun v hv => vr_nil 3 hv) ?_
      exact K _ rfl
  generalize hmk : (decide (mk.1 = 0) && decide (n ≠ 0)) = mb
  (repeat' (first|refine at_seq ?_|refine at_region ?_|refine n_run ttok rfl rfl ?_|fail))
  refine n_md (outline_mdet s hs F) ?_
  have ho := outlineD_ok s mk.2
  generalize e3 : outlineD s mk.2 = o at ho ⊢
  obtain ⟨ko, hko, hoo⟩ := ho
  have hol := hoo.len
  unfold outA
  refine n_run ttok rfl rfl ?_
  (apply s_store; refine n_store ttok 1 rfl rfl rfl rfl rfl rfl rfl ?_)
  refine atl_nil ?_
  refine ax_then ?_
  refine at_seq ?_
  refine at_mid [0, 4] ([mkB b s F (partsD s n o.2).2, (gb, .box (gCells (glyphName n) (100 + ad.1 * 50) mb o.1 (.imm 3 ((partsD s n o.2).1.map cPart)) (.vec none 4 []) (.vec none 4 []) nilV) 64)] ++ (tok kg 64 9 gl.length ++ [])) rfl (fun Q' K => ?_) ?_
  · (repeat' (first|refine at_seq ?_|refine at_region ?_|refine n_run ttok rfl rfl ?_|fail))
    by_cases hn1 : 1 < n
    · rw [decide_eq_true (show (1 : Int) < (n : Int) by omega)]
      (repeat' (first|refine n_run ttok rfl rfl ?_|refine atl_guard_yes rfl rfl ?_|fail))
      refine n_next ?_
      generalize e4 : dr s 4 o.2 = z
      (repeat' (first|refine ax_then ?_|refine atl_nil ?_|refine n_run ttok rfl rfl ?_|refine atl_guard_yes rfl rfl ?_|fail))
      refine at_cond rfl (fun h => ?_) (fun h => ?_)
      · have h := of_decide_eq_true h
        (repeat' (first|fail))
        refine at_drawG [(gb, 5, .vec none 3 [])] 11 [(0, .v), (1, .k), (2, .v), (6, .v), (3, .f), (4, .v), (5, .v), (7, .f), (8, .v), (9, .v), (10, .v)] none ?_ trivial rfl (by kernel_rfl) (by kernel_rfl) (by kernel_rfl) mixed (by kernel_rfl) rfl
        (repeat' (first|refine da_open ?_|refine d_run ttok ?_|fail))
        refine d_loadK ttok 0 rfl rfl rfl (kept_cons 1 rfl rfl kept_nil) (by first | trivial | rfl) ?_
        (repeat' (first|refine da_open ?_|refine d_run ttok ?_|fail))
        refine d_nextK (kept_cons 1 rfl rfl kept_nil) ?_
        have hx := draw_bd s hs z.2.a (n := 9) (by omega)
        have hx : 0 ≤ (dr s 9 z.2).1 ∧ (dr s 9 z.2).1 < 9 := hx
        generalize e5 : dr s 9 z.2 = x at hx ⊢
        (repeat' (first|refine da_open ?_|(apply ds_bin;refine d_bin ?_)|fail))
        refine d_nextK (kept_cons 1 rfl rfl kept_nil) ?_
        have hy := draw_bd s hs x.2.a (n := 5) (by omega)
        have hy : 0 ≤ (dr s 5 x.2).1 ∧ (dr s 5 x.2).1 < 5 := hy
        generalize e6 : dr s 5 x.2 = y at hy ⊢
        (repeat' (first|refine da_open ?_|refine d_run ttok ?_|(apply ds_bin;refine d_bin ?_)|refine d_lit ttok ?_|fail))
        refine da_end [0, 4, 39, 48] rfl rfl ?_
        (repeat' (first|fail))
        refine n_append ttok _ rfl rfl rfl rfl (List.Perm.refl _) (by simp) (by simp) rfl fun q' => ?_
        refine atl_turn (turn_sub (List.sublist_append_right _ _)) ?_
        (repeat' (first|refine atl_nil ?_|refine n_run ttok rfl rfl ?_|(apply s_store; first|refine n_store ttok 0 rfl rfl rfl rfl rfl rfl rfl ?_|refine n_store ttok 1 rfl rfl rfl rfl rfl rfl rfl ?_|refine n_store ttok 2 rfl rfl rfl rfl rfl rfl rfl ?_|refine n_store ttok 3 rfl rfl rfl rfl rfl rfl rfl ?_|fail)|fail))
        have hv : partsD s n o.2 = ([⟨1, x.1 * 50 - 200, y.1 * 50⟩], y.2) := by simp [partsD, bnd, ret, hn1, e4, e5, e6, h]
        rw [hv] at K
        refine ax_turn (turn_cells 1 rfl fun σ vs h => vrs_set (k := 5) (c' := .imm 3 ([(⟨1, x.1 * 50 - 200, y.1 * 50⟩ : FPart)].map cPart)) h rfl fun v hv => VR.im hv) ?_
        exact K _ rfl
      · have h := of_decide_eq_false h
        (repeat' (first|refine at_skip ?_|fail))
        have hv : partsD s n o.2 = ([], z.2) := by simp [partsD, bnd, ret, hn1, e4, h]
        rw [hv] at K
        refine ax_turn (turn_cells 1 rfl fun σ vs h => vrs_set (k := 5) (c' := .imm 3 []) h rfl fun v hv => VR.im hv) ?_
        exact K _ rfl
    · rw [decide_eq_false (show ¬ (1 : Int) < (n : Int) by omega)]
      (repeat' (first|refine at_skip ?_|refine ax_then ?_|refine atl_nil ?_|refine n_run ttok rfl rfl ?_|refine atl_guard_no rfl rfl rfl rfl ?_|refine n_condF rfl ?_|fail))
      have hv : partsD s n o.2 = ([], o.2) := by simp [partsD, ret, hn1]
      rw [hv] at K
      refine ax_turn (turn_cells 1 rfl fun σ vs h => vrs_set (k := 5) (c' := .imm 3 []) h rfl fun v hv => VR.im hv) ?_
      exact K _ rfl
  generalize e4 : partsD s n o.2 = ps
  (repeat' (first|refine at_seq ?_|refine at_region ?_|refine n_run ttok rfl rfl ?_|fail))
  refine n_next ?_
  have hcl := draw_bd s hs ps.2.a (n := 2) (by omega)
  have hcl : 0 ≤ (dr s 2 ps.2).1 ∧ (dr s 2 ps.2).1 < 2 := hcl
  generalize e5 : dr s 2 ps.2 = cl at hcl ⊢
  (repeat' (first|refine at_seq ?_|refine at_region ?_|refine at_block ?_|refine ax_then ?_|refine atl_nil ?_|refine n_run ttok rfl rfl ?_|refine n_litI ttok ?_|fail))
  refine at_loopK [0, 4, 5] (α := Nat × Option (Nat × Nat)) (fun x => [(6, I64 x.1), (5, .imm 2 (kC cl.1))]) (fun x => x.1 ≤ 5) (fun x => [mkB b s F (anchorsD s mb cl.1 x.1 cl.2).2, (gb, .box (gCells (glyphName n) (100 + ad.1 * 50) mb o.1 (.imm 3 (ps.1.map cPart)) (.vec x.2 4 ((anchorsD s mb cl.1 x.1 cl.2).1.map cAnchor)) (.vec none 4 []) nilV) 64)] ++ (tok x.2 210 4 ((anchorsD s mb cl.1 x.1 cl.2).1.map cAnchor).length ++ (tok kg 64 9 gl.length ++ []))) (fun x => 5 - x.1) (0, none) rfl ⟨rfl, rfl, trivial⟩ (Nat.zero_le _) (fun _ _ h => h) ?_
  rintro ⟨i, q⟩ hi
  dsimp only at hi ⊢
  have hal := anchD_len s mb cl.1 cl.2 i
  have hstep : anchorsD s mb cl.1 (i + 1) cl.2 = (bnd (dr s 3) fun z => if z = 0 ∧ (((anchL cl.1).getD i (0, 0)).1 ≠ 2 ∨ mb = true) then bnd (dr s 21) fun x => bnd (dr s 21) fun y => ret ((anchorsD s mb cl.1 i cl.2).1 ++ [(⟨((anchL cl.1).getD i (0, 0)).1, ((anchL cl.1).getD i (0, 0)).2, x * 50, y * 50 - 200⟩ : FAnchor)]) else ret (anchorsD s mb cl.1 i cl.2).1) (anchorsD s mb cl.1 i cl.2).2 := rfl
  try dsimp only [List.cons_append, List.nil_append, List.map_cons, List.map_nil]
  (repeat' (first|refine at_seq ?_|refine at_region ?_|refine ax_then ?_|refine atl_nil ?_|refine n_run ttok rfl rfl ?_|fail))
  refine at_cond rfl (fun h => ?_) (fun h => ?_)
  · have hil : i < 5 := by have := of_decide_eq_true h; omega
    have hka : (kC cl.1)[i]? = some [I64 ((anchL cl.1).getD i (0, 0)).1, I64 ((anchL cl.1).getD i (0, 0)).2] := by
      unfold kC
      rw [List.getElem?_map, anch_get hil]
      rfl
    generalize anchorsD s mb cl.1 i cl.2 = st at hal hstep ⊢
    have halm : (st.1.map cAnchor).length = st.1.length := List.length_map ..
    generalize (anchL cl.1).getD i (0, 0) = pr at hka hstep
    (repeat' (first|refine at_seq ?_|refine at_region ?_|refine at_block ?_|refine at_skip ?_|refine ax_then ?_|refine n_run ttok rfl rfl ?_|fail))
    refine n_next ?_
    unfold bnd at hstep
    generalize dr s 3 st.2 = z at hstep ⊢
    dsimp only at hstep
    (repeat' (first|refine n_run ttok rfl rfl ?_|fail))
    refine atl_cut (t := 77) [0, 4, 5, 6] (z.1 = 0 ∧ (pr.1 ≠ 2 ∨ mb = true)) rfl (fun Q' K => ?_) ?_
    · by_cases hz : z.1 = 0
      · rw [decide_eq_true hz]
        (repeat' (first|refine n_run ttok rfl rfl ?_|refine atl_guard_yes rfl rfl ?_|(apply s_index; first|refine n_index ttok ?_|refine n_indexP ttok ?_)|fail))
        refine n_arr ttok 0 ?_
        (repeat' (first|refine n_run ttok rfl rfl ?_|refine atl_guard_yes rfl rfl ?_|fail))
        by_cases h2 : pr.1 ≠ 2
        · rw [decide_eq_true h2]
          (repeat' (first|refine atl_nil ?_|refine n_run ttok rfl rfl ?_|refine atl_guard_yes rfl rfl ?_|refine atl_guard_no rfl rfl rfl rfl ?_|fail))
          exact K _ _ rfl rfl (by simp [hz, h2])
        · rw [decide_eq_false h2]
          (repeat' (first|refine atl_nil ?_|refine n_run ttok rfl rfl ?_|refine atl_guard_yes rfl rfl ?_|(apply s_load; first|refine n_load ttok 0 rfl rfl rfl rfl rfl ?_|refine n_load ttok 1 rfl rfl rfl rfl rfl ?_|refine n_load ttok 2 rfl rfl rfl rfl rfl ?_|refine n_load ttok 3 rfl rfl rfl rfl rfl ?_|refine n_loadA ttok 0 rfl rfl rfl rfl rfl ?_|refine n_loadA ttok 1 rfl rfl rfl rfl rfl ?_|refine n_loadA ttok 2 rfl rfl rfl rfl rfl ?_|refine n_load ttok 1 rfl rfl rfl (by assumption) rfl ?_|refine n_load ttok 0 rfl rfl rfl (by assumption) rfl ?_|fail)|fail))
          exact K _ _ rfl rfl (by simp only [ne_eq, Decidable.not_not] at h2; simp [hz, h2])
      · rw [decide_eq_false hz]
        (repeat' (first|refine atl_nil ?_|refine n_run ttok rfl rfl ?_|refine atl_guard_no rfl rfl rfl rfl ?_|refine atl_guard_undef rfl rfl rfl ?_|fail))
        exact K _ _ rfl rfl (by simp [hz])
    (repeat' (first|refine ax_then ?_|fail))
    refine at_cond rfl (fun h => ?_) (fun h => ?_)
    · have h := of_decide_eq_true h
      rw [if_pos h] at hstep
      (repeat' (first|fail))
      refine at_drawG [(gb, 6, .vec q 4 (st.1.map cAnchor))] 21 [(0, .v), (1, .k), (2, .v), (3, .v), (4, .v), (5, .v), (6, .v), (7, .v), (8, .v), (9, .v), (10, .v), (11, .v), (12, .v), (15, .v), (13, .f), (14, .v), (16, .f), (17, .v), (18, .v), (19, .v), (20, .v)] none ?_ trivial rfl (by kernel_rfl) (by kernel_rfl) (by kernel_rfl) mixed (by kernel_rfl) rfl
      (repeat' (first|refine da_open ?_|refine d_run ttok ?_|fail))
      refine d_loadK ttok 0 rfl rfl rfl (kept_cons 1 rfl rfl kept_nil) (by first | trivial | rfl) ?_
      (repeat' (first|refine da_open ?_|refine d_run ttok ?_|(apply ds_index;refine d_index ttok ?_)|fail))
      refine d_arr ttok 0 ?_
      (repeat' (first|refine da_open ?_|refine d_run ttok ?_|(apply ds_index;refine d_index ttok ?_)|fail))
      refine d_arr ttok 1 ?_
      (repeat' (first|refine da_open ?_|refine d_run ttok ?_|fail))
      refine d_nextK (kept_cons 1 rfl rfl kept_nil) ?_
      have hx := draw_bd s hs z.2.a (n := 21) (by omega)
      have hx : 0 ≤ (dr s 21 z.2).1 ∧ (dr s 21 z.2).1 < 21 := hx
      generalize dr s 21 z.2 = x at hx hstep ⊢
      try dsimp only at hstep
      (repeat' (first|refine da_open ?_|(apply ds_bin;refine d_bin ?_)|fail))
      refine d_nextK (kept_cons 1 rfl rfl kept_nil) ?_
      have hy := draw_bd s hs x.2.a (n := 21) (by omega)
      have hy : 0 ≤ (dr s 21 x.2).1 ∧ (dr s 21 x.2).1 < 21 := hy
      generalize dr s 21 x.2 = y at hy hstep ⊢
      try dsimp only [ret] at hstep
      (repeat' (first|refine da_open ?_|refine d_run ttok ?_|(apply ds_bin;refine d_bin ?_)|refine d_lit ttok ?_|fail))
      refine da_end [0, 4, 5, 6, 79, 98] rfl rfl ?_
      (repeat' (first|fail))
      refine n_append ttok _ rfl rfl rfl rfl (p_t1 (A := [_, _])) (by simp; omega) (by simp; omega) rfl fun q' => ?_
      refine atl_turn (turn_perm (p_t1 (A := [_, _])).symm) ?_
      (repeat' (first|refine at_region ?_|refine ax_then ?_|refine ax_blk ?_|refine atl_nil ?_|refine n_run ttok rfl rfl ?_|(apply s_bin; refine n_bin ?_)|(apply s_store; first|refine n_store ttok 0 rfl rfl rfl rfl rfl rfl rfl ?_|refine n_store ttok 1 rfl rfl rfl rfl rfl rfl rfl ?_|refine n_store ttok 2 rfl rfl rfl rfl rfl rfl rfl ?_|refine n_store ttok 3 rfl rfl rfl rfl rfl rfl rfl ?_|fail)|fail))
      exact ax_roundK (i + 1, q') rfl ⟨by rw [Int.natCast_add]; rfl, rfl, trivial⟩ (by dsimp only; omega) (by dsimp only; omega) (fun _ _ h => by dsimp only; rw [hstep]; dsimp only; rw [List.map_append]; exact h)
    · have h := of_decide_eq_false h
      rw [if_neg h] at hstep
      dsimp only [ret] at hstep
      (repeat' (first|refine at_region ?_|refine at_skip ?_|refine ax_then ?_|refine ax_blk ?_|refine atl_nil ?_|refine n_run ttok rfl rfl ?_|(apply s_bin; refine n_bin ?_)|fail))
      exact ax_roundK (i + 1, q) rfl ⟨by rw [Int.natCast_add]; rfl, rfl, trivial⟩ (by dsimp only; omega) (by dsimp only; omega) (fun _ _ h => by dsimp only; rw [hstep]; exact h)
  have hil : i = 5 := by have := of_decide_eq_false h; omega
  subst hil
  clear hstep hal
  generalize e6 : anchorsD s mb cl.1 5 cl.2 = an
  refine at_turn (turn_cells 1 rfl fun σ vs h => vrs_set (k := 6) (c' := .imm 4 (an.1.map cAnchor)) h rfl fun v hv => VR.im hv) ?_
  refine at_turn (turn_sub (L' := [mkB b s F an.2, (gb, .box (gCells (glyphName n) (100 + ad.1 * 50) mb o.1 (.imm 3 (ps.1.map cPart)) (.imm 4 (an.1.map cAnchor)) (.vec none 4 []) nilV) 64)] ++ (tok kg 64 9 gl.length ++ [])) (List.Sublist.cons_cons _ (List.Sublist.cons_cons _ (List.sublist_append_right _ _)))) ?_
  have hpl : (o.1.1.map cPoint).length = o.1.1.length := List.length_map ..
  (repeat' (first|refine at_seq ?_|refine at_region ?_|refine at_block ?_|refine at_exit ?_|refine ax_then ?_|refine ax_then_exit ?_|refine ax_blk_exit ?_|refine ax_loop_exit ?_|refine atl_nil ?_|refine n_run ttok rfl rfl ?_|fail))
  refine at_loopK [0, 4] (α := Nat × Option (Nat × Nat)) (fun x => [(7, I64 x.1)]) (fun x => x.1 ≤ R) (fun x => [mkB b s F (deltasD s o.1.1.length x.1 an.2).2, (gb, .box (gCells (glyphName n) (100 + ad.1 * 50) mb o.1 (.imm 3 (ps.1.map cPart)) (.imm 4 (an.1.map cAnchor)) (.vec x.2 4 ((deltasD s o.1.1.length x.1 an.2).1.map cDelta)) nilV) 64)] ++ (tok x.2 212 4 ((deltasD s o.1.1.length x.1 an.2).1.map cDelta).length ++ (tok kg 64 9 gl.length ++ []))) (fun x => R - x.1) (0, none) rfl ⟨rfl, trivial⟩ (Nat.zero_le _) (fun _ _ h => h) ?_
  rintro ⟨r, q⟩ hr
  dsimp only at hr ⊢
  have hdl := (deltasD_ok s o.1.1.length r an.2).len
  have hdl : (deltasD s o.1.1.length r an.2).1.length ≤ 11000 := Nat.le_trans hdl (Nat.le_trans (Nat.mul_le_mul (show r ≤ 1000 by omega) (show o.1.1.length + 1 ≤ 11 by omega)) (by omega))
  have hstep : deltasD s o.1.1.length (r + 1) an.2 = deltaD s r (deltasD s o.1.1.length r an.2).1 (o.1.1.length + 1) (deltasD s o.1.1.length r an.2).2 := rfl
  try dsimp only [List.cons_append, List.nil_append, List.map_cons, List.map_nil]
  (repeat' (first|refine at_seq ?_|refine at_region ?_|refine n_run ttok rfl rfl ?_|(apply s_load; first|refine n_load ttok 0 rfl rfl rfl rfl rfl ?_|refine n_load ttok 1 rfl rfl rfl rfl rfl ?_|refine n_load ttok 2 rfl rfl rfl rfl rfl ?_|refine n_load ttok 3 rfl rfl rfl rfl rfl ?_|refine n_loadA ttok 0 rfl rfl rfl rfl rfl ?_|refine n_loadA ttok 1 rfl rfl rfl rfl rfl ?_|refine n_loadA ttok 2 rfl rfl rfl rfl rfl ?_|refine n_load ttok 1 rfl rfl rfl (by assumption) rfl ?_|refine n_load ttok 0 rfl rfl rfl (by assumption) rfl ?_|fail)|fail))
  rw [hrg]
  (repeat' (first|refine ax_then ?_|refine atl_nil ?_|refine n_run ttok rfl rfl ?_|fail))
  rw [hR]
  refine at_cond rfl (fun h => ?_) (fun h => ?_)
  · have hrl : r < R := by have := of_decide_eq_true h; omega
    generalize deltasD s o.1.1.length r an.2 = D at hdl hstep ⊢
    (repeat' (first|refine at_seq ?_|refine at_region ?_|refine at_block ?_|refine at_skip ?_|refine ax_then ?_|refine atl_nil ?_|refine n_run ttok rfl rfl ?_|fail))
    refine at_loopK [0, 4, 7] (α := Nat × Option (Nat × Nat)) (fun x => [(8, I64 ((x.1 : Int) - 1))]) (fun x => x.1 ≤ o.1.1.length + 1) (fun x => [mkB b s F (deltaD s r D.1 x.1 D.2).2, (gb, .box (gCells (glyphName n) (100 + ad.1 * 50) mb o.1 (.imm 3 (ps.1.map cPart)) (.imm 4 (an.1.map cAnchor)) (.vec x.2 4 ((deltaD s r D.1 x.1 D.2).1.map cDelta)) nilV) 64)] ++ (tok x.2 212 4 ((deltaD s r D.1 x.1 D.2).1.map cDelta).length ++ (tok kg 64 9 gl.length ++ []))) (fun x => o.1.1.length + 1 - x.1) (0, q) rfl ⟨rfl, trivial⟩ (Nat.zero_le _) (fun _ _ h => h) ?_
    rintro ⟨p, q⟩ hp
    dsimp only at hp ⊢
    have hel := deltaD_len s r D.1 D.2 p
    have hst2 : deltaD s r D.1 (p + 1) D.2 = (bnd (dr s 3) fun z => if z = 0 then bnd (dr s 41) fun x => if p = 0 then ret ((deltaD s r D.1 p D.2).1 ++ [(⟨r, -1, x - 20, 0⟩ : FDelta)]) else bnd (dr s 41) fun y => ret ((deltaD s r D.1 p D.2).1 ++ [(⟨r, (p : Int) - 1, x - 20, y - 20⟩ : FDelta)]) else ret (deltaD s r D.1 p D.2).1) (deltaD s r D.1 p D.2).2 := rfl
    try dsimp only [List.cons_append, List.nil_append, List.map_cons, List.map_nil]
    (repeat' (first|refine at_seq ?_|refine at_region ?_|refine ax_then ?_|refine atl_nil ?_|refine n_run ttok rfl rfl ?_|(apply s_load; first|refine n_load ttok 0 rfl rfl rfl rfl rfl ?_|refine n_load ttok 1 rfl rfl rfl rfl rfl ?_|refine n_load ttok 2 rfl rfl rfl rfl rfl ?_|refine n_load ttok 3 rfl rfl rfl rfl rfl ?_|refine n_loadA ttok 0 rfl rfl rfl rfl rfl ?_|refine n_loadA ttok 1 rfl rfl rfl rfl rfl ?_|refine n_loadA ttok 2 rfl rfl rfl rfl rfl ?_|refine n_load ttok 1 rfl rfl rfl (by assumption) rfl ?_|refine n_load ttok 0 rfl rfl rfl (by assumption) rfl ?_|fail)|fail))
    refine at_cond rfl (fun h => ?_) (fun h => ?_)
    · have hpp : p < o.1.1.length + 1 := by have := of_decide_eq_true h; rw [hpl] at this; omega
      generalize deltaD s r D.1 p D.2 = E at hel hst2 ⊢
      have hElm : (E.1.map cDelta).length = E.1.length := List.length_map ..
      (repeat' (first|refine at_seq ?_|refine at_region ?_|refine at_block ?_|refine at_skip ?_|refine ax_then ?_|refine n_run ttok rfl rfl ?_|fail))
      refine n_next ?_
      unfold bnd at hst2
      generalize dr s 3 E.2 = z at hst2 ⊢
      dsimp only at hst2
      (repeat' (first|refine ax_then ?_|refine atl_nil ?_|refine n_run ttok rfl rfl ?_|fail))
      refine at_cond rfl (fun hz => ?_) (fun hz => ?_)
      · rw [if_pos (of_decide_eq_true hz)] at hst2
        (repeat' (first|refine at_seq ?_|refine at_region ?_|refine n_run ttok rfl rfl ?_|fail))
        refine n_next ?_
        have hx := draw_bd s hs z.2.a (n := 41) (by omega)
        have hx : 0 ≤ (dr s 41 z.2).1 ∧ (dr s 41 z.2).1 < 41 := hx
        generalize dr s 41 z.2 = x at hx hst2 ⊢
        try dsimp only at hst2
        (repeat' (first|refine at_seq ?_|refine at_region ?_|refine ax_then ?_|refine atl_nil ?_|refine n_run ttok rfl rfl ?_|(apply s_bin; refine n_bin ?_)|(apply s_store; first|refine n_store ttok 0 rfl rfl rfl rfl rfl rfl rfl ?_|refine n_store ttok 1 rfl rfl rfl rfl rfl rfl rfl ?_|refine n_store ttok 2 rfl rfl rfl rfl rfl rfl rfl ?_|refine n_store ttok 3 rfl rfl rfl rfl rfl rfl rfl ?_|fail)|refine n_alloc ttok fun _=>?_|fail))
        refine at_turn (turn_perm (List.perm_middle (l₁ := [_, _])).symm) ?_
        refine at_cond rfl (fun h0 => ?_) (fun h0 => ?_)
        · have h0 : ¬ p = 0 := by have := of_decide_eq_true h0; omega
          rw [if_neg h0] at hst2
          (repeat' (first|refine at_region ?_|refine n_run ttok rfl rfl ?_|fail))
          refine n_next ?_
          have hy := draw_bd s hs x.2.a (n := 41) (by omega)
          have hy : 0 ≤ (dr s 41 x.2).1 ∧ (dr s 41 x.2).1 < 41 := hy
          generalize dr s 41 x.2 = y at hy hst2 ⊢
          try dsimp only [ret] at hst2
          (repeat' (first|refine at_region ?_|refine ax_then ?_|refine atl_nil ?_|refine n_run ttok rfl rfl ?_|(apply s_load; first|refine n_load ttok 0 rfl rfl rfl rfl rfl ?_|refine n_load ttok 1 rfl rfl rfl rfl rfl ?_|refine n_load ttok 2 rfl rfl rfl rfl rfl ?_|refine n_load ttok 3 rfl rfl rfl rfl rfl ?_|refine n_loadA ttok 0 rfl rfl rfl rfl rfl ?_|refine n_loadA ttok 1 rfl rfl rfl rfl rfl ?_|refine n_loadA ttok 2 rfl rfl rfl rfl rfl ?_|refine n_load ttok 1 rfl rfl rfl (by assumption) rfl ?_|refine n_load ttok 0 rfl rfl rfl (by assumption) rfl ?_|fail)|(apply s_bin; refine n_bin ?_)|(apply s_store; first|refine n_store ttok 0 rfl rfl rfl rfl rfl rfl rfl ?_|refine n_store ttok 1 rfl rfl rfl rfl rfl rfl rfl ?_|refine n_store ttok 2 rfl rfl rfl rfl rfl rfl rfl ?_|refine n_store ttok 3 rfl rfl rfl rfl rfl rfl rfl ?_|fail)|refine n_litI ttok ?_|fail))
          refine n_append ttok _ rfl rfl rfl rfl (p_t1 (A := [_, _, _])) (by simp; omega) (by simp; omega) rfl fun q' => ?_
          refine atl_turn (turn_perm (p_t1 (A := [_, _, _])).symm) ?_
          (repeat' (first|refine at_region ?_|refine ax_then ?_|refine ax_blk ?_|refine atl_nil ?_|refine n_run ttok rfl rfl ?_|(apply s_bin; refine n_bin ?_)|(apply s_store; first|refine n_store ttok 0 rfl rfl rfl rfl rfl rfl rfl ?_|refine n_store ttok 1 rfl rfl rfl rfl rfl rfl rfl ?_|refine n_store ttok 2 rfl rfl rfl rfl rfl rfl rfl ?_|refine n_store ttok 3 rfl rfl rfl rfl rfl rfl rfl ?_|fail)|fail))
          exact ax_roundK (p + 1, q') rfl ⟨by dsimp only; rw [show ((p + 1 : Nat) : Int) - 1 = (p : Int) - 1 + 1 by omega]; rfl, trivial⟩ (by dsimp only; omega) (by dsimp only; omega) (fun _ _ h => by dsimp only; rw [hst2]; dsimp only; rw [List.map_append]; exact h.sublist (List.Sublist.cons_cons _ (List.Sublist.cons_cons _ (List.sublist_cons_self ..))))
        · have h0 : p = 0 := by have := of_decide_eq_false h0; omega
          rw [if_pos h0] at hst2
          try dsimp only [ret] at hst2
          (repeat' (first|refine at_region ?_|refine at_skip ?_|refine ax_then ?_|refine n_run ttok rfl rfl ?_|(apply s_load; first|refine n_load ttok 0 rfl rfl rfl rfl rfl ?_|refine n_load ttok 1 rfl rfl rfl rfl rfl ?_|refine n_load ttok 2 rfl rfl rfl rfl rfl ?_|refine n_load ttok 3 rfl rfl rfl rfl rfl ?_|refine n_loadA ttok 0 rfl rfl rfl rfl rfl ?_|refine n_loadA ttok 1 rfl rfl rfl rfl rfl ?_|refine n_loadA ttok 2 rfl rfl rfl rfl rfl ?_|refine n_load ttok 1 rfl rfl rfl (by assumption) rfl ?_|refine n_load ttok 0 rfl rfl rfl (by assumption) rfl ?_|fail)|refine n_litI ttok ?_|fail))
          refine n_append ttok _ rfl rfl rfl rfl (p_t1 (A := [_, _, _])) (by simp; omega) (by simp; omega) rfl fun q' => ?_
          refine atl_turn (turn_perm (p_t1 (A := [_, _, _])).symm) ?_
          (repeat' (first|refine at_region ?_|refine ax_then ?_|refine ax_blk ?_|refine atl_nil ?_|refine n_run ttok rfl rfl ?_|(apply s_bin; refine n_bin ?_)|(apply s_store; first|refine n_store ttok 0 rfl rfl rfl rfl rfl rfl rfl ?_|refine n_store ttok 1 rfl rfl rfl rfl rfl rfl rfl ?_|refine n_store ttok 2 rfl rfl rfl rfl rfl rfl rfl ?_|refine n_store ttok 3 rfl rfl rfl rfl rfl rfl rfl ?_|fail)|fail))
          subst h0
          exact ax_roundK (0 + 1, q') rfl ⟨rfl, trivial⟩ (by dsimp only; omega) (by dsimp only; omega) (fun _ _ h => by dsimp only; rw [hst2]; dsimp only; rw [List.map_append]; exact h.sublist (List.Sublist.cons_cons _ (List.Sublist.cons_cons _ (List.sublist_cons_self ..))))
      · rw [if_neg (of_decide_eq_false hz)] at hst2
        try dsimp only [ret] at hst2
        (repeat' (first|refine at_region ?_|refine at_skip ?_|refine ax_then ?_|refine ax_blk ?_|refine atl_nil ?_|refine n_run ttok rfl rfl ?_|(apply s_bin; refine n_bin ?_)|fail))
        exact ax_roundK (p + 1, q) rfl ⟨by dsimp only; rw [show ((p + 1 : Nat) : Int) - 1 = (p : Int) - 1 + 1 by omega]; rfl, trivial⟩ (by dsimp only; omega) (by dsimp only; omega) (fun _ _ h => by dsimp only; rw [hst2]; exact h)
    have hpp : p = o.1.1.length + 1 := by have := of_decide_eq_false h; rw [hpl] at this; omega
    subst hpp
    (repeat' (first|refine at_region ?_|refine at_exit ?_|refine ax_then ?_|refine ax_then_exit ?_|refine ax_blk ?_|refine ax_blk_exit ?_|refine ax_loop_exit ?_|refine atl_nil ?_|refine n_run ttok rfl rfl ?_|(apply s_bin; refine n_bin ?_)|fail))
    exact ax_roundK (r + 1, q) rfl ⟨by rw [Int.natCast_add]; rfl, trivial⟩ (by dsimp only; omega) (by dsimp only; omega) (fun _ _ h => by dsimp only; rw [hstep]; exact h)
  have hrl : r = R := by have := of_decide_eq_false h; omega
  subst hrl
  clear hstep hdl
  generalize e7 : deltasD s o.1.1.length r an.2 = de
  (repeat' (first|refine at_seq ?_|refine at_region ?_|refine at_exit ?_|refine ax_then ?_|refine ax_then_exit ?_|refine ax_blk_exit ?_|refine ax_loop_exit ?_|refine atl_nil ?_|refine n_run ttok rfl rfl ?_|(apply s_store; first|refine n_store ttok 0 rfl rfl rfl rfl rfl rfl rfl ?_|refine n_store ttok 1 rfl rfl rfl rfl rfl rfl rfl ?_|refine n_store ttok 2 rfl rfl rfl rfl rfl rfl rfl ?_|refine n_store ttok 3 rfl rfl rfl rfl rfl rfl rfl ?_|fail)|fail))
  refine at_turn (turn_perm (L' := [mkB b s F (loopsAre 2 de.2).2, (gb, .box (gCells (glyphName n) (100 + ad.1 * 50) mb o.1 (.imm 3 (ps.1.map cPart)) (.imm 4 (an.1.map cAnchor)) (.vec q 4 (de.1.map cDelta)) nilV) 64)] ++ (tok q 212 4 (de.1.map cDelta).length ++ (tok kg 64 9 gl.length ++ []))) (List.Perm.refl _)) ?_
  refine at_turn (turn_cells 1 rfl fun σ vs h => vrs_set (k := 7) (c' := .imm 4 (de.1.map cDelta)) h rfl fun v hv => VR.im hv) ?_
  refine at_turn (turn_sub (L' := [mkB b s F (loopsAre 2 de.2).2, (gb, .box (gCells (glyphName n) (100 + ad.1 * 50) mb o.1 (.imm 3 (ps.1.map cPart)) (.imm 4 (an.1.map cAnchor)) (.imm 4 (de.1.map cDelta)) nilV) 64)] ++ (tok kg 64 9 gl.length ++ [])) (List.Sublist.cons_cons _ (List.Sublist.cons_cons _ (List.sublist_append_right _ _)))) ?_
  generalize e8 : (loopsAre 2 de.2).2 = w
  refine at_draw 11 [(0, .v), (1, .v), (2, .v), (3, .l), (4, .v), (5, .v), (6, .v), (7, .v), (8, .v), (9, .l), (10, .v)] none ?_ trivial rfl (by kernel_rfl) (by kernel_rfl) (by kernel_rfl) mixed (by kernel_rfl) rfl
  (repeat' (first|refine da_open ?_|refine d_run ttok ?_|refine d_load ttok 0 rfl rfl rfl rfl (by first|trivial|rfl) ?_|refine d_load ttok 1 rfl rfl rfl rfl (by first|trivial|rfl) ?_|fail))
  rw [hfu]
  (repeat' (first|refine d_run ttok ?_|fail))
  rw [hfn, hpl]
  refine da_end [0, 4, 143, 147, 153] rfl rfl ?_
  refine n_md (hint_mdet s hs F (n := o.1.1.length) (fn := fn) (most := 6) (by omega) (by omega) (by omega)) ?_
  generalize e9 : hintD s o.1.1.length fn 6 w = hi
  unfold insA
  (repeat' (first|refine ax_then ?_|refine atl_nil ?_|refine n_run ttok rfl rfl ?_|(apply s_store; first|refine n_store ttok 0 rfl rfl rfl rfl rfl rfl rfl ?_|refine n_store ttok 1 rfl rfl rfl rfl rfl rfl rfl ?_|refine n_store ttok 2 rfl rfl rfl rfl rfl rfl rfl ?_|refine n_store ttok 3 rfl rfl rfl rfl rfl rfl rfl ?_|fail)|fail))
  refine at_turn (turn_perm (L' := [mkB b s F hi.2, (gb, .box (gCells (glyphName n) (100 + ad.1 * 50) mb o.1 (.imm 3 (ps.1.map cPart)) (.imm 4 (an.1.map cAnchor)) (.imm 4 (de.1.map cDelta)) (.imm 2 (hi.1.map cIns))) 64)] ++ (tok kg 64 9 gl.length ++ [])) (List.Perm.refl _)) ?_
  refine at_draw 9 [(0, .v), (1, .v), (2, .v), (3, .v), (4, .v), (5, .l), (6, .l), (7, .v), (8, .e)] none ?_ trivial rfl (by kernel_rfl) (by kernel_rfl) (by kernel_rfl) mixed (by kernel_rfl) rfl
  (repeat' (first|refine da_open ?_|refine d_run ttok ?_|refine d_lit ttok ?_|refine d_load ttok 0 rfl rfl rfl rfl (by first|trivial|rfl) ?_|refine d_loadA ttok 1 rfl rfl rfl rfl (by first|trivial|rfl) ?_|fail))
  rw [hF]
  refine d_append ttok _ rfl rfl rfl rfl (p_t1 (A := [_, _])) (by simp; omega) (by simp; omega) (by first | trivial | rfl) fun q' => ?_
  refine da_end [156, 164] rfl rfl ?_
  refine atl_turn (turn_perm (p_t1 (A := [_, _])).symm) ?_
  (repeat' (first|refine atl_nil ?_|refine n_run ttok rfl rfl ?_|(apply s_store; first|refine n_store ttok 0 rfl rfl rfl rfl rfl rfl rfl ?_|refine n_store ttok 1 rfl rfl rfl rfl rfl rfl rfl ?_|refine n_store ttok 2 rfl rfl rfl rfl rfl rfl rfl ?_|refine n_store ttok 3 rfl rfl rfl rfl rfl rfl rfl ?_|fail)|fail))
  have hv : glyphD s r fn n m = (⟨glyphName n, 100 + ad.1 * 50, mb, o.1.1, o.1.2, ps.1, an.1, de.1, hi.1⟩, hi.2) := by
    unfold glyphD bnd
    rw [e1]
    try dsimp only
    rw [e2]
    try dsimp only
    rw [e3]
    try dsimp only
    rw [e4]
    try dsimp only
    rw [e5, hmk]
    try dsimp only
    rw [e6]
    try dsimp only
    rw [e7]
    try dsimp only
    rw [e8, e9]
    rfl
  rw [hv]
  exact ax_turn (turn_sub (L' := [mkB b s (withGl F (.vec q' 9 (gl ++ [cGlyph ⟨glyphName n, 100 + ad.1 * 50, mb, o.1.1, o.1.2, ps.1, an.1, de.1, hi.1⟩]))) hi.2] ++ (tok q' 64 9 (gl ++ [cGlyph ⟨glyphName n, 100 + ad.1 * 50, mb, o.1.1, o.1.2, ps.1, an.1, de.1, hi.1⟩]).length ++ [])) (List.Sublist.cons_cons _ (List.sublist_cons_self ..))) (ax_end0 rfl ⟨q', rfl⟩)
end Go.Proofs.YtpbinloeemebkaaGreat
