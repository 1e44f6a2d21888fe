/-
  The maker: fonts.
-/
import Derived.Test.YtpbinloeemebkaaGreatM23
namespace Go.Proofs.YtpbinloeemebkaaGreat
open Go.RowKit
attribute [local irreducible] AT ATL AX AO Av Kt ALoopK OkA DA DA1
variable (s : List Int) (hs : s.length ≤ 1000000)
theorem p_call {a c : Nat × AB} {T : AL} : ([a, c] ++ T).Perm (([a] ++ (T ++ [])) ++ [c]) := by
  rw [List.append_nil]
  exact List.Perm.cons a (List.perm_append_comm (l₁ := [c]))
theorem p_end {A T : AL} {c : Nat × AB} : ((A ++ T) ++ [c]).Perm ((A ++ [c]) ++ T) := by
  rw [List.append_assoc, List.append_assoc]
  exact List.Perm.append_left _ List.perm_append_comm
theorem runes_det : ADet Tryz.prog 65 [] (.imm 1 (ints runesL)) := by
  refine ac_of Tryz.func65 rfl Tryz.ntmps65 rfl fun B => ?_
  (repeat' (first|refine at_seq ?_|refine at_region ?_|refine at_ret ?_|refine ax_then ?_|refine atl_nil ?_|refine n_run ttok rfl rfl ?_|refine n_litI ttok ?_|fail))
  exact ax_ret1 rfl rfl rfl
theorem names67_det : ADet Tryz.prog 67 [] (.imm 1 (strs namesL)) := by
  refine ac_of Tryz.func67 rfl Tryz.ntmps67 rfl fun B => ?_
  (repeat' (first|refine at_seq ?_|refine at_region ?_|refine at_ret ?_|refine ax_then ?_|refine atl_nil ?_|refine n_run ttok rfl rfl ?_|refine n_litI ttok ?_|fail))
  exact ax_ret1 rfl rfl rfl
theorem axesD_len (k : Nat) (m : MS) : (axesD s k m).1.length = k := by
  exact (DOk.runs (fun i (l : List FAxis) => l.length = i) k rfl fun i l _ h => (DOk.any _).bnd fun a _ => (DOk.any _).bnd fun b _ => DOk.ret (by simp [h])) m
theorem tentsD_len (k : Nat) (m : MS) : (tentsD s k m).1.length = k := by
  exact (DOk.runs (fun i (l : List FTent) => l.length = i) k rfl fun i l _ h => (DOk.any _).bnd fun a _ => DOk.ret (by simp [h])) m
theorem regsD_len (x k : Nat) (m : MS) : (regsD s x k m).1.length = k := by
  exact (DOk.runs (fun i (l : List (List FTent)) => l.length = i) k rfl fun i l _ h => (DOk.any _).bnd fun a _ => DOk.ret (by simp [h])) m
theorem funcsD_len (k : Nat) (m : MS) : (funcsD s k m).1.length = k := by
  exact (DOk.runs (fun i (l : List (List FIns)) => l.length = i) k rfl fun i l _ h => (DOk.any _).bnd fun a _ => (DOk.any _).bnd fun b _ => DOk.ret (by simp [h])) m
theorem cvtD_len (k : Nat) (m : MS) : (cvtD s k m).1.length = k := by
  exact (DOk.runs (fun i (l : List Int) => l.length = i) k rfl fun i l _ h => (DOk.any _).bnd fun a _ => DOk.ret (by simp [h])) m
theorem glyphsD_len (R fn k : Nat) (m : MS) : (glyphsD s R fn k m).1.length = k := by
  exact (DOk.runs (fun i (l : List FGlyph) => l.length = i) k rfl fun i l _ h => (DOk.any _).bnd fun a _ => DOk.ret (by simp [h])) m
theorem charsD_len (n : Int) (k : Nat) (m : MS) : (charsD s n k m).1.length ≤ k := by
  exact (DOk.runs (fun i (l : List FChar) => l.length ≤ i) k (Nat.le_refl _) fun i l _ h => (DOk.any _).bnd fun a _ => DOk.ite (fun _ => (DOk.any _).bnd fun b _ => DOk.ret (by simp; omega)) fun _ => DOk.ret (by omega)) m
theorem askD_len (k : Nat) (m : MS) : (askD s k m).1.length ≤ k := by
  exact (DOk.runs (fun i (l : List Int) => l.length ≤ i) k (Nat.le_refl _) fun i l _ h => (DOk.any _).bnd fun a _ => DOk.ret (by
    split
    · simp; omega
    · omega)) m
theorem featsD_len (n k : Nat) (m : MS) : (featsD s n k m).1.length ≤ k := by
  exact (DOk.runs (fun i (l : List FFeature) => l.length ≤ i) k (Nat.le_refl _) fun i l _ h => (DOk.any _).bnd fun a _ => (DOk.any _).bnd fun b _ => DOk.ret (by
    split
    · simp; omega
    · omega)) m
abbrev tB (tb : Nat) : Nat × AB := (tb, .box [I64 0, nilV, nilV, nilV, nilV, nilV, nilV, nilV, nilV] 31)
include hs
set_option maxHeartbeats 32000000 in
theorem made_det : ADet Tryz.prog 44 [.imm 1 (ints s)] (aFont (madeF s)) := by
  refine ac_of Tryz.func44 rfl Tryz.ntmps44 rfl fun B => ?_
  (repeat' (first|refine at_seq ?_|refine at_region ?_|refine ax_then ?_|refine atl_nil ?_|refine n_run ttok rfl rfl ?_|refine n_box (d := 22) fun _=>?_|refine n_alloc ttok fun _=>?_|refine n_litI ttok ?_|fail))
  rename_i tb b
  refine atl_turn (turn_perm (L' := [mkB b s ⟨I64 0, nilV, nilV, nilV, nilV, nilV, nilV, nilV, nilV⟩ ⟨0, 0⟩, tB tb]) (List.Perm.refl _)) ?_
  refine atl_turn (turn_cells 0 (cs' := mkC s ⟨I64 0, .vec none 9 [], .vec none 2 [], nilV, .vec none 2 [], .vec none 4 [], .vec none 1 [], .vec none 1 [], .vec none 1 []⟩ ⟨0, 0⟩) rfl fun σ vs h => vrs_set (k := 3) (vrs_set (k := 4) (vrs_set (k := 6) (vrs_set (k := 7) (vrs_set (k := 8) (vrs_set (k := 9) (vrs_set (k := 10) h rfl fun v hv => vr_nil 1 hv) rfl fun v hv => vr_nil 1 hv) rfl fun v hv => vr_nil 1 hv) rfl fun v hv => vr_nil 4 hv) rfl fun v hv => vr_nil 2 hv) rfl fun v hv => vr_nil 2 hv) rfl fun v hv => vr_nil 9 hv) ?_
  refine n_next ?_
  have hu := draw_bd s hs 0 (n := 4) (by omega)
  have hu : 0 ≤ (dr s 4 ⟨0, 0⟩).1 ∧ (dr s 4 ⟨0, 0⟩).1 < 4 := hu
  generalize e1 : dr s 4 ⟨0, 0⟩ = u at hu ⊢
  have hul : (ints unitsL)[u.1.toNat]? = some [I64 (unitsL.getD u.1.toNat 0)] := ints_get (getD_at (by simp only [unitsL, List.length_cons, List.length_nil]; omega) 0)
  generalize hU : unitsL.getD u.1.toNat 0 = U at hul
  (repeat' (first|refine at_seq ?_|refine at_region ?_|refine ax_then ?_|refine atl_nil ?_|refine n_run ttok rfl rfl ?_|(apply s_index; first|refine n_index ttok ?_|refine n_indexP ttok ?_)|(apply s_store; first|refine n_storeF 6 ttok 0 rfl rfl rfl rfl rfl rfl rfl rfl ?_|refine n_storeF 6 ttok 1 rfl rfl rfl rfl rfl rfl rfl rfl ?_|refine n_storeF 6 ttok 2 rfl rfl rfl rfl rfl rfl rfl rfl ?_|refine n_store ttok 0 rfl rfl rfl rfl rfl rfl rfl ?_|refine n_store ttok 1 rfl rfl rfl rfl rfl rfl rfl ?_|refine n_store ttok 2 rfl rfl rfl rfl rfl rfl rfl ?_|refine n_store ttok 3 rfl rfl rfl rfl rfl rfl rfl ?_|fail)|fail))
  refine atl_turn (turn_perm (L' := [mkB b s ⟨I64 U, .vec none 9 [], .vec none 2 [], nilV, .vec none 2 [], .vec none 4 [], .vec none 1 [], .vec none 1 [], .vec none 1 []⟩ u.2, tB tb]) (List.Perm.refl _)) ?_
  refine n_next ?_
  have hk := draw_bd s hs u.2.a (n := 3) (by omega)
  have hk : 0 ≤ (dr s 3 u.2).1 ∧ (dr s 3 u.2).1 < 3 := hk
  generalize e2 : dr s 3 u.2 = k1 at hk ⊢
  obtain ⟨k, hkk⟩ : ∃ k : Nat, k1.1 = k := ⟨k1.1.toNat, by omega⟩
  rw [hkk]
  (repeat' (first|refine at_seq ?_|refine at_region ?_|refine at_block ?_|refine ax_then ?_|refine atl_nil ?_|refine n_run ttok rfl rfl ?_|fail))
  refine at_loopK [2, 3, 4] (α := Nat × Option (Nat × Nat)) (fun x => [(5, I64 x.1)]) (fun x => x.1 ≤ k) (fun x => [mkB b s ⟨I64 U, .vec none 9 [], .vec none 2 [], nilV, .vec none 2 [], .vec x.2 4 ((axesD s x.1 k1.2).1.map cAxis), .vec none 1 [], .vec none 1 [], .vec none 1 []⟩ (axesD s x.1 k1.2).2, tB tb] ++ tok x.2 149 4 ((axesD s x.1 k1.2).1.map cAxis).length) (fun x => k - x.1) (0, none) rfl ⟨rfl, trivial⟩ (Nat.zero_le _) (fun _ _ h => h) ?_
  rintro ⟨i, q⟩ hi
  dsimp only at hi ⊢
  have hal := axesD_len s i k1.2
  have hstep : axesD s (i + 1) k1.2 = (bnd (dr s 3) fun a => bnd (dr s 4) fun b => ret ((axesD s i k1.2).1 ++ [(⟨letter axNm i, 0 - a * 100, 0, b * 100⟩ : FAxis)])) (axesD s i k1.2).2 := rfl
  try dsimp only [List.cons_append, List.nil_append, List.map_cons, List.map_nil]
  (repeat' (first|refine at_seq ?_|refine at_region ?_|refine ax_then ?_|refine atl_nil ?_|refine n_run ttok rfl rfl ?_|fail))
  refine at_cond rfl (fun h => ?_) (fun h => ?_)
  · have hil : i < k := by have := of_decide_eq_true h; omega
    generalize axesD s i k1.2 = A at hal hstep ⊢
    have halm : (A.1.map cAxis).length = A.1.length := List.length_map ..
    (repeat' (first|refine at_seq ?_|refine at_block ?_|refine at_skip ?_|refine ax_then ?_|fail))
    refine at_draw 15 [(0, .v), (1, .v), (2, .v), (3, .v), (4, .v), (5, .v), (6, .v), (10, .v), (7, .e), (8, .v), (9, .v), (11, .e), (12, .v), (13, .v)] (some (14, .box _ 149)) ?_ ⟨_, rfl, rfl, fun _ _ _ => ao_alloc (zI_spec ttok rfl) rfl⟩ rfl (by kernel_rfl) (by kernel_rfl) (by kernel_rfl) mixed (by kernel_rfl) rfl
    (repeat' (first|refine da_open ?_|refine d_run ttok ?_|(apply ds_bin;refine d_bin ?_)|fail))
    refine d_conv ttok ?_
    rw [letterUZ i (by omega)]
    (repeat' (first|refine da_open ?_|refine d_lit ttok ?_|fail))
    refine d_byteS ttok ?_
    rw [letterN i (by omega)]
    (repeat' (first|refine da_open ?_|fail))
    refine d_cat (hs := Nat.le_of_ble_eq_true rfl) ?_
    rw [bytes_two]
    (repeat' (first|refine da_open ?_|refine d_run ttok ?_|fail))
    refine d_next ?_
    have ha := draw_bd s hs A.2.a (n := 3) (by omega)
    have ha : 0 ≤ (dr s 3 A.2).1 ∧ (dr s 3 A.2).1 < 3 := ha
    unfold bnd at hstep
    generalize dr s 3 A.2 = a at ha hstep ⊢
    dsimp only at hstep
    (repeat' (first|refine da_open ?_|(apply ds_bin;refine d_bin ?_)|fail))
    refine d_next ?_
    have hc := draw_bd s hs a.2.a (n := 4) (by omega)
    have hc : 0 ≤ (dr s 4 a.2).1 ∧ (dr s 4 a.2).1 < 4 := hc
    generalize dr s 4 a.2 = c at hc hstep ⊢
    try dsimp only [ret] at hstep
    (repeat' (first|refine da_open ?_|refine d_run ttok ?_|(apply ds_bin;refine d_bin ?_)|fail))
    refine da_endA [2, 3, 4, 5, 6, 52] (fun _ => _) (fun _ => rfl) rfl fun _ => ?_
    rename_i ab
    refine atl_turn (turn_perm (p_end (A := [_, _]))) ?_
    (repeat' (first|refine ax_then ?_|refine atl_nil ?_|(apply s_store; first|refine n_storeF 6 ttok 0 rfl rfl rfl rfl rfl rfl rfl rfl ?_|refine n_storeF 6 ttok 1 rfl rfl rfl rfl rfl rfl rfl rfl ?_|refine n_storeF 6 ttok 2 rfl rfl rfl rfl rfl rfl rfl rfl ?_|refine n_store ttok 0 rfl rfl rfl rfl rfl rfl rfl ?_|refine n_store ttok 1 rfl rfl rfl rfl rfl rfl rfl ?_|refine n_store ttok 2 rfl rfl rfl rfl rfl rfl rfl ?_|refine n_store ttok 3 rfl rfl rfl rfl rfl rfl rfl ?_|fail)|fail))
    refine at_draw 9 [(0, .v), (1, .v), (2, .v), (3, .v), (4, .v), (5, .l), (6, .v), (7, .v), (8, .e)] none ?_ trivial rfl (by kernel_rfl) (by kernel_rfl) (by kernel_rfl) mixed (by kernel_rfl) rfl
    (repeat' (first|refine da_open ?_|refine d_run ttok ?_|refine d_lit ttok ?_|refine d_load ttok 0 rfl rfl rfl rfl (by first|trivial|rfl) ?_|fail))
    refine d_append ttok _ rfl rfl rfl rfl (List.perm_append_comm (l₁ := [_, _])) (by simp; omega) (by simp; omega) (by first | trivial | rfl) fun q' => ?_
    refine da_end [2, 3, 4, 5, 53, 61] rfl rfl ?_
    refine atl_turn (turn_perm (List.perm_append_comm (l₂ := [_, _]))) ?_
    (repeat' (first|refine at_region ?_|refine ax_then ?_|refine ax_blk ?_|refine atl_nil ?_|refine n_run ttok rfl rfl ?_|(apply s_bin; refine n_bin ?_)|(apply s_store; first|refine n_storeF 6 ttok 0 rfl rfl rfl rfl rfl rfl rfl rfl ?_|refine n_storeF 6 ttok 1 rfl rfl rfl rfl rfl rfl rfl rfl ?_|refine n_storeF 6 ttok 2 rfl rfl rfl rfl rfl rfl rfl rfl ?_|refine n_store ttok 0 rfl rfl rfl rfl rfl rfl rfl ?_|refine n_store ttok 1 rfl rfl rfl rfl rfl rfl rfl ?_|refine n_store ttok 2 rfl rfl rfl rfl rfl rfl rfl ?_|refine n_store ttok 3 rfl rfl rfl rfl rfl rfl rfl ?_|fail)|fail))
    exact ax_roundK (i + 1, q') rfl ⟨by rw [Int.natCast_add]; rfl, trivial⟩ (by dsimp only; omega) (by dsimp only; omega) (fun _ _ h => by dsimp only; rw [hstep]; dsimp only; rw [List.map_append]; exact h)
  have hil : i = k := by have := of_decide_eq_false h; omega
  subst hil
  clear hstep
  have hal := axesD_len s i k1.2
  generalize e3 : axesD s i k1.2 = A at hal ⊢
  (repeat' (first|refine at_seq ?_|refine at_region ?_|refine at_exit ?_|refine ax_then ?_|refine ax_then_exit ?_|refine ax_blk_exit ?_|refine ax_loop_exit ?_|refine atl_nil ?_|refine n_run ttok rfl rfl ?_|fail))
  refine at_turn (turn_cells 0 rfl fun σ vs h => vrs_set (k := 7) (c' := .imm 4 (A.1.map cAxis)) h rfl fun v hv => VR.im hv) ?_
  refine at_turn (turn_sub (L' := [mkB b s ⟨I64 U, .vec none 9 [], .vec none 2 [], nilV, .vec none 2 [], .imm 4 (A.1.map cAxis), .vec none 1 [], .vec none 1 [], .vec none 1 []⟩ A.2, tB tb]) (List.Sublist.cons_cons _ (List.Sublist.cons_cons _ (List.nil_sublist _)))) ?_
  refine at_mid [2, 3, 4] ([mkB b s ⟨I64 U, .vec none 9 [], .vec none 2 [], nilV, .vec none 2 [], .imm 4 (A.1.map cAxis), .imm 1 ((regionsD s i A.2).1.map cRegion), .vec none 1 [], .vec none 1 []⟩ (regionsD s i A.2).2, tB tb]) rfl (fun Q' K => ?_) ?_
  · refine at_cond rfl (fun h => ?_) (fun h => ?_)
    · have hi0 : ¬ i = 0 := by have := of_decide_eq_true h; omega
      (repeat' (first|refine at_seq ?_|refine at_region ?_|refine n_run ttok rfl rfl ?_|fail))
      refine n_next ?_
      have hn := draw_bd s hs A.2.a (n := 4) (by omega)
      have hn : 0 ≤ (dr s 4 A.2).1 ∧ (dr s 4 A.2).1 < 4 := hn
      generalize e4 : dr s 4 A.2 = n1 at hn ⊢
      obtain ⟨n, hnn⟩ : ∃ k : Nat, n1.1 = k := ⟨n1.1.toNat, by omega⟩
      have hv : regionsD s i A.2 = regsD s i n n1.2 := by
        unfold regionsD
        rw [if_neg hi0]
        unfold bnd
        rw [e4]
        dsimp only
        rw [hnn, Int.toNat_natCast]
      rw [hv] at K
      rw [hnn]
      (repeat' (first|refine at_seq ?_|refine at_region ?_|refine at_block ?_|refine ax_then ?_|refine atl_nil ?_|refine n_run ttok rfl rfl ?_|fail))
      refine at_loopK [2, 3, 4, 7] (α := Nat × Option (Nat × Nat)) (fun x => [(8, I64 x.1)]) (fun x => x.1 ≤ n) (fun x => [mkB b s ⟨I64 U, .vec none 9 [], .vec none 2 [], nilV, .vec none 2 [], .imm 4 (A.1.map cAxis), .vec x.2 1 ((regsD s i x.1 n1.2).1.map cRegion), .vec none 1 [], .vec none 1 []⟩ (regsD s i x.1 n1.2).2, tB tb] ++ tok x.2 75 1 ((regsD s i x.1 n1.2).1.map cRegion).length) (fun x => n - x.1) (0, none) rfl ⟨rfl, trivial⟩ (Nat.zero_le _) (fun _ _ h => h) ?_
      rintro ⟨j, q⟩ hj
      dsimp only at hj ⊢
      have hrl := regsD_len s i j n1.2
      have hstep : regsD s i (j + 1) n1.2 = ((regsD s i j n1.2).1 ++ [(tentsD s i (regsD s i j n1.2).2).1], (tentsD s i (regsD s i j n1.2).2).2) := rfl
      try dsimp only [List.cons_append, List.nil_append, List.map_cons, List.map_nil]
      (repeat' (first|refine at_seq ?_|refine at_region ?_|refine ax_then ?_|refine atl_nil ?_|refine n_run ttok rfl rfl ?_|fail))
      refine at_cond rfl (fun h => ?_) (fun h => ?_)
      · have hjn : j < n := by have := of_decide_eq_true h; omega
        generalize regsD s i j n1.2 = Rg at hrl hstep ⊢
        have hrlm : (Rg.1.map cRegion).length = Rg.1.length := List.length_map ..
        (repeat' (first|refine at_seq ?_|refine at_region ?_|refine at_block ?_|refine at_skip ?_|refine ax_then ?_|refine atl_nil ?_|refine n_run ttok rfl rfl ?_|refine n_alloc ttok fun _=>?_|fail))
        rename_i rb
        refine at_turn (turn_cells 0 (cs' := [.vec none 3 []]) rfl fun σ vs h => vrs_set (k := 0) h rfl fun v hv => vr_nil 3 hv) ?_
        refine at_turn (turn_perm (List.perm_middle (l₁ := [_, _])).symm) ?_
        refine at_loopK [2, 3, 4, 7, 8, 9] (α := Nat × Option (Nat × Nat)) (fun x => [(10, I64 x.1)]) (fun x => x.1 ≤ i) (fun x => [mkB b s ⟨I64 U, .vec none 9 [], .vec none 2 [], nilV, .vec none 2 [], .imm 4 (A.1.map cAxis), .vec q 1 (Rg.1.map cRegion), .vec none 1 [], .vec none 1 []⟩ (tentsD s x.1 Rg.2).2, tB tb, (rb, .box [.vec x.2 3 ((tentsD s x.1 Rg.2).1.map cTent)] 75)] ++ (tok x.2 151 3 ((tentsD s x.1 Rg.2).1.map cTent).length ++ tok q 75 1 (Rg.1.map cRegion).length)) (fun x => i - x.1) (0, none) rfl ⟨rfl, trivial⟩ (Nat.zero_le _) (fun _ _ h => h) ?_
        rintro ⟨a, qt⟩ ha
        dsimp only at ha ⊢
        have htl := tentsD_len s a Rg.2
        have hstt : tentsD s (a + 1) Rg.2 = (bnd (dr s 5) fun z => ret ((tentsD s a Rg.2).1 ++ [tentsL.getD z.toNat ⟨0, 0, 0⟩])) (tentsD s a Rg.2).2 := rfl
        try dsimp only [List.cons_append, List.nil_append, List.map_cons, List.map_nil]
        (repeat' (first|refine at_seq ?_|refine at_region ?_|refine ax_then ?_|refine atl_nil ?_|refine n_run ttok rfl rfl ?_|fail))
        refine at_cond rfl (fun h => ?_) (fun h => ?_)
        · have hai : a < i := by have := of_decide_eq_true h; omega
          generalize tentsD s a Rg.2 = Tn at htl hstt ⊢
          have htlm : (Tn.1.map cTent).length = Tn.1.length := List.length_map ..
          (repeat' (first|refine at_seq ?_|refine at_block ?_|refine at_skip ?_|refine ax_then ?_|fail))
          refine at_drawG [(rb, 0, .vec qt 3 (Tn.1.map cTent))] 13 [(0, .v), (1, .k), (2, .v), (3, .v), (4, .v), (5, .v), (6, .v), (7, .v), (8, .v), (9, .f), (10, .v), (11, .v), (12, .v)] none ?_ trivial rfl (by kernel_rfl) (by kernel_rfl) (by kernel_rfl) mixed (by kernel_rfl) rfl
          (repeat' (first|refine da_open ?_|refine d_run ttok ?_|fail))
          refine d_loadK ttok 0 rfl rfl rfl (kept_cons 2 rfl rfl kept_nil) (by first | trivial | rfl) ?_
          (repeat' (first|refine da_open ?_|refine d_run ttok ?_|refine d_lit ttok ?_|fail))
          refine d_nextK (kept_cons 2 rfl rfl kept_nil) ?_
          have hz := draw_bd s hs Tn.2.a (n := 5) (by omega)
          have hz : 0 ≤ (dr s 5 Tn.2).1 ∧ (dr s 5 Tn.2).1 < 5 := hz
          unfold bnd at hstt
          generalize dr s 5 Tn.2 = z at hz hstt ⊢
          dsimp only [ret] at hstt
          have hzt : (tentsL.map cTent)[z.1.toNat]? = some (cTent (tentsL.getD z.1.toNat ⟨0, 0, 0⟩)) := by
            rw [List.getElem?_map, getD_at (l := tentsL) (i := z.1.toNat) (by simp only [tentsL, List.length_cons, List.length_nil]; omega) ⟨0, 0, 0⟩]
            rfl
          generalize tentsL.getD z.1.toNat ⟨0, 0, 0⟩ = tn at hzt hstt
          (repeat' (first|refine da_open ?_|refine d_run ttok ?_|(apply ds_index;refine d_index ttok ?_)|refine d_lit ttok ?_|fail))
          refine da_end [2, 3, 4, 7, 8, 9, 10, 80, 91] rfl rfl ?_
          (repeat' (first|fail))
          refine n_append ttok _ rfl rfl rfl rfl (p_t1 (A := [_, _, _])) (by simp; omega) (by simp; omega) rfl fun q' => ?_
          refine atl_turn (turn_perm (p_t1 (A := [_, _, _])).symm) ?_
          (repeat' (first|refine at_region ?_|refine ax_then ?_|refine ax_blk ?_|refine atl_nil ?_|refine n_run ttok rfl rfl ?_|(apply s_bin; refine n_bin ?_)|(apply s_store; first|refine n_storeF 6 ttok 0 rfl rfl rfl rfl rfl rfl rfl rfl ?_|refine n_storeF 6 ttok 1 rfl rfl rfl rfl rfl rfl rfl rfl ?_|refine n_storeF 6 ttok 2 rfl rfl rfl rfl rfl rfl rfl rfl ?_|refine n_store ttok 0 rfl rfl rfl rfl rfl rfl rfl ?_|refine n_store ttok 1 rfl rfl rfl rfl rfl rfl rfl ?_|refine n_store ttok 2 rfl rfl rfl rfl rfl rfl rfl ?_|refine n_store ttok 3 rfl rfl rfl rfl rfl rfl rfl ?_|fail)|fail))
          exact ax_roundK (a + 1, q') rfl ⟨by rw [Int.natCast_add]; rfl, trivial⟩ (by dsimp only; omega) (by dsimp only; omega) (fun _ _ h => by dsimp only; rw [hstt]; dsimp only; rw [List.map_append]; exact h)
        have hai : a = i := by have := of_decide_eq_false h; omega
        subst hai
        clear hstt htl
        generalize tentsD s a Rg.2 = Tn at hstep ⊢
        (repeat' (first|refine at_exit ?_|refine ax_then ?_|refine ax_then_exit ?_|refine ax_blk_exit ?_|refine ax_loop_exit ?_|fail))
        refine at_turn (turn_cells 2 (cs' := [.imm 3 (Tn.1.map cTent)]) rfl fun σ vs h => vrs_set (k := 0) h rfl fun v hv => VR.im hv) ?_
        refine at_turn (turn_sub (L' := [mkB b s ⟨I64 U, .vec none 9 [], .vec none 2 [], nilV, .vec none 2 [], .imm 4 (A.1.map cAxis), .vec q 1 (Rg.1.map cRegion), .vec none 1 [], .vec none 1 []⟩ Tn.2, tB tb, (rb, .box (cRegion Tn.1) 75)] ++ tok q 75 1 (Rg.1.map cRegion).length) (List.Sublist.cons_cons _ (List.Sublist.cons_cons _ (List.Sublist.cons_cons _ (List.sublist_append_right _ _))))) ?_
        refine at_draw 9 [(0, .v), (1, .v), (2, .v), (3, .v), (4, .v), (5, .l), (6, .l), (7, .v), (8, .e)] none ?_ trivial rfl (by kernel_rfl) (by kernel_rfl) (by kernel_rfl) mixed (by kernel_rfl) rfl
        (repeat' (first|refine da_open ?_|refine d_run ttok ?_|refine d_load ttok 0 rfl rfl rfl rfl (by first|trivial|rfl) ?_|fail))
        refine d_loadA ttok 2 rfl rfl rfl rfl (by first | trivial | rfl) ?_
        (repeat' (first|refine da_open ?_|refine d_lit ttok ?_|fail))
        refine d_append ttok _ rfl rfl rfl rfl (List.perm_append_comm (l₁ := [_, _, _])) (by simp; omega) (by simp; omega) (by first | trivial | rfl) fun q' => ?_
        refine da_end [2, 3, 4, 7, 8, 94, 102] rfl rfl ?_
        refine atl_turn (turn_perm (List.perm_append_comm (l₂ := [_, _, _]))) ?_
        (repeat' (first|refine at_region ?_|refine ax_then ?_|refine ax_blk ?_|refine atl_nil ?_|refine n_run ttok rfl rfl ?_|(apply s_bin; refine n_bin ?_)|(apply s_store; first|refine n_storeF 6 ttok 0 rfl rfl rfl rfl rfl rfl rfl rfl ?_|refine n_storeF 6 ttok 1 rfl rfl rfl rfl rfl rfl rfl rfl ?_|refine n_storeF 6 ttok 2 rfl rfl rfl rfl rfl rfl rfl rfl ?_|refine n_store ttok 0 rfl rfl rfl rfl rfl rfl rfl ?_|refine n_store ttok 1 rfl rfl rfl rfl rfl rfl rfl ?_|refine n_store ttok 2 rfl rfl rfl rfl rfl rfl rfl ?_|refine n_store ttok 3 rfl rfl rfl rfl rfl rfl rfl ?_|fail)|fail))
        exact ax_roundK (j + 1, q') rfl ⟨by rw [Int.natCast_add]; rfl, trivial⟩ (by dsimp only; omega) (by dsimp only; omega) (fun _ _ h => by dsimp only; rw [hstep]; dsimp only; rw [List.map_append]; exact h.sublist (List.Sublist.cons_cons _ (List.Sublist.cons_cons _ (List.sublist_cons_self ..))))
      have hjn : j = n := by have := of_decide_eq_false h; omega
      subst hjn
      generalize regsD s i j n1.2 = Rg at K ⊢
      (repeat' (first|refine at_exit ?_|refine ax_then_exit ?_|refine ax_blk_exit ?_|refine ax_loop_exit ?_|fail))
      refine ax_turn (turn_cells 0 rfl fun σ vs h => vrs_set (k := 8) (c' := .imm 1 (Rg.1.map cRegion)) h rfl fun v hv => VR.im hv) ?_
      refine ax_turn (turn_sub (L' := [mkB b s ⟨I64 U, .vec none 9 [], .vec none 2 [], nilV, .vec none 2 [], .imm 4 (A.1.map cAxis), .imm 1 (Rg.1.map cRegion), .vec none 1 [], .vec none 1 []⟩ Rg.2, tB tb]) (List.Sublist.cons_cons _ (List.Sublist.cons_cons _ (List.nil_sublist _)))) ?_
      exact K _ rfl
    · have hi0 : i = 0 := by have := of_decide_eq_false h; omega
      have hv : regionsD s i A.2 = ([], A.2) := by
        unfold regionsD
        rw [if_pos hi0]
        rfl
      rw [hv] at K
      (repeat' (first|refine at_skip ?_|fail))
      refine ax_turn (turn_cells 0 rfl fun σ vs h => vrs_set (k := 8) (c' := .imm 1 []) h rfl fun v hv => VR.im hv) ?_
      exact K _ rfl
  generalize e4 : regionsD s i A.2 = rg
  (repeat' (first|refine at_seq ?_|refine at_region ?_|refine n_run ttok rfl rfl ?_|fail))
  refine n_next ?_
  have hk2 := draw_bd s hs rg.2.a (n := 3) (by omega)
  have hk2 : 0 ≤ (dr s 3 rg.2).1 ∧ (dr s 3 rg.2).1 < 3 := hk2
  generalize e5 : dr s 3 rg.2 = k2 at hk2 ⊢
  obtain ⟨k', hkk2⟩ : ∃ k : Nat, k2.1 = k := ⟨k2.1.toNat, by omega⟩
  rw [hkk2]
  (repeat' (first|refine at_seq ?_|refine at_region ?_|refine at_block ?_|refine ax_then ?_|refine atl_nil ?_|refine n_run ttok rfl rfl ?_|fail))
  refine at_loopK [2, 3, 4] (α := Nat × Option (Nat × Nat)) (fun x => [(11, I64 x.1)]) (fun x => x.1 ≤ k') (fun x => [mkB b s ⟨I64 U, .vec none 9 [], .vec none 2 [], nilV, .vec none 2 [], .imm 4 (A.1.map cAxis), .imm 1 (rg.1.map cRegion), .vec x.2 1 ((funcsD s x.1 k2.2).1.map cCode), .vec none 1 []⟩ (funcsD s x.1 k2.2).2, tB tb] ++ tok x.2 62 1 ((funcsD s x.1 k2.2).1.map cCode).length) (fun x => k' - x.1) (0, none) rfl ⟨rfl, trivial⟩ (Nat.zero_le _) (fun _ _ h => h) ?_
  rintro ⟨j, q2⟩ hj
  dsimp only at hj ⊢
  have hfl := funcsD_len s j k2.2
  have hstep : funcsD s (j + 1) k2.2 = (bnd (loopsAre 0) fun _ => bnd (hintD s 6 j 4) fun h => ret ((funcsD s j k2.2).1 ++ [h])) (funcsD s j k2.2).2 := rfl
  try dsimp only [List.cons_append, List.nil_append, List.map_cons, List.map_nil]
  (repeat' (first|refine at_seq ?_|refine at_region ?_|refine ax_then ?_|refine atl_nil ?_|refine n_run ttok rfl rfl ?_|fail))
  refine at_cond rfl (fun h => ?_) (fun h => ?_)
  · have hjk : j < k' := by have := of_decide_eq_true h; omega
    generalize funcsD s j k2.2 = Fu at hfl hstep ⊢
    have hflm : (Fu.1.map cCode).length = Fu.1.length := List.length_map ..
    unfold bnd at hstep
    (repeat' (first|refine at_seq ?_|refine at_region ?_|refine at_block ?_|refine at_skip ?_|refine ax_then ?_|refine atl_nil ?_|refine n_run ttok rfl rfl ?_|(apply s_store; first|refine n_storeF 6 ttok 0 rfl rfl rfl rfl rfl rfl rfl rfl ?_|refine n_storeF 6 ttok 1 rfl rfl rfl rfl rfl rfl rfl rfl ?_|refine n_storeF 6 ttok 2 rfl rfl rfl rfl rfl rfl rfl rfl ?_|refine n_store ttok 0 rfl rfl rfl rfl rfl rfl rfl ?_|refine n_store ttok 1 rfl rfl rfl rfl rfl rfl rfl ?_|refine n_store ttok 2 rfl rfl rfl rfl rfl rfl rfl ?_|refine n_store ttok 3 rfl rfl rfl rfl rfl rfl rfl ?_|fail)|fail))
    refine at_turn (turn_perm (L' := [mkB b s ⟨I64 U, .vec none 9 [], .vec none 2 [], nilV, .vec none 2 [], .imm 4 (A.1.map cAxis), .imm 1 (rg.1.map cRegion), .vec q2 1 (Fu.1.map cCode), .vec none 1 []⟩ (loopsAre 0 Fu.2).2, tB tb] ++ tok q2 62 1 (Fu.1.map cCode).length) (List.Perm.refl _)) ?_
    generalize (loopsAre 0 Fu.2).2 = w at hstep ⊢
    dsimp only at hstep
    refine at_drawG [(b, 9, .vec q2 1 (Fu.1.map cCode))] 11 [(0, .v), (1, .v), (2, .v), (3, .v), (4, .v), (5, .k), (6, .v), (7, .v), (8, .f), (9, .v), (10, .e)] none ?_ trivial rfl (by kernel_rfl) (by kernel_rfl) (by kernel_rfl) mixed (by kernel_rfl) rfl
    (repeat' (first|refine da_open ?_|refine d_run ttok ?_|fail))
    refine d_loadK ttok 0 rfl rfl rfl (kept_cons 0 rfl rfl kept_nil) (by first | trivial | rfl) ?_
    (repeat' (first|refine da_open ?_|refine d_run ttok ?_|fail))
    refine d_mdK (hint_mdet s hs _ (n := 6) (fn := (j : Int)) (most := 4) (by omega) (by omega) (by omega)) (kept_cons 0 rfl rfl kept_nil) ?_
    generalize hintD s 6 j 4 w = hi at hstep ⊢
    try dsimp only [ret] at hstep
    unfold insA
    (repeat' (first|refine da_open ?_|refine d_lit ttok ?_|fail))
    refine d_append ttok _ rfl rfl rfl rfl (List.perm_append_comm (l₁ := [_, _])) (by simp; omega) (by simp; omega) (by first | trivial | rfl) fun q' => ?_
    refine da_end [2, 3, 4, 11, 116, 126] rfl rfl ?_
    refine atl_turn (turn_perm (List.perm_append_comm (l₂ := [_, _]))) ?_
    (repeat' (first|refine at_region ?_|refine ax_then ?_|refine ax_blk ?_|refine atl_nil ?_|refine n_run ttok rfl rfl ?_|(apply s_bin; refine n_bin ?_)|(apply s_store; first|refine n_storeF 6 ttok 0 rfl rfl rfl rfl rfl rfl rfl rfl ?_|refine n_storeF 6 ttok 1 rfl rfl rfl rfl rfl rfl rfl rfl ?_|refine n_storeF 6 ttok 2 rfl rfl rfl rfl rfl rfl rfl rfl ?_|refine n_store ttok 0 rfl rfl rfl rfl rfl rfl rfl ?_|refine n_store ttok 1 rfl rfl rfl rfl rfl rfl rfl ?_|refine n_store ttok 2 rfl rfl rfl rfl rfl rfl rfl ?_|refine n_store ttok 3 rfl rfl rfl rfl rfl rfl rfl ?_|fail)|fail))
    exact ax_roundK (j + 1, q') rfl ⟨by rw [Int.natCast_add]; rfl, trivial⟩ (by dsimp only; omega) (by dsimp only; omega) (fun _ _ h => by dsimp only; rw [hstep]; dsimp only; rw [List.map_append]; exact h)
  have hjk : j = k' := by have := of_decide_eq_false h; omega
  subst hjk
  clear hstep
  generalize e6 : funcsD s j k2.2 = fu at hfl ⊢
  (repeat' (first|refine at_seq ?_|refine at_region ?_|refine at_exit ?_|refine ax_then ?_|refine ax_then_exit ?_|refine ax_blk_exit ?_|refine ax_loop_exit ?_|refine n_run ttok rfl rfl ?_|fail))
  refine atl_turn (turn_cells 0 rfl fun σ vs h => vrs_set (k := 9) (c' := .imm 1 (fu.1.map cCode)) h rfl fun v hv => VR.im hv) ?_
  refine atl_turn (turn_sub (L' := [mkB b s ⟨I64 U, .vec none 9 [], .vec none 2 [], nilV, .vec none 2 [], .imm 4 (A.1.map cAxis), .imm 1 (rg.1.map cRegion), .imm 1 (fu.1.map cCode), .vec none 1 []⟩ fu.2, tB tb]) (List.Sublist.cons_cons _ (List.Sublist.cons_cons _ (List.nil_sublist _)))) ?_
  refine n_next ?_
  have hk3 := draw_bd s hs fu.2.a (n := 4) (by omega)
  have hk3 : 0 ≤ (dr s 4 fu.2).1 ∧ (dr s 4 fu.2).1 < 4 := hk3
  generalize e7 : dr s 4 fu.2 = k3 at hk3 ⊢
  obtain ⟨k'', hkk3⟩ : ∃ k : Nat, k3.1 = k := ⟨k3.1.toNat, by omega⟩
  rw [hkk3]
  (repeat' (first|refine at_seq ?_|refine at_region ?_|refine at_block ?_|refine ax_then ?_|refine atl_nil ?_|refine n_run ttok rfl rfl ?_|fail))
  refine at_loopK [2, 3, 4] (α := Nat × Option (Nat × Nat)) (fun x => [(12, I64 x.1)]) (fun x => x.1 ≤ k'') (fun x => [mkB b s ⟨I64 U, .vec none 9 [], .vec none 2 [], nilV, .vec none 2 [], .imm 4 (A.1.map cAxis), .imm 1 (rg.1.map cRegion), .imm 1 (fu.1.map cCode), .vec x.2 1 (ints (cvtD s x.1 k3.2).1)⟩ (cvtD s x.1 k3.2).2, tB tb] ++ tok x.2 3 1 (ints (cvtD s x.1 k3.2).1).length) (fun x => k'' - x.1) (0, none) rfl ⟨rfl, trivial⟩ (Nat.zero_le _) (fun _ _ h => h) ?_
  rintro ⟨jc, q3⟩ hjc
  dsimp only at hjc ⊢
  have hcl := cvtD_len s jc k3.2
  have hstep : cvtD s (jc + 1) k3.2 = (bnd (dr s 500) fun z => ret ((cvtD s jc k3.2).1 ++ [z - 100])) (cvtD s jc k3.2).2 := rfl
  try dsimp only [List.cons_append, List.nil_append, List.map_cons, List.map_nil]
  (repeat' (first|refine at_seq ?_|refine at_region ?_|refine ax_then ?_|refine atl_nil ?_|refine n_run ttok rfl rfl ?_|fail))
  refine at_cond rfl (fun h => ?_) (fun h => ?_)
  · have hjk : jc < k'' := by have := of_decide_eq_true h; omega
    generalize cvtD s jc k3.2 = C at hcl hstep ⊢
    have hclm : (ints C.1).length = C.1.length := ints_len _
    unfold bnd at hstep
    (repeat' (first|refine at_seq ?_|refine at_block ?_|refine at_skip ?_|refine ax_then ?_|fail))
    refine at_drawG [(b, 10, .vec q3 1 (ints C.1))] 11 [(0, .v), (1, .v), (2, .v), (3, .v), (4, .v), (5, .k), (6, .v), (7, .f), (8, .v), (9, .v), (10, .e)] none ?_ trivial rfl (by kernel_rfl) (by kernel_rfl) (by kernel_rfl) mixed (by kernel_rfl) rfl
    (repeat' (first|refine da_open ?_|refine d_run ttok ?_|fail))
    refine d_loadK ttok 0 rfl rfl rfl (kept_cons 0 rfl rfl kept_nil) (by first | trivial | rfl) ?_
    (repeat' (first|refine da_open ?_|refine d_run ttok ?_|fail))
    refine d_nextK (kept_cons 0 rfl rfl kept_nil) ?_
    have hz := draw_bd s hs C.2.a (n := 500) (by omega)
    have hz : 0 ≤ (dr s 500 C.2).1 ∧ (dr s 500 C.2).1 < 500 := hz
    generalize dr s 500 C.2 = z at hz hstep ⊢
    try dsimp only [ret] at hstep
    (repeat' (first|refine da_open ?_|(apply ds_bin;refine d_bin ?_)|refine d_lit ttok ?_|fail))
    refine d_append ttok _ rfl rfl rfl rfl (List.perm_append_comm (l₁ := [_, _])) (by simp [ints_len]; omega) (by simp [ints_len]; omega) (by first | trivial | rfl) fun q' => ?_
    refine da_end [2, 3, 4, 12, 137, 147] rfl rfl ?_
    refine atl_turn (turn_perm (List.perm_append_comm (l₂ := [_, _]))) ?_
    (repeat' (first|refine at_region ?_|refine ax_then ?_|refine ax_blk ?_|refine atl_nil ?_|refine n_run ttok rfl rfl ?_|(apply s_bin; refine n_bin ?_)|(apply s_store; first|refine n_storeF 6 ttok 0 rfl rfl rfl rfl rfl rfl rfl rfl ?_|refine n_storeF 6 ttok 1 rfl rfl rfl rfl rfl rfl rfl rfl ?_|refine n_storeF 6 ttok 2 rfl rfl rfl rfl rfl rfl rfl rfl ?_|refine n_store ttok 0 rfl rfl rfl rfl rfl rfl rfl ?_|refine n_store ttok 1 rfl rfl rfl rfl rfl rfl rfl ?_|refine n_store ttok 2 rfl rfl rfl rfl rfl rfl rfl ?_|refine n_store ttok 3 rfl rfl rfl rfl rfl rfl rfl ?_|fail)|fail))
    exact ax_roundK (jc + 1, q') rfl ⟨by rw [Int.natCast_add]; rfl, trivial⟩ (by dsimp only; omega) (by dsimp only; omega) (fun _ _ h => by dsimp only; rw [hstep]; dsimp only; rw [show ints (C.1 ++ [z.1 - 100]) = ints C.1 ++ [[I64 (z.1 - 100)]] from List.map_append ..]; exact h)
  have hjk : jc = k'' := by have := of_decide_eq_false h; omega
  subst hjk
  clear hstep
  generalize e8 : cvtD s jc k3.2 = cv at hcl ⊢
  (repeat' (first|refine at_seq ?_|refine at_region ?_|refine at_exit ?_|refine ax_then ?_|refine ax_then_exit ?_|refine ax_blk_exit ?_|refine ax_loop_exit ?_|refine n_run ttok rfl rfl ?_|fail))
  refine atl_turn (turn_cells 0 rfl fun σ vs h => vrs_set (k := 10) (c' := .imm 1 (ints cv.1)) h rfl fun v hv => VR.im hv) ?_
  refine atl_turn (turn_sub (L' := [mkB b s ⟨I64 U, .vec none 9 [], .vec none 2 [], nilV, .vec none 2 [], .imm 4 (A.1.map cAxis), .imm 1 (rg.1.map cRegion), .imm 1 (fu.1.map cCode), .imm 1 (ints cv.1)⟩ cv.2, tB tb]) (List.Sublist.cons_cons _ (List.Sublist.cons_cons _ (List.nil_sublist _)))) ?_
  refine n_next ?_
  have hk4 := draw_bd s hs cv.2.a (n := 9) (by omega)
  have hk4 : 0 ≤ (dr s 9 cv.2).1 ∧ (dr s 9 cv.2).1 < 9 := hk4
  generalize e9 : dr s 9 cv.2 = k4 at hk4 ⊢
  obtain ⟨n, hkk4⟩ : ∃ k : Nat, 2 + k4.1 = k := ⟨(2 + k4.1).toNat, by omega⟩
  (repeat' (first|refine at_seq ?_|refine at_region ?_|refine at_block ?_|refine ax_then ?_|refine atl_nil ?_|refine n_run ttok rfl rfl ?_|(apply s_bin; refine n_bin ?_)|fail))
  rw [hkk4]
  have hrgl : (rg.1.map cRegion).length = rg.1.length := List.length_map ..
  have hful : (fu.1.map cCode).length = fu.1.length := List.length_map ..
  have hrg3 : rg.1.length ≤ 1000 := by
    have hR : DOk (regionsD s A.1.length) fun l => l.length ≤ 3 := DOk.ite (fun _ => DOk.ret (Nat.zero_le _)) fun _ => (dr_ok s (by omega)).bnd fun n hn m => by rw [regsD_len]; omega
    have := hR A.2
    rw [hal] at this
    rw [← e4]
    omega
  refine at_loopK [2, 3, 4] (α := Nat × Option (Nat × Nat)) (fun x => [(13, I64 x.1)]) (fun x => x.1 ≤ n) (fun x => [mkB b s ⟨I64 U, .vec x.2 9 ((glyphsD s rg.1.length fu.1.length x.1 k4.2).1.map cGlyph), .vec none 2 [], nilV, .vec none 2 [], .imm 4 (A.1.map cAxis), .imm 1 (rg.1.map cRegion), .imm 1 (fu.1.map cCode), .imm 1 (ints cv.1)⟩ (glyphsD s rg.1.length fu.1.length x.1 k4.2).2, tB tb] ++ tok x.2 64 9 ((glyphsD s rg.1.length fu.1.length x.1 k4.2).1.map cGlyph).length) (fun x => n - x.1) (0, none) rfl ⟨rfl, trivial⟩ (Nat.zero_le _) (fun _ _ h => h) ?_
  rintro ⟨jg, q4⟩ hjg
  dsimp only at hjg ⊢
  have hgl := glyphsD_len s rg.1.length fu.1.length jg k4.2
  have hstep : glyphsD s rg.1.length fu.1.length (jg + 1) k4.2 = (bnd (glyphD s rg.1.length fu.1.length jg) fun g => ret ((glyphsD s rg.1.length fu.1.length jg k4.2).1 ++ [g])) (glyphsD s rg.1.length fu.1.length jg k4.2).2 := rfl
  try dsimp only [List.cons_append, List.nil_append, List.map_cons, List.map_nil]
  (repeat' (first|refine at_seq ?_|refine at_region ?_|refine ax_then ?_|refine atl_nil ?_|refine n_run ttok rfl rfl ?_|fail))
  refine at_cond rfl (fun h => ?_) (fun h => ?_)
  · have hjn : jg < n := by have := of_decide_eq_true h; omega
    generalize glyphsD s rg.1.length fu.1.length jg k4.2 = Gs at hgl hstep ⊢
    have hglm : (Gs.1.map cGlyph).length = Gs.1.length := List.length_map ..
    unfold bnd at hstep
    (repeat' (first|refine at_seq ?_|refine at_region ?_|refine at_block ?_|refine at_skip ?_|refine ax_then ?_|refine n_run ttok rfl rfl ?_|fail))
    refine n_callA ([mkB b s ⟨I64 U, .vec q4 9 (Gs.1.map cGlyph), .vec none 2 [], nilV, .vec none 2 [], .imm 4 (A.1.map cAxis), .imm 1 (rg.1.map cRegion), .imm 1 (fu.1.map cCode), .imm 1 (ints cv.1)⟩ Gs.2] ++ (tok q4 64 9 (Gs.1.map cGlyph).length ++ [])) [tB tb] (glyph_ac s hs ⟨I64 U, .vec q4 9 (Gs.1.map cGlyph), .vec none 2 [], nilV, .vec none 2 [], .imm 4 (A.1.map cAxis), .imm 1 (rg.1.map cRegion), .imm 1 (fu.1.map cCode), .imm 1 (ints cv.1)⟩ rfl rfl rfl rg.1.length fu.1.length jg hrgl hful (by omega) (by omega) (by omega) (by omega) b Gs.2) rfl rfl p_call rfl fun c L1 ⟨q', hL1⟩ => ?_
    subst hL1
    refine atl_turn (turn_perm p_call.symm) ?_
    generalize glyphD s rg.1.length fu.1.length jg Gs.2 = g at hstep ⊢
    try dsimp only [ret] at hstep
    (repeat' (first|refine at_region ?_|refine ax_then ?_|refine ax_blk ?_|refine atl_nil ?_|refine n_run ttok rfl rfl ?_|(apply s_bin; refine n_bin ?_)|fail))
    exact ax_roundK (jg + 1, q') rfl ⟨by rw [Int.natCast_add]; rfl, trivial⟩ (by dsimp only; omega) (by dsimp only; omega) (fun _ _ h => by dsimp only; rw [hstep]; dsimp only; rw [List.map_append]; exact h)
  have hjn : jg = n := by have := of_decide_eq_false h; omega
  subst hjn
  clear hstep
  generalize e10 : glyphsD s rg.1.length fu.1.length jg k4.2 = gl at hgl ⊢
  have hglm : (gl.1.map cGlyph).length = gl.1.length := List.length_map ..
  (repeat' (first|refine at_seq ?_|refine at_region ?_|refine at_exit ?_|refine ax_then ?_|refine ax_then_exit ?_|refine ax_blk_exit ?_|refine ax_loop_exit ?_|fail))
  refine n_call (hc := ⟨runes_det⟩) ?_
  refine atl_turn (turn_sub (L' := [mkB b s ⟨I64 U, .vec q4 9 (gl.1.map cGlyph), .vec none 2 [], nilV, .vec none 2 [], .imm 4 (A.1.map cAxis), .imm 1 (rg.1.map cRegion), .imm 1 (fu.1.map cCode), .imm 1 (ints cv.1)⟩ gl.2, tB tb]) (List.Sublist.cons_cons _ (List.Sublist.cons_cons _ (List.nil_sublist _)))) ?_
  (repeat' (first|refine at_seq ?_|refine at_region ?_|refine at_block ?_|refine ax_then ?_|refine atl_nil ?_|refine n_run ttok rfl rfl ?_|fail))
  have hr16 : (ints runesL).length = 16 := rfl
  refine at_loopK [2, 3, 14] (α := Nat × Option (Nat × Nat)) (fun x => [(15, I64 x.1)]) (fun x => x.1 ≤ 16) (fun x => [mkB b s ⟨I64 U, .vec q4 9 (gl.1.map cGlyph), .vec x.2 2 ((charsD s gl.1.length x.1 gl.2).1.map cChar), nilV, .vec none 2 [], .imm 4 (A.1.map cAxis), .imm 1 (rg.1.map cRegion), .imm 1 (fu.1.map cCode), .imm 1 (ints cv.1)⟩ (charsD s gl.1.length x.1 gl.2).2, tB tb] ++ tok x.2 50 2 ((charsD s gl.1.length x.1 gl.2).1.map cChar).length) (fun x => 16 - x.1) (0, none) rfl ⟨rfl, trivial⟩ (Nat.zero_le _) (fun _ _ h => h) ?_
  rintro ⟨jr, q5⟩ hjr
  dsimp only at hjr ⊢
  have hcl2 := charsD_len s gl.1.length jr gl.2
  have hstep : charsD s gl.1.length (jr + 1) gl.2 = (bnd (dr s 4) fun z => if 0 < z then bnd (dr s gl.1.length) fun g => ret ((charsD s gl.1.length jr gl.2).1 ++ [(⟨runesL.getD jr 0, g⟩ : FChar)]) else ret (charsD s gl.1.length jr gl.2).1) (charsD s gl.1.length jr gl.2).2 := rfl
  try dsimp only [List.cons_append, List.nil_append, List.map_cons, List.map_nil]
  (repeat' (first|refine at_seq ?_|refine at_region ?_|refine ax_then ?_|refine atl_nil ?_|refine n_run ttok rfl rfl ?_|fail))
  refine at_cond rfl (fun h => ?_) (fun h => ?_)
  · have hj16 : jr < 16 := by have := of_decide_eq_true h; rw [hr16] at this; omega
    have hrn : (ints runesL)[jr]? = some [I64 (runesL.getD jr 0)] := ints_get (getD_at hj16 0)
    generalize runesL.getD jr 0 = rn at hrn hstep
    generalize charsD s gl.1.length jr gl.2 = Ch at hcl2 hstep ⊢
    have hchm : (Ch.1.map cChar).length = Ch.1.length := List.length_map ..
    unfold bnd at hstep
    (repeat' (first|refine at_seq ?_|refine at_region ?_|refine at_block ?_|refine at_skip ?_|refine ax_then ?_|refine n_run ttok rfl rfl ?_|fail))
    refine n_next ?_
    generalize dr s 4 Ch.2 = z at hstep ⊢
    dsimp only at hstep
    (repeat' (first|refine ax_then ?_|refine atl_nil ?_|refine n_run ttok rfl rfl ?_|fail))
    refine at_cond rfl (fun hz => ?_) (fun hz => ?_)
    · rw [if_pos (of_decide_eq_true hz)] at hstep
      (repeat' (first|fail))
      refine at_drawG [(b, 4, .vec q5 2 (Ch.1.map cChar))] 21 [(0, .v), (1, .v), (2, .v), (3, .v), (4, .v), (5, .k), (6, .v), (7, .v), (8, .v), (9, .v), (10, .v), (11, .v), (12, .v), (13, .v), (14, .v), (15, .l), (16, .v), (17, .f), (18, .v), (19, .v), (20, .e)] none ?_ trivial rfl (by kernel_rfl) (by kernel_rfl) (by kernel_rfl) mixed (by kernel_rfl) rfl
      (repeat' (first|refine da_open ?_|refine d_run ttok ?_|fail))
      refine d_loadK ttok 0 rfl rfl rfl (kept_cons 0 rfl rfl kept_nil) (by first | trivial | rfl) ?_
      (repeat' (first|refine da_open ?_|refine d_run ttok ?_|(apply ds_index;refine d_index ttok ?_)|refine d_load ttok 0 rfl rfl rfl rfl (by first|trivial|rfl) ?_|fail))
      rw [hglm]
      refine d_nextK (kept_cons 0 rfl rfl kept_nil) ?_
      generalize dr s gl.1.length z.2 = g at hstep ⊢
      try dsimp only [ret] at hstep
      (repeat' (first|refine da_open ?_|refine d_run ttok ?_|refine d_lit ttok ?_|fail))
      refine d_append ttok _ rfl rfl rfl rfl (List.perm_append_comm (l₁ := [_, _])) (by simp; omega) (by simp; omega) (by first | trivial | rfl) fun q' => ?_
      refine da_end [2, 3, 14, 15, 172, 192] rfl rfl ?_
      refine atl_turn (turn_perm (List.perm_append_comm (l₂ := [_, _]))) ?_
      (repeat' (first|refine at_region ?_|refine ax_then ?_|refine ax_blk ?_|refine atl_nil ?_|refine n_run ttok rfl rfl ?_|(apply s_bin; refine n_bin ?_)|(apply s_store; first|refine n_storeF 6 ttok 0 rfl rfl rfl rfl rfl rfl rfl rfl ?_|refine n_storeF 6 ttok 1 rfl rfl rfl rfl rfl rfl rfl rfl ?_|refine n_storeF 6 ttok 2 rfl rfl rfl rfl rfl rfl rfl rfl ?_|refine n_store ttok 0 rfl rfl rfl rfl rfl rfl rfl ?_|refine n_store ttok 1 rfl rfl rfl rfl rfl rfl rfl ?_|refine n_store ttok 2 rfl rfl rfl rfl rfl rfl rfl ?_|refine n_store ttok 3 rfl rfl rfl rfl rfl rfl rfl ?_|fail)|fail))
      exact ax_roundK (jr + 1, q') rfl ⟨by rw [Int.natCast_add]; rfl, trivial⟩ (by dsimp only; omega) (by dsimp only; omega) (fun _ _ h => by dsimp only; rw [hstep]; dsimp only; rw [List.map_append]; exact h)
    · rw [if_neg (of_decide_eq_false hz)] at hstep
      try dsimp only [ret] at hstep
      (repeat' (first|refine at_region ?_|refine at_skip ?_|refine ax_then ?_|refine ax_blk ?_|refine atl_nil ?_|refine n_run ttok rfl rfl ?_|(apply s_bin; refine n_bin ?_)|fail))
      exact ax_roundK (jr + 1, q5) rfl ⟨by rw [Int.natCast_add]; rfl, trivial⟩ (by dsimp only; omega) (by dsimp only; omega) (fun _ _ h => by dsimp only; rw [hstep]; exact h)
  have hj16 : jr = 16 := by have := of_decide_eq_false h; rw [hr16] at this; omega
  subst hj16
  clear hstep
  generalize e11 : charsD s gl.1.length 16 gl.2 = ch at hcl2 ⊢
  (repeat' (first|refine at_seq ?_|refine at_region ?_|refine at_exit ?_|refine ax_then ?_|refine ax_then_exit ?_|refine ax_blk_exit ?_|refine ax_loop_exit ?_|refine n_run ttok rfl rfl ?_|fail))
  refine atl_turn (turn_cells 0 rfl fun σ vs h => vrs_set (k := 4) (c' := .imm 2 (ch.1.map cChar)) h rfl fun v hv => VR.im hv) ?_
  refine atl_turn (turn_sub (L' := [mkB b s ⟨I64 U, .vec q4 9 (gl.1.map cGlyph), .imm 2 (ch.1.map cChar), nilV, .vec none 2 [], .imm 4 (A.1.map cAxis), .imm 1 (rg.1.map cRegion), .imm 1 (fu.1.map cCode), .imm 1 (ints cv.1)⟩ ch.2] ++ [tB tb]) (List.Sublist.cons_cons _ (List.Sublist.cons_cons _ (List.nil_sublist _)))) ?_
  refine n_callA [mkB b s ⟨I64 U, .vec q4 9 (gl.1.map cGlyph), .imm 2 (ch.1.map cChar), nilV, .vec none 2 [], .imm 4 (A.1.map cAxis), .imm 1 (rg.1.map cRegion), .imm 1 (fu.1.map cCode), .imm 1 (ints cv.1)⟩ ch.2] [tB tb] (lookups_ac s hs ⟨I64 U, .vec q4 9 (gl.1.map cGlyph), .imm 2 (ch.1.map cChar), nilV, .vec none 2 [], .imm 4 (A.1.map cAxis), .imm 1 (rg.1.map cRegion), .imm 1 (fu.1.map cCode), .imm 1 (ints cv.1)⟩ rfl rfl gl.1.length hglm (by omega) b ch.2) rfl rfl (List.Perm.refl _) rfl fun c L1 hL1 => ?_
  subst hL1
  have hlk6 := (lookupsD_ok s (n := gl.1.length) (by omega) ch.2).len
  generalize e12 : lookupsD s gl.1.length ch.2 = lk at hlk6 ⊢
  have hlkm : (lk.1.map cLookup).length = lk.1.length := List.length_map ..
  (repeat' (first|refine at_seq ?_|refine at_region ?_|refine ax_then ?_|refine atl_nil ?_|fail))
  refine n_call (hc := ⟨names67_det⟩) ?_
  refine atl_turn (turn_perm (L' := [mkB b s ⟨I64 U, .vec q4 9 (gl.1.map cGlyph), .imm 2 (ch.1.map cChar), .imm 3 (lk.1.map cLookup), .vec none 2 [], .imm 4 (A.1.map cAxis), .imm 1 (rg.1.map cRegion), .imm 1 (fu.1.map cCode), .imm 1 (ints cv.1)⟩ lk.2, tB tb]) (List.Perm.refl _)) ?_
  (repeat' (first|refine at_seq ?_|refine at_region ?_|refine at_block ?_|refine ax_then ?_|refine atl_nil ?_|refine n_run ttok rfl rfl ?_|fail))
  have hn8 : (strs namesL).length = 8 := rfl
  refine at_loopK [2, 3, 16] (α := Nat × Option (Nat × Nat)) (fun x => [(17, I64 x.1)]) (fun x => x.1 ≤ 8) (fun x => [mkB b s ⟨I64 U, .vec q4 9 (gl.1.map cGlyph), .imm 2 (ch.1.map cChar), .imm 3 (lk.1.map cLookup), .vec x.2 2 ((featsD s lk.1.length x.1 lk.2).1.map cFeature), .imm 4 (A.1.map cAxis), .imm 1 (rg.1.map cRegion), .imm 1 (fu.1.map cCode), .imm 1 (ints cv.1)⟩ (featsD s lk.1.length x.1 lk.2).2, tB tb] ++ tok x.2 72 2 ((featsD s lk.1.length x.1 lk.2).1.map cFeature).length) (fun x => 8 - x.1) (0, none) rfl ⟨rfl, trivial⟩ (Nat.zero_le _) (fun _ _ h => h) ?_
  rintro ⟨jf, q6⟩ hjf
  dsimp only at hjf ⊢
  have hftl := featsD_len s lk.1.length jf lk.2
  have hstep : featsD s lk.1.length (jf + 1) lk.2 = (bnd (askD s lk.1.length) fun r => bnd (dr s 2) fun z => ret (if z = 0 then (featsD s lk.1.length jf lk.2).1 ++ [(⟨namesL.getD jf ByteArray.empty, r⟩ : FFeature)] else (featsD s lk.1.length jf lk.2).1)) (featsD s lk.1.length jf lk.2).2 := rfl
  try dsimp only [List.cons_append, List.nil_append, List.map_cons, List.map_nil]
  (repeat' (first|refine at_seq ?_|refine at_region ?_|refine ax_then ?_|refine atl_nil ?_|refine n_run ttok rfl rfl ?_|fail))
  refine at_cond rfl (fun h => ?_) (fun h => ?_)
  · have hj8 : jf < 8 := by have := of_decide_eq_true h; rw [hn8] at this; omega
    have hnm : (strs namesL)[jf]? = some [Str (namesL.getD jf ByteArray.empty)] := strs_get (getD_at hj8 ByteArray.empty)
    generalize namesL.getD jf ByteArray.empty = nm at hnm hstep
    generalize featsD s lk.1.length jf lk.2 = Ft at hftl hstep ⊢
    have hftm : (Ft.1.map cFeature).length = Ft.1.length := List.length_map ..
    unfold bnd at hstep
    (repeat' (first|refine at_seq ?_|refine at_region ?_|refine at_block ?_|refine at_skip ?_|refine ax_then ?_|refine atl_nil ?_|refine n_run ttok rfl rfl ?_|fail))
    refine at_turn (turn_val (t := 18) (c' := .vec none 1 []) rfl fun σ v h => vr_nil 1 h) ?_
    refine at_loopK [2, 3, 16, 17] (α := Nat × Option (Nat × Nat)) (fun x => [(19, I64 x.1), (18, .vec x.2 1 (ints (askD s x.1 Ft.2).1))]) (fun x => x.1 ≤ lk.1.length) (fun x => [mkB b s ⟨I64 U, .vec q4 9 (gl.1.map cGlyph), .imm 2 (ch.1.map cChar), .imm 3 (lk.1.map cLookup), .vec q6 2 (Ft.1.map cFeature), .imm 4 (A.1.map cAxis), .imm 1 (rg.1.map cRegion), .imm 1 (fu.1.map cCode), .imm 1 (ints cv.1)⟩ (askD s x.1 Ft.2).2, tB tb] ++ (tok x.2 3 1 (ints (askD s x.1 Ft.2).1).length ++ tok q6 72 2 (Ft.1.map cFeature).length)) (fun x => lk.1.length - x.1) (0, none) rfl ⟨rfl, rfl, trivial⟩ (Nat.zero_le _) (fun _ _ h => h) ?_
    rintro ⟨a, q7⟩ ha
    dsimp only at ha ⊢
    have hal7 := askD_len s a Ft.2
    have hst7 : askD s (a + 1) Ft.2 = (bnd (dr s 3) fun z => ret (if z = 0 then (askD s a Ft.2).1 ++ [(a : Int)] else (askD s a Ft.2).1)) (askD s a Ft.2).2 := rfl
    try dsimp only [List.cons_append, List.nil_append, List.map_cons, List.map_nil]
    (repeat' (first|refine at_seq ?_|refine at_region ?_|refine ax_then ?_|refine atl_nil ?_|refine n_run ttok rfl rfl ?_|(apply s_load; first|refine n_load ttok 0 rfl rfl rfl rfl rfl ?_|refine n_load ttok 1 rfl rfl rfl rfl rfl ?_|refine n_load ttok 2 rfl rfl rfl rfl rfl ?_|refine n_load ttok 3 rfl rfl rfl rfl rfl ?_|refine n_loadA ttok 0 rfl rfl rfl rfl rfl ?_|refine n_loadA ttok 1 rfl rfl rfl rfl rfl ?_|refine n_loadA ttok 2 rfl rfl rfl rfl rfl ?_|refine n_load ttok 1 rfl rfl rfl (by assumption) rfl ?_|refine n_load ttok 0 rfl rfl rfl (by assumption) rfl ?_|fail)|fail))
    refine at_cond rfl (fun h => ?_) (fun h => ?_)
    · have hal : a < lk.1.length := by have := of_decide_eq_true h; rw [hlkm] at this; omega
      generalize askD s a Ft.2 = As at hal7 hst7 ⊢
      have hasm : (ints As.1).length = As.1.length := ints_len _
      unfold bnd at hst7
      (repeat' (first|refine at_seq ?_|refine at_region ?_|refine at_block ?_|refine at_skip ?_|refine ax_then ?_|refine n_run ttok rfl rfl ?_|fail))
      refine n_next ?_
      generalize dr s 3 As.2 = z at hst7 ⊢
      dsimp only [ret] at hst7
      (repeat' (first|refine ax_then ?_|refine atl_nil ?_|refine n_run ttok rfl rfl ?_|fail))
      refine at_cond rfl (fun hz => ?_) (fun hz => ?_)
      · rw [if_pos (of_decide_eq_true hz)] at hst7
        (repeat' (first|refine at_region ?_|refine n_run ttok rfl rfl ?_|refine n_litI ttok ?_|fail))
        refine n_append ttok _ rfl rfl rfl rfl (p_t1 (A := [_, _])) (by simp [ints_len]; omega) (by simp [ints_len]; omega) rfl fun q' => ?_
        refine atl_turn (turn_perm (p_t1 (A := [_, _])).symm) ?_
        (repeat' (first|refine at_region ?_|refine ax_then ?_|refine ax_blk ?_|refine atl_nil ?_|refine n_run ttok rfl rfl ?_|(apply s_bin; refine n_bin ?_)|fail))
        exact ax_roundK (a + 1, q') rfl ⟨by rw [Int.natCast_add]; rfl, by rw [hst7]; dsimp only; rw [show ints (As.1 ++ [(a : Int)]) = ints As.1 ++ [[I64 (a : Int)]] from List.map_append ..]; rfl, trivial⟩ (by dsimp only; omega) (by dsimp only; omega) (fun _ _ h => by dsimp only; rw [hst7]; dsimp only; rw [show ints (As.1 ++ [(a : Int)]) = ints As.1 ++ [[I64 (a : Int)]] from List.map_append ..]; exact h)
      · rw [if_neg (of_decide_eq_false hz)] at hst7
        (repeat' (first|refine at_region ?_|refine at_skip ?_|refine ax_then ?_|refine ax_blk ?_|refine atl_nil ?_|refine n_run ttok rfl rfl ?_|(apply s_bin; refine n_bin ?_)|fail))
        exact ax_roundK (a + 1, q7) rfl ⟨by rw [Int.natCast_add]; rfl, by rw [hst7]; rfl, trivial⟩ (by dsimp only; omega) (by dsimp only; omega) (fun _ _ h => by dsimp only; rw [hst7]; exact h)
    have hal : a = lk.1.length := by have := of_decide_eq_false h; rw [hlkm] at this; omega
    subst hal
    clear hst7
    generalize askD s lk.1.length Ft.2 = As at hal7 hstep ⊢
    dsimp only at hstep
    (repeat' (first|refine at_seq ?_|refine at_region ?_|refine at_exit ?_|refine ax_then ?_|refine ax_then_exit ?_|refine ax_blk_exit ?_|refine ax_loop_exit ?_|refine n_run ttok rfl rfl ?_|fail))
    refine atl_turn (turn_val (t := 18) (c' := .imm 1 (ints As.1)) rfl fun σ v h => VR.im h) ?_
    refine atl_turn (turn_sub (L' := [mkB b s ⟨I64 U, .vec q4 9 (gl.1.map cGlyph), .imm 2 (ch.1.map cChar), .imm 3 (lk.1.map cLookup), .vec q6 2 (Ft.1.map cFeature), .imm 4 (A.1.map cAxis), .imm 1 (rg.1.map cRegion), .imm 1 (fu.1.map cCode), .imm 1 (ints cv.1)⟩ As.2, tB tb] ++ tok q6 72 2 (Ft.1.map cFeature).length) (List.Sublist.cons_cons _ (List.Sublist.cons_cons _ (List.sublist_append_right _ _)))) ?_
    refine n_next ?_
    generalize dr s 2 As.2 = z at hstep ⊢
    dsimp only [ret] at hstep
    (repeat' (first|refine ax_then ?_|refine atl_nil ?_|refine n_run ttok rfl rfl ?_|fail))
    refine at_cond rfl (fun hz => ?_) (fun hz => ?_)
    · rw [if_pos (of_decide_eq_true hz)] at hstep
      (repeat' (first|fail))
      refine at_draw 14 [(0, .v), (1, .v), (2, .v), (3, .v), (4, .v), (5, .l), (6, .v), (7, .v), (8, .v), (9, .v), (10, .v), (11, .v), (12, .v), (13, .e)] none ?_ trivial rfl (by kernel_rfl) (by kernel_rfl) (by kernel_rfl) mixed (by kernel_rfl) rfl
      (repeat' (first|refine da_open ?_|refine d_run ttok ?_|(apply ds_index;refine d_index ttok ?_)|refine d_lit ttok ?_|refine d_load ttok 0 rfl rfl rfl rfl (by first|trivial|rfl) ?_|fail))
      refine d_append ttok _ rfl rfl rfl rfl (List.perm_append_comm (l₁ := [_, _])) (by simp; omega) (by simp; omega) (by first | trivial | rfl) fun q' => ?_
      refine da_end [2, 3, 16, 17, 225, 238] rfl rfl ?_
      refine atl_turn (turn_perm (List.perm_append_comm (l₂ := [_, _]))) ?_
      (repeat' (first|refine at_region ?_|refine ax_then ?_|refine ax_blk ?_|refine atl_nil ?_|refine n_run ttok rfl rfl ?_|(apply s_bin; refine n_bin ?_)|(apply s_store; first|refine n_storeF 6 ttok 0 rfl rfl rfl rfl rfl rfl rfl rfl ?_|refine n_storeF 6 ttok 1 rfl rfl rfl rfl rfl rfl rfl rfl ?_|refine n_storeF 6 ttok 2 rfl rfl rfl rfl rfl rfl rfl rfl ?_|refine n_store ttok 0 rfl rfl rfl rfl rfl rfl rfl ?_|refine n_store ttok 1 rfl rfl rfl rfl rfl rfl rfl ?_|refine n_store ttok 2 rfl rfl rfl rfl rfl rfl rfl ?_|refine n_store ttok 3 rfl rfl rfl rfl rfl rfl rfl ?_|fail)|fail))
      exact ax_roundK (jf + 1, q') rfl ⟨by rw [Int.natCast_add]; rfl, trivial⟩ (by dsimp only; omega) (by dsimp only; omega) (fun _ _ h => by dsimp only; rw [hstep]; dsimp only; rw [List.map_append]; exact h)
    · rw [if_neg (of_decide_eq_false hz)] at hstep
      (repeat' (first|refine at_region ?_|refine at_skip ?_|refine ax_then ?_|refine ax_blk ?_|refine atl_nil ?_|refine n_run ttok rfl rfl ?_|(apply s_bin; refine n_bin ?_)|fail))
      exact ax_roundK (jf + 1, q6) rfl ⟨by rw [Int.natCast_add]; rfl, trivial⟩ (by dsimp only; omega) (by dsimp only; omega) (fun _ _ h => by dsimp only; rw [hstep]; exact h)
  have hj8 : jf = 8 := by have := of_decide_eq_false h; rw [hn8] at this; omega
  subst hj8
  clear hstep
  generalize e13 : featsD s lk.1.length 8 lk.2 = ft at hftl ⊢
  (repeat' (first|refine at_seq ?_|refine at_region ?_|refine at_ret ?_|refine at_exit ?_|refine ax_then ?_|refine ax_then_exit ?_|refine ax_blk_exit ?_|refine ax_loop_exit ?_|refine atl_nil ?_|refine n_run ttok rfl rfl ?_|(apply s_load; first|refine n_load ttok 0 rfl rfl rfl rfl rfl ?_|refine n_load ttok 1 rfl rfl rfl rfl rfl ?_|refine n_load ttok 2 rfl rfl rfl rfl rfl ?_|refine n_load ttok 3 rfl rfl rfl rfl rfl ?_|refine n_loadA ttok 0 rfl rfl rfl rfl rfl ?_|refine n_loadA ttok 1 rfl rfl rfl rfl rfl ?_|refine n_loadA ttok 2 rfl rfl rfl rfl rfl ?_|refine n_load ttok 1 rfl rfl rfl (by assumption) rfl ?_|refine n_load ttok 0 rfl rfl rfl (by assumption) rfl ?_|fail)|(apply s_store; first|refine n_storeF 6 ttok 0 rfl rfl rfl rfl rfl rfl rfl rfl ?_|refine n_storeF 6 ttok 1 rfl rfl rfl rfl rfl rfl rfl rfl ?_|refine n_storeF 6 ttok 2 rfl rfl rfl rfl rfl rfl rfl rfl ?_|refine n_store ttok 0 rfl rfl rfl rfl rfl rfl rfl ?_|refine n_store ttok 1 rfl rfl rfl rfl rfl rfl rfl ?_|refine n_store ttok 2 rfl rfl rfl rfl rfl rfl rfl ?_|refine n_store ttok 3 rfl rfl rfl rfl rfl rfl rfl ?_|fail)|fail))
  have hv : madeF s = ⟨U, gl.1, ch.1, lk.1, ft.1, A.1, rg.1, fu.1, cv.1⟩ := by
    unfold madeF madeD bnd
    rw [e1]
    try dsimp only
    rw [e2]
    try dsimp only
    rw [hkk, Int.toNat_natCast, e3]
    try dsimp only
    rw [e4, e5]
    try dsimp only
    rw [hkk2, Int.toNat_natCast, e6]
    try dsimp only
    rw [e7]
    try dsimp only
    rw [hkk3, Int.toNat_natCast, e8]
    try dsimp only
    rw [e9]
    try dsimp only
    rw [hkk4, Int.toNat_natCast, e10]
    try dsimp only
    rw [e11]
    try dsimp only
    rw [e12]
    try dsimp only
    rw [e13, hU]
    rfl
  rw [hv]
  exact ax_turn (turn_cells 1 (cs' := cFont ⟨U, gl.1, ch.1, lk.1, ft.1, A.1, rg.1, fu.1, cv.1⟩) rfl fun σ vs h => VLs.vrs (a := [I64 U, .vec q4 9 (gl.1.map cGlyph), .imm 2 (ch.1.map cChar), .imm 3 (lk.1.map cLookup), .vec q6 2 (ft.1.map cFeature), .imm 4 (A.1.map cAxis), .imm 1 (rg.1.map cRegion), .imm 1 (fu.1.map cCode), .imm 1 (ints cv.1)]) (b := cFont ⟨U, gl.1, ch.1, lk.1, ft.1, A.1, rg.1, fu.1, cv.1⟩) ⟨VLe.refl _, VLe.im, VLe.refl _, VLe.refl _, VLe.im, VLe.refl _, VLe.refl _, VLe.refl _, VLe.refl _, trivial⟩ h) (ax_retS ttok 1 [] rfl rfl rfl rfl rfl (List.nil_sublist _) rfl)
end Go.Proofs.YtpbinloeemebkaaGreat
