/-
  The maker: lookups.
-/
import Derived.Test.YtpbinloeemebkaaGreatM21
import Derived.Test.YtpbinloeemebkaaGreatM16
namespace Go.Proofs.YtpbinloeemebkaaGreat
open Go.RowKit
attribute [local irreducible] AT ATL AX AO Av Kt ALoopK OkA DA DA1
variable (s : List Int) (hs : s.length ≤ 1000000) (F : MF)
include hs
theorem headsD_len (k : Nat) (m : MS) : (headsD s k m).1.1.length = k ∧ (headsD s k m).1.2.length ≤ k := by
  have _ := hs
  clear hs
  induction k with
  | zero => exact ⟨rfl, Nat.le_refl _⟩
  | succ k ih =>
    have : headsD s (k + 1) m = (bnd (dr s 10) fun z => bnd (dr s 3) fun y => ret ((headsD s k m).1.1 ++ [(⟨kindsL.getD z.toNat 0, decide (y = 0), []⟩ : FLookup)], if kindsL.getD z.toNat 0 ≤ 4 then (headsD s k m).1.2 ++ [(k : Int)] else (headsD s k m).1.2)) (headsD s k m).2 := rfl
    rw [this]
    simp only [bnd, ret]
    refine ⟨by simp [ih.1], ?_⟩
    split
    · simp; omega
    · omega
theorem fillD_at (n : Int) (calls : List Int) (l : List FLookup) (k : Nat) (m : MS) : (fillD s n calls l k m).1.length = l.length ∧ ∀ j, k ≤ j → (fillD s n calls l k m).1[j]? = l[j]? := by
  have _ := hs
  clear hs
  induction k with
  | zero => exact ⟨rfl, fun j _ => rfl⟩
  | succ k ih =>
    have : fillD s n calls l (k + 1) m = (match (fillD s n calls l k m).1[k]? with
      | none => ret (fillD s n calls l k m).1
      | some q => if q.Kind ≥ 7 then ret (fillD s n calls l k m).1 else bnd (dr s 3) fun c => bnd (rulesD s n q.Kind calls (1 + c).toNat) fun rs => ret ((fillD s n calls l k m).1.set k { q with Rules := rs })) (fillD s n calls l k m).2 := rfl
    rw [this]
    cases hq : (fillD s n calls l k m).1[k]? with
    | none => exact ⟨ih.1, fun j hj => ih.2 j (by omega)⟩
    | some q =>
      dsimp only
      by_cases h7 : q.Kind ≥ 7
      · rw [if_pos h7]
        exact ⟨ih.1, fun j hj => ih.2 j (by omega)⟩
      · rw [if_neg h7]
        simp only [bnd, ret]
        refine ⟨by rw [List.length_set]; exact ih.1, fun j hj => ?_⟩
        rw [List.getElem?_set_ne (by omega)]
        exact ih.2 j (by omega)
theorem rulesD_len (n kind : Int) (calls : List Int) (k : Nat) (m : MS) : (rulesD s n kind calls k m).1.length = k := by
  have _ := hs
  clear hs
  induction k with
  | zero => rfl
  | succ k ih =>
    have : rulesD s n kind calls (k + 1) m = ((rulesD s n kind calls k m).1 ++ [(ruleD s n kind calls (rulesD s n kind calls k m).2).1], (ruleD s n kind calls (rulesD s n kind calls k m).2).2) := rfl
    rw [this]
    simp [ih]
abbrev withLk (F : MF) (v : AV) : MF := { F with lk := v }
set_option maxHeartbeats 16000000 in
theorem lookups_ac {kg : Option (Nat × Nat)} {gl : List (List AV)} (hF : F.gl = .vec kg 9 gl) (hl : F.lk = nilV) (n : Nat) (hn : gl.length = n) (h0 : 0 < n ∧ n ≤ 1000) (b : Nat) (m : MS) : AC Tryz.prog 66 [Ptr b] [mkB b s F m] fun _ L => L = [mkB b s (withLk F (.imm 3 ((lookupsD s n m).1.map cLookup))) (lookupsD s n m).2] := by
  refine ac_of Tryz.func66 rfl Tryz.ntmps66 rfl fun B => ?_
  (repeat' (first|refine at_seq ?_|refine at_region ?_|refine n_run ttok rfl rfl ?_|fail))
  refine n_next ?_
  have hk := draw_bd s hs m.a (n := 7) (by omega)
  have hk : 0 ≤ (dr s 7 m).1 ∧ (dr s 7 m).1 < 7 := hk
  generalize e1 : dr s 7 m = p1 at hk ⊢
  obtain ⟨k, hkk⟩ : ∃ k : Nat, p1.1 = k := ⟨p1.1.toNat, by omega⟩
  rw [hkk]
  have hFF : F = withLk F nilV := by
    cases F
    simp only at hl
    rw [hl]
  rw [hFF]
  (repeat' (first|refine at_seq ?_|refine at_region ?_|refine at_block ?_|refine ax_then ?_|refine atl_nil ?_|refine n_run ttok rfl rfl ?_|fail))
  refine at_turn (turn_val (t := 3) (c' := .vec none 1 []) rfl fun σ v h => vr_nil 1 h) ?_
  refine at_loopK [0, 2] (α := Nat × Option (Nat × Nat) × Option (Nat × List AV × Nat)) (fun x => [(4, I64 x.1), (3, .vec x.2.1 1 (ints (headsD s x.1 p1.2).1.2))]) (fun x => x.1 ≤ k ∧ lkRow x.1 0 (headsD s x.1 p1.2).1.1 x.2.2) (fun x => mkB b s (withLk F (lkV x.1 x.2.2)) (headsD s x.1 p1.2).2 :: (lkBx x.2.2 ++ (tok x.2.1 3 1 (ints (headsD s x.1 p1.2).1.2).length ++ []))) (fun x => k - x.1) (0, none, none) rfl ⟨rfl, rfl, trivial⟩ ⟨Nat.zero_le _, rfl⟩ (fun _ _ h => by simpa [headsD, runs, ret, tok, ints, lkBx, lkV] using h) ?_
  rintro ⟨i, q, o⟩ ⟨hi, ho⟩
  dsimp only at hi ho ⊢
  have hln := headsD_len s hs i p1.2
  try dsimp only [List.cons_append, List.nil_append, List.map_cons, List.map_nil]
  (repeat' (first|refine at_seq ?_|refine at_region ?_|refine ax_then ?_|refine atl_nil ?_|refine n_run ttok rfl rfl ?_|fail))
  refine at_cond rfl (fun h => ?_) (fun h => ?_)
  · have hil : i < k := by have := of_decide_eq_true h; omega
    have hstep : headsD s (i + 1) p1.2 = (bnd (dr s 10) fun z => bnd (dr s 3) fun y => ret ((headsD s i p1.2).1.1 ++ [(⟨kindsL.getD z.toNat 0, decide (y = 0), []⟩ : FLookup)], if kindsL.getD z.toNat 0 ≤ 4 then (headsD s i p1.2).1.2 ++ [(i : Int)] else (headsD s i p1.2).1.2)) (headsD s i p1.2).2 := rfl
    generalize headsD s i p1.2 = st at hln ho hstep ⊢
    have hil2 : (ints st.1.2).length = st.1.2.length := ints_len _
    (repeat' (first|refine at_seq ?_|refine at_region ?_|refine at_block ?_|refine at_skip ?_|refine ax_then ?_|refine n_run ttok rfl rfl ?_|refine n_litI ttok ?_|fail))
    refine n_next ?_
    have hz := draw_bd s hs st.2.a (n := 10) (by omega)
    have hz : 0 ≤ (dr s 10 st.2).1 ∧ (dr s 10 st.2).1 < 10 := hz
    unfold bnd at hstep
    generalize dr s 10 st.2 = z at hz hstep ⊢
    dsimp only at hstep
    have hzk : (ints kindsL)[z.1.toNat]? = some [I64 (kindsL.getD z.1.toNat 0)] := ints_get (by rw [List.getD_eq_getElem?_getD, List.getElem?_eq_getElem (show z.1.toNat < kindsL.length by simp [kindsL]; omega)]; rfl)
    generalize hkd : kindsL.getD z.1.toNat 0 = kd at hzk hstep
    (repeat' (first|refine at_seq ?_|refine ax_then ?_|refine atl_nil ?_|refine n_run ttok rfl rfl ?_|(apply s_index; first|refine n_index ttok ?_|refine n_indexP ttok ?_)|fail))
    refine at_drawG [(b, 5, lkV i o)] 13 [(0, .v), (1, .v), (2, .v), (3, .v), (4, .v), (5, .k), (6, .v), (7, .v), (8, .f), (9, .v), (10, .v), (11, .v), (12, .e)] none ?_ trivial rfl (by kernel_rfl) (by kernel_rfl) (by kernel_rfl) mixed (by kernel_rfl) rfl
    (repeat' (first|refine da_open ?_|refine d_run ttok ?_|fail))
    refine d_loadK ttok 0 rfl rfl rfl (kept_cons 0 rfl rfl kept_nil) (by first | trivial | rfl) ?_
    (repeat' (first|refine da_open ?_|refine d_run ttok ?_|fail))
    refine d_nextK (kept_cons 0 rfl rfl kept_nil) ?_
    generalize dr s 3 z.2 = y at hstep ⊢
    (repeat' (first|refine da_open ?_|refine d_run ttok ?_|refine d_lit ttok ?_|fail))
    have hst1 : st.1.1.length = i := hln.1
    rcases o with _ | ⟨ob, ocs, ocap⟩
    · have hi0 : i = 0 := ho
      subst hi0
      refine d_appendWN ttok rfl rfl rfl rfl rfl rfl rfl (by first | trivial | rfl) fun b' cs' cap' h1 h2 h3 h4 => ?_
      have hrow : lkRow (0 + 1) 0 (st.1.1 ++ [⟨kd, decide (y.1 = 0), []⟩]) (some (b', cs', cap')) := by
        refine ⟨h1, by omega, h4, ?_⟩
        rw [List.eq_nil_of_length_eq_zero (by omega : st.1.1.length = 0)]
        exact h2
      refine da_end [0, 2, 3, 4, 5, 21, 33] rfl rfl ?_
      refine atl_turn (turn_perm (L' := mkB b s (withLk F (lkV 0 none)) y.2 :: (lkBx (some (b', cs', cap')) ++ (tok q 3 1 (ints st.1.2).length ++ []))) (List.Perm.swap _ _ _)) ?_
      (repeat' (first|refine at_seq ?_|refine at_region ?_|refine ax_then ?_|refine atl_nil ?_|refine n_run ttok rfl rfl ?_|(apply s_store; first|refine n_store ttok 0 rfl rfl rfl rfl rfl rfl rfl ?_|refine n_store ttok 1 rfl rfl rfl rfl rfl rfl rfl ?_|refine n_store ttok 2 rfl rfl rfl rfl rfl rfl rfl ?_|refine n_store ttok 3 rfl rfl rfl rfl rfl rfl rfl ?_|fail)|fail))
      refine at_cond rfl (fun hk4 => ?_) (fun hk4 => ?_)
      · rw [if_pos (of_decide_eq_true hk4)] at hstep
        dsimp only [ret] at hstep
        (repeat' (first|refine at_region ?_|refine n_run ttok rfl rfl ?_|refine n_litI ttok ?_|fail))
        refine n_append ttok _ rfl rfl rfl rfl (p_t1 (A := [_, _])) (by simp [ints_len]; omega) (by simp [ints_len]; omega) rfl fun q' => ?_
        refine atl_turn (turn_perm (p_t1 (A := [_, _])).symm) ?_
        (repeat' (first|refine at_region ?_|refine ax_then ?_|refine ax_blk ?_|refine atl_nil ?_|refine n_run ttok rfl rfl ?_|(apply s_bin; refine n_bin ?_)|fail))
        exact ax_roundK (0 + 1, q', some (b', cs', cap')) rfl ⟨rfl, by rw [hstep]; dsimp only; rw [show ints (st.1.2 ++ [((0 : Nat) : Int)]) = ints st.1.2 ++ [[I64 ((0 : Nat) : Int)]] from List.map_append ..]; rfl, trivial⟩ ⟨by dsimp only; omega, by rw [hstep]; exact hrow⟩ (by dsimp only; omega) (fun _ _ h => by dsimp only; rw [hstep]; dsimp only; rw [show ints (st.1.2 ++ [((0 : Nat) : Int)]) = ints st.1.2 ++ [[I64 ((0 : Nat) : Int)]] from List.map_append ..]; exact h)
      · rw [if_neg (of_decide_eq_false hk4)] at hstep
        dsimp only [ret] at hstep
        (repeat' (first|refine at_region ?_|refine at_skip ?_|refine ax_then ?_|refine ax_blk ?_|refine atl_nil ?_|refine n_run ttok rfl rfl ?_|(apply s_bin; refine n_bin ?_)|fail))
        exact ax_roundK (0 + 1, q, some (b', cs', cap')) rfl ⟨rfl, by rw [hstep]; rfl, trivial⟩ ⟨by dsimp only; omega, by rw [hstep]; exact hrow⟩ (by dsimp only; omega) (fun _ _ h => by dsimp only; rw [hstep]; exact h)
    · obtain ⟨ho1, ho2, ho3, ho4⟩ := ho
      refine d_appendW ttok 1 rfl rfl rfl rfl rfl rfl rfl ho1 ho2 ho3 (by unfold maxLen; omega) (by omega) (by first | trivial | rfl) fun b' cs' cap' h1 h2 h3 h4 => ?_
      have hrow : lkRow (i + 1) 0 (st.1.1 ++ [⟨kd, decide (y.1 = 0), []⟩]) (some (b', cs', cap')) := by
        refine ⟨h1, h3, h4, ?_⟩
        rw [h2, ho4, lk_snoc]
        rfl
      refine da_end [0, 2, 3, 4, 5, 21, 33] rfl rfl ?_
      refine atl_turn (turn_perm (L' := mkB b s (withLk F (lkV i (some (ob, ocs, ocap)))) y.2 :: (lkBx (some (b', cs', cap')) ++ (tok q 3 1 (ints st.1.2).length ++ []))) (List.Perm.swap _ _ _)) ?_
      (repeat' (first|refine at_seq ?_|refine at_region ?_|refine ax_then ?_|refine atl_nil ?_|refine n_run ttok rfl rfl ?_|(apply s_store; first|refine n_store ttok 0 rfl rfl rfl rfl rfl rfl rfl ?_|refine n_store ttok 1 rfl rfl rfl rfl rfl rfl rfl ?_|refine n_store ttok 2 rfl rfl rfl rfl rfl rfl rfl ?_|refine n_store ttok 3 rfl rfl rfl rfl rfl rfl rfl ?_|fail)|fail))
      refine at_cond rfl (fun hk4 => ?_) (fun hk4 => ?_)
      · rw [if_pos (of_decide_eq_true hk4)] at hstep
        dsimp only [ret] at hstep
        (repeat' (first|refine at_region ?_|refine n_run ttok rfl rfl ?_|refine n_litI ttok ?_|fail))
        refine n_append ttok _ rfl rfl rfl rfl (p_t1 (A := [_, _])) (by simp [ints_len]; omega) (by simp [ints_len]; omega) rfl fun q' => ?_
        refine atl_turn (turn_perm (p_t1 (A := [_, _])).symm) ?_
        (repeat' (first|refine at_region ?_|refine ax_then ?_|refine ax_blk ?_|refine atl_nil ?_|refine n_run ttok rfl rfl ?_|(apply s_bin; refine n_bin ?_)|fail))
        exact ax_roundK (i + 1, q', some (b', cs', cap')) rfl ⟨by rw [Int.natCast_add]; rfl, by rw [hstep]; dsimp only; rw [show ints (st.1.2 ++ [(i : Int)]) = ints st.1.2 ++ [[I64 (i : Int)]] from List.map_append ..]; rfl, trivial⟩ ⟨by dsimp only; omega, by rw [hstep]; exact hrow⟩ (by dsimp only; omega) (fun _ _ h => by dsimp only; rw [hstep]; dsimp only; rw [show ints (st.1.2 ++ [(i : Int)]) = ints st.1.2 ++ [[I64 (i : Int)]] from List.map_append ..]; exact h)
      · rw [if_neg (of_decide_eq_false hk4)] at hstep
        dsimp only [ret] at hstep
        (repeat' (first|refine at_region ?_|refine at_skip ?_|refine ax_then ?_|refine ax_blk ?_|refine atl_nil ?_|refine n_run ttok rfl rfl ?_|(apply s_bin; refine n_bin ?_)|fail))
        exact ax_roundK (i + 1, q, some (b', cs', cap')) rfl ⟨by rw [Int.natCast_add]; rfl, by rw [hstep]; rfl, trivial⟩ ⟨by dsimp only; omega, by rw [hstep]; exact hrow⟩ (by dsimp only; omega) (fun _ _ h => by dsimp only; rw [hstep]; exact h)
  have hil : i = k := by have := of_decide_eq_false h; omega
  subst hil
  have hhd := headsD_ok s i p1.2
  generalize e2 : headsD s i p1.2 = st at hln ho hhd ⊢
  have hv : lookupsD s n m = fillD s n st.1.2 st.1.1 i st.2 := by
    unfold lookupsD bnd
    rw [e1]
    dsimp only
    rw [hkk, Int.toNat_natCast, e2]
  rw [hv]
  have hfi := fun j => fillD_at s hs n st.1.2 st.1.1 j st.2
  (repeat' (first|refine at_seq ?_|refine at_region ?_|refine at_block ?_|refine at_exit ?_|refine ax_then ?_|refine ax_then_exit ?_|refine ax_blk_exit ?_|refine ax_loop_exit ?_|refine atl_nil ?_|refine n_run ttok rfl rfl ?_|fail))
  refine at_turn (turn_sub (L' := mkB b s (withLk F (lkV i o)) st.2 :: (lkBx o ++ [])) (List.Sublist.cons_cons _ ((List.nil_sublist _).append_left _))) ?_
  rcases o with _ | ⟨ob, ocs, ocap⟩
  · have hi0 : i = 0 := ho
    subst hi0
    refine at_loopK [0, 2, 3] (α := Unit) (fun _ => [(6, I64 0)]) (fun _ => True) (fun _ => [mkB b s (withLk F nilV) st.2]) (fun _ => 0) () rfl ⟨rfl, trivial⟩ trivial (fun _ _ h => h) ?_
    intro _ _
    try dsimp only [List.cons_append, List.nil_append, List.map_cons, List.map_nil]
    (repeat' (first|refine at_seq ?_|refine at_region ?_|refine at_exit ?_|refine ax_then ?_|refine ax_then_exit ?_|refine ax_blk_exit ?_|refine ax_loop_exit ?_|refine atl_nil ?_|refine n_run ttok rfl rfl ?_|refine n_condF rfl ?_|fail))
    have hnil : (fillD s n st.1.2 st.1.1 0 st.2).1 = [] := List.eq_nil_of_length_eq_zero (by rw [(hfi 0).1]; exact hln.1)
    refine ax_turn (turn_cells 0 (cs' := mkC s (withLk F (.imm 3 [])) st.2) rfl fun σ vs h => vrs_set (k := 5) (c := nilV) h rfl fun v hv => vr_nilI 3 hv) (ax_end0 rfl ?_)
    rw [hnil]
    rfl
  refine at_loopK [0, 2, 3] (α := Nat × List AV) (fun x => [(6, I64 x.1)]) (fun x => x.1 ≤ i ∧ lkRow i x.1 (fillD s n st.1.2 st.1.1 x.1 st.2).1 (some (ob, x.2, ocap))) (fun x => [mkB b s (withLk F (lkV i (some (ob, ocs, ocap)))) (fillD s n st.1.2 st.1.1 x.1 st.2).2, (ob, .box x.2 70)]) (fun x => i - x.1) (0, ocs) rfl ⟨rfl, trivial⟩ ⟨Nat.zero_le _, ho⟩ (fun _ _ h => h) ?_
  rintro ⟨j, cs⟩ ⟨hj, h1, h2, h3, h4⟩
  dsimp only at hj h1 h2 h3 h4 ⊢
  try dsimp only [List.cons_append, List.nil_append, List.map_cons, List.map_nil]
  (repeat' (first|refine at_seq ?_|refine at_region ?_|refine ax_then ?_|refine atl_nil ?_|refine n_run ttok rfl rfl ?_|fail))
  refine at_cond rfl (fun h => ?_) (fun h => ?_)
  · have hji : j < i := by have := of_decide_eq_true h; omega
    have hfj := hfi j
    have hstep : fillD s n st.1.2 st.1.1 (j + 1) st.2 = (match (fillD s n st.1.2 st.1.1 j st.2).1[j]? with
      | none => ret (fillD s n st.1.2 st.1.1 j st.2).1
      | some q => if q.Kind ≥ 7 then ret (fillD s n st.1.2 st.1.1 j st.2).1 else bnd (dr s 3) fun c => bnd (rulesD s n q.Kind st.1.2 (1 + c).toNat) fun rs => ret ((fillD s n st.1.2 st.1.1 j st.2).1.set j { q with Rules := rs })) (fillD s n st.1.2 st.1.1 j st.2).2 := rfl
    generalize fillD s n st.1.2 st.1.1 j st.2 = T at hfj h4 hstep ⊢
    have hTl : T.1.length = i := by rw [hfj.1]; exact hln.1
    obtain ⟨q, hq⟩ : ∃ q, T.1[j]? = some q := ⟨_, List.getElem?_eq_getElem (by omega)⟩
    have hq2 : st.1.1[j]? = some q := by rw [← hfj.2 j (Nat.le_refl _)]; exact hq
    have hqm := List.mem_of_getElem? hq2
    have hqk := hhd.kinds q hqm
    have hqn := hhd.none q hqm
    rw [hq] at hstep
    dsimp only at hstep
    have hcell : ∀ c, c < 3 → cs[j * 3 + c]? = (lkCells j j q)[c]? := fun c hc => by
      have e := lk_get j T.1 0 j c hc
      rw [hq, Option.bind_some, Nat.zero_add, ← h4, List.getElem?_take, if_pos (by omega)] at e
      exact e
    have hP : ∀ c, 0 + ((j : Int)).toNat * 3 + c = j * 3 + c := fun c => by rw [Int.toNat_natCast]; omega
    have hc0 : cs[0 + ((j : Int)).toNat * 3 + 0]? = some (I64 q.Kind) := by rw [hP]; exact hcell 0 (by omega)
    have hc2 : cs[0 + ((j : Int)).toNat * 3 + 2]? = some nilV := by
      rw [hP, hcell 2 (by omega)]
      simp [lkCells]
    have hPl : 0 + ((j : Int)).toNat * 3 + 2 < cs.length := (List.getElem?_eq_some_iff.1 hc2).1
    (repeat' (first|refine at_seq ?_|refine at_region ?_|refine at_block ?_|refine at_skip ?_|refine ax_then ?_|refine atl_nil ?_|refine n_run ttok rfl rfl ?_|(apply s_load; first|refine n_load ttok 0 rfl rfl rfl rfl rfl ?_|refine n_load ttok 1 rfl rfl rfl rfl rfl ?_|refine n_load ttok 2 rfl rfl rfl rfl rfl ?_|refine n_load ttok 3 rfl rfl rfl rfl rfl ?_|refine n_loadA ttok 0 rfl rfl rfl rfl rfl ?_|refine n_loadA ttok 1 rfl rfl rfl rfl rfl ?_|refine n_loadA ttok 2 rfl rfl rfl rfl rfl ?_|refine n_load ttok 1 rfl rfl rfl (by assumption) rfl ?_|refine n_load ttok 0 rfl rfl rfl (by assumption) rfl ?_|fail)|(apply s_index; first|refine n_index ttok ?_|refine n_indexP ttok ?_)|fail))
    refine at_cond rfl (fun h7 => ?_) (fun h7 => ?_)
    · have h7 := of_decide_eq_true h7
      rw [if_pos (show q.Kind ≥ 7 from h7)] at hstep
      (repeat' (first|refine at_region ?_|refine at_exit ?_|refine ax_then ?_|refine ax_then_exit ?_|refine ax_blk_exit ?_|refine atl_nil ?_|refine n_run ttok rfl rfl ?_|(apply s_bin; refine n_bin ?_)|fail))
      refine ax_turn (turn_cells 1 (cs' := cs.set (0 + ((j : Int)).toNat * 3 + 2) (.imm 6 [])) rfl fun σ vs h => vrs_set h hc2 fun v hv => vr_nilI 6 hv) ?_
      exact ax_roundK (j + 1, cs.set (0 + ((j : Int)).toNat * 3 + 2) (.imm 6 [])) rfl ⟨by rw [Int.natCast_add]; rfl, trivial⟩ ⟨by dsimp only; omega, by dsimp only; rw [List.length_set]; exact h1, h2, h3, by rw [hstep, hP]; dsimp only [ret]; rw [List.take_set, h4]; exact lk_same hq hqn⟩ (by dsimp only; omega) (fun _ _ h => by dsimp only; rw [hstep]; exact h)
    have h7 := of_decide_eq_false h7
    rw [if_neg (show ¬ q.Kind ≥ 7 from h7)] at hstep
    unfold bnd at hstep
    (repeat' (first|refine at_seq ?_|refine at_region ?_|refine at_skip ?_|refine ax_then ?_|refine n_run ttok rfl rfl ?_|fail))
    refine n_next ?_
    have hc := draw_bd s hs T.2.a (n := 3) (by omega)
    have hc : 0 ≤ (dr s 3 T.2).1 ∧ (dr s 3 T.2).1 < 3 := hc
    generalize dr s 3 T.2 = p2 at hc hstep ⊢
    dsimp only at hstep
    obtain ⟨c, hcc⟩ : ∃ k : Nat, 1 + p2.1 = k := ⟨(1 + p2.1).toNat, by omega⟩
    rw [hcc, Int.toNat_natCast] at hstep
    (repeat' (first|refine at_seq ?_|refine at_region ?_|refine at_block ?_|refine ax_then ?_|refine atl_nil ?_|refine n_run ttok rfl rfl ?_|(apply s_bin; refine n_bin ?_)|fail))
    rw [hcc]
    refine at_turn (turn_cells 1 (cs' := cs.set (0 + ((j : Int)).toNat * 3 + 2) (.vec none 6 [])) rfl fun σ vs h => vrs_set h hc2 fun v hv => vr_nil 6 hv) ?_
    refine at_loopK [0, 2, 3, 6, 7] (α := Nat × Option (Nat × Nat)) (fun x => [(8, I64 x.1)]) (fun x => x.1 ≤ c) (fun x => [mkB b s (withLk F (lkV i (some (ob, ocs, ocap)))) (rulesD s n q.Kind st.1.2 x.1 p2.2).2, (ob, .box (cs.set (0 + ((j : Int)).toNat * 3 + 2) (.vec x.2 6 ((rulesD s n q.Kind st.1.2 x.1 p2.2).1.map cRule))) 70)] ++ (tok x.2 89 6 ((rulesD s n q.Kind st.1.2 x.1 p2.2).1.map cRule).length ++ [])) (fun x => c - x.1) (0, none) rfl ⟨rfl, trivial⟩ (Nat.zero_le _) (fun _ _ h => h) ?_
    rintro ⟨r, qv⟩ hr
    dsimp only at hr ⊢
    have hrl := rulesD_len s hs n q.Kind st.1.2 r p2.2
    have hrs : rulesD s n q.Kind st.1.2 (r + 1) p2.2 = ((rulesD s n q.Kind st.1.2 r p2.2).1 ++ [(ruleD s n q.Kind st.1.2 (rulesD s n q.Kind st.1.2 r p2.2).2).1], (ruleD s n q.Kind st.1.2 (rulesD s n q.Kind st.1.2 r p2.2).2).2) := rfl
    try dsimp only [List.cons_append, List.nil_append, List.map_cons, List.map_nil]
    (repeat' (first|refine at_seq ?_|refine at_region ?_|refine ax_then ?_|refine atl_nil ?_|refine n_run ttok rfl rfl ?_|fail))
    refine at_cond rfl (fun h => ?_) (fun h => ?_)
    · have hrc : r < c := by have := of_decide_eq_true h; omega
      generalize rulesD s n q.Kind st.1.2 r p2.2 = R at hrl hrs ⊢
      have hset : (cs.set (0 + ((j : Int)).toNat * 3 + 2) (.vec qv 6 (R.1.map cRule)))[0 + ((j : Int)).toNat * 3 + 2]? = some (.vec qv 6 (R.1.map cRule)) := List.getElem?_set_self hPl
      have hset0 : (cs.set (0 + ((j : Int)).toNat * 3 + 2) (.vec qv 6 (R.1.map cRule)))[0 + ((j : Int)).toNat * 3 + 0]? = some (I64 q.Kind) := by rw [List.getElem?_set_ne (by omega)]; exact hc0
      have hRl : (R.1.map cRule).length = R.1.length := List.length_map ..
      (repeat' (first|refine at_seq ?_|refine at_block ?_|refine at_skip ?_|refine ax_then ?_|fail))
      refine at_drawG [(b, 5, lkV i (some (ob, ocs, ocap))), (ob, 0 + ((j : Int)).toNat * 3 + 2, .vec qv 6 (R.1.map cRule))] 29 [(0, .v), (1, .v), (2, .v), (3, .v), (4, .k), (5, .v), (6, .v), (7, .v), (8, .v), (9, .v), (10, .k), (11, .v), (12, .v), (13, .v), (14, .k), (15, .v), (16, .v), (17, .v), (18, .v), (19, .v), (20, .l), (21, .v), (22, .v), (23, .v), (24, .l), (25, .v), (26, .f), (27, .v), (28, .f)] none ?_ trivial rfl (by kernel_rfl) (by kernel_rfl) (by kernel_rfl) mixed (by kernel_rfl) rfl
      have hkeep : ∀ m' Z, keptA [(b, 5, lkV i (some (ob, ocs, ocap))), (ob, 0 + ((j : Int)).toNat * 3 + 2, .vec qv 6 (R.1.map cRule))] (mkB b s (withLk F (lkV i (some (ob, ocs, ocap)))) m' :: (ob, .box (cs.set (0 + ((j : Int)).toNat * 3 + 2) (.vec qv 6 (R.1.map cRule))) 70) :: Z) := fun m' Z => kept_cons 0 rfl rfl (kept_cons 1 rfl hset kept_nil)
      (repeat' (first|refine da_open ?_|refine d_run ttok ?_|fail))
      refine d_loadK ttok 0 rfl rfl rfl (hkeep _ _) (by first | trivial | rfl) ?_
      (repeat' (first|refine da_open ?_|refine d_run ttok ?_|fail))
      refine d_loadK ttok 0 rfl rfl rfl (hkeep _ _) (by first | trivial | rfl) ?_
      (repeat' (first|refine da_open ?_|refine d_run ttok ?_|fail))
      refine d_indexP ttok rfl rfl rfl (by omega) (by first | trivial | rfl) ?_
      (repeat' (first|refine da_open ?_|refine d_run ttok ?_|fail))
      refine d_loadK ttok 1 rfl rfl rfl (hkeep _ _) (by first | trivial | rfl) ?_
      (repeat' (first|refine da_open ?_|refine d_run ttok ?_|refine d_load ttok 0 rfl rfl rfl rfl (by first|trivial|rfl) ?_|fail))
      refine d_indexP ttok rfl rfl rfl (by omega) (by first | trivial | rfl) ?_
      (repeat' (first|refine da_open ?_|refine d_run ttok ?_|fail))
      refine d_load ttok 1 rfl rfl rfl hset0 (by first | trivial | rfl) ?_
      (repeat' (first|refine da_open ?_|refine d_run ttok ?_|fail))
      refine d_mdK (rule_mdet s hs (withLk F (lkV i (some (ob, ocs, ocap)))) hF n hn h0 q.Kind (by omega) st.1.2 (by omega)) (hkeep _ _) ?_
      generalize ruleD s n q.Kind st.1.2 R.2 = y at hrs ⊢
      unfold ruleA
      (repeat' (first|refine da_open ?_|refine d_lit ttok ?_|fail))
      refine d_appendF ttok _ rfl rfl rfl rfl (p_t1 (A := [_, _])) (by simp; omega) (by simp; omega) (hkeep _ _) (by first | trivial | rfl) fun q' => ?_
      refine da_end [0, 2, 3, 6, 7, 8, 70, 71, 94] rfl rfl ?_
      refine atl_turn (turn_perm (p_t1 (A := [_, _])).symm) ?_
      (repeat' (first|refine n_run ttok rfl rfl ?_|(apply s_index; first|refine n_index ttok ?_|refine n_indexP ttok ?_)|fail))
      refine n_store ttok 1 rfl rfl rfl rfl rfl rfl (by rw [Nat.ble_eq, List.length_set]; exact hPl) ?_
      (repeat' (first|refine at_region ?_|refine ax_then ?_|refine ax_blk ?_|refine atl_nil ?_|refine n_run ttok rfl rfl ?_|(apply s_bin; refine n_bin ?_)|fail))
      exact ax_roundK (r + 1, q') rfl ⟨by rw [Int.natCast_add]; rfl, trivial⟩ (by dsimp only; omega) (by dsimp only; omega) (fun _ _ h => by dsimp only; rw [hrs]; dsimp only; rw [List.map_append]; simp only [putA, List.set_set] at h; exact h)
    have hrc : r = c := by have := of_decide_eq_false h; omega
    subst hrc
    generalize rulesD s n q.Kind st.1.2 r p2.2 = R at hrl hstep ⊢
    have hset : (cs.set (0 + ((j : Int)).toNat * 3 + 2) (.vec qv 6 (R.1.map cRule)))[0 + ((j : Int)).toNat * 3 + 2]? = some (.vec qv 6 (R.1.map cRule)) := List.getElem?_set_self hPl
    (repeat' (first|refine at_region ?_|refine at_exit ?_|refine ax_then ?_|refine ax_then_exit ?_|refine ax_blk ?_|refine ax_blk_exit ?_|refine ax_loop_exit ?_|refine atl_nil ?_|refine n_run ttok rfl rfl ?_|(apply s_bin; refine n_bin ?_)|fail))
    refine ax_turn (turn_sub (L' := [mkB b s (withLk F (lkV i (some (ob, ocs, ocap)))) R.2, (ob, .box (cs.set (0 + ((j : Int)).toNat * 3 + 2) (.vec qv 6 (R.1.map cRule))) 70)]) (List.Sublist.cons_cons _ (List.Sublist.cons_cons _ (List.nil_sublist _)))) ?_
    refine ax_turn (turn_cells 1 (cs' := (cs.set (0 + ((j : Int)).toNat * 3 + 2) (.vec qv 6 (R.1.map cRule))).set (0 + ((j : Int)).toNat * 3 + 2) (.imm 6 (R.1.map cRule))) rfl fun σ vs h => vrs_set h hset fun v hv => VR.im hv) ?_
    rw [List.set_set]
    exact ax_roundK (j + 1, cs.set (0 + ((j : Int)).toNat * 3 + 2) (.imm 6 (R.1.map cRule))) rfl ⟨by rw [Int.natCast_add]; rfl, trivial⟩ ⟨by dsimp only; omega, by dsimp only; rw [List.length_set]; exact h1, h2, h3, by rw [hstep, hP]; dsimp only [ret]; rw [List.take_set, h4]; exact lk_set hq⟩ (by dsimp only; omega) (fun _ _ h => by dsimp only; rw [hstep]; exact h)
  have hji : j = i := by have := of_decide_eq_false h; omega
  subst hji
  generalize hT : fillD s n st.1.2 st.1.1 j st.2 = T at h4 ⊢
  have hTl : T.1.length = j := by rw [← hT, (hfi j).1]; exact hln.1
  (repeat' (first|refine at_exit ?_|refine ax_then_exit ?_|refine ax_blk_exit ?_|refine ax_loop_exit ?_|fail))
  refine ax_turn (turn_perm (List.Perm.swap _ _ _)) ?_
  refine ax_turn (turn_boxC (k := 5) (n := j) (cap := ocap) (l := T.1.map cLookup) rfl (by rw [h4, lk_all _ _ _ (by omega)]) h1 (fun q hq => by
    obtain ⟨x, _, rfl⟩ := List.mem_map.1 hq
    rfl) (by rw [List.length_map]; exact hTl) h2 h3) ?_
  exact ax_end0 rfl rfl
end Go.Proofs.YtpbinloeemebkaaGreat

namespace Go.Proofs.YtpbinloeemebkaaGreat
variable (s : List Int)
def pairA (a : FAnchor) : Int × Int := (a.Kind, a.Class)
structure AncG (cl : Int) (mark : Bool) (l : List FAnchor) : Prop where
  sub : (l.map pairA).Sublist (anchL cl)
  at' : ∀ a ∈ l, (0 ≤ a.X ∧ a.X ≤ 1000) ∧ (-200 ≤ a.Y ∧ a.Y ≤ 800) ∧ (a.Kind = 2 → mark = true)
theorem anch_get {cl : Int} {i : Nat} (h : i < 5) : (anchL cl)[i]? = some ((anchL cl).getD i (0, 0)) := by
  rw [List.getD_eq_getElem?_getD, List.getElem?_eq_getElem (show i < (anchL cl).length from h)]
  rfl
theorem anchorsD_ok (mark : Bool) (cl : Int) : DOk (anchorsD s mark cl 5) (AncG cl mark) := by
  refine (DOk.runs (b := []) (fun i (l : List FAnchor) => (l.map pairA).Sublist ((anchL cl).take i) ∧ ∀ a ∈ l, (0 ≤ a.X ∧ a.X ≤ 1000) ∧ (-200 ≤ a.Y ∧ a.Y ≤ 800) ∧ (a.Kind = 2 → mark = true)) 5 ⟨List.nil_sublist _, fun a ha => by cases ha⟩ fun i l hi ⟨h1, h2⟩ => (DOk.any _).bnd fun z _ => DOk.ite (fun h3 => (dr_ok s (by omega)).bnd fun x hx => (dr_ok s (by omega)).bnd fun y hy => DOk.ret ⟨?_, fun a ha => ?_⟩) fun _ => DOk.ret ⟨?_, h2⟩).mono fun l ⟨h1, h2⟩ => ⟨h1, h2⟩
  · rw [List.take_add_one, anch_get hi, List.map_append]
    exact h1.append (List.Sublist.refl _)
  · rcases List.mem_append.1 ha with ha | ha
    · exact h2 a ha
    · rw [List.mem_singleton.1 ha]
      refine ⟨by dsimp only; omega, by dsimp only; omega, fun hk => ?_⟩
      rcases h3.2 with h4 | h4
      · exact absurd hk h4
      · exact h4
  · rw [List.take_add_one]
    exact h1.trans (List.sublist_append_left _ _)
def ltD (a b : FDelta) : Prop := a.Region < b.Region ∨ (a.Region = b.Region ∧ a.Point < b.Point)
structure DelG (R pts : Nat) (l : List FDelta) : Prop where
  up : l.Pairwise ltD
  len : l.length ≤ R * (pts + 1)
  dom : ∀ d ∈ l, (0 ≤ d.Region ∧ d.Region < R) ∧ (-1 ≤ d.Point ∧ d.Point < pts) ∧ (-20 ≤ d.X ∧ d.X ≤ 20) ∧ (-20 ≤ d.Y ∧ d.Y ≤ 20) ∧ (d.Point = -1 → d.Y = 0)
structure DelI (r p pts : Nat) (l : List FDelta) : Prop where
  up : l.Pairwise ltD
  len : l.length ≤ r * (pts + 1) + p
  dom : ∀ d ∈ l, (0 ≤ d.Region ∧ (d.Region < r ∨ (d.Region = r ∧ d.Point < (p : Int) - 1))) ∧ (-1 ≤ d.Point ∧ d.Point < pts) ∧ (-20 ≤ d.X ∧ d.X ≤ 20) ∧ (-20 ≤ d.Y ∧ d.Y ≤ 20) ∧ (d.Point = -1 → d.Y = 0)
theorem DelI.more {r p pts : Nat} {l : List FDelta} (h : DelI r p pts l) : DelI r (p + 1) pts l := ⟨h.up, by have := h.len; omega, fun d hd => by have := h.dom d hd; omega⟩
theorem DelI.add {r p pts : Nat} {l : List FDelta} (h : DelI r p pts l) {x y : Int} (hp : p ≤ pts) (hx : -20 ≤ x ∧ x ≤ 20) (hy : -20 ≤ y ∧ y ≤ 20) (h0 : p = 0 → y = 0) : DelI r (p + 1) pts (l ++ [⟨r, (p : Int) - 1, x, y⟩]) := by
  refine ⟨?_, by have := h.len; simp; omega, fun d hd => ?_⟩
  · rw [List.pairwise_append]
    refine ⟨h.up, List.pairwise_singleton .., fun a ha b hb => ?_⟩
    rw [List.mem_singleton.1 hb]
    have := h.dom a ha
    unfold ltD
    dsimp only
    omega
  · rcases List.mem_append.1 hd with hd | hd
    · have := h.dom d hd; omega
    · rw [List.mem_singleton.1 hd]
      dsimp only
      refine ⟨by omega, by omega, hx, hy, fun hq => h0 (by omega)⟩
theorem deltasD_ok (pts R : Nat) : DOk (deltasD s pts R) (DelG R pts) := by
  refine (DOk.runs (fun r l => DelI r 0 pts l) R ⟨.nil, by simp, fun d hd => by cases hd⟩ fun r l _ h => ?_).mono fun l h => ⟨h.up, h.len, fun d hd => by have := h.dom d hd; omega⟩
  refine (DOk.runs (fun p l => DelI r p pts l) (pts + 1) h fun p l hp h => (DOk.any _).bnd fun z _ => DOk.ite (fun _ => (dr_ok s (by omega)).bnd fun x hx => DOk.ite (fun h0 => DOk.ret ?_) fun h0 => (dr_ok s (by omega)).bnd fun y hy => DOk.ret ?_) fun _ => DOk.ret h.more).mono fun l h => ⟨h.up, by have := h.len; rw [Nat.add_mul]; omega, fun d hd => by have := h.dom d hd; omega⟩
  · subst h0
    exact h.add (by omega) (by omega) (by omega) fun _ => rfl
  · exact h.add (by omega) (by omega) (by omega) fun e => absurd e h0
structure GlyG (R n : Nat) (g : FGlyph) : Prop where
  name : g.Name = glyphName n
  adv : 100 ≤ g.Advance ∧ g.Advance ≤ 1000
  out : ∃ k, k ≤ 2 ∧ OutOk k (g.Points, g.Ends)
  parts : g.Parts = [] ∨ (1 < n ∧ ∃ x y : Int, g.Parts = [⟨1, x, y⟩] ∧ (-200 ≤ x ∧ x ≤ 200) ∧ 0 ≤ y ∧ y ≤ 200)
  anch : ∃ cl, (0 ≤ cl ∧ cl < 2) ∧ AncG cl g.Mark g.Anchors
  dels : DelG R g.Points.length g.Deltas
  hint : codeOk 45 g.Hint
theorem glyphD_ok {R fn n : Nat} (hf : fn ≤ 1000) : DOk (glyphD s R fn n) (GlyG R n) := by
  have hparts : DOk (partsD s n) fun ps => ps = [] ∨ (1 < n ∧ ∃ x y : Int, ps = [⟨1, x, y⟩] ∧ (-200 ≤ x ∧ x ≤ 200) ∧ 0 ≤ y ∧ y ≤ 200) := by
    refine DOk.ite (fun h1 => (DOk.any _).bnd fun z _ => DOk.ite (fun _ => (dr_ok s (by omega)).bnd fun x hx => (dr_ok s (by omega)).bnd fun y hy => DOk.ret (.inr ⟨h1, _, _, rfl, by omega, by omega⟩)) fun _ => DOk.ret (.inl rfl)) fun _ => DOk.ret (.inl rfl)
  refine (dr_ok s (by omega)).bnd fun ad had => (DOk.any _).bnd fun mk _ => (outlineD_ok s).bnd fun o ho => hparts.bnd fun ps hps => (dr_ok s (by omega)).bnd fun cl hcl => (anchorsD_ok s _ cl).bnd fun an han => (deltasD_ok s _ R).bnd fun de hde => (DOk.any _).bnd fun _ _ => ?_
  have hl : o.1.length ≤ 10 := by obtain ⟨k, h1, h2⟩ := ho; have := h2.len; omega
  exact (hintD_ok s (n := o.1.length) (funcs := fn) (most := 6) (by omega) (by omega) (by omega)).bnd fun h hh => DOk.ret ⟨rfl, by dsimp only; omega, ho, hps, ⟨cl, hcl, han⟩, hde, hh⟩
def tentOk (t : FTent) : Prop := tentE 0 t = 0
structure MadeG (f : FFont) : Prop where
  unit : 16 ≤ f.Unit ∧ f.Unit ≤ 4096
  glyN : 2 ≤ f.Glyphs.length ∧ f.Glyphs.length ≤ 10
  gly : ∀ (i : Nat) g, f.Glyphs[i]? = some g → GlyG f.Regions.length i g
  chars : f.Chars.length ≤ 16
  charR : (f.Chars.map FChar.Rune).Sublist runesL
  charG : ∀ c ∈ f.Chars, 0 ≤ c.Glyph ∧ c.Glyph < f.Glyphs.length
  looks : LooksG f.Glyphs.length f.Lookups
  featN : (f.Features.map FFeature.Name).Sublist namesL
  featL : ∀ t ∈ f.Features, t.Lookups.Pairwise (· < ·) ∧ t.Lookups.length ≤ 6 ∧ ∀ z ∈ t.Lookups, 0 ≤ z ∧ z < f.Lookups.length
  axes : f.Axes.length ≤ 2
  axisN : f.Axes.map FAxis.Name = (List.range f.Axes.length).map (letter axNm)
  axis : ∀ a ∈ f.Axes, (-200 ≤ a.Min ∧ a.Min ≤ 0) ∧ a.Def = 0 ∧ 0 ≤ a.Max ∧ a.Max ≤ 300
  regs : f.Regions.length ≤ 3
  reg : ∀ r ∈ f.Regions, r.length = f.Axes.length ∧ ∀ t ∈ r, tentOk t
  funcs : f.Funcs.length ≤ 2
  func : ∀ c ∈ f.Funcs, codeOk 45 c
  cvt : f.Cvt.length ≤ 3
  cvtM : ∀ z ∈ f.Cvt, -100 ≤ z ∧ z < 400
theorem getD_mem {α : Type} {l : List α} {i : Nat} (h : i < l.length) (d : α) : l.getD i d ∈ l := by
  rw [List.getD_eq_getElem?_getD, List.getElem?_eq_getElem h]
  exact List.getElem_mem h
theorem getD_at {α : Type} {l : List α} {i : Nat} (h : i < l.length) (d : α) : l[i]? = some (l.getD i d) := by
  rw [List.getD_eq_getElem?_getD, List.getElem?_eq_getElem h]
  rfl
theorem madeD_ok : DOk (madeD s) MadeG := by
  have hax : ∀ k : Nat, DOk (axesD s k) fun l => l.length = k ∧ l.map FAxis.Name = (List.range k).map (letter axNm) ∧ ∀ a ∈ l, (-200 ≤ a.Min ∧ a.Min ≤ 0) ∧ a.Def = 0 ∧ 0 ≤ a.Max ∧ a.Max ≤ 300 := fun k => by
    refine DOk.runs (fun i (l : List FAxis) => l.length = i ∧ l.map FAxis.Name = (List.range i).map (letter axNm) ∧ ∀ a ∈ l, (-200 ≤ a.Min ∧ a.Min ≤ 0) ∧ a.Def = 0 ∧ 0 ≤ a.Max ∧ a.Max ≤ 300) k ⟨rfl, rfl, fun a ha => by cases ha⟩ fun i l _ ⟨h1, h2, h3⟩ => (dr_ok s (by omega)).bnd fun a ha => (dr_ok s (by omega)).bnd fun b hb => DOk.ret ⟨by simp [h1], by simp [h2, List.range_succ], fun x hx => ?_⟩
    rcases List.mem_append.1 hx with hx | hx
    · exact h3 x hx
    · rw [List.mem_singleton.1 hx]; dsimp only; omega
  have hrg : ∀ k : Nat, DOk (regionsD s k) fun l => l.length ≤ 3 ∧ ∀ r ∈ l, r.length = k ∧ ∀ t ∈ r, tentOk t := fun k => by
    refine DOk.ite (fun _ => DOk.ret ⟨Nat.zero_le _, fun r hr => by cases hr⟩) fun _ => (dr_ok s (by omega)).bnd fun n hn => ?_
    refine (DOk.runs (fun i (l : List (List FTent)) => l.length = i ∧ ∀ r ∈ l, r.length = k ∧ ∀ t ∈ r, tentOk t) n.toNat ⟨rfl, fun a ha => by cases ha⟩ fun i l _ ⟨h1, h2⟩ => ?_).mono fun l ⟨h1, h2⟩ => ⟨by omega, h2⟩
    refine (DOk.runs (fun i (r : List FTent) => r.length = i ∧ ∀ t ∈ r, tentOk t) k ⟨rfl, fun a ha => by cases ha⟩ fun i r _ ⟨h1, h2⟩ => (dr_ok s (by omega)).bnd fun z hz => DOk.ret ⟨by simp [h1], fun x hx => ?_⟩).bnd fun r hr => DOk.ret ⟨by simp [h1], fun x hx => ?_⟩
    · rcases List.mem_append.1 hx with hx | hx
      · exact h2 x hx
      · rw [List.mem_singleton.1 hx]
        have : ∀ t ∈ tentsL, tentOk t := by unfold tentOk; decide
        exact this _ (getD_mem (by simp only [tentsL, List.length_cons, List.length_nil]; omega) _)
    · rcases List.mem_append.1 hx with hx | hx
      · exact h2 x hx
      · rw [List.mem_singleton.1 hx]; exact hr
  have hfu : ∀ k : Nat, k ≤ 1000 → DOk (funcsD s k) fun l => l.length = k ∧ ∀ c ∈ l, codeOk 45 c := fun k hk => by
    refine DOk.runs (fun i (l : List (List FIns)) => l.length = i ∧ ∀ c ∈ l, codeOk 45 c) k ⟨rfl, fun a ha => by cases ha⟩ fun i l hi ⟨h1, h2⟩ => (DOk.any _).bnd fun _ _ => (hintD_ok s (by omega) (by omega) (by omega)).bnd fun h hh => DOk.ret ⟨by simp [h1], fun x hx => ?_⟩
    rcases List.mem_append.1 hx with hx | hx
    · exact h2 x hx
    · rw [List.mem_singleton.1 hx]; exact hh
  have hcv : ∀ k : Nat, DOk (cvtD s k) fun l => l.length = k ∧ ∀ z ∈ l, -100 ≤ z ∧ z < 400 := fun k => by
    refine DOk.runs (fun i (l : List Int) => l.length = i ∧ ∀ z ∈ l, -100 ≤ z ∧ z < 400) k ⟨rfl, fun a ha => by cases ha⟩ fun i l hi ⟨h1, h2⟩ => (dr_ok s (by omega)).bnd fun z hz => DOk.ret ⟨by simp [h1], fun x hx => ?_⟩
    rcases List.mem_append.1 hx with hx | hx
    · exact h2 x hx
    · rw [List.mem_singleton.1 hx]; omega
  have hgl : ∀ R fn k : Nat, fn ≤ 1000 → DOk (glyphsD s R fn k) fun l => l.length = k ∧ ∀ (i : Nat) g, l[i]? = some g → GlyG R i g := fun R fn k hf => by
    refine DOk.runs (fun i (l : List FGlyph) => l.length = i ∧ ∀ (j : Nat) g, l[j]? = some g → GlyG R j g) k ⟨rfl, fun j g h => by simp at h⟩ fun i l hi ⟨h1, h2⟩ => (glyphD_ok s hf).bnd fun g hg => DOk.ret ⟨by simp [h1], fun j x hx => ?_⟩
    rcases Nat.lt_or_ge j l.length with h | h
    · rw [List.getElem?_append_left h] at hx
      exact h2 j x hx
    · have hj := (List.getElem?_eq_some_iff.1 hx).1
      have : j = l.length := by simp at hj; omega
      subst this
      rw [List.getElem?_append_right (Nat.le_refl _), Nat.sub_self] at hx
      cases hx
      rw [h1]
      exact hg
  have hch : ∀ n : Int, 0 < n → DOk (charsD s n 16) fun l => (l.map FChar.Rune).Sublist runesL ∧ ∀ c ∈ l, 0 ≤ c.Glyph ∧ c.Glyph < n := fun n hn => by
    refine (DOk.runs (b := []) (fun i (l : List FChar) => (l.map FChar.Rune).Sublist (runesL.take i) ∧ ∀ c ∈ l, 0 ≤ c.Glyph ∧ c.Glyph < n) 16 ⟨List.nil_sublist _, fun a ha => by cases ha⟩ fun i l hi ⟨h1, h2⟩ => (DOk.any _).bnd fun z _ => DOk.ite (fun _ => (dr_ok s hn).bnd fun g hg => DOk.ret ⟨?_, fun x hx => ?_⟩) fun _ => DOk.ret ⟨?_, h2⟩).mono fun l h => h
    · rw [List.take_add_one, getD_at (l := runesL) (i := i) hi 0, List.map_append]
      exact h1.append (List.Sublist.refl _)
    · rcases List.mem_append.1 hx with hx | hx
      · exact h2 x hx
      · rw [List.mem_singleton.1 hx]; exact hg
    · rw [List.take_add_one]
      exact h1.trans (List.sublist_append_left _ _)
  have hft : ∀ n : Nat, n ≤ 6 → DOk (featsD s n 8) fun l => (l.map FFeature.Name).Sublist namesL ∧ ∀ t ∈ l, t.Lookups.Pairwise (· < ·) ∧ t.Lookups.length ≤ 6 ∧ ∀ z ∈ t.Lookups, 0 ≤ z ∧ z < n := fun n hn => by
    have hask : DOk (askD s n) fun l => l.Pairwise (· < ·) ∧ l.length ≤ n ∧ ∀ z ∈ l, 0 ≤ z ∧ z < n := by
      refine DOk.runs (fun i (l : List Int) => l.Pairwise (· < ·) ∧ l.length ≤ i ∧ ∀ z ∈ l, 0 ≤ z ∧ z < i) n ⟨.nil, Nat.le_refl _, fun a ha => by cases ha⟩ fun i l hi ⟨h1, h2, h3⟩ => (DOk.any _).bnd fun z _ => DOk.ret ?_
      split
      · refine ⟨?_, by simp; omega, fun x hx => ?_⟩
        · rw [List.pairwise_append]
          exact ⟨h1, List.pairwise_singleton .., fun a ha b hb => by rw [List.mem_singleton.1 hb]; have := h3 a ha; omega⟩
        · rcases List.mem_append.1 hx with hx | hx
          · have := h3 x hx; omega
          · rw [List.mem_singleton.1 hx]; omega
      · exact ⟨h1, by omega, fun x hx => by have := h3 x hx; omega⟩
    refine (DOk.runs (b := []) (fun i (l : List FFeature) => (l.map FFeature.Name).Sublist (namesL.take i) ∧ ∀ t ∈ l, t.Lookups.Pairwise (· < ·) ∧ t.Lookups.length ≤ 6 ∧ ∀ z ∈ t.Lookups, 0 ≤ z ∧ z < n) 8 ⟨List.nil_sublist _, fun a ha => by cases ha⟩ fun i l hi ⟨h1, h2⟩ => hask.bnd fun r hr => (DOk.any _).bnd fun z _ => DOk.ret ?_).mono fun l h => h
    split
    · refine ⟨?_, fun x hx => ?_⟩
      · rw [List.take_add_one, getD_at (l := namesL) (i := i) hi ByteArray.empty, List.map_append]
        exact h1.append (List.Sublist.refl _)
      · rcases List.mem_append.1 hx with hx | hx
        · exact h2 x hx
        · rw [List.mem_singleton.1 hx]; exact ⟨hr.1, by have := hr.2.1; dsimp only; omega, hr.2.2⟩
    · rw [List.take_add_one]
      exact ⟨h1.trans (List.sublist_append_left _ _), h2⟩
  refine (dr_ok s (by omega)).bnd fun u hu => (dr_ok s (by omega)).bnd fun k hk => (hax _).bnd fun ax ⟨ha1, ha2, ha3⟩ => (hrg _).bnd fun rg ⟨hr1, hr2⟩ => (dr_ok s (by omega)).bnd fun k2 hk2 => (hfu _ (by omega)).bnd fun fu ⟨hf1, hf2⟩ => (dr_ok s (by omega)).bnd fun k3 hk3 => (hcv _).bnd fun cv ⟨hc1, hc2⟩ => (dr_ok s (by omega)).bnd fun k4 hk4 => (hgl _ _ _ (by omega)).bnd fun gl ⟨hg1, hg2⟩ => (hch gl.length (by omega)).bnd fun ch ⟨hh1, hh2⟩ => (lookupsD_ok s (n := gl.length) (by omega)).bnd fun lk hlk => (hft lk.length hlk.len).bnd fun ft ⟨ht1, ht2⟩ => DOk.ret ?_
  refine ⟨?_, by dsimp only; omega, hg2, ?_, hh1, hh2, hlk, ht1, ht2, by dsimp only; omega, by dsimp only; rw [ha1]; exact ha2, ha3, hr1, fun r hr => ⟨by dsimp only; rw [ha1]; exact (hr2 r hr).1, (hr2 r hr).2⟩, by dsimp only; omega, hf2, by dsimp only; omega, hc2⟩
  · have : ∀ j < 4, 16 ≤ unitsL.getD j 0 ∧ unitsL.getD j 0 ≤ 4096 := by decide
    exact this _ (by omega)
  · have := hh1.length_le
    simpa [runesL] using this
theorem made_ok : MadeG (madeF s) := madeD_ok s ⟨0, 0⟩
end Go.Proofs.YtpbinloeemebkaaGreat
