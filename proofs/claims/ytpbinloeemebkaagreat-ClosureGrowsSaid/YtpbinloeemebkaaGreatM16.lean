/-
  The program: rules, lookups, as check looks at them.
-/
import Derived.Test.YtpbinloeemebkaaGreatM15
import Derived.Test.YtpbinloeemebkaaGreatM14
namespace Go.Proofs.YtpbinloeemebkaaGreat
open Go.RowKit
attribute [local irreducible] AT ATL AX AO Av Kt ALoopK OkA DA DA1
/-- rising -/
def risingB (l : List Int) : Bool := decide (∀ i, i < l.length - 1 → l.getD i 0 < l.getD (i + 1) 0)
theorem getD_get {l : List Int} {i : Nat} {z : Int} (h : l[i]? = some z) : l.getD i 0 = z := by simp [h]
theorem rising_det (l : List Int) : ADet Tryz.prog 275 [.imm 1 (ints l)] (Bol (risingB l)) := by
  refine ac_of Tryz.func275 rfl Tryz.ntmps275 rfl fun B => ?_
  refine at_len 0 rfl rfl fun hlen => ?_
  have hll := ints_len l
  rw [ints_len] at hlen
  (repeat' (first|refine at_seq ?_|refine at_region ?_|refine at_block ?_|refine ax_then ?_|refine atl_nil ?_|refine n_run ttok rfl rfl ?_|fail))
  refine at_loopK [0] (α := Nat) (fun i => [(3, I64 (i + 1 : Nat))]) (fun i => i ≤ l.length ∧ ∀ j, j < i → j + 1 < l.length → l.getD j 0 < l.getD (j + 1) 0) (fun _ => []) (fun i => l.length - i) 0 rfl ⟨rfl, trivial⟩ ⟨Nat.zero_le _, fun j hj => absurd hj (Nat.not_lt_zero _)⟩ (fun _ _ h => h) fun i ⟨hi, hall⟩ => ?_
  try dsimp only [List.cons_append, List.nil_append, List.map_cons, List.map_nil]
  (repeat' (first|refine at_seq ?_|refine at_region ?_|refine ax_then ?_|refine atl_nil ?_|refine n_run ttok rfl rfl ?_|fail))
  refine at_cond rfl (fun h => ?_) (fun h => ?_)
  · have hil : i + 1 < l.length := by have := of_decide_eq_true h; rw [ints_len] at this; omega
    obtain ⟨y, hy⟩ : ∃ z, l[i]? = some z := ⟨_, List.getElem?_eq_getElem (by omega)⟩
    obtain ⟨z, hz⟩ : ∃ z, l[i + 1]? = some z := ⟨_, List.getElem?_eq_getElem hil⟩
    have hyg : (ints l)[(((i + 1 : Nat) : Int) - 1).toNat]? = some [I64 y] := by rw [show (((i + 1 : Nat) : Int) - 1).toNat = i by omega]; exact ints_get hy
    have hzg := ints_get hz
    (repeat' (first|refine at_seq ?_|refine at_block ?_|refine at_skip ?_|refine ax_then ?_|fail))
    refine at_draw 9 [(0, .v), (1, .v), (2, .v), (3, .v), (4, .v), (5, .v), (6, .v), (7, .v), (8, .v)] none ?_ trivial rfl (by kernel_rfl) (by kernel_rfl) (by kernel_rfl) mixed (by kernel_rfl) rfl
    (repeat' (first|refine da_open ?_|refine d_run ttok ?_|(apply ds_bin;refine d_bin ?_)|(apply ds_index;refine d_index ttok ?_)|fail))
    refine da_end [0, 3, 13, 18] rfl rfl ?_
    (repeat' (first|refine ax_then ?_|refine atl_nil ?_|refine n_run ttok rfl rfl ?_|fail))
    refine at_cond rfl (fun h2 => ?_) (fun h2 => ?_)
    · have h2' := of_decide_eq_true h2
      (repeat' (first|refine at_seq ?_|refine at_region ?_|refine at_ret ?_|refine ax_then ?_|refine ax_then_ret ?_|refine ax_blk_ret ?_|refine ax_loop_ret ?_|refine atl_nil ?_|refine n_run ttok rfl rfl ?_|fail))
      refine ax_ret1 rfl rfl ?_
      rw [show risingB l = false from decide_eq_false (fun hh => by have := hh i (by omega); rw [getD_get hy, getD_get hz] at this; omega)]
    · have h2' := of_decide_eq_false h2
      (repeat' (first|refine at_region ?_|refine at_skip ?_|refine ax_then ?_|refine ax_blk ?_|refine atl_nil ?_|refine n_run ttok rfl rfl ?_|(apply s_bin; refine n_bin ?_)|fail))
      refine ax_roundK (i + 1) rfl ⟨by rw [Int.natCast_add (i + 1) 1]; rfl, trivial⟩ ⟨by omega, fun j hj hjl => ?_⟩ (by omega) (fun _ _ h => h)
      by_cases e : j = i
      · subst e; rw [getD_get hy, getD_get hz]; omega
      · exact hall j (by omega) hjl
  · have hil : l.length ≤ i + 1 := by have := of_decide_eq_false h; rw [ints_len] at this; omega
    (repeat' (first|refine at_seq ?_|refine at_region ?_|refine at_ret ?_|refine at_exit ?_|refine ax_then ?_|refine ax_then_exit ?_|refine ax_blk_exit ?_|refine ax_loop_exit ?_|refine atl_nil ?_|refine n_run ttok rfl rfl ?_|fail))
    refine ax_ret1 rfl rfl ?_
    rw [show risingB l = true from decide_eq_true (fun j hj => hall j (by omega) (by omega))]
instance (l : List Int) : AD Tryz.prog 275 [.imm 1 (ints l)] (Bol (risingB l)) := ⟨rising_det l⟩
def isSetB (f : FFont) (l : List Int) : Bool := decide (0 < l.length) && (risingB l && (isG f (l.getD 0 0) && isG f (l.getD (l.length - 1) 0)))
set_option maxHeartbeats 1000000 in
theorem isSet_det (f : FFont) (l : List Int) : ADet Tryz.prog 241 [aFont f, .imm 1 (ints l)] (Bol (isSetB f l)) := by
  refine ac_of Tryz.func241 rfl Tryz.ntmps241 rfl fun B => ?_
  refine at_len 1 rfl rfl fun hlen => ?_
  cases l with
  | nil =>
    (repeat' (first|refine at_seq ?_|refine at_region ?_|refine ax_then ?_|refine atl_nil ?_|refine n_run ttok rfl rfl ?_|refine n_boxI ?_|fail))
    refine at_draw 24 [(0, .v), (1, .v), (2, .v), (3, .v), (4, .v), (5, .v), (6, .v), (7, .v), (8, .v), (9, .v), (10, .v), (11, .v), (12, .v), (13, .v), (14, .v), (15, .v), (16, .v), (17, .v), (18, .v), (19, .v), (20, .v), (21, .v), (22, .v), (23, .v)] none ?_ trivial rfl (by kernel_rfl) (by kernel_rfl) (by kernel_rfl) mixed (by kernel_rfl) rfl
    (repeat' (first|refine da_open ?_|refine d_run ttok ?_|refine da_no rfl rfl ?_|fail))
    refine da_end [28] rfl rfl ?_
    (repeat' (first|refine at_ret ?_|refine ax_then ?_|refine atl_nil ?_|refine n_run ttok rfl rfl ?_|fail))
    exact ax_ret1 rfl rfl rfl
  | cons y q =>
    have hll : (ints (y :: q)).length = q.length + 1 := by rw [ints_len]; rfl
    rw [hll] at hlen
    obtain ⟨z, hz⟩ : ∃ z, (y :: q)[q.length]? = some z := ⟨_, List.getElem?_eq_getElem (by simp)⟩
    have hzg : (ints (y :: q))[((((ints (y :: q)).length : Nat) : Int) - 1).toNat]? = some [I64 z] := by rw [show ((((ints (y :: q)).length : Nat) : Int) - 1).toNat = q.length by rw [hll]; omega]; exact ints_get hz
    have hyg : (ints (y :: q))[(0 : Int).toNat]? = some [I64 y] := rfl
    have hval : isSetB f (y :: q) = (risingB (y :: q) && (isG f y && isG f z)) := by
      unfold isSetB
      rw [show (y :: q).length - 1 = q.length by simp, getD_get hz]
      simp
    rw [hval]
    have hpos : decide (0 < (((ints (y :: q)).length : Nat) : Int)) = true := decide_eq_true (by rw [hll]; omega)
    (repeat' (first|refine at_seq ?_|refine at_region ?_|refine ax_then ?_|refine atl_nil ?_|refine n_run ttok rfl rfl ?_|refine n_boxI ?_|fail))
    refine at_draw 24 [(0, .v), (1, .v), (2, .v), (3, .v), (4, .v), (5, .v), (6, .v), (7, .v), (8, .v), (9, .v), (10, .v), (11, .v), (12, .v), (13, .v), (14, .v), (15, .v), (16, .v), (17, .v), (18, .v), (19, .v), (20, .v), (21, .v), (22, .v), (23, .v)] none ?_ trivial rfl (by kernel_rfl) (by kernel_rfl) (by kernel_rfl) mixed (by kernel_rfl) rfl
    (repeat' (first|refine da_open ?_|refine d_run ttok ?_|fail))
    rw [hpos]
    (repeat' (first|refine da_open ?_|refine d_run ttok ?_|(apply ds_call;refine d_call ?_)|fail))
    generalize risingB (y :: q) = b1
    cases b1
    · (repeat' (first|refine da_open ?_|refine d_run ttok ?_|refine da_no rfl rfl ?_|fail))
      refine da_end [28] rfl rfl ?_
      (repeat' (first|refine at_ret ?_|refine ax_then ?_|refine atl_nil ?_|refine n_run ttok rfl rfl ?_|fail))
      exact ax_ret1 rfl rfl rfl
    (repeat' (first|refine da_open ?_|refine d_run ttok ?_|(apply ds_index;refine d_index ttok ?_)|(apply ds_call;refine d_call ?_)|fail))
    generalize isG f y = b2
    cases b2
    · (repeat' (first|refine da_open ?_|refine d_run ttok ?_|refine da_no rfl rfl ?_|fail))
      refine da_end [28] rfl rfl ?_
      (repeat' (first|refine at_ret ?_|refine ax_then ?_|refine atl_nil ?_|refine n_run ttok rfl rfl ?_|fail))
      exact ax_ret1 rfl rfl rfl
    (repeat' (first|refine da_open ?_|refine d_run ttok ?_|(apply ds_bin;refine d_bin ?_)|(apply ds_index;refine d_index ttok ?_)|(apply ds_call;refine d_call ?_)|fail))
    refine da_end [28] rfl rfl ?_
    (repeat' (first|refine at_ret ?_|refine ax_then ?_|refine atl_nil ?_|refine n_run ttok rfl rfl ?_|fail))
    exact ax_ret1 rfl rfl rfl
instance (f : FFont) (l : List Int) : AD Tryz.prog 241 [aFont f, .imm 1 (ints l)] (Bol (isSetB f l)) := ⟨isSet_det f l⟩
def wrongRows (kind : Int) (r : FRule) : Bool := if kind = 1 ∨ kind = 2 ∨ kind = 5 then decide ((r.In.length : Int) ≠ 1) else if kind = 6 then decide ((r.In.length : Int) ≠ 2 ∨ (r.Back.length : Int) > 0 ∨ (r.Ahead.length : Int) > 0) else decide ((r.In.length : Int) = 0)
def rowsE (kind : Int) (r : FRule) : Int := if (r.Back.length : Int) > 6 ∨ (r.In.length : Int) > 6 ∨ (r.Ahead.length : Int) > 6 then 2 else whenE (wrongRows kind r) 40
set_option maxHeartbeats 1000000 in
theorem rows_det (kind : Int) (r : FRule) : ADet Tryz.prog 237 [I64 kind, .agg (cRule r)] (I64 (rowsE kind r)) := by
  refine ac_of Tryz.func237 rfl Tryz.ntmps237 rfl fun B => ?_
  unfold rowsE wrongRows
  have hB := rowsI_len r.Back
  have hI := rowsI_len r.In
  have hA := rowsI_len r.Ahead
  rw [← hB, ← hI, ← hA]
  (repeat' (first|refine at_seq ?_|refine at_region ?_|refine ax_then ?_|refine atl_nil ?_|refine n_run ttok rfl rfl ?_|refine n_boxI ?_|fail))
  refine atl_if [0, 3] (((rowsI r.Back).length : Int) > 6 ∨ ((rowsI r.In).length : Int) > 6 ∨ ((rowsI r.Ahead).length : Int) > 6) rfl (fun Q' K => ?_) (fun hC => ?_) (fun hC => ?_)
  · (repeat' (first|refine atl_nil ?_|refine n_run ttok rfl rfl ?_|refine atl_guard_yes rfl rfl ?_|refine atl_guard_no rfl rfl rfl rfl ?_|refine atl_guard rfl rfl rfl (fun _ => ?_) (fun _ => ?_)|fail))
    all_goals exact K _ _ rfl rfl (by clear K; grind)
  · rw [if_pos hC]
    (repeat' (first|refine at_seq ?_|refine at_region ?_|refine at_ret ?_|refine ax_then ?_|refine ax_then_ret ?_|refine atl_nil ?_|refine n_run ttok rfl rfl ?_|fail))
    exact ax_ret1 rfl rfl rfl
  rw [if_neg hC]
  by_cases h1 : kind = 1
  · subst h1
    (repeat' (first|refine at_seq ?_|refine at_region ?_|refine at_block ?_|refine at_skip ?_|refine at_ret ?_|refine ax_then ?_|refine ax_blk ?_|refine atl_nil ?_|refine n_run ttok rfl rfl ?_|(apply s_call;refine n_call ?_)|refine n_condT rfl ?_|fail))
    exact ax_ret1 rfl rfl rfl
  by_cases h2 : kind = 2
  · subst h2
    (repeat' (first|refine at_seq ?_|refine at_region ?_|refine at_block ?_|refine at_skip ?_|refine at_ret ?_|refine ax_then ?_|refine ax_blk ?_|refine atl_nil ?_|refine n_run ttok rfl rfl ?_|(apply s_call;refine n_call ?_)|refine n_condT rfl ?_|refine n_condF rfl ?_|fail))
    exact ax_ret1 rfl rfl rfl
  by_cases h5 : kind = 5
  · subst h5
    (repeat' (first|refine at_seq ?_|refine at_region ?_|refine at_block ?_|refine at_skip ?_|refine at_ret ?_|refine ax_then ?_|refine ax_blk ?_|refine atl_nil ?_|refine n_run ttok rfl rfl ?_|(apply s_call;refine n_call ?_)|refine n_condT rfl ?_|refine n_condF rfl ?_|fail))
    exact ax_ret1 rfl rfl rfl
  rw [if_neg (by omega)]
  by_cases h6 : kind = 6
  · subst h6
    rw [if_pos rfl]
    (repeat' (first|refine at_seq ?_|refine at_region ?_|refine at_block ?_|refine at_skip ?_|refine ax_then ?_|refine atl_nil ?_|refine n_run ttok rfl rfl ?_|refine n_condT rfl ?_|refine n_condF rfl ?_|fail))
    refine atl_cut (t := 5) [] (((rowsI r.In).length : Int) ≠ 2 ∨ ((rowsI r.Back).length : Int) > 0 ∨ ((rowsI r.Ahead).length : Int) > 0) rfl (fun Q' K => ?_) ?_
    · (repeat' (first|refine atl_nil ?_|refine n_run ttok rfl rfl ?_|refine atl_guard_yes rfl rfl ?_|refine atl_guard_no rfl rfl rfl rfl ?_|refine atl_guard rfl rfl rfl (fun _ => ?_) (fun _ => ?_)|fail))
      all_goals exact K _ _ rfl rfl (by clear K; grind)
    (repeat' (first|refine at_seq ?_|refine at_region ?_|refine at_ret ?_|refine ax_then ?_|refine ax_blk ?_|refine atl_nil ?_|refine n_run ttok rfl rfl ?_|(apply s_call;refine n_call ?_)|fail))
    exact ax_ret1 rfl rfl rfl
  rw [if_neg h6]
  (repeat' (first|refine at_seq ?_|refine at_region ?_|refine at_block ?_|refine at_skip ?_|refine ax_then ?_|refine atl_nil ?_|refine n_run ttok rfl rfl ?_|fail))
  refine at_cond rfl (fun h => absurd (of_decide_eq_true h) h1) (fun h => ?_)
  (repeat' (first|refine at_seq ?_|refine at_region ?_|refine ax_then ?_|refine atl_nil ?_|refine n_run ttok rfl rfl ?_|fail))
  refine at_cond rfl (fun h => absurd (of_decide_eq_true h) h2) (fun h => ?_)
  (repeat' (first|refine at_region ?_|refine ax_then ?_|refine atl_nil ?_|refine n_run ttok rfl rfl ?_|fail))
  refine at_cond rfl (fun h => absurd (of_decide_eq_true h) h5) (fun h => ?_)
  rw [decide_eq_false h5]
  (repeat' (first|refine at_seq ?_|refine at_region ?_|refine ax_then ?_|refine atl_nil ?_|refine n_run ttok rfl rfl ?_|fail))
  refine at_cond rfl (fun h => absurd (of_decide_eq_true h) h6) (fun h => ?_)
  (repeat' (first|refine at_seq ?_|refine at_region ?_|refine at_skip ?_|refine at_ret ?_|refine ax_then ?_|refine ax_blk ?_|refine atl_nil ?_|refine n_run ttok rfl rfl ?_|(apply s_call;refine n_call ?_)|fail))
  exact ax_ret1 rfl rfl rfl
instance (kind : Int) (r : FRule) : AD Tryz.prog 237 [I64 kind, .agg (cRule r)] (I64 (rowsE kind r)) := ⟨rows_det kind r⟩
theorem rows_in {kind : Int} {r : FRule} (h : rowsE kind r = 0) : r.In ≠ [] ∧ r.Back.length ≤ 6 ∧ r.In.length ≤ 6 ∧ r.Ahead.length ≤ 6 := by
  unfold rowsE at h
  split at h
  · cases h
  · rename_i hc
    refine ⟨fun e => ?_, by omega, by omega, by omega⟩
    have hw : wrongRows kind r = true := by
      unfold wrongRows
      rw [e]
      split
      · decide
      · split <;> simp
    rw [hw] at h
    cases h
def outB (kind : Int) (r : FRule) : Bool := if kind = 1 ∨ kind = 5 then decide ((r.Out.length : Int) = ((r.In.headD []).length : Int)) else if kind = 2 then decide ((r.Out.length : Int) ≤ 6) else if kind = 3 then decide ((r.Out.length : Int) = 1) else decide ((r.Out.length : Int) = 0)
set_option maxHeartbeats 1000000 in
theorem out_det (kind : Int) (r : FRule) (hin : r.In ≠ []) : ADet Tryz.prog 243 [I64 kind, .agg (cRule r)] (Bol (outB kind r)) := by
  refine ac_of Tryz.func243 rfl Tryz.ntmps243 rfl fun B => ?_
  obtain ⟨y, hy⟩ : ∃ y, r.In[0]? = some y := ⟨_, List.getElem?_eq_getElem (List.length_pos_iff.2 hin)⟩
  have hyg := rowsI_get hy
  have hv : outB kind r = if kind = 1 ∨ kind = 5 then decide (((ints r.Out).length : Int) = ((ints y).length : Int)) else if kind = 2 then decide (((ints r.Out).length : Int) ≤ 6) else if kind = 3 then decide (((ints r.Out).length : Int) = 1) else decide (((ints r.Out).length : Int) = 0) := by
    have hd : r.In.headD [] = y := by
      cases hI : r.In with
      | nil => exact absurd hI hin
      | cons y' q => rw [hI] at hy; simpa using hy
    unfold outB
    rw [hd, ints_len, ints_len]
  rw [hv]
  by_cases h1 : kind = 1
  · subst h1
    (repeat' (first|refine at_seq ?_|refine at_region ?_|refine at_block ?_|refine at_skip ?_|refine ax_then ?_|refine atl_nil ?_|refine n_run ttok rfl rfl ?_|refine n_boxI ?_|refine n_condT rfl ?_|fail))
    refine at_draw 8 [(0, .v), (1, .v), (2, .v), (3, .v), (4, .v), (5, .v), (6, .v), (7, .v)] none ?_ trivial rfl (by kernel_rfl) (by kernel_rfl) (by kernel_rfl) mixed (by kernel_rfl) rfl
    (repeat' (first|refine da_open ?_|refine d_run ttok ?_|(apply ds_index;refine d_index ttok ?_)|fail))
    refine da_end [11, 16] rfl rfl ?_
    (repeat' (first|refine at_ret ?_|refine ax_then ?_|refine ax_then_ret ?_|refine ax_blk_ret ?_|refine atl_nil ?_|refine n_run ttok rfl rfl ?_|fail))
    exact ax_ret1 rfl rfl rfl
  by_cases h5 : kind = 5
  · subst h5
    (repeat' (first|refine at_seq ?_|refine at_region ?_|refine at_block ?_|refine ax_then ?_|refine atl_nil ?_|refine n_run ttok rfl rfl ?_|refine n_boxI ?_|refine n_condT rfl ?_|refine n_condF rfl ?_|fail))
    refine at_draw 8 [(0, .v), (1, .v), (2, .v), (3, .v), (4, .v), (5, .v), (6, .v), (7, .v)] none ?_ trivial rfl (by kernel_rfl) (by kernel_rfl) (by kernel_rfl) mixed (by kernel_rfl) rfl
    (repeat' (first|refine da_open ?_|refine d_run ttok ?_|(apply ds_index;refine d_index ttok ?_)|fail))
    refine da_end [11, 16] rfl rfl ?_
    (repeat' (first|refine at_ret ?_|refine ax_then ?_|refine ax_then_ret ?_|refine ax_blk_ret ?_|refine atl_nil ?_|refine n_run ttok rfl rfl ?_|fail))
    exact ax_ret1 rfl rfl rfl
  rw [if_neg (by omega)]
  by_cases h2 : kind = 2
  · subst h2
    (repeat' (first|refine at_seq ?_|refine at_region ?_|refine at_block ?_|refine at_ret ?_|refine ax_then ?_|refine ax_then_ret ?_|refine ax_blk_ret ?_|refine atl_nil ?_|refine n_run ttok rfl rfl ?_|refine n_boxI ?_|refine n_condT rfl ?_|refine n_condF rfl ?_|fail))
    exact ax_ret1 rfl rfl rfl
  rw [if_neg h2]
  by_cases h3 : kind = 3
  · subst h3
    (repeat' (first|refine at_seq ?_|refine at_region ?_|refine at_block ?_|refine at_ret ?_|refine ax_then ?_|refine ax_then_ret ?_|refine ax_blk_ret ?_|refine atl_nil ?_|refine n_run ttok rfl rfl ?_|refine n_boxI ?_|refine n_condT rfl ?_|refine n_condF rfl ?_|fail))
    exact ax_ret1 rfl rfl rfl
  rw [if_neg h3]
  (repeat' (first|refine at_seq ?_|refine at_region ?_|refine at_block ?_|refine ax_then ?_|refine atl_nil ?_|refine n_run ttok rfl rfl ?_|refine n_boxI ?_|fail))
  refine at_cond rfl (fun h => absurd (of_decide_eq_true h) h1) (fun h => ?_)
  (repeat' (first|refine at_region ?_|refine ax_then ?_|refine atl_nil ?_|refine n_run ttok rfl rfl ?_|fail))
  refine at_cond rfl (fun h => absurd (of_decide_eq_true h) h5) (fun h => ?_)
  rw [decide_eq_false h5]
  (repeat' (first|refine at_seq ?_|refine at_region ?_|refine ax_then ?_|refine atl_nil ?_|refine n_run ttok rfl rfl ?_|fail))
  refine at_cond rfl (fun h => absurd (of_decide_eq_true h) h2) (fun h => ?_)
  (repeat' (first|refine at_seq ?_|refine at_region ?_|refine ax_then ?_|refine atl_nil ?_|refine n_run ttok rfl rfl ?_|fail))
  refine at_cond rfl (fun h => absurd (of_decide_eq_true h) h3) (fun h => ?_)
  (repeat' (first|refine at_seq ?_|refine at_region ?_|refine at_skip ?_|refine at_ret ?_|refine ax_then ?_|refine ax_blk ?_|refine atl_nil ?_|refine n_run ttok rfl rfl ?_|fail))
  exact ax_ret1 rfl rfl rfl
def kindAt (f : FFont) (n : Int) : Int := match f.Lookups[n.toNat]? with | some l => l.Kind | none => 0
def callE (f : FFont) (r : FRule) (_ : Nat) (c : FCall) : Int := if c.At < 0 ∨ c.At ≥ r.In.length then 40 else if c.Lookup < 0 ∨ c.Lookup ≥ f.Lookups.length then 42 else whenE (decide (kindAt f c.Lookup < 1 ∨ kindAt f c.Lookup > 4)) 42
set_option maxHeartbeats 1000000 in
theorem call_det (f : FFont) (r : FRule) (i : Nat) (c : FCall) : ADet Tryz.prog 277 [I64 i, .agg (cCall c), .iptr (cRule r), .iptr (cFont f)] (I64 (callE f r i c)) := by
  refine ac_of Tryz.func277 rfl Tryz.ntmps277 rfl fun B => ?_
  unfold callE
  have hI := rowsI_len r.In
  have hL : (f.Lookups.map cLookup).length = f.Lookups.length := List.length_map ..
  rw [← hI]
  (repeat' (first|refine at_seq ?_|refine at_region ?_|refine at_block ?_|refine ax_then ?_|refine atl_nil ?_|refine n_run ttok rfl rfl ?_|refine n_boxI ?_|fail))
  refine atl_if [3, 5] (c.At < 0 ∨ c.At ≥ ((rowsI r.In).length : Int)) rfl (fun Q' K => ?_) (fun hC => ?_) (fun hC => ?_)
  · (repeat' (first|refine atl_nil ?_|refine n_run ttok rfl rfl ?_|refine atl_guard_yes rfl rfl ?_|refine atl_guard_no rfl rfl rfl rfl ?_|refine atl_guard rfl rfl rfl (fun _ => ?_) (fun _ => ?_)|fail))
    all_goals exact K _ _ rfl rfl (by clear K; grind)
  · rw [if_pos hC]
    (repeat' (first|refine at_seq ?_|refine at_region ?_|refine at_ret ?_|refine ax_then ?_|refine ax_then_ret ?_|refine ax_blk_ret ?_|refine atl_nil ?_|refine n_run ttok rfl rfl ?_|fail))
    exact ax_ret1 rfl rfl rfl
  rw [if_neg hC]
  (repeat' (first|refine at_seq ?_|refine at_region ?_|refine n_run ttok rfl rfl ?_|fail))
  refine atl_if [3, 5] (c.Lookup < 0 ∨ c.Lookup ≥ f.Lookups.length) rfl (fun Q' K => ?_) (fun hC => ?_) (fun hC => ?_)
  · (repeat' (first|refine atl_nil ?_|refine n_run ttok rfl rfl ?_|refine atl_guard_yes rfl rfl ?_|refine atl_guard_no rfl rfl rfl rfl ?_|refine atl_guard rfl rfl rfl (fun _ => ?_) (fun _ => ?_)|fail))
    all_goals exact K _ _ rfl rfl (by clear K; grind)
  · rw [if_pos hC]
    (repeat' (first|refine at_seq ?_|refine at_region ?_|refine at_ret ?_|refine ax_then ?_|refine ax_then_ret ?_|refine ax_blk_ret ?_|refine atl_nil ?_|refine n_run ttok rfl rfl ?_|fail))
    exact ax_ret1 rfl rfl rfl
  rw [if_neg hC]
  obtain ⟨l, hl⟩ : ∃ l, f.Lookups[c.Lookup.toNat]? = some l := ⟨_, List.getElem?_eq_getElem (by omega)⟩
  have hlg := map_get (c := cLookup) hl
  have hk : kindAt f c.Lookup = l.Kind := by unfold kindAt; rw [hl]
  rw [hk]
  (repeat' (first|refine at_seq ?_|refine at_region ?_|refine at_skip ?_|refine ax_then ?_|refine ax_blk ?_|refine atl_nil ?_|refine n_run ttok rfl rfl ?_|(apply s_index; first|refine n_index ttok ?_|refine n_indexP ttok ?_)|fail))
  by_cases h1 : l.Kind < 1
  · rw [decide_eq_true h1, decide_eq_true (Or.inl h1)]
    (repeat' (first|refine at_ret ?_|refine ax_then ?_|refine atl_nil ?_|refine n_run ttok rfl rfl ?_|refine atl_guard_no rfl rfl rfl rfl ?_|(apply s_call;refine n_call ?_)|fail))
    exact ax_ret1 rfl rfl rfl
  · rw [decide_eq_false h1, show decide (l.Kind < 1 ∨ l.Kind > 4) = decide (4 < l.Kind) from decide_eq_decide.2 ⟨fun h => h.resolve_left h1, Or.inr⟩]
    (repeat' (first|refine at_ret ?_|refine ax_then ?_|refine atl_nil ?_|refine n_run ttok rfl rfl ?_|refine atl_guard_yes rfl rfl ?_|(apply s_call;refine n_call ?_)|fail))
    exact ax_ret1 rfl rfl rfl
def callsE (f : FFont) (kind : Int) (r : FRule) : Int := if (r.Calls.length : Int) > 6 then 2 else if (r.Calls.length : Int) > 0 ∧ kind ≠ 4 then 40 else (eachL r.Calls (callE f r)).1
set_option maxHeartbeats 1000000 in
theorem calls_det (f : FFont) (kind : Int) (r : FRule) : ADet Tryz.prog 247 [aFont f, I64 kind, .agg (cRule r)] (I64 (callsE f kind r)) := by
  refine ac_of Tryz.func247 rfl Tryz.ntmps247 rfl fun B => ?_
  unfold callsE
  have hL : (r.Calls.map cCall).length = r.Calls.length := List.length_map ..
  rw [← hL]
  (repeat' (first|refine at_seq ?_|refine at_region ?_|refine at_block ?_|refine ax_then ?_|refine atl_nil ?_|refine n_run ttok rfl rfl ?_|refine n_boxI ?_|fail))
  refine at_cond rfl (fun h => ?_) (fun h => ?_)
  · rw [if_pos (of_decide_eq_true h)]
    (repeat' (first|refine at_seq ?_|refine at_region ?_|refine at_ret ?_|refine ax_then ?_|refine ax_then_ret ?_|refine ax_blk_ret ?_|refine atl_nil ?_|refine n_run ttok rfl rfl ?_|fail))
    exact ax_ret1 rfl rfl rfl
  rw [if_neg (of_decide_eq_false h)]
  (repeat' (first|refine at_seq ?_|refine at_region ?_|refine n_run ttok rfl rfl ?_|fail))
  refine atl_if [3, 5] (((r.Calls.map cCall).length : Int) > 0 ∧ kind ≠ 4) rfl (fun Q' K => ?_) (fun hC => ?_) (fun hC => ?_)
  · (repeat' (first|refine atl_nil ?_|refine n_run ttok rfl rfl ?_|refine atl_guard_yes rfl rfl ?_|refine atl_guard_no rfl rfl rfl rfl ?_|refine atl_guard rfl rfl rfl (fun _ => ?_) (fun _ => ?_)|fail))
    all_goals exact K _ _ rfl rfl (by clear K; grind)
  · rw [if_pos hC]
    (repeat' (first|refine at_seq ?_|refine at_region ?_|refine at_ret ?_|refine ax_then ?_|refine ax_then_ret ?_|refine ax_blk_ret ?_|refine atl_nil ?_|refine n_run ttok rfl rfl ?_|fail))
    exact ax_ret1 rfl rfl rfl
  rw [if_neg hC]
  (repeat' (first|refine at_seq ?_|refine at_region ?_|refine at_skip ?_|refine ax_then ?_|refine ax_blk ?_|refine n_run ttok rfl rfl ?_|fail))
  refine n_callA [] [] (each276 (u := .fn 277 [.iptr (cRule r), .iptr (cFont f)]) (g := 277) rfl r.Calls _ (fun _ _ => True) [] trivial (wrong_det (fun i x _ => call_det f r i x))) rfl rfl (List.Perm.refl _) rfl fun c L1 hc => ?_
  have hc : c = tup2 (eachL r.Calls (callE f r)) := hc
  subst hc
  unfold tup2
  (repeat' (first|refine at_seq ?_|refine at_region ?_|refine at_ret ?_|refine ax_then ?_|refine atl_nil ?_|refine n_run ttok rfl rfl ?_|fail))
  exact ax_ret1 rfl rfl rfl
instance (f : FFont) (kind : Int) (r : FRule) : AD Tryz.prog 247 [aFont f, I64 kind, .agg (cRule r)] (I64 (callsE f kind r)) := ⟨calls_det f kind r⟩
end Go.Proofs.YtpbinloeemebkaaGreat

namespace Go.Proofs.YtpbinloeemebkaaGreat
open Go.RowKit
attribute [local irreducible] AT ATL AX AO Av Kt ALoopK OkA DA DA1
def setE (f : FFont) (_ : Nat) (l : List Int) : Int := whenE (!(isSetB f l)) 41
def outE (f : FFont) (_ : Nat) (n : Int) : Int := whenE (!(isG f n)) 32
def xE (kind : Int) (r : FRule) : Int := whenE (decide (r.X ≠ 0 ∧ kind ≠ 6)) 40
def sets3 (r : FRule) : List (List Int) := r.Back ++ (r.In ++ r.Ahead)
theorem rule1_det (kind : Int) (r : FRule) : ADet Tryz.prog 236 [.iptr [I64 kind], .iptr (cRule r)] (tup2 (rowsE kind r, 0)) := by
  refine ac_of Tryz.func236 rfl Tryz.ntmps236 rfl fun B => ?_
  (repeat' (first|refine at_seq ?_|refine at_region ?_|refine at_ret ?_|refine ax_then ?_|refine atl_nil ?_|refine n_run ttok rfl rfl ?_|(apply s_call;refine n_call ?_)|fail))
  exact ax_ret2 rfl rfl rfl rfl
theorem rule2s_det (f : FFont) (i : Nat) (l : List Int) : ADet Tryz.prog 240 [I64 i, .imm 1 (ints l), .iptr (cFont f)] (I64 (setE f i l)) := by
  refine ac_of Tryz.func240 rfl Tryz.ntmps240 rfl fun B => ?_
  (repeat' (first|refine at_seq ?_|refine at_region ?_|refine at_ret ?_|refine ax_then ?_|refine atl_nil ?_|refine n_run ttok rfl rfl ?_|(apply s_call;refine n_call ?_)|fail))
  exact ax_ret1 rfl rfl rfl
theorem rule2_det (f : FFont) (r : FRule) (h : r.Back.length ≤ 6 ∧ r.In.length ≤ 6 ∧ r.Ahead.length ≤ 6) : ADet Tryz.prog 238 [.iptr (cRule r), .iptr (cFont f)] (tup2 (eachL (sets3 r) (setE f))) := by
  refine ac_of Tryz.func238 rfl Tryz.ntmps238 rfl fun B => ?_
  (repeat' (first|refine at_seq ?_|refine at_region ?_|refine ax_then ?_|refine atl_nil ?_|refine n_run ttok rfl rfl ?_|refine n_litI ttok ?_|fail))
  refine n_call (hc := ⟨concat_det [r.Back, r.In, r.Ahead] (by simp [sumLen]; omega)⟩) ?_
  rw [show ([r.Back, r.In, r.Ahead] : List (List (List Int))).flatten = sets3 r by simp [sets3]]
  (repeat' (first|refine n_run ttok rfl rfl ?_|fail))
  refine n_callA [] [] (each239 (u := .fn 240 [.iptr (cFont f)]) (g := 240) rfl (sets3 r) _ (fun _ _ => True) [] trivial (wrong_det (fun i x _ => rule2s_det f i x))) rfl rfl (List.Perm.refl _) rfl fun c L1 hc => ?_
  have hc : c = tup2 (eachL (sets3 r) (setE f)) := hc
  subst hc
  unfold tup2
  (repeat' (first|refine at_ret ?_|refine ax_then ?_|refine atl_nil ?_|refine n_run ttok rfl rfl ?_|fail))
  exact ax_ret2 rfl rfl rfl rfl
theorem rule3_det (kind : Int) (r : FRule) (hin : r.In ≠ []) : ADet Tryz.prog 242 [.iptr [I64 kind], .iptr (cRule r)] (tup2 (whenE (!(outB kind r)) 40, 0)) := by
  refine ac_of Tryz.func242 rfl Tryz.ntmps242 rfl fun B => ?_
  (repeat' (first|refine at_seq ?_|refine at_region ?_|refine ax_then ?_|refine atl_nil ?_|refine n_run ttok rfl rfl ?_|fail))
  refine n_call (hc := ⟨out_det kind r hin⟩) ?_
  (repeat' (first|refine at_ret ?_|refine ax_then ?_|refine atl_nil ?_|refine n_run ttok rfl rfl ?_|(apply s_call;refine n_call ?_)|fail))
  exact ax_ret2 rfl rfl rfl rfl
theorem rule4s_det (f : FFont) (i : Nat) (n : Int) : ADet Tryz.prog 245 [I64 i, I64 n, .iptr (cFont f)] (I64 (outE f i n)) := by
  refine ac_of Tryz.func245 rfl Tryz.ntmps245 rfl fun B => ?_
  (repeat' (first|refine at_seq ?_|refine at_region ?_|refine at_ret ?_|refine ax_then ?_|refine atl_nil ?_|refine n_run ttok rfl rfl ?_|(apply s_call;refine n_call ?_)|fail))
  exact ax_ret1 rfl rfl rfl
theorem rule4_det (f : FFont) (r : FRule) : ADet Tryz.prog 244 [.iptr (cRule r), .iptr (cFont f)] (tup2 (eachL r.Out (outE f))) := by
  refine ac_of Tryz.func244 rfl Tryz.ntmps244 rfl fun B => ?_
  (repeat' (first|refine at_seq ?_|refine at_region ?_|refine ax_then ?_|refine atl_nil ?_|refine n_run ttok rfl rfl ?_|fail))
  refine n_callA [] [] (each164 (u := .fn 245 [.iptr (cFont f)]) (g := 245) rfl r.Out _ (fun _ _ => True) [] trivial (wrong_det (fun i x _ => rule4s_det f i x))) rfl rfl (List.Perm.refl _) rfl fun c L1 hc => ?_
  have hc : c = tup2 (eachL r.Out (outE f)) := hc
  subst hc
  unfold tup2
  (repeat' (first|refine at_ret ?_|refine ax_then ?_|refine atl_nil ?_|refine n_run ttok rfl rfl ?_|fail))
  exact ax_ret2 rfl rfl rfl rfl
theorem rule5_det (f : FFont) (kind : Int) (r : FRule) : ADet Tryz.prog 246 [.iptr (cFont f), .iptr [I64 kind], .iptr (cRule r)] (tup2 (callsE f kind r, 0)) := by
  refine ac_of Tryz.func246 rfl Tryz.ntmps246 rfl fun B => ?_
  (repeat' (first|refine at_seq ?_|refine at_region ?_|refine at_ret ?_|refine ax_then ?_|refine atl_nil ?_|refine n_run ttok rfl rfl ?_|(apply s_call;refine n_call ?_)|fail))
  exact ax_ret2 rfl rfl rfl rfl
theorem rule6_det (r : FRule) : ADet Tryz.prog 248 [.iptr (cRule r)] (tup2 (whenE (!([r.X].all mayN)) 1, 0)) := by
  refine ac_of Tryz.func248 rfl Tryz.ntmps248 rfl fun B => ?_
  (repeat' (first|refine at_seq ?_|refine at_region ?_|refine at_ret ?_|refine ax_then ?_|refine atl_nil ?_|refine n_run ttok rfl rfl ?_|refine n_litI ttok ?_|(apply s_call;refine n_call ?_)|fail))
  exact ax_ret2 rfl rfl rfl rfl
theorem rule7_det (kind : Int) (r : FRule) : ADet Tryz.prog 249 [.iptr (cRule r), .iptr [I64 kind]] (tup2 (xE kind r, 0)) := by
  refine ac_of Tryz.func249 rfl Tryz.ntmps249 rfl fun B => ?_
  unfold xE
  by_cases h : r.X ≠ 0
  · rw [show decide (r.X ≠ 0 ∧ kind ≠ 6) = decide (kind ≠ 6) from decide_eq_decide.2 ⟨fun q => q.2, fun q => ⟨h, q⟩⟩]
    (repeat' (first|refine at_seq ?_|refine at_region ?_|refine ax_then ?_|refine atl_nil ?_|refine n_run ttok rfl rfl ?_|fail))
    rw [decide_eq_true h]
    (repeat' (first|refine at_ret ?_|refine ax_then ?_|refine atl_nil ?_|refine n_run ttok rfl rfl ?_|refine atl_guard_yes rfl rfl ?_|(apply s_call;refine n_call ?_)|fail))
    exact ax_ret2 rfl rfl rfl rfl
  · rw [show decide (r.X ≠ 0 ∧ kind ≠ 6) = false from decide_eq_false (fun q => h q.1)]
    (repeat' (first|refine at_seq ?_|refine at_region ?_|refine ax_then ?_|refine atl_nil ?_|refine n_run ttok rfl rfl ?_|fail))
    rw [decide_eq_false h]
    (repeat' (first|refine at_ret ?_|refine ax_then ?_|refine atl_nil ?_|refine n_run ttok rfl rfl ?_|refine atl_guard_no rfl rfl rfl rfl ?_|(apply s_call;refine n_call ?_)|fail))
    exact ax_ret2 rfl rfl rfl rfl
def ruleE (f : FFont) (kind : Int) (r : FRule) : Int := (firstE [(rowsE kind r, 0), eachL (sets3 r) (setE f), (whenE (!(outB kind r)) 40, 0), eachL r.Out (outE f), (callsE f kind r, 0), (whenE (!([r.X].all mayN)) 1, 0), (xE kind r, 0)]).1
set_option maxHeartbeats 1000000 in
theorem rule_det (f : FFont) (kind : Int) (r : FRule) : ADet Tryz.prog 177 [aFont f, I64 kind, .agg (cRule r)] (I64 (ruleE f kind r)) := by
  refine ac_of Tryz.func177 rfl Tryz.ntmps177 rfl fun B => ?_
  (repeat' (first|refine at_seq ?_|refine at_region ?_|refine ax_then ?_|refine atl_nil ?_|refine n_run ttok rfl rfl ?_|refine n_boxI ?_|refine n_litI ttok ?_|fail))
  refine n_callA [] [] (first_ac [⟨236, [.iptr [I64 kind], .iptr (cRule r)], [], rowsE kind r, 0⟩, ⟨238, [.iptr (cRule r), .iptr (cFont f)], [], (eachL (sets3 r) (setE f)).1, (eachL (sets3 r) (setE f)).2⟩, ⟨242, [.iptr [I64 kind], .iptr (cRule r)], [], whenE (!(outB kind r)) 40, 0⟩, ⟨244, [.iptr (cRule r), .iptr (cFont f)], [], (eachL r.Out (outE f)).1, (eachL r.Out (outE f)).2⟩, ⟨246, [.iptr (cFont f), .iptr [I64 kind], .iptr (cRule r)], [], callsE f kind r, 0⟩, ⟨248, [.iptr (cRule r)], [], whenE (!([r.X].all mayN)) 1, 0⟩, ⟨249, [.iptr (cRule r), .iptr [I64 kind]], [], xE kind r, 0⟩] ?_) rfl rfl (List.Perm.refl _) rfl fun c L1 hc => ?_
  · exact ⟨⟨inferInstance, rule1_det kind r⟩, fun h1 => ⟨⟨inferInstance, rule2_det f r (rows_in h1).2⟩, fun _ => ⟨⟨inferInstance, rule3_det kind r (rows_in h1).1⟩, fun _ => ⟨⟨inferInstance, rule4_det f r⟩, fun _ => ⟨⟨inferInstance, rule5_det f kind r⟩, fun _ => ⟨⟨inferInstance, rule6_det r⟩, fun _ => ⟨⟨inferInstance, rule7_det kind r⟩, fun _ => trivial⟩⟩⟩⟩⟩⟩⟩
  rw [lkE_map] at hc
  subst hc
  unfold tup2
  (repeat' (first|refine at_seq ?_|refine at_region ?_|refine at_ret ?_|refine ax_then ?_|refine atl_nil ?_|refine n_run ttok rfl rfl ?_|fail))
  exact ax_ret1 rfl rfl rfl
instance (f : FFont) (kind : Int) (r : FRule) : AD Tryz.prog 177 [aFont f, I64 kind, .agg (cRule r)] (I64 (ruleE f kind r)) := ⟨rule_det f kind r⟩
theorem lookup1_det (l : FLookup) : ADet Tryz.prog 172 [.iptr (cLookup l)] (tup2 (whenE (decide ((l.Rules.length : Int) > 60)) 2, 0)) := by
  refine ac_of Tryz.func172 rfl Tryz.ntmps172 rfl fun B => ?_
  rw [show (l.Rules.length : Int) = ((l.Rules.map cRule).length : Int) by rw [List.length_map]]
  (repeat' (first|refine at_seq ?_|refine at_region ?_|refine at_ret ?_|refine ax_then ?_|refine atl_nil ?_|refine n_run ttok rfl rfl ?_|(apply s_call;refine n_call ?_)|fail))
  exact ax_ret2 rfl rfl rfl rfl
def anchE (l : FLookup) : Int := whenE (decide (l.Kind = 7 ∨ l.Kind = 8) && decide ((l.Rules.length : Int) > 0)) 40
theorem lookup2_det (l : FLookup) (b : Bool) (hb : b = decide (l.Kind = 7 ∨ l.Kind = 8)) : ADet Tryz.prog 173 [.iptr [Bol b], .iptr (cLookup l)] (tup2 (anchE l, 0)) := by
  refine ac_of Tryz.func173 rfl Tryz.ntmps173 rfl fun B => ?_
  unfold anchE
  rw [← hb, show (l.Rules.length : Int) = ((l.Rules.map cRule).length : Int) by rw [List.length_map]]
  cases b
  · (repeat' (first|refine at_seq ?_|refine at_region ?_|refine at_ret ?_|refine ax_then ?_|refine atl_nil ?_|refine n_run ttok rfl rfl ?_|refine atl_guard_no rfl rfl rfl rfl ?_|(apply s_call;refine n_call ?_)|fail))
    exact ax_ret2 rfl rfl rfl rfl
  · (repeat' (first|refine at_seq ?_|refine at_region ?_|refine at_ret ?_|refine ax_then ?_|refine atl_nil ?_|refine n_run ttok rfl rfl ?_|refine atl_guard_yes rfl rfl ?_|(apply s_call;refine n_call ?_)|fail))
    exact ax_ret2 rfl rfl rfl rfl
theorem lookup3s_det (f : FFont) (l : FLookup) (i : Nat) (r : FRule) : ADet Tryz.prog 176 [I64 i, .agg (cRule r), .iptr (cFont f), .iptr (cLookup l)] (I64 (ruleE f l.Kind r)) := by
  refine ac_of Tryz.func176 rfl Tryz.ntmps176 rfl fun B => ?_
  (repeat' (first|refine at_seq ?_|refine at_region ?_|refine at_ret ?_|refine ax_then ?_|refine atl_nil ?_|refine n_run ttok rfl rfl ?_|refine n_boxI ?_|(apply s_call;refine n_call ?_)|fail))
  exact ax_ret1 rfl rfl rfl
theorem lookup3_det (f : FFont) (l : FLookup) : ADet Tryz.prog 174 [.iptr (cLookup l), .iptr (cFont f)] (tup2 (eachL l.Rules fun _ r => ruleE f l.Kind r)) := by
  refine ac_of Tryz.func174 rfl Tryz.ntmps174 rfl fun B => ?_
  (repeat' (first|refine at_seq ?_|refine at_region ?_|refine ax_then ?_|refine atl_nil ?_|refine n_run ttok rfl rfl ?_|fail))
  refine n_callA [] [] (each175 (u := .fn 176 [.iptr (cFont f), .iptr (cLookup l)]) (g := 176) rfl l.Rules _ (fun _ _ => True) [] trivial (wrong_det (w := fun _ r => ruleE f l.Kind r) (fun i x _ => lookup3s_det f l i x))) rfl rfl (List.Perm.refl _) rfl fun c L1 hc => ?_
  have hc : c = tup2 (eachL l.Rules fun _ r => ruleE f l.Kind r) := hc
  subst hc
  unfold tup2
  (repeat' (first|refine at_ret ?_|refine ax_then ?_|refine atl_nil ?_|refine n_run ttok rfl rfl ?_|fail))
  exact ax_ret2 rfl rfl rfl rfl
def lookupE (f : FFont) (l : FLookup) : Int := if l.Kind < 1 ∨ l.Kind > 8 then 42 else (firstE [(whenE (decide ((l.Rules.length : Int) > 60)) 2, 0), (anchE l, 0), eachL l.Rules fun _ r => ruleE f l.Kind r]).1
set_option maxHeartbeats 1000000 in
theorem lookup_det (f : FFont) (l : FLookup) : ADet Tryz.prog 95 [aFont f, .agg (cLookup l)] (I64 (lookupE f l)) := by
  refine ac_of Tryz.func95 rfl Tryz.ntmps95 rfl fun B => ?_
  unfold lookupE
  (repeat' (first|refine at_seq ?_|refine at_region ?_|refine ax_then ?_|refine atl_nil ?_|refine n_run ttok rfl rfl ?_|refine n_boxI ?_|fail))
  refine atl_if [2, 3] (l.Kind < 1 ∨ l.Kind > 8) rfl (fun Q' K => ?_) (fun hC => ?_) (fun hC => ?_)
  · (repeat' (first|refine atl_nil ?_|refine n_run ttok rfl rfl ?_|refine atl_guard_yes rfl rfl ?_|refine atl_guard_no rfl rfl rfl rfl ?_|refine atl_guard rfl rfl rfl (fun _ => ?_) (fun _ => ?_)|fail))
    all_goals exact K _ _ rfl rfl (by clear K; grind)
  · rw [if_pos hC]
    (repeat' (first|refine at_seq ?_|refine at_region ?_|refine at_ret ?_|refine ax_then ?_|refine ax_then_ret ?_|refine atl_nil ?_|refine n_run ttok rfl rfl ?_|fail))
    exact ax_ret1 rfl rfl rfl
  rw [if_neg hC]
  (repeat' (first|refine at_seq ?_|refine at_region ?_|refine at_skip ?_|refine ax_then ?_|refine n_run ttok rfl rfl ?_|fail))
  by_cases h7 : l.Kind = 7
  · rw [decide_eq_true h7]
    (repeat' (first|refine at_seq ?_|refine at_region ?_|refine ax_then ?_|refine atl_nil ?_|refine n_run ttok rfl rfl ?_|refine atl_guard_no rfl rfl rfl rfl ?_|(apply s_store; first|refine n_storeF 5 ttok 0 rfl rfl rfl rfl rfl rfl rfl rfl ?_|refine n_storeF 5 ttok 1 rfl rfl rfl rfl rfl rfl rfl rfl ?_|refine n_storeF 5 ttok 2 rfl rfl rfl rfl rfl rfl rfl rfl ?_|refine n_store ttok 0 rfl rfl rfl rfl rfl rfl rfl ?_|refine n_store ttok 1 rfl rfl rfl rfl rfl rfl rfl ?_|refine n_store ttok 2 rfl rfl rfl rfl rfl rfl rfl ?_|refine n_store ttok 3 rfl rfl rfl rfl rfl rfl rfl ?_|fail)|refine n_alloc ttok fun _=>?_|refine n_litI ttok ?_|fail))
    refine n_callA [] [] (first_ac [⟨172, [.iptr (cLookup l)], [], whenE (decide ((l.Rules.length : Int) > 60)) 2, 0⟩, ⟨173, [.iptr [Bol true], .iptr (cLookup l)], [], anchE l, 0⟩, ⟨174, [.iptr (cLookup l), .iptr (cFont f)], [], (eachL l.Rules fun _ r => ruleE f l.Kind r).1, (eachL l.Rules fun _ r => ruleE f l.Kind r).2⟩] ⟨⟨inferInstance, lookup1_det l⟩, fun _ => ⟨⟨inferInstance, lookup2_det l true (decide_eq_true (Or.inl h7)).symm⟩, fun _ => ⟨⟨inferInstance, lookup3_det f l⟩, fun _ => trivial⟩⟩⟩) rfl rfl (List.Perm.refl _) rfl fun c L1 hc => ?_
    rw [lkE_map] at hc
    subst hc
    unfold tup2
    (repeat' (first|refine at_seq ?_|refine at_region ?_|refine at_ret ?_|refine ax_then ?_|refine atl_nil ?_|refine n_run ttok rfl rfl ?_|fail))
    exact ax_ret1 rfl rfl rfl
  · rw [decide_eq_false h7]
    (repeat' (first|refine at_seq ?_|refine at_region ?_|refine ax_then ?_|refine atl_nil ?_|refine n_run ttok rfl rfl ?_|refine atl_guard_yes rfl rfl ?_|(apply s_store; first|refine n_storeF 5 ttok 0 rfl rfl rfl rfl rfl rfl rfl rfl ?_|refine n_storeF 5 ttok 1 rfl rfl rfl rfl rfl rfl rfl rfl ?_|refine n_storeF 5 ttok 2 rfl rfl rfl rfl rfl rfl rfl rfl ?_|refine n_store ttok 0 rfl rfl rfl rfl rfl rfl rfl ?_|refine n_store ttok 1 rfl rfl rfl rfl rfl rfl rfl ?_|refine n_store ttok 2 rfl rfl rfl rfl rfl rfl rfl ?_|refine n_store ttok 3 rfl rfl rfl rfl rfl rfl rfl ?_|fail)|refine n_alloc ttok fun _=>?_|refine n_litI ttok ?_|fail))
    refine n_callA [] [] (first_ac [⟨172, [.iptr (cLookup l)], [], whenE (decide ((l.Rules.length : Int) > 60)) 2, 0⟩, ⟨173, [.iptr [Bol (decide (l.Kind = 8))], .iptr (cLookup l)], [], anchE l, 0⟩, ⟨174, [.iptr (cLookup l), .iptr (cFont f)], [], (eachL l.Rules fun _ r => ruleE f l.Kind r).1, (eachL l.Rules fun _ r => ruleE f l.Kind r).2⟩] ⟨⟨inferInstance, lookup1_det l⟩, fun _ => ⟨⟨inferInstance, lookup2_det l (decide (l.Kind = 8)) (decide_eq_decide.2 ⟨Or.inr, fun h => h.resolve_left h7⟩)⟩, fun _ => ⟨⟨inferInstance, lookup3_det f l⟩, fun _ => trivial⟩⟩⟩) rfl rfl (List.Perm.refl _) rfl fun c L1 hc => ?_
    rw [lkE_map] at hc
    subst hc
    unfold tup2
    (repeat' (first|refine at_seq ?_|refine at_region ?_|refine at_ret ?_|refine ax_then ?_|refine atl_nil ?_|refine n_run ttok rfl rfl ?_|fail))
    exact ax_ret1 rfl rfl rfl
instance (f : FFont) (l : FLookup) : AD Tryz.prog 95 [aFont f, .agg (cLookup l)] (I64 (lookupE f l)) := ⟨lookup_det f l⟩
theorem lookupAt_det (f : FFont) (i : Nat) (l : FLookup) : ADet Tryz.prog 94 [I64 i, .agg (cLookup l), .iptr (cFont f)] (I64 (lookupE f l)) := by
  refine ac_of Tryz.func94 rfl Tryz.ntmps94 rfl fun B => ?_
  (repeat' (first|refine at_seq ?_|refine at_region ?_|refine at_ret ?_|refine ax_then ?_|refine atl_nil ?_|refine n_run ttok rfl rfl ?_|refine n_boxI ?_|(apply s_call;refine n_call ?_)|fail))
  exact ax_ret1 rfl rfl rfl
end Go.Proofs.YtpbinloeemebkaaGreat

namespace Go.Proofs.YtpbinloeemebkaaGreat
open Go.RowKit
section
variable {P : Program} {tt : TT} {l : List Oper} {fr : AFr} {fin : AFr → AL → Prop} {sk : AkL} {acc : AFr} {L : AL} {k : Nat} {dd : Option Tmp} {ty t t' : TypeId} {pos : String} {af : Array Edge} {g : Option (Nat × Bool)} {x y : Operand} {u : AV}
theorem d_indexP (ok : TOk P tt) {e sz by_ b off n cap : Nat} {q : IntKind} {i : Int} (ht : slI tt t = some (e, sz, by_)) (hx : aev (frkA l.toArray acc fr af.toList) x = some (.sc (.slice (some ⟨b, off, none⟩) n cap))) (hy : aev (frkA l.toArray acc fr af.toList) y = some (.sc (.int q i))) (h0 : 0 ≤ i ∧ i < n) (hg : GOA ⟨dd, .indexAddr t x y, ty, pos, af, g⟩ acc) (h : DA P l fr fin sk ((k, .sc (.pointer (some ⟨b, off + i.toNat * sz, none⟩))) :: acc) L) :
    DA1 P l fr fin k .v ⟨dd, .indexAddr t x y, ty, pos, af, g⟩ sk acc L := da_val hg (fun _ _ => (a_indexP (slI_spec ok ht).1 hx hy h0).ao) h
theorem d_storeB (ok : TOk P tt) (i : Nat) {b q n : Nat} {cs ys : List AV} {e : TypeId} (ht : szI tt t = some n) (hx : aev (frkA l.toArray acc fr af.toList) x = some (.sc (.pointer (some ⟨b, q, none⟩)))) (hy : aev (frkA l.toArray acc fr af.toList) y = some u) (hu : u.cells = some ys) (hL : L[i]? = some (b, .box cs e)) (hn : Nat.beq ys.length n = true) (hk : Nat.ble (q + n) cs.length = true) (hg : GOA ⟨dd, .store t x y, ty, pos, af, g⟩ acc) (h : ∀ c, DA P l fr fin sk ((k, c) :: acc) (aput L i (.box (putA cs q ys) e))) :
    DA1 P l fr fin k .e ⟨dd, .store t x y, ty, pos, af, g⟩ sk acc L := da_eff hg (fun _ => ao_store i (szI_spec ok ht) hx hy hu hL hn hk) fun c L' h1 => by subst h1; exact h c
theorem d_assert {v : Value} (ht : notIface P t = true) (hx : aev (frkA l.toArray acc fr af.toList) x = some (.sc (.iface t v))) (hg : GOA ⟨dd, .typeAssert x t' t false, ty, pos, af, g⟩ acc) (h : DA P l fr fin sk ((k, .sc v) :: acc) L) : DA1 P l fr fin k .v ⟨dd, .typeAssert x t' t false, ty, pos, af, g⟩ sk acc L :=
  da_val hg (fun _ _ => (a_assert ht hx).ao) h
theorem d_appendB (ok : TOk P tt) (i : Nat) {e by_ b n cap : Nat} {cs : List AV} {c : AV} (ht : slI tt t = some (e, 1, by_)) (hz : zI tt e = some [.int .i64 0]) (hx : aev (frkA l.toArray acc fr af.toList) x = some (.sc (.slice (some ⟨b, 0, none⟩) n cap))) (hy : aev (frkA l.toArray acc fr af.toList) y = some u) (hu : immO u = some (1, [[c]])) (hL : L[i]? = some (b, .box cs e)) (hcl : cs.length = cap) (hn : n ≤ cap) (h63 : n + 1 ≤ 9223372036854775807) (hby : (n + 1) * by_ ≤ 140737488355328) (hg : GOA ⟨dd, .call ⟨.builtin .append, #[x, y], #[t, t]⟩, ty, pos, af, g⟩ acc)
    (h : ∀ b' cs', cs'.take (n + 1) = cs.take n ++ [c] → n + 1 ≤ cs'.length → DA P l fr fin sk ((k, .sc (.slice (some ⟨b', 0, none⟩) (n + 1) cs'.length)) :: acc) ((b', .box cs' e) :: L.eraseIdx i)) :
    DA1 P l fr fin k .e ⟨dd, .call ⟨.builtin .append, #[x, y], #[t, t]⟩, ty, pos, af, g⟩ sk acc L :=
  da_eff hg (fun _ => ao_appendB i (slI_spec ok ht).1 (zI_spec ok hz) hx hy (immO_spec hu) hL hcl hn h63 hby) fun q L' ⟨b', cs', h1, h2, h3, h4⟩ => by subst h1; subst h4; exact h b' cs' h2 h3
theorem d_appendN (ok : TOk P tt) {e by_ : Nat} {c : AV} (ht : slI tt t = some (e, 1, by_)) (hz : zI tt e = some [.int .i64 0]) (hx : aev (frkA l.toArray acc fr af.toList) x = some (.sc (.slice none 0 0))) (hy : aev (frkA l.toArray acc fr af.toList) y = some u) (hu : immO u = some (1, [[c]])) (hby : Nat.ble by_ 140737488355328 = true) (hg : GOA ⟨dd, .call ⟨.builtin .append, #[x, y], #[t, t]⟩, ty, pos, af, g⟩ acc)
    (h : ∀ b' cs', cs'.take 1 = [c] → 1 ≤ cs'.length → DA P l fr fin sk ((k, .sc (.slice (some ⟨b', 0, none⟩) 1 cs'.length)) :: acc) ((b', .box cs' e) :: L)) :
    DA1 P l fr fin k .e ⟨dd, .call ⟨.builtin .append, #[x, y], #[t, t]⟩, ty, pos, af, g⟩ sk acc L :=
  da_eff hg (fun _ => ao_appendN (slI_spec ok ht).1 (zI_spec ok hz) hx hy (immO_spec hu) (Nat.ble_eq .. ▸ hby)) fun q L' ⟨b', cs', h1, h2, h3, h4⟩ => by subst h1; subst h4; exact h b' cs' h2 h3
end
def methB (P : Program) (t : TypeId) (name : String) (f : FuncId) (ptr : Bool) (e : TypeId) : Bool := (match P.underlying t with | some (.pointer e') => Nat.beq e' e | _ => false) && match P.info? t with
  | some ti => match ti.methods.find? (·.name == name) with
    | some m => m.path.isEmpty && (match m.func with | some (f', p') => Nat.beq f' f && (p' == ptr) | none => false)
    | none => false
  | none => false
theorem methB_spec {P : Program} {t : TypeId} {name : String} {f : FuncId} {ptr : Bool} {e : TypeId} (h : methB P t name f ptr e = true) : Meth P t name f ptr e := by
  unfold methB at h
  rw [Bool.and_eq_true] at h
  obtain ⟨h1, h2⟩ := h
  split at h1
  · rename_i e' hu
    rw [Nat.beq_eq] at h1
    subst h1
    split at h2
    · rename_i ti hti
      split at h2
      · rename_i m hm
        rw [Bool.and_eq_true] at h2
        obtain ⟨h3, h4⟩ := h2
        split at h4
        · rename_i f' p' hf
          rw [Bool.and_eq_true, Nat.beq_eq, beq_iff_eq] at h4
          refine ⟨hu, ti, m, hti, hm, ?_, by rw [hf, h4.1, h4.2]⟩
          simpa using h3
        · cases h4
      · cases h2
    · cases h2
  · cases h1
end Go.Proofs.YtpbinloeemebkaaGreat
