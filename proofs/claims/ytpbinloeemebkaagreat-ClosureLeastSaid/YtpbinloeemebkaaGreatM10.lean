/-
  The program: glyphs, as check looks at them, with anchors and deltas.
-/
import Derived.Test.YtpbinloeemebkaaGreatM09
import Derived.Test.YtpbinloeemebkaaGreatM07
namespace Go.Proofs.YtpbinloeemebkaaGreat
open Go.RowKit
attribute [local irreducible] AT ATL AX AO Av Kt ALoopK OkA DA DA1
theorem two304 : TwoI Tryz.prog 304 := ⟨⟨_, _, Tryz.underlying304, ⟨by decide, by decide⟩, ⟨rfl, rfl⟩, Tryz.underlying3, Tryz.underlying3⟩, Tryz.stoodInHeld304⟩
theorem two307 : TwoI Tryz.prog 307 := ⟨⟨_, _, Tryz.underlying307, ⟨by decide, by decide⟩, ⟨rfl, rfl⟩, Tryz.underlying3, Tryz.underlying3⟩, Tryz.stoodInHeld307⟩
def metM (l : List FAnchor) (a b : Int) : Option AV := if ∃ x ∈ l, x.Kind = a ∧ x.Class = b then some (Bol true) else none
theorem metM_nil : metM [] = fun _ _ => none := by funext a b; simp [metM]
theorem metM_getD (l : List FAnchor) (a b : Int) : (metM l a b).getD (Bol false) = Bol (decide (∃ x ∈ l, x.Kind = a ∧ x.Class = b)) := by
  unfold metM
  by_cases h : ∃ x ∈ l, x.Kind = a ∧ x.Class = b
  · rw [if_pos h, decide_eq_true h]; rfl
  · rw [if_neg h, decide_eq_false h]; rfl
theorem metM_self {l : List FAnchor} {i : Nat} {x : FAnchor} (h : l[i]? = some x) : metM (l.take (i + 1)) x.Kind x.Class = some (Bol true) := by
  unfold metM
  rw [if_pos ⟨x, by rw [List.take_add_one, h]; simp, rfl, rfl⟩]
theorem metM_other {l : List FAnchor} {i : Nat} {x : FAnchor} (h : l[i]? = some x) (p q : Int) (hne : ¬ (p = x.Kind ∧ q = x.Class)) : metM (l.take (i + 1)) p q = metM (l.take i) p q := by
  unfold metM
  have : (∃ y ∈ l.take (i + 1), y.Kind = p ∧ y.Class = q) ↔ ∃ y ∈ l.take i, y.Kind = p ∧ y.Class = q := by
    rw [List.take_add_one, h]
    simp only [Option.toList_some, List.mem_append, List.mem_singleton]
    constructor
    · rintro ⟨y, hy | rfl, h1⟩
      · exact ⟨y, hy, h1⟩
      · exact absurd ⟨h1.1.symm, h1.2.symm⟩ hne
    · rintro ⟨y, hy, h1⟩
      exact ⟨y, Or.inl hy, h1⟩
  by_cases hc : ∃ y ∈ l.take i, y.Kind = p ∧ y.Class = q
  · rw [if_pos hc, if_pos (this.2 hc)]
  · rw [if_neg hc, if_neg (fun h => hc (this.1 h))]
set_option maxHeartbeats 1000000 in
theorem anchor1_ac (g : FGlyph) (i : Nat) (a : FAnchor) (ha : g.Anchors[i]? = some a) (m : Nat) : AC Tryz.prog 229 [I64 i, .agg (cAnchor a), .iptr [Bol g.Mark], .iptr [.sc (.map (some m))]] [(m, mapB2 (metM (g.Anchors.take i)))] fun c L' => c = I64 (ancE g i a) ∧ (ancE g i a = 0 → L' = [(m, mapB2 (metM (g.Anchors.take (i + 1))))]) := by
  refine ac_of Tryz.func229 rfl Tryz.ntmps229 rfl fun B => ?_
  (repeat' (first|refine at_seq ?_|refine at_region ?_|refine ax_then ?_|refine atl_nil ?_|refine n_run ttok rfl rfl ?_|(apply s_store; first|refine n_storeF 7 ttok 0 rfl rfl rfl rfl rfl rfl rfl rfl ?_|refine n_storeF 7 ttok 1 rfl rfl rfl rfl rfl rfl rfl rfl ?_|refine n_storeF 7 ttok 2 rfl rfl rfl rfl rfl rfl rfl rfl ?_|refine n_store ttok 0 rfl rfl rfl rfl rfl rfl rfl ?_|refine n_store ttok 1 rfl rfl rfl rfl rfl rfl rfl ?_|refine n_store ttok 2 rfl rfl rfl rfl rfl rfl rfl ?_|refine n_store ttok 3 rfl rfl rfl rfl rfl rfl rfl ?_|fail)|refine n_boxI ?_|refine n_alloc ttok fun _=>?_|fail))
  refine atl_cut (t := 8) [2, 3, 5, 7] (a.Kind = 3 ∨ a.Kind = 4) rfl (fun Q' K => ?_) ?_
  · (repeat' (first|refine atl_nil ?_|refine n_run ttok rfl rfl ?_|refine atl_guard_yes rfl rfl ?_|refine atl_guard_no rfl rfl rfl rfl ?_|refine atl_guard rfl rfl rfl (fun _ => ?_) (fun _ => ?_)|fail))
    all_goals exact K _ _ rfl rfl (by clear K; grind)
  (repeat' (first|refine at_seq ?_|refine at_region ?_|refine at_block ?_|refine ax_then ?_|refine n_run ttok rfl rfl ?_|fail))
  refine atl_cut (t := 22) [2, 3, 5, 7, 8] (a.Kind < 1 ∨ a.Kind > 4) rfl (fun Q' K => ?_) ?_
  · (repeat' (first|refine atl_nil ?_|refine n_run ttok rfl rfl ?_|refine atl_guard_yes rfl rfl ?_|refine atl_guard_no rfl rfl rfl rfl ?_|refine atl_guard rfl rfl rfl (fun _ => ?_) (fun _ => ?_)|fail))
    all_goals exact K _ _ rfl rfl (by clear K; grind)
  (repeat' (first|refine ax_then ?_|fail))
  refine at_cond rfl (fun h1 => ?_) (fun h1 => ?_)
  · have h0 := h1
    replace h1 := of_decide_eq_true h1
    rw [h0]
    (repeat' (first|refine at_seq ?_|refine at_region ?_|refine at_skip ?_|refine at_ret ?_|refine ax_then ?_|refine ax_then_ret ?_|refine ax_blk_ret ?_|refine atl_nil ?_|refine n_run ttok rfl rfl ?_|refine n_condT rfl ?_|fail))
    refine ax_ret1 rfl rfl ?_
    rw [show ancE g i a = 35 from if_pos (.inl h1)]
    exact ⟨rfl, fun e => absurd e (by decide)⟩
  have h0 := h1
  replace h1 := of_decide_eq_false h1
  rw [h0]
  clear h0
  (repeat' (first|refine at_seq ?_|refine at_region ?_|refine n_run ttok rfl rfl ?_|fail))
  refine atl_cut (t := 22) [2, 3, 5, 7, 8] (a.Class < 0 ∨ a.Class > 15) rfl (fun Q' K => ?_) ?_
  · (repeat' (first|refine atl_nil ?_|refine n_run ttok rfl rfl ?_|refine atl_guard_yes rfl rfl ?_|refine atl_guard_no rfl rfl rfl rfl ?_|refine atl_guard rfl rfl rfl (fun _ => ?_) (fun _ => ?_)|fail))
    all_goals exact K _ _ rfl rfl (by clear K; grind)
  (repeat' (first|refine ax_then ?_|fail))
  refine at_cond rfl (fun h2 => ?_) (fun h2 => ?_)
  · have h0 := h2
    replace h2 := of_decide_eq_true h2
    rw [h0]
    (repeat' (first|refine at_seq ?_|refine at_region ?_|refine at_skip ?_|refine at_ret ?_|refine ax_then ?_|refine ax_then_ret ?_|refine ax_blk_ret ?_|refine atl_nil ?_|refine n_run ttok rfl rfl ?_|refine n_condT rfl ?_|fail))
    refine ax_ret1 rfl rfl ?_
    rw [show ancE g i a = 35 from if_pos (.inr (.inl h2))]
    exact ⟨rfl, fun e => absurd e (by decide)⟩
  have h0 := h2
  replace h2 := of_decide_eq_false h2
  rw [h0]
  clear h0
  (repeat' (first|refine at_seq ?_|refine at_region ?_|refine n_run ttok rfl rfl ?_|fail))
  refine atl_cut (t := 22) [2, 3, 5, 7] ((a.Kind = 3 ∨ a.Kind = 4) ∧ a.Class ≠ 0) rfl (fun Q' K => ?_) ?_
  · generalize hj : decide (a.Kind = 3 ∨ a.Kind = 4) = j
    have hj' : (a.Kind = 3 ∨ a.Kind = 4) ↔ j = true := by rw [← hj, decide_eq_true_eq]
    (repeat' (first|refine atl_nil ?_|refine n_run ttok rfl rfl ?_|refine atl_guard_yes rfl rfl ?_|refine atl_guard_no rfl rfl rfl rfl ?_|refine atl_guard rfl rfl rfl (fun _ => ?_) (fun _ => ?_)|fail))
    all_goals exact K _ _ (by first | rfl | (subst_vars; rfl)) rfl (by clear K; grind)
  (repeat' (first|refine ax_then ?_|fail))
  refine at_cond rfl (fun h3 => ?_) (fun h3 => ?_)
  · have h0 := h3
    replace h3 := of_decide_eq_true h3
    rw [h0]
    (repeat' (first|refine at_seq ?_|refine at_region ?_|refine at_skip ?_|refine at_ret ?_|refine ax_then ?_|refine ax_then_ret ?_|refine ax_blk_ret ?_|refine atl_nil ?_|refine n_run ttok rfl rfl ?_|refine n_condT rfl ?_|fail))
    refine ax_ret1 rfl rfl ?_
    rw [show ancE g i a = 35 from if_pos (.inr (.inr (.inl h3)))]
    exact ⟨rfl, fun e => absurd e (by decide)⟩
  have h0 := h3
  replace h3 := of_decide_eq_false h3
  rw [h0]
  clear h0
  (repeat' (first|refine at_seq ?_|refine at_region ?_|refine ax_then ?_|refine atl_nil ?_|refine n_run ttok rfl rfl ?_|refine n_litI ttok ?_|(apply s_call;refine n_call ?_)|fail))
  refine at_cond rfl (fun h4 => ?_) (fun h4 => ?_)
  · rw [h4]
    (repeat' (first|refine at_seq ?_|refine at_region ?_|refine at_skip ?_|refine at_ret ?_|refine ax_then ?_|refine ax_then_ret ?_|refine ax_blk_ret ?_|refine atl_nil ?_|refine n_run ttok rfl rfl ?_|refine n_condT rfl ?_|fail))
    refine ax_ret1 rfl rfl ?_
    rw [show ancE g i a = 35 from if_pos (.inr (.inr (.inr (.inl (by rw [← Bool.not_eq_true', h4])))))]
    exact ⟨rfl, fun e => absurd e (by decide)⟩
  rw [h4]
  (repeat' (first|refine at_seq ?_|refine at_region ?_|refine n_run ttok rfl rfl ?_|fail))
  refine atl_cut (t := 22) [3, 7] (a.Kind = 2 ∧ g.Mark = false) rfl (fun Q' K => ?_) ?_
  · (repeat' (first|refine atl_nil ?_|refine n_run ttok rfl rfl ?_|refine atl_guard_yes rfl rfl ?_|refine atl_guard_no rfl rfl rfl rfl ?_|refine atl_guard rfl rfl rfl (fun _ => ?_) (fun _ => ?_)|fail))
    all_goals exact K _ _ rfl rfl (by clear K; grind)
  (repeat' (first|refine ax_then ?_|fail))
  refine at_cond rfl (fun h5 => ?_) (fun h5 => ?_)
  · have h0 := h5
    replace h5 := of_decide_eq_true h5
    rw [h0]
    (repeat' (first|refine at_seq ?_|refine at_region ?_|refine at_skip ?_|refine at_ret ?_|refine ax_then ?_|refine ax_then_ret ?_|refine ax_blk_ret ?_|refine atl_nil ?_|refine n_run ttok rfl rfl ?_|refine n_condT rfl ?_|fail))
    refine ax_ret1 rfl rfl ?_
    rw [show ancE g i a = 35 from if_pos (.inr (.inr (.inr (.inr (.inl h5)))))]
    exact ⟨rfl, fun e => absurd e (by decide)⟩
  have h0 := h5
  replace h5 := of_decide_eq_false h5
  rw [h0]
  clear h0
  (repeat' (first|refine at_region ?_|refine n_run ttok rfl rfl ?_|fail))
  refine n_lookup_2 0 (.bool false) Tryz.underlying302 two304 rfl rfl rfl (by kernel_rfl) rfl ?_
  rw [metM_getD]
  (repeat' (first|refine ax_then ?_|refine atl_nil ?_|refine n_run ttok rfl rfl ?_|fail))
  refine at_cond rfl (fun h6 => ?_) (fun h6 => ?_)
  · rw [h6]
    (repeat' (first|refine at_seq ?_|refine at_region ?_|refine at_ret ?_|refine ax_then ?_|refine ax_then_ret ?_|refine ax_blk_ret ?_|refine atl_nil ?_|refine n_run ttok rfl rfl ?_|fail))
    refine ax_ret1 rfl rfl ?_
    rw [show ancE g i a = 35 from if_pos (.inr (.inr (.inr (.inr (.inr (of_decide_eq_true h6))))))]
    exact ⟨rfl, fun e => absurd e (by decide)⟩
  rw [h6]
  (repeat' (first|refine at_seq ?_|refine at_region ?_|refine at_skip ?_|refine ax_then ?_|refine ax_blk ?_|refine n_run ttok rfl rfl ?_|fail))
  refine n_mapUpdate2 0 (metM (g.Anchors.take (i + 1))) Tryz.underlying302 two304 rfl rfl rfl rfl (metM_self ha) (metM_other ha) ?_
  (repeat' (first|refine at_seq ?_|refine at_region ?_|refine at_ret ?_|refine ax_then ?_|refine atl_nil ?_|refine n_run ttok rfl rfl ?_|fail))
  refine ax_ret1 rfl rfl ?_
  have h4' : [a.X, a.Y].all mayN = true := by simpa using h4
  have h6' := of_decide_eq_false h6
  rw [show ancE g i a = 0 from if_neg (by
    rintro (h | h | h | h | h | h)
    · exact h1 h
    · exact h2 h
    · exact h3 h
    · rw [h4'] at h; cases h
    · exact h5 h
    · exact h6' h)]
  exact ⟨rfl, fun _ => rfl⟩
def spotLt (a b c d : Int) : Bool := decide (a < c ∨ (a = c ∧ b < d))
theorem before_det (a b c d : Int) : ADet Tryz.prog 233 [.agg [I64 a, I64 b], .agg [I64 c, I64 d]] (Bol (spotLt a b c d)) := by
  refine ac_of Tryz.func233 rfl Tryz.ntmps233 rfl fun B => ?_
  (repeat' (first|refine at_seq ?_|refine at_region ?_|refine ax_then ?_|refine atl_nil ?_|refine n_run ttok rfl rfl ?_|refine n_boxI ?_|fail))
  refine atl_cut (t := 4) [] (spotLt a b c d = true) rfl (fun Q' K => ?_) ?_
  · (repeat' (first|refine atl_nil ?_|refine n_run ttok rfl rfl ?_|refine atl_guard_yes rfl rfl ?_|refine atl_guard_no rfl rfl rfl rfl ?_|refine atl_guard_undef rfl rfl rfl ?_|refine atl_guard rfl rfl rfl (fun _ => ?_) (fun _ => ?_)|fail))
    all_goals exact K _ _ rfl rfl (by clear K; unfold spotLt; grind)
  (repeat' (first|refine at_ret ?_|refine ax_then ?_|fail))
  refine ax_ret1 rfl rfl ?_
  simp
def spotAt (l : List FDelta) (i : Nat) : Int × Int := match i with | 0 => (0, 0) | j + 1 => match l[j]? with | some b => (b.Region, b.Point) | none => (0, 0)
def lateD (g : FGlyph) (i : Nat) (d : FDelta) : Bool := decide (0 < i ∧ ((d.Region = (spotAt g.Deltas i).1 ∧ d.Point = (spotAt g.Deltas i).2) ∨ spotLt d.Region d.Point (spotAt g.Deltas i).1 (spotAt g.Deltas i).2 = true))
theorem late_eq {g : FGlyph} {i : Nat} {d : FDelta} (hd : g.Deltas[i]? = some d) : (match i with | 0 => false | j + 1 => match g.Deltas[j]? with | some b => decide (d.Region < b.Region ∨ (d.Region = b.Region ∧ d.Point ≤ b.Point)) | none => false) = lateD g i d := by
  unfold lateD
  cases i with
  | zero => simp
  | succ j =>
    have hj : j < g.Deltas.length := by have := (List.getElem?_eq_some_iff.1 hd).1; omega
    obtain ⟨b, hb⟩ : ∃ b, g.Deltas[j]? = some b := ⟨_, List.getElem?_eq_getElem hj⟩
    simp only [hb, spotAt, spotLt]
    rw [Bool.eq_iff_iff, decide_eq_true_eq, decide_eq_true_eq, decide_eq_true_eq]
    omega
theorem delE_eq {f : FFont} {g : FGlyph} {i : Nat} {d : FDelta} (hd : g.Deltas[i]? = some d) : delE f g i d = if d.Region < 0 ∨ d.Region ≥ f.Regions.length then 61 else if (d.Point < -1 ∨ d.Point ≥ g.Points.length) ∨ [d.X, d.Y].all mayN = false ∨ (d.Point = -1 ∧ d.Y ≠ 0) then 30 else if lateD g i d = true then 24 else 0 := by
  unfold delE
  rw [← late_eq hd]
  cases i <;> rfl
set_option maxHeartbeats 1000000 in
theorem delta1_ac (f : FFont) (g : FGlyph) (i : Nat) (d : FDelta) (hd : g.Deltas[i]? = some d) (R N : Int) (hR : R = f.Regions.length) (hN : N = g.Points.length) (b : Nat) : AC Tryz.prog 232 [I64 i, .agg (cDelta d), .iptr [I64 R], .iptr [I64 N], .sc (.pointer (some ⟨b, 0, none⟩))] [(b, .box [I64 (spotAt g.Deltas i).1, I64 (spotAt g.Deltas i).2] 307)] fun c L' => c = I64 (delE f g i d) ∧ (delE f g i d = 0 → L' = [(b, .box [I64 (spotAt g.Deltas (i + 1)).1, I64 (spotAt g.Deltas (i + 1)).2] 307)]) := by
  refine ac_of Tryz.func232 rfl Tryz.ntmps232 rfl fun B => ?_
  rw [delE_eq hd, ← hR, ← hN]
  have hnext : spotAt g.Deltas (i + 1) = (d.Region, d.Point) := by simp only [spotAt, hd]
  rw [hnext]
  (repeat' (first|refine at_seq ?_|refine at_region ?_|refine at_block ?_|refine ax_then ?_|refine atl_nil ?_|refine n_run ttok rfl rfl ?_|(apply s_store; first|refine n_storeF 8 ttok 0 rfl rfl rfl rfl rfl rfl rfl rfl ?_|refine n_storeF 8 ttok 1 rfl rfl rfl rfl rfl rfl rfl rfl ?_|refine n_storeF 8 ttok 2 rfl rfl rfl rfl rfl rfl rfl rfl ?_|refine n_store ttok 0 rfl rfl rfl rfl rfl rfl rfl ?_|refine n_store ttok 1 rfl rfl rfl rfl rfl rfl rfl ?_|refine n_store ttok 2 rfl rfl rfl rfl rfl rfl rfl ?_|refine n_store ttok 3 rfl rfl rfl rfl rfl rfl rfl ?_|fail)|refine n_boxI ?_|refine n_alloc ttok fun _=>?_|fail))
  refine atl_if [0, 3, 4, 6, 8] (d.Region < 0 ∨ d.Region ≥ R) rfl (fun Q' K => ?_) (fun h1 => ?_) (fun h1 => ?_)
  · (repeat' (first|refine atl_nil ?_|refine n_run ttok rfl rfl ?_|refine atl_guard_yes rfl rfl ?_|refine atl_guard_no rfl rfl rfl rfl ?_|refine atl_guard rfl rfl rfl (fun _ => ?_) (fun _ => ?_)|fail))
    all_goals exact K _ _ rfl rfl (by clear K; grind)
  · rw [if_pos h1]
    (repeat' (first|refine at_seq ?_|refine at_region ?_|refine at_ret ?_|refine ax_then ?_|refine ax_then_ret ?_|refine ax_blk_ret ?_|refine atl_nil ?_|refine n_run ttok rfl rfl ?_|fail))
    exact ax_ret1 rfl rfl ⟨rfl, fun e => absurd e (by decide)⟩
  rw [if_neg h1]
  (repeat' (first|refine at_seq ?_|refine at_region ?_|refine n_run ttok rfl rfl ?_|fail))
  refine atl_cut (t := 24) [0, 4, 6, 8] (d.Point < -1 ∨ d.Point ≥ N) rfl (fun Q' K => ?_) ?_
  · (repeat' (first|refine atl_nil ?_|refine n_run ttok rfl rfl ?_|refine atl_guard_yes rfl rfl ?_|refine atl_guard_no rfl rfl rfl rfl ?_|refine atl_guard rfl rfl rfl (fun _ => ?_) (fun _ => ?_)|fail))
    all_goals exact K _ _ rfl rfl (by clear K; grind)
  (repeat' (first|refine ax_then ?_|fail))
  refine at_cond rfl (fun h2 => ?_) (fun h2 => ?_)
  · have h0 := h2
    replace h2 := of_decide_eq_true h2
    rw [h0]
    rw [if_pos (.inl h2)]
    (repeat' (first|refine at_seq ?_|refine at_region ?_|refine at_skip ?_|refine at_ret ?_|refine ax_then ?_|refine ax_then_ret ?_|refine ax_blk_ret ?_|refine atl_nil ?_|refine n_run ttok rfl rfl ?_|refine n_condT rfl ?_|fail))
    exact ax_ret1 rfl rfl ⟨rfl, fun e => absurd e (by decide)⟩
  have h0 := h2
  replace h2 := of_decide_eq_false h2
  rw [h0]
  clear h0
  (repeat' (first|refine at_seq ?_|refine at_region ?_|refine ax_then ?_|refine atl_nil ?_|refine n_run ttok rfl rfl ?_|refine n_litI ttok ?_|(apply s_call;refine n_call ?_)|fail))
  refine at_cond rfl (fun h3 => ?_) (fun h3 => ?_)
  · rw [if_pos (.inr (.inl (by rw [← Bool.not_eq_true', h3]))), h3]
    (repeat' (first|refine at_seq ?_|refine at_region ?_|refine at_skip ?_|refine at_ret ?_|refine ax_then ?_|refine ax_then_ret ?_|refine ax_blk_ret ?_|refine atl_nil ?_|refine n_run ttok rfl rfl ?_|refine n_condT rfl ?_|fail))
    exact ax_ret1 rfl rfl ⟨rfl, fun e => absurd e (by decide)⟩
  rw [h3]
  (repeat' (first|refine at_region ?_|refine n_run ttok rfl rfl ?_|fail))
  refine atl_cut (t := 24) [0, 4, 8] (d.Point = -1 ∧ d.Y ≠ 0) rfl (fun Q' K => ?_) ?_
  · (repeat' (first|refine atl_nil ?_|refine n_run ttok rfl rfl ?_|refine atl_guard_yes rfl rfl ?_|refine atl_guard_no rfl rfl rfl rfl ?_|refine atl_guard rfl rfl rfl (fun _ => ?_) (fun _ => ?_)|fail))
    all_goals exact K _ _ rfl rfl (by clear K; grind)
  (repeat' (first|refine ax_then ?_|fail))
  refine at_cond rfl (fun h4 => ?_) (fun h4 => ?_)
  · have h0 := h4
    replace h4 := of_decide_eq_true h4
    rw [h0]
    rw [if_pos (.inr (.inr h4))]
    (repeat' (first|refine at_seq ?_|refine at_region ?_|refine at_ret ?_|refine ax_then ?_|refine ax_then_ret ?_|refine ax_blk_ret ?_|refine atl_nil ?_|refine n_run ttok rfl rfl ?_|fail))
    exact ax_ret1 rfl rfl ⟨rfl, fun e => absurd e (by decide)⟩
  have h0 := h4
  replace h4 := of_decide_eq_false h4
  rw [h0]
  clear h0
  have h3' : [d.X, d.Y].all mayN = true := by simpa using h3
  rw [if_neg (by
    rintro (h | h | h)
    · exact h2 h
    · rw [h3'] at h; cases h
    · exact h4 h)]
  (repeat' (first|refine at_seq ?_|refine at_region ?_|refine n_run ttok rfl rfl ?_|fail))
  refine atl_if [4, 8] (lateD g i d = true) rfl (fun Q' K => ?_) (fun h5 => ?_) (fun h5 => ?_)
  · (repeat' (first|refine atl_nil ?_|refine n_run ttok rfl rfl ?_|refine atl_guard_yes rfl rfl ?_|refine atl_guard_no rfl rfl rfl rfl ?_|refine atl_guard_undef rfl rfl rfl ?_|(apply s_load; first|refine n_load ttok 0 rfl rfl rfl rfl rfl ?_|refine n_load ttok 1 rfl rfl rfl rfl rfl ?_|refine n_load ttok 2 rfl rfl rfl rfl rfl ?_|refine n_load ttok 3 rfl rfl rfl rfl rfl ?_|refine n_loadA ttok 0 rfl rfl rfl rfl rfl ?_|refine n_loadA ttok 1 rfl rfl rfl rfl rfl ?_|refine n_loadA ttok 2 rfl rfl rfl rfl rfl ?_|refine n_load ttok 1 rfl rfl rfl (by assumption) rfl ?_|refine n_load ttok 0 rfl rfl rfl (by assumption) rfl ?_|fail)|refine atl_guard rfl rfl rfl (fun _ => ?_) (fun _ => ?_)|fail))
    all_goals first
      | exact K _ _ rfl rfl (by clear K; unfold lateD; grind)
      | (refine n_eql2 two307 Tryz.eqGuardType307 rfl rfl rfl ?_)
    (repeat' (first|refine atl_nil ?_|refine n_run ttok rfl rfl ?_|refine atl_guard_yes rfl rfl ?_|refine atl_guard_no rfl rfl rfl rfl ?_|(apply s_load; first|refine n_load ttok 0 rfl rfl rfl rfl rfl ?_|refine n_load ttok 1 rfl rfl rfl rfl rfl ?_|refine n_load ttok 2 rfl rfl rfl rfl rfl ?_|refine n_load ttok 3 rfl rfl rfl rfl rfl ?_|refine n_loadA ttok 0 rfl rfl rfl rfl rfl ?_|refine n_loadA ttok 1 rfl rfl rfl rfl rfl ?_|refine n_loadA ttok 2 rfl rfl rfl rfl rfl ?_|refine n_load ttok 1 rfl rfl rfl (by assumption) rfl ?_|refine n_load ttok 0 rfl rfl rfl (by assumption) rfl ?_|fail)|refine atl_guard rfl rfl rfl (fun _ => ?_) (fun _ => ?_)|fail))
    all_goals first
      | exact K _ _ rfl rfl (by clear K; unfold lateD; grind)
      | (refine n_call (hc := ⟨before_det d.Region d.Point (spotAt g.Deltas i).1 (spotAt g.Deltas i).2⟩) ?_)
    (repeat' (first|refine atl_nil ?_|refine n_run ttok rfl rfl ?_|refine atl_guard_yes rfl rfl ?_|fail))
    all_goals exact K _ _ rfl rfl (by clear K; unfold lateD; grind)
  · rw [if_pos h5]
    (repeat' (first|refine at_seq ?_|refine at_region ?_|refine at_ret ?_|refine ax_then ?_|refine ax_then_ret ?_|refine ax_blk_ret ?_|refine atl_nil ?_|refine n_run ttok rfl rfl ?_|fail))
    exact ax_ret1 rfl rfl ⟨rfl, fun e => absurd e (by decide)⟩
  rw [if_neg h5]
  (repeat' (first|refine at_seq ?_|refine at_region ?_|refine at_skip ?_|refine at_ret ?_|refine ax_then ?_|refine ax_blk ?_|refine atl_nil ?_|refine n_run ttok rfl rfl ?_|(apply s_store; first|refine n_storeF 8 ttok 0 rfl rfl rfl rfl rfl rfl rfl rfl ?_|refine n_storeF 8 ttok 1 rfl rfl rfl rfl rfl rfl rfl rfl ?_|refine n_storeF 8 ttok 2 rfl rfl rfl rfl rfl rfl rfl rfl ?_|refine n_store ttok 0 rfl rfl rfl rfl rfl rfl rfl ?_|refine n_store ttok 1 rfl rfl rfl rfl rfl rfl rfl ?_|refine n_store ttok 2 rfl rfl rfl rfl rfl rfl rfl ?_|refine n_store ttok 3 rfl rfl rfl rfl rfl rfl rfl ?_|fail)|fail))
  refine ax_ret1 rfl rfl ⟨rfl, fun e => ?_⟩
  rfl
set_option maxHeartbeats 2000000 in
theorem glyph_det (f : FFont) (g : FGlyph) (name : Int) : ADet Tryz.prog 85 [aFont f, .agg (cGlyph g), I64 name] (I64 (glyphE f g name)) := by
  refine ac_of Tryz.func85 rfl Tryz.ntmps85 rfl fun B => ?_
  (repeat' (first|refine at_seq ?_|refine at_region ?_|refine ax_then ?_|refine atl_nil ?_|refine n_run ttok rfl rfl ?_|refine n_boxI ?_|fail))
  refine at_draw 30 [(0, .v), (1, .v), (2, .v), (3, .v), (4, .v), (5, .v), (6, .v), (7, .v), (8, .v), (9, .v), (12, .v), (13, .v), (14, .v), (15, .v), (16, .v), (17, .v), (18, .v), (19, .v), (20, .v), (23, .v), (10, .e), (11, .v), (21, .e), (22, .v), (24, .v), (25, .e), (26, .v), (27, .v), (28, .v), (29, .v)] none ?_ trivial rfl (by kernel_rfl) (by kernel_rfl) (by kernel_rfl) mixed (by kernel_rfl) rfl
  (repeat' (first|refine da_open ?_|refine d_run ttok ?_|(apply ds_call;refine d_call ?_)|fail))
  refine d_callA [] [] (anchors_ac g.Mark) rfl rfl (List.Perm.refl _) trivial fun c L1 ⟨m, hc, hL⟩ => ?_
  subst hc; subst hL
  (repeat' (first|refine da_open ?_|(apply ds_call;refine d_call ?_)|fail))
  refine d_callA [] _ (deltas_ac (f.Regions.map cRegion).length (g.Points.map cPoint).length) rfl rfl (List.Perm.refl _) trivial fun c L1 ⟨b, hc, hL⟩ => ?_
  subst hc; subst hL
  (repeat' (first|refine da_open ?_|(apply ds_call;refine d_call ?_)|refine d_lit ttok ?_|fail))
  refine d_callA (L := [(b, .box [I64 0, I64 0] 307), (m, mapB2 fun _ _ => none)]) _ [] (first_ac [⟨150, [.iptr [I64 name]], [], name, 0⟩, ⟨151, [.iptr (cGlyph g)], [], shapeE g, 0⟩, ⟨225, [.iptr [.imm 3 (g.Parts.map cPart)], .iptr [I64 8], .iptr [.fn 154 [.iptr (cFont f)]]], [], (someL 8 g.Parts (partE f)).1, (someL 8 g.Parts (partE f)).2⟩, ⟨227, [.iptr [.imm 4 (g.Anchors.map cAnchor)], .iptr [I64 16], .iptr [.fn 229 [.iptr [Bol g.Mark], .iptr [.sc (.map (some m))]]]], [(m, mapB2 fun _ _ => none)], (someL 16 g.Anchors (ancE g)).1, (someL 16 g.Anchors (ancE g)).2⟩, ⟨230, [.iptr [.imm 4 (g.Deltas.map cDelta)], .iptr [I64 400], .iptr [.fn 232 [.iptr [I64 (f.Regions.map cRegion).length], .iptr [I64 (g.Points.map cPoint).length], .sc (.pointer (some ⟨b, 0, none⟩))]]], [(b, .box [I64 0, I64 0] 307)], (someL 400 g.Deltas (delE f g)).1, (someL 400 g.Deltas (delE f g)).2⟩, ⟨160, [.iptr (cGlyph g)], [], progE g.Hint, 0⟩] ?_) rfl rfl (List.Perm.swap ..) trivial fun c L1 hc => ?_
  · refine ⟨⟨inferInstance, glyph1_det name⟩, fun _ => ⟨⟨inferInstance, glyph2_det g⟩, fun _ => ⟨⟨inferInstance, some225 rfl g.Parts 8 _ (fun _ _ => True) [] trivial (fun _ => wrong_det fun i x _ => glyph3_det f i x)⟩, fun _ => ⟨⟨inferInstance, some227 rfl g.Anchors 16 (errAt g.Anchors (ancE g)) (fun i L => L = [(m, mapB2 (metM (g.Anchors.take i)))]) _ (by rw [List.take_zero, metM_nil]) ?_⟩, fun _ => ⟨⟨inferInstance, some230 rfl g.Deltas 400 (errAt g.Deltas (delE f g)) (fun i L => L = [(b, .box [I64 (spotAt g.Deltas i).1, I64 (spotAt g.Deltas i).2] 307)]) _ rfl ?_⟩, fun _ => ⟨⟨inferInstance, glyph4_det g⟩, fun _ => trivial⟩⟩⟩⟩⟩⟩
    · intro _ i x L hx hL
      subst hL
      rw [errAt_get hx]
      exact anchor1_ac g i x hx m
    · intro _ i x L hx hL
      subst hL
      rw [errAt_get hx]
      exact delta1_ac f g i x hx _ _ (by rw [List.length_map]) (by rw [List.length_map]) b
  · rw [lkE_map] at hc
    subst hc
    unfold tup2
    (repeat' (first|refine da_open ?_|refine d_run ttok ?_|fail))
    refine da_end [7, 37] rfl rfl ?_
    (repeat' (first|refine at_seq ?_|refine at_region ?_|refine at_ret ?_|refine ax_then ?_|refine atl_nil ?_|refine n_run ttok rfl rfl ?_|fail))
    exact ax_ret1 rfl rfl rfl
instance (f : FFont) (g : FGlyph) (name : Int) : AD Tryz.prog 85 [aFont f, .agg (cGlyph g), I64 name] (I64 (glyphE f g name)) := ⟨glyph_det f g name⟩
end Go.Proofs.YtpbinloeemebkaaGreat

namespace Go.Proofs.YtpbinloeemebkaaGreat
open Go.RowKit
attribute [local irreducible] AT ATL AX AO Av Kt ALoopK OkA DA DA1
section
variable {P : Program} {l : List Oper} {fr : AFr} {fin : FinA} {sk : AkL} {acc : AFr} {L : AL} {k : Nat} {dd : Option Tmp} {ty t : TypeId} {pos : String} {af : Array Edge} {g : Option (Nat × Bool)} {x y : Operand}
theorem d_lookup (i : Nat) (v0 : Value) {b kt et : Nat} {kd : TypeDesc} {q : Value} {m : Value → Option AV} (ht : P.underlying t = some (.map kt et)) (hkt : P.underlying kt = some kd) (hx : aev (frkA l.toArray acc fr af.toList) x = some (.sc (.map (some b)))) (hy : aev (frkA l.toArray acc fr af.toList) y = some (.sc q)) (hk : MapKept.IsKey kd q) (hL : L[i]? = some (b, mapB kd m)) (hz : zeroIs P et v0 = true) (hg : GOA ⟨dd, .lookup t x y false, ty, pos, af, g⟩ acc) (h : DA P l fr fin sk ((k, (m q).getD (.sc v0)) :: acc) L) :
    DA1 P l fr fin k .e ⟨dd, .lookup t x y false, ty, pos, af, g⟩ sk acc L :=
  da_eff hg (fun B => ao_lookup i ht hkt hx hy hk hL (zeroIs_spec hz) fun _ => .sc _) fun c L' ⟨h1, h2⟩ => by subst h1; subst h2; exact h
end
def charE (f : FFont) (c : FChar) (late : Bool) : Int := if c.Rune < 0 ∨ c.Rune > 1114111 then 1 else if isG f c.Glyph = false then 32 else whenE late 24
theorem char_det (f : FFont) (c : FChar) (late : Bool) : ADet Tryz.prog 92 [aFont f, .agg (cChar c), Bol late] (I64 (charE f c late)) := by
  refine ac_of Tryz.func92 rfl Tryz.ntmps92 rfl fun B => ?_
  unfold charE
  (repeat' (first|refine at_seq ?_|refine at_region ?_|refine at_block ?_|refine ax_then ?_|refine atl_nil ?_|refine n_run ttok rfl rfl ?_|refine n_boxI ?_|fail))
  refine atl_if [2, 3, 4] (c.Rune < 0 ∨ c.Rune > 1114111) rfl (fun Q' K => ?_) (fun hC => ?_) (fun hC => ?_)
  · (repeat' (first|refine atl_nil ?_|refine n_run ttok rfl rfl ?_|refine atl_guard_yes rfl rfl ?_|refine atl_guard_no rfl rfl rfl rfl ?_|refine atl_guard rfl rfl rfl (fun _ => ?_) (fun _ => ?_)|fail))
    all_goals exact K _ _ rfl rfl (by clear K; grind)
  · rw [if_pos hC]
    (repeat' (first|refine at_seq ?_|refine at_region ?_|refine at_ret ?_|refine ax_then ?_|refine ax_then_ret ?_|refine ax_blk_ret ?_|refine atl_nil ?_|refine n_run ttok rfl rfl ?_|fail))
    exact ax_ret1 rfl rfl rfl
  rw [if_neg hC]
  (repeat' (first|refine at_seq ?_|refine at_region ?_|refine ax_then ?_|refine atl_nil ?_|refine n_run ttok rfl rfl ?_|(apply s_call;refine n_call ?_)|fail))
  refine at_cond rfl (fun h => ?_) (fun h => ?_)
  · rw [if_pos (by simpa using h)]
    (repeat' (first|refine at_seq ?_|refine at_region ?_|refine at_ret ?_|refine ax_then ?_|refine ax_then_ret ?_|refine ax_blk_ret ?_|refine atl_nil ?_|refine n_run ttok rfl rfl ?_|fail))
    exact ax_ret1 rfl rfl rfl
  rw [if_neg (by simpa using h)]
  (repeat' (first|refine at_seq ?_|refine at_region ?_|refine at_skip ?_|refine at_ret ?_|refine ax_then ?_|refine ax_blk ?_|refine atl_nil ?_|refine n_run ttok rfl rfl ?_|(apply s_call;refine n_call ?_)|fail))
  exact ax_ret1 rfl rfl rfl
instance (f : FFont) (c : FChar) (late : Bool) : AD Tryz.prog 92 [aFont f, .agg (cChar c), Bol late] (I64 (charE f c late)) := ⟨char_det f c late⟩
def lateC (f : FFont) (i : Nat) (c : FChar) : Bool := match i with | 0 => false | j + 1 => match f.Chars[j]? with | some b => decide (c.Rune ≤ b.Rune) | none => false
def charAtE (f : FFont) (i : Nat) (c : FChar) : Int := charE f c (lateC f i c)
theorem char1_det (f : FFont) (i : Nat) (c : FChar) (hc : f.Chars[i]? = some c) (hm : (f.Chars.length : Int) ≤ 1000) : ADet Tryz.prog 91 [I64 i, .agg (cChar c), .iptr (cFont f)] (I64 (charAtE f i c)) := by
  refine ac_of Tryz.func91 rfl Tryz.ntmps91 rfl fun B => ?_
  have hil := (List.getElem?_eq_some_iff.1 hc).1
  unfold charAtE
  cases i with
  | zero =>
    (repeat' (first|refine at_seq ?_|refine at_region ?_|refine ax_then ?_|refine atl_nil ?_|refine n_run ttok rfl rfl ?_|refine n_boxI ?_|fail))
    refine at_draw 17 [(0, .v), (1, .v), (2, .v), (3, .v), (4, .v), (5, .v), (6, .v), (7, .v), (8, .v), (9, .v), (10, .v), (11, .v), (12, .v), (13, .v), (14, .v), (15, .v), (16, .v)] none ?_ trivial rfl (by kernel_rfl) (by kernel_rfl) (by kernel_rfl) mixed (by kernel_rfl) rfl
    (repeat' (first|refine da_open ?_|refine d_run ttok ?_|(apply ds_call;refine d_call ?_)|refine da_no rfl rfl ?_|fail))
    refine da_end [22] rfl rfl ?_
    (repeat' (first|refine at_ret ?_|refine ax_then ?_|refine atl_nil ?_|refine n_run ttok rfl rfl ?_|fail))
    exact ax_ret1 rfl rfl rfl
  | succ j =>
    obtain ⟨b, hb⟩ : ∃ b, f.Chars[j]? = some b := ⟨_, List.getElem?_eq_getElem (by omega)⟩
    have hbg : (f.Chars.map cChar)[(((j + 1 : Nat) : Int) - 1).toNat]? = some (cChar b) := by rw [show (((j + 1 : Nat) : Int) - 1).toNat = j by omega]; exact map_get hb
    have hl : lateC f (j + 1) c = decide (c.Rune ≤ b.Rune) := by simp [lateC, hb]
    have hpos : decide (0 < ((j + 1 : Nat) : Int)) = true := decide_eq_true (by omega)
    rw [hl]
    (repeat' (first|refine at_seq ?_|refine at_region ?_|refine ax_then ?_|refine atl_nil ?_|refine n_run ttok rfl rfl ?_|refine n_boxI ?_|fail))
    refine at_draw 17 [(0, .v), (1, .v), (2, .v), (3, .v), (4, .v), (5, .v), (6, .v), (7, .v), (8, .v), (9, .v), (10, .v), (11, .v), (12, .v), (13, .v), (14, .v), (15, .v), (16, .v)] none ?_ trivial rfl (by kernel_rfl) (by kernel_rfl) (by kernel_rfl) mixed (by kernel_rfl) rfl
    (repeat' (first|refine da_open ?_|refine d_run ttok ?_|fail))
    rw [hpos]
    (repeat' (first|refine da_open ?_|refine d_run ttok ?_|(apply ds_bin;refine d_bin ?_)|(apply ds_index;refine d_index ttok ?_)|(apply ds_call;refine d_call ?_)|fail))
    refine da_end [22] rfl rfl ?_
    (repeat' (first|refine at_ret ?_|refine ax_then ?_|refine atl_nil ?_|refine n_run ttok rfl rfl ?_|fail))
    exact ax_ret1 rfl rfl rfl
def axisE (a : FAxis) (name : Int) : Int := if name ≠ 0 then name else whenE (!(decide ([a.Min, a.Def, a.Max].all mayN = true ∧ a.Min ≤ a.Def ∧ a.Def ≤ a.Max))) 60
theorem axis_det (a : FAxis) (name : Int) : ADet Tryz.prog 102 [.agg (cAxis a), I64 name] (I64 (axisE a name)) := by
  refine ac_of Tryz.func102 rfl Tryz.ntmps102 rfl fun B => ?_
  unfold axisE
  (repeat' (first|refine at_seq ?_|refine at_region ?_|refine ax_then ?_|refine atl_nil ?_|refine n_run ttok rfl rfl ?_|refine n_boxI ?_|fail))
  refine at_cond rfl (fun h => ?_) (fun h => ?_)
  · rw [if_pos (of_decide_eq_true h)]
    (repeat' (first|refine at_seq ?_|refine at_region ?_|refine at_ret ?_|refine ax_then ?_|refine ax_then_ret ?_|refine atl_nil ?_|refine n_run ttok rfl rfl ?_|fail))
    exact ax_ret1 rfl rfl rfl
  rw [if_neg (of_decide_eq_false h)]
  (repeat' (first|refine at_seq ?_|refine at_region ?_|refine at_skip ?_|refine ax_then ?_|refine n_run ttok rfl rfl ?_|refine n_litI ttok ?_|(apply s_call;refine n_call ?_)|fail))
  refine atl_cut (t := 5) [] ([a.Min, a.Def, a.Max].all mayN = true ∧ a.Min ≤ a.Def ∧ a.Def ≤ a.Max) rfl (fun Q' K => ?_) ?_
  · (repeat' (first|refine atl_nil ?_|refine n_run ttok rfl rfl ?_|refine atl_guard_yes rfl rfl ?_|refine atl_guard_no rfl rfl rfl rfl ?_|refine atl_guard rfl rfl rfl (fun _ => ?_) (fun _ => ?_)|fail))
    all_goals exact K _ _ rfl rfl (by clear K; grind)
  (repeat' (first|refine at_seq ?_|refine at_region ?_|refine at_ret ?_|refine ax_then ?_|refine atl_nil ?_|refine n_run ttok rfl rfl ?_|(apply s_call;refine n_call ?_)|fail))
  exact ax_ret1 rfl rfl rfl
instance (a : FAxis) (name : Int) : AD Tryz.prog 102 [.agg (cAxis a), I64 name] (I64 (axisE a name)) := ⟨axis_det a name⟩
def tentE (_ : Nat) (t : FTent) : Int := whenE (decide (¬ (-64 ≤ t.Start ∧ t.Start ≤ t.Peak ∧ t.Peak ≤ t.End ∧ t.End ≤ 64) ∨ (t.Start < 0 ∧ t.End > 0 ∧ t.Peak ≠ 0))) 61
set_option maxHeartbeats 1000000 in
theorem tent_det (i : Nat) (t : FTent) : ADet Tryz.prog 186 [I64 i, .agg (cTent t)] (I64 (tentE i t)) := by
  refine ac_of Tryz.func186 rfl Tryz.ntmps186 rfl fun B => ?_
  (repeat' (first|refine at_seq ?_|refine at_region ?_|refine ax_then ?_|refine atl_nil ?_|refine n_run ttok rfl rfl ?_|refine n_boxI ?_|fail))
  refine atl_cut (t := 5) [3] (-64 ≤ t.Start ∧ t.Start ≤ t.Peak ∧ t.Peak ≤ t.End ∧ t.End ≤ 64) rfl (fun Q' K => ?_) ?_
  · (repeat' (first|refine atl_nil ?_|refine n_run ttok rfl rfl ?_|refine atl_guard_yes rfl rfl ?_|refine atl_guard_no rfl rfl rfl rfl ?_|refine atl_guard rfl rfl rfl (fun _ => ?_) (fun _ => ?_)|fail))
    all_goals exact K _ _ rfl rfl (by clear K; grind)
  (repeat' (first|refine at_seq ?_|refine at_region ?_|refine ax_then ?_|refine n_run ttok rfl rfl ?_|fail))
  refine atl_cut (t := 6) [5] (t.Start < 0 ∧ t.End > 0 ∧ t.Peak ≠ 0) rfl (fun Q' K => ?_) ?_
  · (repeat' (first|refine atl_nil ?_|refine n_run ttok rfl rfl ?_|refine atl_guard_yes rfl rfl ?_|refine atl_guard_no rfl rfl rfl rfl ?_|refine atl_guard rfl rfl rfl (fun _ => ?_) (fun _ => ?_)|fail))
    all_goals exact K _ _ rfl rfl (by clear K; grind)
  have ht : tentE i t = whenE (!(decide (-64 ≤ t.Start ∧ t.Start ≤ t.Peak ∧ t.Peak ≤ t.End ∧ t.End ≤ 64)) || decide (t.Start < 0 ∧ t.End > 0 ∧ t.Peak ≠ 0)) 61 := by unfold tentE; rw [Bool.decide_or, decide_not]
  rw [ht]
  generalize decide (-64 ≤ t.Start ∧ t.Start ≤ t.Peak ∧ t.Peak ≤ t.End ∧ t.End ≤ 64) = p
  generalize decide (t.Start < 0 ∧ t.End > 0 ∧ t.Peak ≠ 0) = q
  cases p <;> cases q
  all_goals
    (repeat' (first|refine at_seq ?_|refine at_region ?_|refine at_ret ?_|refine ax_then ?_|refine atl_nil ?_|refine n_run ttok rfl rfl ?_|refine atl_guard_yes rfl rfl ?_|refine atl_guard_no rfl rfl rfl rfl ?_|(apply s_call;refine n_call ?_)|fail))
    exact ax_ret1 rfl rfl rfl
def regE (axes : Int) (r : List FTent) : Int := if (r.length : Int) ≠ axes then 61 else (eachL r tentE).1
theorem region_det (r : List FTent) (axes : Int) : ADet Tryz.prog 105 [.agg (cRegion r), I64 axes] (I64 (regE axes r)) := by
  refine ac_of Tryz.func105 rfl Tryz.ntmps105 rfl fun B => ?_
  unfold regE
  (repeat' (first|refine at_seq ?_|refine at_region ?_|refine ax_then ?_|refine atl_nil ?_|refine n_run ttok rfl rfl ?_|refine n_boxI ?_|fail))
  rw [List.length_map]
  refine at_cond rfl (fun h => ?_) (fun h => ?_)
  · rw [if_pos (of_decide_eq_true h)]
    (repeat' (first|refine at_seq ?_|refine at_region ?_|refine at_ret ?_|refine ax_then ?_|refine ax_then_ret ?_|refine atl_nil ?_|refine n_run ttok rfl rfl ?_|fail))
    exact ax_ret1 rfl rfl rfl
  rw [if_neg (of_decide_eq_false h)]
  (repeat' (first|refine at_seq ?_|refine at_region ?_|refine at_skip ?_|refine ax_then ?_|refine n_run ttok rfl rfl ?_|fail))
  refine n_callA [] [] (each185 (u := .sc (.func (.func 186) #[] #[])) (g := 186) (caps := []) rfl r _ (fun _ _ => True) [] trivial (wrong_det (fun i x _ => tent_det i x))) rfl rfl (List.Perm.refl _) rfl fun c L1 hc => ?_
  have hc : c = tup2 (eachL r tentE) := hc
  subst hc
  unfold tup2
  (repeat' (first|refine at_seq ?_|refine at_region ?_|refine at_ret ?_|refine ax_then ?_|refine atl_nil ?_|refine n_run ttok rfl rfl ?_|fail))
  exact ax_ret1 rfl rfl rfl
instance (r : List FTent) (axes : Int) : AD Tryz.prog 105 [.agg (cRegion r), I64 axes] (I64 (regE axes r)) := ⟨region_det r axes⟩
theorem region1_det (f : FFont) (i : Nat) (r : List FTent) : ADet Tryz.prog 104 [I64 i, .agg (cRegion r), .iptr (cFont f)] (I64 (regE f.Axes.length r)) := by
  refine ac_of Tryz.func104 rfl Tryz.ntmps104 rfl fun B => ?_
  (repeat' (first|refine at_seq ?_|refine at_region ?_|refine at_ret ?_|refine ax_then ?_|refine atl_nil ?_|refine n_run ttok rfl rfl ?_|refine n_boxI ?_|(apply s_call;refine n_call ?_)|fail))
  rw [List.length_map]
  (repeat' (first|fail))
  exact ax_ret1 rfl rfl rfl
theorem code1_det (i : Nat) (l : List FIns) : ADet Tryz.prog 107 [I64 i, .imm 2 (l.map cIns)] (I64 (progE l)) := by
  refine ac_of Tryz.func107 rfl Tryz.ntmps107 rfl fun B => ?_
  (repeat' (first|refine at_seq ?_|refine at_region ?_|refine at_ret ?_|refine ax_then ?_|refine atl_nil ?_|refine n_run ttok rfl rfl ?_|(apply s_call;refine n_call ?_)|fail))
  exact ax_ret1 rfl rfl rfl
def cvtE (_ : Nat) (n : Int) : Int := whenE (!([n].all mayN)) 1
theorem cvt1_det (i : Nat) (n : Int) : ADet Tryz.prog 110 [I64 i, I64 n] (I64 (cvtE i n)) := by
  refine ac_of Tryz.func110 rfl Tryz.ntmps110 rfl fun B => ?_
  (repeat' (first|refine at_seq ?_|refine at_region ?_|refine at_ret ?_|refine ax_then ?_|refine atl_nil ?_|refine n_run ttok rfl rfl ?_|refine n_litI ttok ?_|(apply s_call;refine n_call ?_)|fail))
  exact ax_ret1 rfl rfl rfl
def headE (f : FFont) : Int := if f.Unit < 16 ∨ f.Unit > 4096 then 1 else if f.Glyphs.length = 0 then 32 else 0
theorem head_det (f : FFont) : ADet Tryz.prog 82 [aFont f] (I64 (headE f)) := by
  refine ac_of Tryz.func82 rfl Tryz.ntmps82 rfl fun B => ?_
  unfold headE
  (repeat' (first|refine at_seq ?_|refine at_region ?_|refine at_block ?_|refine ax_then ?_|refine atl_nil ?_|refine n_run ttok rfl rfl ?_|refine n_boxI ?_|fail))
  refine atl_if [1] (f.Unit < 16 ∨ f.Unit > 4096) rfl (fun Q' K => ?_) (fun hC => ?_) (fun hC => ?_)
  · (repeat' (first|refine atl_nil ?_|refine n_run ttok rfl rfl ?_|refine atl_guard_yes rfl rfl ?_|refine atl_guard_no rfl rfl rfl rfl ?_|refine atl_guard rfl rfl rfl (fun _ => ?_) (fun _ => ?_)|fail))
    all_goals exact K _ _ rfl rfl (by clear K; grind)
  · rw [if_pos hC]
    (repeat' (first|refine at_seq ?_|refine at_region ?_|refine at_ret ?_|refine ax_then ?_|refine ax_then_ret ?_|refine ax_blk_ret ?_|refine atl_nil ?_|refine n_run ttok rfl rfl ?_|fail))
    exact ax_ret1 rfl rfl rfl
  rw [if_neg hC]
  (repeat' (first|refine at_seq ?_|refine at_region ?_|refine ax_then ?_|refine atl_nil ?_|refine n_run ttok rfl rfl ?_|fail))
  rw [List.length_map]
  refine at_cond rfl (fun h => ?_) (fun h => ?_)
  · rw [if_pos (by have := of_decide_eq_true h; omega)]
    (repeat' (first|refine at_seq ?_|refine at_region ?_|refine at_ret ?_|refine ax_then ?_|refine ax_then_ret ?_|refine ax_blk_ret ?_|refine atl_nil ?_|refine n_run ttok rfl rfl ?_|fail))
    exact ax_ret1 rfl rfl rfl
  rw [if_neg (by have := of_decide_eq_false h; omega)]
  (repeat' (first|refine at_seq ?_|refine at_region ?_|refine at_skip ?_|refine at_ret ?_|refine ax_then ?_|refine ax_blk ?_|refine atl_nil ?_|refine n_run ttok rfl rfl ?_|fail))
  exact ax_ret1 rfl rfl rfl
instance (f : FFont) : AD Tryz.prog 82 [aFont f] (I64 (headE f)) := ⟨head_det f⟩
theorem head1_det (f : FFont) : ADet Tryz.prog 81 [.iptr (cFont f)] (tup2 (headE f, 0)) := by
  refine ac_of Tryz.func81 rfl Tryz.ntmps81 rfl fun B => ?_
  (repeat' (first|refine at_seq ?_|refine at_region ?_|refine at_ret ?_|refine ax_then ?_|refine atl_nil ?_|refine n_run ttok rfl rfl ?_|(apply s_call;refine n_call ?_)|fail))
  exact ax_ret2 rfl rfl rfl rfl
end Go.Proofs.YtpbinloeemebkaaGreat

namespace Go.Proofs.YtpbinloeemebkaaGreat
open Go.RowKit
section
variable {P : Program} {tt : TT} {l : List Oper} {fr : AFr} {fin : FinA} {sk : AkL} {acc : AFr} {L : AL} {k : Nat} {dd : Option Tmp} {ty t t' : TypeId} {pos : String} {af : Array Edge} {g : Option (Nat × Bool)} {x y : Operand} {u : AV}
theorem d_indexP (ok : TOk P tt) {e sz by_ b off n cap : Nat} {q : IntKind} {i : Int} (ht : slI tt t = some (e, sz, by_)) (hx : aev (frkA l.toArray acc fr af.toList) x = some (.sc (.slice (some ⟨b, off, none⟩) n cap))) (hy : aev (frkA l.toArray acc fr af.toList) y = some (.sc (.int q i))) (h0 : 0 ≤ i ∧ i < n) (hg : GOA ⟨dd, .indexAddr t x y, ty, pos, af, g⟩ acc) (h : DA P l fr fin sk ((k, .sc (.pointer (some ⟨b, off + i.toNat * sz, none⟩))) :: acc) L) :
    DA1 P l fr fin k .v ⟨dd, .indexAddr t x y, ty, pos, af, g⟩ sk acc L := da_val hg (fun _ _ => (a_indexP (slI_spec ok ht).1 hx hy h0).ao) h
theorem d_storeB (ok : TOk P tt) (i : Nat) {b q n : Nat} {cs ys : List AV} {e : TypeId} (ht : szI tt t = some n) (hx : aev (frkA l.toArray acc fr af.toList) x = some (.sc (.pointer (some ⟨b, q, none⟩)))) (hy : aev (frkA l.toArray acc fr af.toList) y = some u) (hu : u.cells = some ys) (hL : L[i]? = some (b, .box cs e)) (hn : Nat.beq ys.length n = true) (hk : Nat.ble (q + n) cs.length = true) (hg : GOA ⟨dd, .store t x y, ty, pos, af, g⟩ acc) (h : ∀ c, DA P l fr fin sk ((k, c) :: acc) (aput L i (.box (putA cs q ys) e))) :
    DA1 P l fr fin k .e ⟨dd, .store t x y, ty, pos, af, g⟩ sk acc L := da_eff hg (fun _ => ao_store i (szI_spec ok ht) hx hy hu hL hn hk) fun c L' h1 => by subst h1; exact h c
theorem d_assert {v : Value} (ht : notIface P t = true) (hx : aev (frkA l.toArray acc fr af.toList) x = some (.sc (.iface t v))) (hg : GOA ⟨dd, .typeAssert x t' t false, ty, pos, af, g⟩ acc) (h : DA P l fr fin sk ((k, .sc v) :: acc) L) : DA1 P l fr fin k .v ⟨dd, .typeAssert x t' t false, ty, pos, af, g⟩ sk acc L :=
  da_val hg (fun _ _ => (a_assert ht hx).ao) h
theorem d_appendB (ok : TOk P tt) (i : Nat) {e by_ b n cap : Nat} {cs : List AV} {c : AV} (ht : slI tt t = some (e, 1, by_)) (hz : zI tt e = some [.int .i64 0]) (hx : aev (frkA l.toArray acc fr af.toList) x = some (.sc (.slice (some ⟨b, 0, none⟩) n cap))) (hy : aev (frkA l.toArray acc fr af.toList) y = some u) (hu : immO u = some (1, [[c]])) (hL : L[i]? = some (b, .box cs e)) (hcl : cs.length = cap) (hn : n ≤ cap) (h63 : n + 1 ≤ 9223372036854775807) (hby : (n + 1) * by_ ≤ 140737488355328) (hg : GOA ⟨dd, .call ⟨.builtin .append, #[x, y], #[t, t]⟩, ty, pos, af, g⟩ acc)
    (h : ∀ b' cs', cs'.take (n + 1) = cs.take n ++ [c] → n + 1 ≤ cs'.length → DA P l fr fin sk ((k, .sc (.slice (some ⟨b', 0, none⟩) (n + 1) cs'.length)) :: acc) ((b', .box cs' e) :: L.eraseIdx i)) :
    DA1 P l fr fin k .e ⟨dd, .call ⟨.builtin .append, #[x, y], #[t, t]⟩, ty, pos, af, g⟩ sk acc L :=
  da_eff hg (fun _ => ao_appendB i (slI_spec ok ht).1 (zI_spec ok hz) hx hy (immO_spec hu) hL hcl hn h63 hby) fun q L' ⟨b', cs', h1, h2, h3, h4⟩ => by subst h1; subst h4; exact h b' cs' h2 h3
theorem d_appendN (ok : TOk P tt) {e by_ : Nat} {c : AV} (ht : slI tt t = some (e, 1, by_)) (hz : zI tt e = some [.int .i64 0]) (hx : aev (frkA l.toArray acc fr af.toList) x = some (.sc (.slice none 0 0))) (hy : aev (frkA l.toArray acc fr af.toList) y = some u) (hu : immO u = some (1, [[c]])) (hby : Nat.ble by_ 140737488355328 = true) (hg : GOA ⟨dd, .call ⟨.builtin .append, #[x, y], #[t, t]⟩, ty, pos, af, g⟩ acc)
    (h : ∀ b' cs', cs'.take 1 = [c] → 1 ≤ cs'.length → DA P l fr fin sk ((k, .sc (.slice (some ⟨b', 0, none⟩) 1 cs'.length)) :: acc) ((b', .box cs' e) :: L)) :
    DA1 P l fr fin k .e ⟨dd, .call ⟨.builtin .append, #[x, y], #[t, t]⟩, ty, pos, af, g⟩ sk acc L :=
  da_eff hg (fun _ => ao_appendN (slI_spec ok ht).1 (zI_spec ok hz) hx hy (immO_spec hu) (Nat.ble_eq .. ▸ hby)) fun q L' ⟨b', cs', h1, h2, h3, h4⟩ => by subst h1; subst h4; exact h b' cs' h2 h3
end
def methB (P : Program) (t : TypeId) (name : String) (f : FuncId) (ptr : Bool) (e : TypeId) : Bool := (match P.underlying t with | some (.pointer e') => Nat.beq e' e | _ => false) && match P.info? t with
  | some ti => match ti.methods.find? (·.name == name) with
    | some m => m.path.isEmpty && (match m.func with | some (f', p') => Nat.beq f' f && (p' == ptr) | none => false)
    | none => false
  | none => false
theorem methB_spec {P : Program} {t : TypeId} {name : String} {f : FuncId} {ptr : Bool} {e : TypeId} (h : methB P t name f ptr e = true) : Meth P t name f ptr e := by
  unfold methB at h
  rw [Bool.and_eq_true] at h
  obtain ⟨h1, h2⟩ := h
  split at h1
  · rename_i e' hu
    rw [Nat.beq_eq] at h1
    subst h1
    split at h2
    · rename_i ti hti
      split at h2
      · rename_i m hm
        rw [Bool.and_eq_true] at h2
        obtain ⟨h3, h4⟩ := h2
        split at h4
        · rename_i f' p' hf
          rw [Bool.and_eq_true, Nat.beq_eq, beq_iff_eq] at h4
          refine ⟨hu, ti, m, hti, hm, ?_, by rw [hf, h4.1, h4.2]⟩
          simpa using h3
        · cases h4
      · cases h2
    · cases h2
  · cases h1
end Go.Proofs.YtpbinloeemebkaaGreat

namespace Go.Proofs.YtpbinloeemebkaaGreat
open Go.RowKit Go.MapKept
section
variable {P : Program} {fr : AFr} {B : Bs} {L : AL}
theorem AO.as {o : Oper} {a b : AV} (h : AO P o fr B L (fun c L' => c = a ∧ L' = L)) (hv : ∀ σ v, VR σ a v → VR σ b v) : AO P o fr B L (fun c L' => c = b ∧ L' = L) :=
  fun σ ρ w hρ hw => (h σ ρ w hρ hw).mono fun _ _ ⟨τ, c, L', h1, h2, h3, h4, h5⟩ => ⟨τ, b, L', h1, hv τ _ (by rw [← h4]; exact h2), h3, rfl, h5⟩
end
section
variable {P : Program} {tt : TT} {l : List Oper} {fr : AFr} {fin : FinA} {sk : AkL} {acc : AFr} {L : AL} {k : Nat} {dd : Option Tmp} {ty t t' : TypeId} {pos : String} {af : Array Edge} {g : Option (Nat × Bool)} {x y z : Operand} {u : AV}
theorem d_lookupA (i : Nat) (v0 : Value) (a : AV) {b kt et : Nat} {kd : TypeDesc} {q : Value} {m : Value → Option AV} (ht : P.underlying t = some (.map kt et)) (hkt : P.underlying kt = some kd) (hx : aev (frkA l.toArray acc fr af.toList) x = some (.sc (.map (some b)))) (hy : aev (frkA l.toArray acc fr af.toList) y = some (.sc q)) (hk : IsKey kd q) (hL : L[i]? = some (b, mapB kd m)) (hz : zeroIs P et v0 = true) (ha : ∀ σ v, VR σ ((m q).getD (.sc v0)) v → VR σ a v) (hg : GOA ⟨dd, .lookup t x y false, ty, pos, af, g⟩ acc) (h : DA P l fr fin sk ((k, a) :: acc) L) :
    DA1 P l fr fin k .e ⟨dd, .lookup t x y false, ty, pos, af, g⟩ sk acc L :=
  da_eff hg (fun B => (ao_lookup i ht hkt hx hy hk hL (zeroIs_spec hz) fun _ => .sc _).as ha) fun c L' ⟨h1, h2⟩ => by subst h1; subst h2; exact h
theorem d_append (ok : TOk P tt) (L0 : AL) {e sz by_ : Nat} {q : Option (Nat × Nat)} {l1 l2 : List (List AV)} (ht : slI tt t = some (e, sz, by_)) (hx : aev (frkA l.toArray acc fr af.toList) x = some (.vec q sz l1)) (hy : aev (frkA l.toArray acc fr af.toList) y = some u) (hu : immO u = some (sz, l2)) (hL : L.Perm (tok q e sz l1.length ++ L0)) (h63 : l1.length + l2.length ≤ 9223372036854775807) (hby : (l1.length + l2.length) * by_ ≤ 140737488355328) (hg : GOA ⟨dd, .call ⟨.builtin .append, #[x, y], #[t, t]⟩, ty, pos, af, g⟩ acc)
    (h : ∀ k', DA P l fr fin sk ((k, .vec k' sz (l1 ++ l2)) :: acc) (tok k' e sz (l1 ++ l2).length ++ L0)) :
    DA1 P l fr fin k .e ⟨dd, .call ⟨.builtin .append, #[x, y], #[t, t]⟩, ty, pos, af, g⟩ sk acc L :=
  da_eff hg (fun _ => ao_append L0 (slI_spec ok ht).1 (slI_spec ok ht).2 hx hy (immO_spec hu) hL h63 hby) fun c L' ⟨k', h1, h2⟩ => by subst h1; subst h2; exact h k'
end
section
variable {P : Program} {r : Option Nat} {ops : Array Oper} {Q : Exit → Act → World → Prop} {nt : Nat} {D : List Deferred} {fr : AFr} {B : Bs} {L : AL} {rest : List Oper} {d : Nat} {ty t : TypeId} {pos : String} {af : Array Edge} {x y z : Operand} {u : AV}
theorem n_lookupA (i : Nat) (v0 : Value) (a : AV) {b kt et : Nat} {kd : TypeDesc} {k : Value} {m : Value → Option AV} (ht : P.underlying t = some (.map kt et)) (hkt : P.underlying kt = some kd) (hx : aev fr x = some (.sc (.map (some b)))) (hy : aev fr y = some (.sc k)) (hk : IsKey kd k) (hL : L[i]? = some (b, mapB kd m)) (hz : zeroIs P et v0 = true) (ha : ∀ σ v, VR σ ((m k).getD (.sc v0)) v → VR σ a v) (hd : Nat.ble nt d = false)
    (h : ATL P r ops Q nt D rest ((d, a) :: fr) B L) : ATL P r ops Q nt D (⟨some d, .lookup t x y false, ty, pos, af, none⟩ :: rest) fr B L :=
  atl_op hd rfl ((ao_lookup i ht hkt hx hy hk hL (zeroIs_spec hz) fun _ => .sc _).as ha) fun c L' ⟨h1, h2⟩ => by subst h1; subst h2; exact h
end
noncomputable def mput (m : Value → Option AV) (k : Value) (c : AV) : Value → Option AV := fun q => open Classical in if q = k then some c else m q
theorem mput_self {m : Value → Option AV} {k : Value} {c : AV} : mput m k c k = some c := by simp [mput]
theorem mput_other {m : Value → Option AV} {k : Value} {c : AV} (q : Value) (h : q ≠ k) : mput m k c q = m q := by simp [mput, h]
def MNum (m : Value → Option AV) (M : Int → Int) : Prop := ∀ z, m (.int .i64 z) = none ∧ M z = 0 ∨ m (.int .i64 z) = some (.sc (.int .i64 (M z)))
theorem MNum.at {m : Value → Option AV} {M : Int → Int} (h : MNum m M) (z : Int) : ∀ (σ : Mem) (v : Value), VR σ ((m (.int .i64 z)).getD (.sc (.int .i64 0))) v → VR σ (.sc (.int .i64 (M z))) v := by
  intro σ v hv
  rcases h z with ⟨h1, h2⟩ | h1
  · rw [h1] at hv; rw [h2]; exact hv
  · rw [h1] at hv; exact hv
theorem MNum.put {m : Value → Option AV} {M : Int → Int} (h : MNum m M) (z c : Int) : MNum (mput m (.int .i64 z) (.sc (.int .i64 c))) fun q => if q = z then c else M q := by
  intro q
  by_cases e : q = z
  · subst e; simp only [if_true, mput_self]; exact .inr trivial
  · simp only [if_neg e]; rw [mput_other _ (by intro h; injection h with _ h; exact e h)]; exact h q
def MRow (m : Value → Option AV) (K : Int → Option (Nat × Nat)) (U : Int → List Int) : Prop := ∀ z, (m (.int .i64 z) = none ∧ U z = [] ∧ K z = none) ∨ m (.int .i64 z) = some (.vec (K z) 1 (ints (U z)))
theorem MRow.at {m : Value → Option AV} {K : Int → Option (Nat × Nat)} {U : Int → List Int} (h : MRow m K U) (z : Int) : ∀ (σ : Mem) (v : Value), VR σ ((m (.int .i64 z)).getD (.sc (.slice none 0 0))) v → VR σ (.vec (K z) 1 (ints (U z))) v := by
  intro σ v hv
  rcases h z with ⟨h1, h2, h3⟩ | h1
  · rw [h1] at hv; rw [h2, h3]; exact vr_nil 1 hv
  · rw [h1] at hv; exact hv
theorem MRow.put {m : Value → Option AV} {K : Int → Option (Nat × Nat)} {U : Int → List Int} (h : MRow m K U) (z : Int) (k : Option (Nat × Nat)) (l : List Int) : MRow (mput m (.int .i64 z) (.vec k 1 (ints l))) (fun q => if q = z then k else K q) fun q => if q = z then l else U q := by
  intro q
  by_cases e : q = z
  · subst e; simp only [if_true, mput_self]; exact .inr trivial
  · simp only [if_neg e]
    rw [mput_other _ (by intro h; injection h with _ h; exact e h)]
    exact h q
def toks (e : TypeId) (K : Int → Option (Nat × Nat)) (U : Int → List Int) (zs : List Int) : AL := zs.flatMap fun z => tok (K z) e 1 (ints (U z)).length
theorem toks_pick {e : TypeId} {K : Int → Option (Nat × Nat)} {U : Int → List Int} : ∀ {zs : List Int} {z : Int}, z ∈ zs → (toks e K U zs).Perm (tok (K z) e 1 (ints (U z)).length ++ toks e K U (zs.erase z))
  | y :: zs, z, h => by
    by_cases hz : y = z
    · subst hz
      rw [List.erase_cons_head]
      exact List.Perm.refl _
    · have hm : z ∈ zs := by
        rcases List.mem_cons.1 h with h | h
        · exact absurd h.symm hz
        · exact h
      rw [List.erase_cons_tail (by simpa using hz)]
      have ih := toks_pick (e := e) (K := K) (U := U) hm
      unfold toks at ih ⊢
      rw [List.flatMap_cons, List.flatMap_cons]
      refine (List.Perm.append_left _ ih).trans ?_
      rw [← List.append_assoc, ← List.append_assoc]
      exact List.Perm.append_right _ List.perm_append_comm
theorem toks_congr {e : TypeId} {K K' : Int → Option (Nat × Nat)} {U U' : Int → List Int} {zs : List Int} (h : ∀ z ∈ zs, K z = K' z ∧ U z = U' z) : toks e K U zs = toks e K' U' zs := by
  unfold toks
  induction zs with
  | nil => rfl
  | cons z zs ih =>
    rw [List.flatMap_cons, List.flatMap_cons, ih fun y hy => h y (List.mem_cons_of_mem _ hy), (h z (List.mem_cons_self ..)).1, (h z (List.mem_cons_self ..)).2]
theorem toks_put {e : TypeId} {K : Int → Option (Nat × Nat)} {U : Int → List Int} {zs : List Int} {z : Int} {k : Option (Nat × Nat)} {l : List Int} (hn : zs.Nodup) (h : z ∈ zs) : (tok k e 1 (ints l).length ++ toks e K U (zs.erase z)).Perm (toks e (fun q => if q = z then k else K q) (fun q => if q = z then l else U q) zs) := by
  have h1 := toks_pick (e := e) (K := fun q => if q = z then k else K q) (U := fun q => if q = z then l else U q) h
  simp only [if_true] at h1
  refine List.Perm.trans ?_ h1.symm
  rw [toks_congr (K := K) (U := U) (K' := fun q => if q = z then k else K q) (U' := fun q => if q = z then l else U q) fun y hy => by
    have hne : y ≠ z := fun e => by subst e; exact (List.Nodup.not_mem_erase hn) hy
    simp only [if_neg hne]
    exact ⟨trivial, trivial⟩]
theorem toks_none (e : TypeId) (U : Int → List Int) (zs : List Int) : toks e (fun _ => none) U zs = [] := by
  unfold toks tok
  induction zs with
  | nil => rfl
  | cons z zs ih => rw [List.flatMap_cons, ih]; rfl
end Go.Proofs.YtpbinloeemebkaaGreat

namespace Go.Proofs.YtpbinloeemebkaaGreat
open Go.RowKit
section
variable {P : Program} {r : Option Nat} {ops : Array Oper} {Q : Exit → Act → World → Prop} {nt : Nat} {D : List Deferred} {fr : AFr} {B : Bs} {L : AL} {cd : Code}
def ALoopM (nt : Nat) (B : Bs) {α : Type} (Dx : α → List Deferred) (V : α → AFr) (fr0 : AFr) (C : α → Prop) (Lx : α → AL) (μ : α → Nat) (x : α) (Q : Exit → Act → World → Prop) : Exit → Act → World → Prop := Exit.then (fun a w => ∃ σ x', AAg σ nt (Dx x') (V x' ++ fr0) a ∧ C x' ∧ ASt B σ (Lx x') w ∧ μ x' < μ x) Q
theorem at_loopM (ks : List Nat) {α : Type} (Dx : α → List Deferred) (V : α → AFr) (C : α → Prop) (Lx : α → AL) (μ : α → Nat) (x0 : α) {fr0 : AFr} (hk : akeep fr ks = some fr0) (hV : afle (V x0) fr) (hD : D = Dx x0) (hC : C x0) (hL : ∀ σ w, ASt B σ L w → ASt B σ (Lx x0) w)
    (hb : ∀ x, C x → AT P r cd (ALoopM nt B Dx V fr0 C Lx μ x Q) nt (Dx x) (V x ++ fr0) B (Lx x)) : AT P r (.loop cd) Q nt D fr B L := by
  intro σ a w ha hw
  subst hD
  classical
  let G : Nat → Act → World → Prop := fun m a w => ∃ σ x, AAg σ nt (Dx x) (V x ++ fr0) a ∧ C x ∧ ASt B σ (Lx x) w ∧ μ x = m
  let M : Act → World → Nat := fun a w => if h : ∃ m, G m a w ∧ ∀ m', G m' a w → m ≤ m' then h.choose else 0
  have least : ∀ a w, (∃ m, G m a w) → G (M a w) a w ∧ ∀ m', G m' a w → M a w ≤ m' := by
    rintro a w ⟨m0, hg0⟩
    have hex : ∃ m, G m a w ∧ ∀ m', G m' a w → m ≤ m' := by
      have : ∀ k, ∀ m, m ≤ k → G m a w → ∃ m, G m a w ∧ ∀ m', G m' a w → m ≤ m' := by
        intro k
        induction k with
        | zero => intro m hm hg; exact ⟨m, hg, fun m' _ => by omega⟩
        | succ k ih =>
          intro m hm hg
          by_cases h : ∃ m', m' < m ∧ G m' a w
          · obtain ⟨m', hlt, hg'⟩ := h
            exact ih m' (by omega) hg'
          · exact ⟨m, hg, fun m' hg' => by
              rcases Nat.lt_or_ge m' m with hlt | hge
              · exact absurd ⟨m', hlt, hg'⟩ h
              · exact hge⟩
      exact this m0 m0 (Nat.le_refl _) hg0
    have hM : M a w = hex.choose := dif_pos hex
    rw [hM]; exact hex.choose_spec
  refine wpIn_loop (fun a w => ∃ m, G m a w) M ⟨_, σ, x0, ha.weak (afle_app hV (akeep_afle ks hk)), hC, hL σ w hw, rfl⟩ ?_
  intro a w hI
  obtain ⟨⟨σ', x, hx, hj, hst, hm⟩, _⟩ := least a w hI
  refine wpIn_mono (hb x hj σ' a w hx hst) ?_
  intro e a' w' hq
  cases e with
  | normal =>
    obtain ⟨τ, x', hx', hj', hst', hlt⟩ := hq
    have hg : G (μ x') a' w' := ⟨τ, x', hx', hj', hst', rfl⟩
    refine ⟨⟨_, hg⟩, ?_⟩
    have := (least a' w' ⟨_, hg⟩).2 (μ x') hg
    omega
  | _ => exact hq
theorem ax_roundM {α : Type} {Dx : α → List Deferred} {V : α → AFr} {fr0 : AFr} {C : α → Prop} {Lx : α → AL} {μ : α → Nat} {x : α} (x' : α) (hk : akeep fr (fr0.map (·.1)) = some fr0) (hV : afle (V x') fr) (hD : D = Dx x') (hC : C x') (hm : μ x' < μ x) (hL : ∀ σ w, ASt B σ L w → ASt B σ (Lx x') w) :
    AX P .normal (ALoopM nt B Dx V fr0 C Lx μ x Q) nt D fr B L := fun σ a w ha hw => by
  subst hD
  exact ⟨σ, x', ha.weak (afle_app hV (akeep_afle _ hk)), hC, hL _ _ hw, hm⟩
theorem ax_loopM_exit {α : Type} {Dx : α → List Deferred} {V : α → AFr} {fr0 : AFr} {C : α → Prop} {Lx : α → AL} {μ : α → Nat} {x : α} {id : Nat} (h : AX P (.exit id) Q nt D fr B L) : AX P (.exit id) (ALoopM nt B Dx V fr0 C Lx μ x Q) nt D fr B L := fun σ a w ha hw => h σ a w ha hw
end
section
variable {nt : Nat} {D : List Deferred} {B : Bs} {fr : AFr} {L : AL}
theorem turn_boxP {t b e sz n : Nat} {cs : List AV} {l : List (List AV)} (i : Nat) (hl : alook fr t = some (.iptr [.sc (.slice (some ⟨b, 0, none⟩) n n)])) (hL : L[i]? = some (b, .box cs e)) (hc : cs = l.flatten) (hs : ∀ q ∈ l, q.length = sz) (hn : l.length = n) (h63 : n ≤ 9223372036854775807) : Turn nt D B fr L ((t, .iptr [.imm sz l]) :: fr) ((b, .vec e sz n n) :: L.eraseIdx i) := by
  intro σ a w ha hw0
  have hw := hw0.perm (aperm_get hL)
  obtain ⟨o, ho, vs, rfl, hvs, h1⟩ := hw.here _ (List.mem_cons_self ..)
  have hfree := hw.free _ (List.mem_cons_self ..)
  have hvl : vs.length = n * sz := by rw [← hvs.1, hc, flat_len l hs, hn]
  -- the block as a row with nothing told of it
  have hst : ASt B σ ((b, .vec e sz 0 n) :: L.eraseIdx i) w := by
    refine ⟨hw.os, hw.tape, hw.output, hw.size, hw.old, fun p hp => ?_, fun p hp => ?_, by simpa using hw.apart, hw.froz, fun p hp off hm => ?_, hw.grow, hw.same⟩
    · rcases List.mem_cons.1 hp with rfl | hp'
      · exact ⟨_, ho, _, rfl, by simp [hvl], Nat.zero_le _, by unfold maxLen; omega⟩
      · exact hw.here p (List.mem_cons_of_mem _ hp')
    · rcases List.mem_cons.1 hp with rfl | hp'
      · exact hw.mine (b, .box cs e) (List.mem_cons_self ..)
      · exact hw.mine p (List.mem_cons_of_mem _ hp')
    · rcases List.mem_cons.1 hp with rfl | hp'
      · exact hfree off trivial
      · exact hw.free p (List.mem_cons_of_mem _ hp') off hm
  obtain ⟨hst', hle⟩ := hst.freezeHead (n' := n) (xs := vs) (fun j u hj => by rw [cell_of ho]; simpa using hj) hvl (Nat.zero_le _) (Nat.le_refl _)
  refine ⟨_, ?_, hst'⟩
  have hv : VR (σ.add b vs) (.vec (some (b, n)) sz l) (.slice (some ⟨b, 0, none⟩) n n) := by
    have := vec_of (σ := σ.add b vs) (b := b) (cap := n) hs (by rw [← hc]; exact hvs.mono hle) h1 (by omega) (by unfold maxLen; omega) (fun j u hj => Mem.add_at hj)
    rwa [hn] at this
  have ha' := ha.mono hle
  refine ⟨ha'.size, ha'.defers, fun t' v' hl' => ?_⟩
  rw [alook_cons] at hl'
  by_cases e : t = t'
  · subst e
    simp only [if_true, Option.some.injEq] at hl'
    subst hl'
    have hp := ha.look t _ hl
    generalize a.tmps.getD t undef = v0 at hp
    generalize hq : AV.iptr [.sc (.slice (some ⟨b, 0, none⟩) n n)] = q at hp
    cases hp with
    | iptr cs2 b0 off hx h =>
      injection hq with hq
      subst hq
      refine .iptr _ b0 off (fun j hj => ?_) fun j c u hc hu => ?_
      · obtain ⟨u, hu, h1⟩ := hx j hj
        exact ⟨u, hle _ _ _ hu, h1⟩
      · have hj : j = 0 := by
          have := (List.getElem?_eq_some_iff.1 hc).1
          simp at this
          exact this
        subst hj
        simp at hc
        subst hc
        obtain ⟨u', hu', _⟩ := hx 0 (by simp)
        have h2 := hle _ _ _ hu'
        rw [hu] at h2
        injection h2 with h2
        subst h2
        rw [(h 0 _ u rfl hu').sc_inv]
        exact hv.im
    | _ => cases hq
  · rw [if_neg e] at hl'
    exact ha'.look t' v' hl'
end
end Go.Proofs.YtpbinloeemebkaaGreat
