/-
  The program: glyphs, as check looks at them, with anchors and deltas.
-/
import Derived.Test.YtpmdfoaadejmkaaGreatDoorM10
import Derived.Test.YtpmdfoaadejmkaaGreatDoorM07
namespace Go.Proofs.YtpmdfoaadejmkaaGreatDoor
open Go.RowKit
attribute [local irreducible] AT bh AX AO Av Kt b6 dh DA cE
theorem xC : gE Tryz.prog 293 := ⟨⟨_, _, Tryz.underlying293, ⟨by decide, by decide⟩, ⟨rfl, rfl⟩, Tryz.underlying3, Tryz.underlying3⟩, Tryz.stoodInHeld293⟩
theorem Be : gE Tryz.prog 296 := ⟨⟨_, _, Tryz.underlying296, ⟨by decide, by decide⟩, ⟨rfl, rfl⟩, Tryz.underlying3, Tryz.underlying3⟩, Tryz.stoodInHeld296⟩
def lg (l : List dw) (a b : Int) : Option AV := if ∃ x ∈ l, x.Kind = a ∧ x.Class = b then some (dB true) else none
theorem wN : lg [] = fun _ _ => none := by funext a b; simp [lg]
theorem uE (l : List dw) (a b : Int) : (lg l a b).getD (dB false) = dB (decide (∃ x ∈ l, x.Kind = a ∧ x.Class = b)) := by
 unfold lg
 by_cases h : ∃ x ∈ l, x.Kind = a ∧ x.Class = b
 ·rw [if_pos h, decide_eq_true h]; rfl
 ·rw [if_neg h, decide_eq_false h]; rfl
theorem uF {l : List dw} {i : Nat} {x : dw} (h : l[i]? = some x) : lg (l.take (i + 1)) x.Kind x.Class = some (dB true) := by
 unfold lg
 rw [if_pos ⟨x, by rw [List.take_add_one, h]; simp, rfl, rfl⟩]
theorem sm {l : List dw} {i : Nat} {x : dw} (h : l[i]? = some x) (p q : Int) (hne : ¬ (p = x.Kind ∧ q = x.Class)) : lg (l.take (i + 1)) p q = lg (l.take i) p q := by
 unfold lg
 have : (∃ y ∈ l.take (i + 1), y.Kind = p ∧ y.Class = q) ↔ ∃ y ∈ l.take i, y.Kind = p ∧ y.Class = q := by
  rw [List.take_add_one, h]
  simp only [Option.toList_some, List.mem_append, List.mem_singleton]
  constructor
  ·rintro ⟨y, hy | rfl, h1⟩
   ·exact ⟨y, hy, h1⟩
   ·exact absurd ⟨h1.1.symm, h1.2.symm⟩ hne
  ·rintro ⟨y, hy, h1⟩
   exact ⟨y, Or.inl hy, h1⟩
 by_cases hc : ∃ y ∈ l.take i, y.Kind = p ∧ y.Class = q
 ·rw [if_pos hc, if_pos (this.2 hc)]
 ·rw [if_neg hc, if_neg (fun h => hc (this.1 h))]
set_option maxHeartbeats 1000000 in
theorem rz (g : b9) (i : Nat) (a : dw) (ha : g.Anchors[i]? = some a) (m : Nat) : AC Tryz.prog 205 [az i, .agg (dV a), .iptr [dB g.Mark], .iptr [.sc (.map (some m))]] [(m, ff (lg (g.Anchors.take i)))] fun c L' => c = az (kQ g i a) ∧ (kQ g i a = 0 → L' = [(m, ff (lg (g.Anchors.take (i + 1))))]) := by
 refine aB Tryz.func205 rfl Tryz.ntmps205 rfl fun B => ?_
 repeat' (first|refine a8 ?_|refine a0 ?_|refine a5 ?_|refine a6 ?_|refine a7 a4 rfl rfl ?_|(apply aO; first|refine a9 7 a4 0 rfl rfl rfl rfl rfl rfl rfl rfl ?_|refine a9 7 a4 1 rfl rfl rfl rfl rfl rfl rfl rfl ?_|refine a9 7 a4 2 rfl rfl rfl rfl rfl rfl rfl rfl ?_|refine aa a4 0 rfl rfl rfl rfl rfl rfl rfl ?_|refine aa a4 1 rfl rfl rfl rfl rfl rfl rfl ?_|refine aa a4 2 rfl rfl rfl rfl rfl rfl rfl ?_|refine aa a4 3 rfl rfl rfl rfl rfl rfl rfl ?_|fail)|refine aY ?_|refine aZ a4 fun _=>?_|fail)
 refine cF (t := 8) [2, 3, 5, 7] (a.Kind = 3 ∨ a.Kind = 4) rfl (fun Q' K => ?_) ?_
 ·repeat' (first|refine a6 ?_|refine a7 a4 rfl rfl ?_|refine ak rfl rfl ?_|refine av rfl rfl rfl rfl ?_|refine aH rfl rfl rfl (fun _ => ?_) (fun _ => ?_))
  all_goals exact K _ _ rfl rfl (by clear K; grind)
 repeat' (first|refine a8 ?_|refine a0 ?_|refine aj ?_|refine a5 ?_|refine a7 a4 rfl rfl ?_)
 refine cF (t := 22) [2, 3, 5, 7, 8] (a.Kind < 1 ∨ a.Kind > 4) rfl (fun Q' K => ?_) ?_
 ·repeat' (first|refine a6 ?_|refine a7 a4 rfl rfl ?_|refine ak rfl rfl ?_|refine av rfl rfl rfl rfl ?_|refine aH rfl rfl rfl (fun _ => ?_) (fun _ => ?_))
  all_goals exact K _ _ rfl rfl (by clear K; grind)
 repeat' (first|refine a5 ?_)
 refine aq rfl (fun h1 => ?_) (fun h1 => ?_)
 ·have h0 := h1
  replace h1 := Dz h1
  rw [h0]
  repeat' (first|refine a8 ?_|refine a0 ?_|refine ah ?_|refine ae ?_|refine a5 ?_|refine an ?_|refine aI ?_|refine a6 ?_|refine a7 a4 rfl rfl ?_|refine br rfl ?_)
  refine am rfl rfl ?_
  rw [show kQ g i a = 35 from if_pos (.inl h1)]
  exact ⟨rfl, fun e => absurd e (by decide)⟩
 have h0 := h1
 replace h1 := Dy h1
 rw [h0]
 clear h0
 repeat' (first|refine a8 ?_|refine a0 ?_|refine a7 a4 rfl rfl ?_)
 refine cF (t := 22) [2, 3, 5, 7, 8] (a.Class < 0 ∨ a.Class > 15) rfl (fun Q' K => ?_) ?_
 ·repeat' (first|refine a6 ?_|refine a7 a4 rfl rfl ?_|refine ak rfl rfl ?_|refine av rfl rfl rfl rfl ?_|refine aH rfl rfl rfl (fun _ => ?_) (fun _ => ?_))
  all_goals exact K _ _ rfl rfl (by clear K; grind)
 repeat' (first|refine a5 ?_)
 refine aq rfl (fun h2 => ?_) (fun h2 => ?_)
 ·have h0 := h2
  replace h2 := Dz h2
  rw [h0]
  repeat' (first|refine a8 ?_|refine a0 ?_|refine ah ?_|refine ae ?_|refine a5 ?_|refine an ?_|refine aI ?_|refine a6 ?_|refine a7 a4 rfl rfl ?_|refine br rfl ?_)
  refine am rfl rfl ?_
  rw [show kQ g i a = 35 from if_pos (.inr (.inl h2))]
  exact ⟨rfl, fun e => absurd e (by decide)⟩
 have h0 := h2
 replace h2 := Dy h2
 rw [h0]
 clear h0
 repeat' (first|refine a8 ?_|refine a0 ?_|refine a7 a4 rfl rfl ?_)
 refine cF (t := 22) [2, 3, 5, 7] ((a.Kind = 3 ∨ a.Kind = 4) ∧ a.Class ≠ 0) rfl (fun Q' K => ?_) ?_
 ·generalize hj : decide (a.Kind = 3 ∨ a.Kind = 4) = j
  have hj' : (a.Kind = 3 ∨ a.Kind = 4) ↔ j = true := by rw [← hj, decide_eq_true_eq]
  repeat' (first|refine a6 ?_|refine a7 a4 rfl rfl ?_|refine ak rfl rfl ?_|refine av rfl rfl rfl rfl ?_|refine aH rfl rfl rfl (fun _ => ?_) (fun _ => ?_))
  all_goals exact K _ _ (by first | rfl | (subst_vars; rfl)) rfl (by clear K; grind)
 repeat' (first|refine a5 ?_)
 refine aq rfl (fun h3 => ?_) (fun h3 => ?_)
 ·have h0 := h3
  replace h3 := Dz h3
  rw [h0]
  repeat' (first|refine a8 ?_|refine a0 ?_|refine ah ?_|refine ae ?_|refine a5 ?_|refine an ?_|refine aI ?_|refine a6 ?_|refine a7 a4 rfl rfl ?_|refine br rfl ?_)
  refine am rfl rfl ?_
  rw [show kQ g i a = 35 from if_pos (.inr (.inr (.inl h3)))]
  exact ⟨rfl, fun e => absurd e (by decide)⟩
 have h0 := h3
 replace h3 := Dy h3
 rw [h0]
 clear h0
 repeat' (first|refine a8 ?_|refine a0 ?_|refine a5 ?_|refine a6 ?_|refine a7 a4 rfl rfl ?_|refine c6 a4 ?_|(apply bb;refine b4 ?_)|fail)
 refine aq rfl (fun h4 => ?_) (fun h4 => ?_)
 ·rw [h4]
  repeat' (first|refine a8 ?_|refine a0 ?_|refine ah ?_|refine ae ?_|refine a5 ?_|refine an ?_|refine aI ?_|refine a6 ?_|refine a7 a4 rfl rfl ?_|refine br rfl ?_)
  refine am rfl rfl ?_
  rw [show kQ g i a = 35 from if_pos (.inr (.inr (.inr (.inl (by rw [← Bool.not_eq_true', h4])))))]
  exact ⟨rfl, fun e => absurd e (by decide)⟩
 rw [h4]
 repeat' (first|refine a8 ?_|refine a0 ?_|refine a7 a4 rfl rfl ?_)
 refine cF (t := 22) [3, 7] (a.Kind = 2 ∧ g.Mark = false) rfl (fun Q' K => ?_) ?_
 ·repeat' (first|refine a6 ?_|refine a7 a4 rfl rfl ?_|refine ak rfl rfl ?_|refine av rfl rfl rfl rfl ?_|refine aH rfl rfl rfl (fun _ => ?_) (fun _ => ?_))
  all_goals exact K _ _ rfl rfl (by clear K; grind)
 repeat' (first|refine a5 ?_)
 refine aq rfl (fun h5 => ?_) (fun h5 => ?_)
 ·have h0 := h5
  replace h5 := Dz h5
  rw [h0]
  repeat' (first|refine a8 ?_|refine a0 ?_|refine ah ?_|refine ae ?_|refine a5 ?_|refine an ?_|refine aI ?_|refine a6 ?_|refine a7 a4 rfl rfl ?_|refine br rfl ?_)
  refine am rfl rfl ?_
  rw [show kQ g i a = 35 from if_pos (.inr (.inr (.inr (.inr (.inl h5)))))]
  exact ⟨rfl, fun e => absurd e (by decide)⟩
 have h0 := h5
 replace h5 := Dy h5
 rw [h0]
 clear h0
 repeat' (first|refine a0 ?_|refine a7 a4 rfl rfl ?_)
 refine sp 0 (.bool false) Tryz.underlying291 xC rfl rfl rfl (by kernel_rfl) rfl ?_
 rw [uE]
 repeat' (first|refine a5 ?_|refine a6 ?_|refine a7 a4 rfl rfl ?_)
 refine aq rfl (fun h6 => ?_) (fun h6 => ?_)
 ·rw [h6]
  repeat' (first|refine a8 ?_|refine a0 ?_|refine ae ?_|refine a5 ?_|refine an ?_|refine aI ?_|refine a6 ?_|refine a7 a4 rfl rfl ?_)
  refine am rfl rfl ?_
  rw [show kQ g i a = 35 from if_pos (.inr (.inr (.inr (.inr (.inr (Dz h6))))))]
  exact ⟨rfl, fun e => absurd e (by decide)⟩
 rw [h6]
 repeat' (first|refine a8 ?_|refine a0 ?_|refine ah ?_|refine a5 ?_|refine aG ?_|refine a7 a4 rfl rfl ?_)
 refine pv 0 (lg (g.Anchors.take (i + 1))) Tryz.underlying291 xC rfl rfl rfl rfl (uF ha) (sm ha) ?_
 repeat' (first|refine a8 ?_|refine a0 ?_|refine ae ?_|refine a5 ?_|refine a6 ?_|refine a7 a4 rfl rfl ?_)
 refine am rfl rfl ?_
 have h4' : [a.X, a.Y].all eU = true := by simpa using h4
 have h6' := Dy h6
 rw [show kQ g i a = 0 from if_neg (by
  rintro (h | h | h | h | h | h)
  ·exact h1 h
  ·exact h2 h
  ·exact h3 h
  ·rw [h4'] at h; cases h
  ·exact h5 h
  ·exact h6' h)]
 exact ⟨rfl, fun _ => rfl⟩
def ny (a b c d : Int) : Bool := decide (a < c ∨ (a = c ∧ b < d))
theorem rJ (a b c d : Int) : bk Tryz.prog 209 [.agg [az a, az b], .agg [az c, az d]] (dB (ny a b c d)) := by
 refine aB Tryz.func209 rfl Tryz.ntmps209 rfl fun B => ?_
 repeat' (first|refine a8 ?_|refine a0 ?_|refine a5 ?_|refine a6 ?_|refine a7 a4 rfl rfl ?_|refine aY ?_|fail)
 refine cF (t := 4) [] (ny a b c d = true) rfl (fun Q' K => ?_) ?_
 ·repeat' (first|refine a6 ?_|refine a7 a4 rfl rfl ?_|refine ak rfl rfl ?_|refine av rfl rfl rfl rfl ?_|refine cX rfl rfl rfl ?_|refine aH rfl rfl rfl (fun _ => ?_) (fun _ => ?_))
  all_goals exact K _ _ rfl rfl (by clear K; unfold ny; grind)
 repeat' (first|refine ae ?_|refine a5 ?_)
 refine am rfl rfl ?_
 simp
def ea (l : List f6) (i : Nat) : Int × Int := match i with | 0 => (0, 0) | j + 1 => match l[j]? with | some b => (b.Region, b.Point) | none => (0, 0)
def n3 (g : b9) (i : Nat) (d : f6) : Bool := decide (0 < i ∧ ((d.Region = (ea g.Deltas i).1 ∧ d.Point = (ea g.Deltas i).2) ∨ ny d.Region d.Point (ea g.Deltas i).1 (ea g.Deltas i).2 = true))
theorem yQ {g : b9} {i : Nat} {d : f6} (hd : g.Deltas[i]? = some d) : (match i with | 0 => false | j + 1 => match g.Deltas[j]? with | some b => decide (d.Region < b.Region ∨ (d.Region = b.Region ∧ d.Point ≤ b.Point)) | none => false) = n3 g i d := by
 unfold n3
 cases i with
 | zero => simp
 | succ j =>
  have hj : j < g.Deltas.length := by have := (Dp hd).1; omega
  obtain ⟨b, hb⟩ : ∃ b, g.Deltas[j]? = some b := ⟨_, Bg hj⟩
  simp only [hb, ea, ny]
  rw [Bool.eq_iff_iff, decide_eq_true_eq, decide_eq_true_eq, decide_eq_true_eq]
  omega
theorem yi {f : aN} {g : b9} {i : Nat} {d : f6} (hd : g.Deltas[i]? = some d) : qy f g i d = if d.Region < 0 ∨ d.Region ≥ f.Regions.length then 61 else if (d.Point < -1 ∨ d.Point ≥ g.Points.length) ∨ [d.X, d.Y].all eU = false ∨ (d.Point = -1 ∧ d.Y ≠ 0) then 30 else if n3 g i d = true then 24 else 0 := by
 unfold qy
 rw [← yQ hd]
 cases i <;> rfl
set_option maxHeartbeats 1000000 in
theorem ul (f : aN) (g : b9) (i : Nat) (d : f6) (hd : g.Deltas[i]? = some d) (R N : Int) (hR : R = f.Regions.length) (hN : N = g.Points.length) (b : Nat) : AC Tryz.prog 208 [az i, .agg (f8 d), .iptr [az R], .iptr [az N], .sc (.pointer (some ⟨b, 0, none⟩))] [(b, .box [az (ea g.Deltas i).1, az (ea g.Deltas i).2] 296)] fun c L' => c = az (qy f g i d) ∧ (qy f g i d = 0 → L' = [(b, .box [az (ea g.Deltas (i + 1)).1, az (ea g.Deltas (i + 1)).2] 296)]) := by
 refine aB Tryz.func208 rfl Tryz.ntmps208 rfl fun B => ?_
 rw [yi hd, ← hR, ← hN]
 have hnext : ea g.Deltas (i + 1) = (d.Region, d.Point) := by simp only [ea, hd]
 rw [hnext]
 repeat' (first|refine a8 ?_|refine a0 ?_|refine aj ?_|refine a5 ?_|refine a6 ?_|refine a7 a4 rfl rfl ?_|(apply aO; first|refine a9 8 a4 0 rfl rfl rfl rfl rfl rfl rfl rfl ?_|refine a9 8 a4 1 rfl rfl rfl rfl rfl rfl rfl rfl ?_|refine a9 8 a4 2 rfl rfl rfl rfl rfl rfl rfl rfl ?_|refine aa a4 0 rfl rfl rfl rfl rfl rfl rfl ?_|refine aa a4 1 rfl rfl rfl rfl rfl rfl rfl ?_|refine aa a4 2 rfl rfl rfl rfl rfl rfl rfl ?_|refine aa a4 3 rfl rfl rfl rfl rfl rfl rfl ?_|fail)|refine aY ?_|refine aZ a4 fun _=>?_|fail)
 refine bG [0, 3, 4, 6, 8] (d.Region < 0 ∨ d.Region ≥ R) rfl (fun Q' K => ?_) (fun h1 => ?_) (fun h1 => ?_)
 ·repeat' (first|refine a6 ?_|refine a7 a4 rfl rfl ?_|refine ak rfl rfl ?_|refine av rfl rfl rfl rfl ?_|refine aH rfl rfl rfl (fun _ => ?_) (fun _ => ?_))
  all_goals exact K _ _ rfl rfl (by clear K; grind)
 ·rw [if_pos h1]
  repeat' (first|refine a8 ?_|refine a0 ?_|refine ae ?_|refine a5 ?_|refine an ?_|refine aI ?_|refine a6 ?_|refine a7 a4 rfl rfl ?_)
  exact am rfl rfl ⟨rfl, fun e => absurd e (by decide)⟩
 rw [if_neg h1]
 repeat' (first|refine a8 ?_|refine a0 ?_|refine a7 a4 rfl rfl ?_)
 refine cF (t := 24) [0, 4, 6, 8] (d.Point < -1 ∨ d.Point ≥ N) rfl (fun Q' K => ?_) ?_
 ·repeat' (first|refine a6 ?_|refine a7 a4 rfl rfl ?_|refine ak rfl rfl ?_|refine av rfl rfl rfl rfl ?_|refine aH rfl rfl rfl (fun _ => ?_) (fun _ => ?_))
  all_goals exact K _ _ rfl rfl (by clear K; grind)
 repeat' (first|refine a5 ?_)
 refine aq rfl (fun h2 => ?_) (fun h2 => ?_)
 ·have h0 := h2
  replace h2 := Dz h2
  rw [h0]
  rw [if_pos (.inl h2)]
  repeat' (first|refine a8 ?_|refine a0 ?_|refine ah ?_|refine ae ?_|refine a5 ?_|refine an ?_|refine aI ?_|refine a6 ?_|refine a7 a4 rfl rfl ?_|refine br rfl ?_)
  exact am rfl rfl ⟨rfl, fun e => absurd e (by decide)⟩
 have h0 := h2
 replace h2 := Dy h2
 rw [h0]
 clear h0
 repeat' (first|refine a8 ?_|refine a0 ?_|refine a5 ?_|refine a6 ?_|refine a7 a4 rfl rfl ?_|refine c6 a4 ?_|(apply bb;refine b4 ?_)|fail)
 refine aq rfl (fun h3 => ?_) (fun h3 => ?_)
 ·rw [if_pos (.inr (.inl (by rw [← Bool.not_eq_true', h3]))), h3]
  repeat' (first|refine a8 ?_|refine a0 ?_|refine ah ?_|refine ae ?_|refine a5 ?_|refine an ?_|refine aI ?_|refine a6 ?_|refine a7 a4 rfl rfl ?_|refine br rfl ?_)
  exact am rfl rfl ⟨rfl, fun e => absurd e (by decide)⟩
 rw [h3]
 repeat' (first|refine a0 ?_|refine a7 a4 rfl rfl ?_)
 refine cF (t := 24) [0, 4, 8] (d.Point = -1 ∧ d.Y ≠ 0) rfl (fun Q' K => ?_) ?_
 ·repeat' (first|refine a6 ?_|refine a7 a4 rfl rfl ?_|refine ak rfl rfl ?_|refine av rfl rfl rfl rfl ?_|refine aH rfl rfl rfl (fun _ => ?_) (fun _ => ?_))
  all_goals exact K _ _ rfl rfl (by clear K; grind)
 repeat' (first|refine a5 ?_)
 refine aq rfl (fun h4 => ?_) (fun h4 => ?_)
 ·have h0 := h4
  replace h4 := Dz h4
  rw [h0]
  rw [if_pos (.inr (.inr h4))]
  repeat' (first|refine a8 ?_|refine a0 ?_|refine ae ?_|refine a5 ?_|refine an ?_|refine aI ?_|refine a6 ?_|refine a7 a4 rfl rfl ?_)
  exact am rfl rfl ⟨rfl, fun e => absurd e (by decide)⟩
 have h0 := h4
 replace h4 := Dy h4
 rw [h0]
 clear h0
 have h3' : [d.X, d.Y].all eU = true := by simpa using h3
 rw [if_neg (by
  rintro (h | h | h)
  ·exact h2 h
  ·rw [h3'] at h; cases h
  ·exact h4 h)]
 repeat' (first|refine a8 ?_|refine a0 ?_|refine a7 a4 rfl rfl ?_)
 refine bG [4, 8] (n3 g i d = true) rfl (fun Q' K => ?_) (fun h5 => ?_) (fun h5 => ?_)
 ·repeat' (first|refine a6 ?_|refine a7 a4 rfl rfl ?_|refine ak rfl rfl ?_|refine av rfl rfl rfl rfl ?_|refine cX rfl rfl rfl ?_|(apply bD; first|refine ai a4 0 rfl rfl rfl rfl rfl ?_|refine ai a4 1 rfl rfl rfl rfl rfl ?_|refine ai a4 2 rfl rfl rfl rfl rfl ?_|refine ai a4 3 rfl rfl rfl rfl rfl ?_|refine ax a4 0 rfl rfl rfl rfl rfl ?_|refine ax a4 1 rfl rfl rfl rfl rfl ?_|refine ax a4 2 rfl rfl rfl rfl rfl ?_|refine ai a4 1 rfl rfl rfl (by assumption) rfl ?_|refine ai a4 0 rfl rfl rfl (by assumption) rfl ?_|fail)|refine aH rfl rfl rfl (fun _ => ?_) (fun _ => ?_))
  all_goals first
   | exact K _ _ rfl rfl (by clear K; unfold n3; grind)
   | (refine AU Be Tryz.eqGuardType296 rfl rfl rfl ?_)
  repeat' (first|refine a6 ?_|refine a7 a4 rfl rfl ?_|refine ak rfl rfl ?_|refine av rfl rfl rfl rfl ?_|(apply bD; first|refine ai a4 0 rfl rfl rfl rfl rfl ?_|refine ai a4 1 rfl rfl rfl rfl rfl ?_|refine ai a4 2 rfl rfl rfl rfl rfl ?_|refine ai a4 3 rfl rfl rfl rfl rfl ?_|refine ax a4 0 rfl rfl rfl rfl rfl ?_|refine ax a4 1 rfl rfl rfl rfl rfl ?_|refine ax a4 2 rfl rfl rfl rfl rfl ?_|refine ai a4 1 rfl rfl rfl (by assumption) rfl ?_|refine ai a4 0 rfl rfl rfl (by assumption) rfl ?_|fail)|refine aH rfl rfl rfl (fun _ => ?_) (fun _ => ?_))
  all_goals first
   | exact K _ _ rfl rfl (by clear K; unfold n3; grind)
   | (refine b4 (hc := ⟨rJ d.Region d.Point (ea g.Deltas i).1 (ea g.Deltas i).2⟩) ?_)
  repeat' (first|refine a6 ?_|refine a7 a4 rfl rfl ?_|refine ak rfl rfl ?_)
  all_goals exact K _ _ rfl rfl (by clear K; unfold n3; grind)
 ·rw [if_pos h5]
  repeat' (first|refine a8 ?_|refine a0 ?_|refine ae ?_|refine a5 ?_|refine an ?_|refine aI ?_|refine a6 ?_|refine a7 a4 rfl rfl ?_)
  exact am rfl rfl ⟨rfl, fun e => absurd e (by decide)⟩
 rw [if_neg h5]
 repeat' (first|refine a8 ?_|refine a0 ?_|refine ah ?_|refine ae ?_|refine a5 ?_|refine aG ?_|refine a6 ?_|refine a7 a4 rfl rfl ?_|(apply aO; first|refine a9 8 a4 0 rfl rfl rfl rfl rfl rfl rfl rfl ?_|refine a9 8 a4 1 rfl rfl rfl rfl rfl rfl rfl rfl ?_|refine a9 8 a4 2 rfl rfl rfl rfl rfl rfl rfl rfl ?_|refine aa a4 0 rfl rfl rfl rfl rfl rfl rfl ?_|refine aa a4 1 rfl rfl rfl rfl rfl rfl rfl ?_|refine aa a4 2 rfl rfl rfl rfl rfl rfl rfl ?_|refine aa a4 3 rfl rfl rfl rfl rfl rfl rfl ?_|fail))
 refine am rfl rfl ⟨rfl, fun e => ?_⟩
 rfl
set_option maxHeartbeats 2000000 in
theorem uw (f : aN) (g : b9) (name : Int) : bk Tryz.prog 52 [cA f, .agg (c9 g), az name] (az (mY f g name)) := by
 refine aB Tryz.func52 rfl Tryz.ntmps52 rfl fun B => ?_
 repeat' (first|refine a8 ?_|refine a0 ?_|refine a5 ?_|refine a6 ?_|refine a7 a4 rfl rfl ?_|refine aY ?_|fail)
 refine bj 30 [(0, .v), (1, .v), (2, .v), (3, .v), (4, .v), (5, .v), (6, .v), (7, .v), (8, .v), (9, .v), (12, .v), (13, .v), (14, .v), (15, .v), (16, .v), (17, .v), (18, .v), (19, .v), (20, .v), (23, .v), (10, .e), (11, .v), (21, .e), (22, .v), (24, .v), (25, .e), (26, .v), (27, .v), (28, .v), (29, .v)] none ?_ trivial rfl (by kernel_rfl) (by kernel_rfl) (by kernel_rfl) ce (by kernel_rfl) rfl
 repeat' (first|refine aC ?_|refine bf a4 ?_|(apply cL;refine de ?_)|fail)
 refine iU [] [] (rA g.Mark) rfl rfl (Do _) trivial fun c L1 ⟨m, hc, hL⟩ => ?_
 subst hc; subst hL
 repeat' (first|refine aC ?_|(apply cL;refine de ?_)|fail)
 refine iU [] _ (um (f.Regions.map da).length (g.Points.map fA).length) rfl rfl (Do _) trivial fun c L1 ⟨b, hc, hL⟩ => ?_
 subst hc; subst hL
 repeat' (first|refine aC ?_|(apply cL;refine de ?_)|refine lL a4 ?_|fail)
 refine iU (L := [(b, .box [az 0, az 0] 296), (m, ff fun _ _ => none)]) _ [] (gj [⟨114, [.iptr [az name]], [], name, 0⟩, ⟨115, [.iptr (c9 g)], [], gY g, 0⟩, ⟨201, [.iptr [.imm 3 (g.Parts.map f3)], .iptr [az 8], .iptr [.fn 118 [.iptr (bU f)]]], [], (c7 8 g.Parts (lW f)).1, (c7 8 g.Parts (lW f)).2⟩, ⟨203, [.iptr [.imm 4 (g.Anchors.map dV)], .iptr [az 16], .iptr [.fn 205 [.iptr [dB g.Mark], .iptr [.sc (.map (some m))]]]], [(m, ff fun _ _ => none)], (c7 16 g.Anchors (kQ g)).1, (c7 16 g.Anchors (kQ g)).2⟩, ⟨206, [.iptr [.imm 4 (g.Deltas.map f8)], .iptr [az 400], .iptr [.fn 208 [.iptr [az (f.Regions.map da).length], .iptr [az (g.Points.map fA).length], .sc (.pointer (some ⟨b, 0, none⟩))]]], [(b, .box [az 0, az 0] 296)], (c7 400 g.Deltas (qy f g)).1, (c7 400 g.Deltas (qy f g)).2⟩, ⟨124, [.iptr (c9 g)], [], nm g.Hint, 0⟩] ?_) rfl rfl (List.Perm.swap ..) trivial fun c L1 hc => ?_
 ·refine ⟨⟨inferInstance, s4 name⟩, fun _ => ⟨⟨inferInstance, s5 g⟩, fun _ => ⟨⟨inferInstance, zf rfl g.Parts 8 _ (fun _ _ => True) [] trivial (fun _ => cr fun i x _ => s6 f i x)⟩, fun _ => ⟨⟨inferInstance, zg rfl g.Anchors 16 (eL g.Anchors (kQ g)) (fun i L => L = [(m, ff (lg (g.Anchors.take i)))]) _ (by rw [List.take_zero, wN]) ?_⟩, fun _ => ⟨⟨inferInstance, zh rfl g.Deltas 400 (eL g.Deltas (qy f g)) (fun i L => L = [(b, .box [az (ea g.Deltas i).1, az (ea g.Deltas i).2] 296)]) _ rfl ?_⟩, fun _ => ⟨⟨inferInstance, s7 g⟩, fun _ => trivial⟩⟩⟩⟩⟩⟩
  ·intro _ i x L hx hL
   subst hL
   rw [fp hx]
   exact rz g i x hx m
  ·intro _ i x L hx hL
   subst hL
   rw [fp hx]
   exact ul f g i x hx _ _ (by rw [Du]) (by rw [Du]) b
 ·rw [gR] at hc
  subst hc
  unfold bK
  repeat' (first|refine aC ?_|refine bf a4 ?_|fail)
  refine bv [7, 37] rfl rfl ?_
  repeat' (first|refine a8 ?_|refine a0 ?_|refine ae ?_|refine a5 ?_|refine a6 ?_|refine a7 a4 rfl rfl ?_)
  exact am rfl rfl rfl
instance (f : aN) (g : b9) (name : Int) : AD Tryz.prog 52 [cA f, .agg (c9 g), az name] (az (mY f g name)) := ⟨uw f g name⟩
section
variable {P : Program} {l : List Oper} {fr : bw} {fin : jo} {sk : lw} {acc : bw} {L : AL} {k : Nat} {dd : Option Tmp} {ty t : TypeId} {pos : String} {af : Array Edge} {g : Option (Nat × Bool)} {x y : Operand}
theorem mQ (i : Nat) (v0 : Value) {b kt et : Nat} {kd : TypeDesc} {q : Value} {m : Value → Option AV} (ht : P.underlying t = some (.map kt et)) (hkt : P.underlying kt = some kd) (hx : aW (cl l.toArray acc fr af.toList) x = some (.sc (.map (some b)))) (hy : aW (cl l.toArray acc fr af.toList) y = some (.sc q)) (hk : MapKept.IsKey kd q) (hL : L[i]? = some (b, cg kd m)) (hz : iN P et v0 = true) (hg : iP ⟨dd, .lookup t x y false, ty, pos, af, g⟩ acc) (h : DA P l fr fin sk ((k, (m q).getD (.sc v0)) :: acc) L) :
  cE P l fr fin k .e ⟨dd, .lookup t x y false, ty, pos, af, g⟩ sk acc L :=
 jv hg (fun B => iR i ht hkt hx hy hk hL (eo hz) fun _ => .sc _) fun c L' ⟨h1, h2⟩ => by subst h1; subst h2; exact h
end
def t4 (f : aN) (c : hP) (late : Bool) : Int := if c.Rune < 0 ∨ c.Rune > 1114111 then 1 else if jc f c.Glyph = false then 32 else d6 late 24
theorem w5 (f : aN) (c : hP) (late : Bool) : bk Tryz.prog 59 [cA f, .agg (fc c), dB late] (az (t4 f c late)) := by
 refine aB Tryz.func59 rfl Tryz.ntmps59 rfl fun B => ?_
 unfold t4
 repeat' (first|refine a8 ?_|refine a0 ?_|refine aj ?_|refine a5 ?_|refine a6 ?_|refine a7 a4 rfl rfl ?_|refine aY ?_|fail)
 refine bG [2, 3, 4] (c.Rune < 0 ∨ c.Rune > 1114111) rfl (fun Q' K => ?_) (fun hC => ?_) (fun hC => ?_)
 ·repeat' (first|refine a6 ?_|refine a7 a4 rfl rfl ?_|refine ak rfl rfl ?_|refine av rfl rfl rfl rfl ?_|refine aH rfl rfl rfl (fun _ => ?_) (fun _ => ?_))
  all_goals exact K _ _ rfl rfl (by clear K; grind)
 ·rw [if_pos hC]
  repeat' (first|refine a8 ?_|refine a0 ?_|refine ae ?_|refine a5 ?_|refine an ?_|refine aI ?_|refine a6 ?_|refine a7 a4 rfl rfl ?_)
  exact am rfl rfl rfl
 rw [if_neg hC]
 repeat' (first|refine a8 ?_|refine a0 ?_|refine a5 ?_|refine a6 ?_|refine a7 a4 rfl rfl ?_|(apply bb;refine b4 ?_)|fail)
 refine aq rfl (fun h => ?_) (fun h => ?_)
 ·rw [if_pos (by simpa using h)]
  repeat' (first|refine a8 ?_|refine a0 ?_|refine ae ?_|refine a5 ?_|refine an ?_|refine aI ?_|refine a6 ?_|refine a7 a4 rfl rfl ?_)
  exact am rfl rfl rfl
 rw [if_neg (by simpa using h)]
 repeat' (first|refine a8 ?_|refine a0 ?_|refine ah ?_|refine ae ?_|refine a5 ?_|refine aG ?_|refine a6 ?_|refine a7 a4 rfl rfl ?_|(apply bb;refine b4 ?_)|fail)
 exact am rfl rfl rfl
instance (f : aN) (c : hP) (late : Bool) : AD Tryz.prog 59 [cA f, .agg (fc c), dB late] (az (t4 f c late)) := ⟨w5 f c late⟩
def wF (f : aN) (i : Nat) (c : hP) : Bool := match i with | 0 => false | j + 1 => match f.Chars[j]? with | some b => decide (c.Rune ≤ b.Rune) | none => false
def iT (f : aN) (i : Nat) (c : hP) : Int := t4 f c (wF f i c)
theorem uc (f : aN) (i : Nat) (c : hP) (hc : f.Chars[i]? = some c) (hm : (f.Chars.length : Int) ≤ 1000) : bk Tryz.prog 58 [az i, .agg (fc c), .iptr (bU f)] (az (iT f i c)) := by
 refine aB Tryz.func58 rfl Tryz.ntmps58 rfl fun B => ?_
 have hil := (Dp hc).1
 unfold iT
 cases i with
 | zero =>
  repeat' (first|refine a8 ?_|refine a0 ?_|refine a5 ?_|refine a6 ?_|refine a7 a4 rfl rfl ?_|refine aY ?_|fail)
  refine bj 17 [(0, .v), (1, .v), (2, .v), (3, .v), (4, .v), (5, .v), (6, .v), (7, .v), (8, .v), (9, .v), (10, .v), (11, .v), (12, .v), (13, .v), (14, .v), (15, .v), (16, .v)] none ?_ trivial rfl (by kernel_rfl) (by kernel_rfl) (by kernel_rfl) ce (by kernel_rfl) rfl
  repeat' (first|refine aC ?_|refine bf a4 ?_|(apply cL;refine de ?_)|refine t9 rfl rfl ?_)
  refine bv [22] rfl rfl ?_
  repeat' (first|refine ae ?_|refine a5 ?_|refine a6 ?_|refine a7 a4 rfl rfl ?_)
  exact am rfl rfl rfl
 | succ j =>
  obtain ⟨b, hb⟩ : ∃ b, f.Chars[j]? = some b := ⟨_, Bg (by omega)⟩
  have hbg : (f.Chars.map fc)[(((j + 1 : Nat) : Int) - 1).toNat]? = some (fc b) := by rw [show (((j + 1 : Nat) : Int) - 1).toNat = j by omega]; exact bW hb
  have hl : wF f (j + 1) c = decide (c.Rune ≤ b.Rune) := by simp [wF, hb]
  have hpos : decide (0 < ((j + 1 : Nat) : Int)) = true := decide_eq_true (by omega)
  rw [hl]
  repeat' (first|refine a8 ?_|refine a0 ?_|refine a5 ?_|refine a6 ?_|refine a7 a4 rfl rfl ?_|refine aY ?_|fail)
  refine bj 17 [(0, .v), (1, .v), (2, .v), (3, .v), (4, .v), (5, .v), (6, .v), (7, .v), (8, .v), (9, .v), (10, .v), (11, .v), (12, .v), (13, .v), (14, .v), (15, .v), (16, .v)] none ?_ trivial rfl (by kernel_rfl) (by kernel_rfl) (by kernel_rfl) ce (by kernel_rfl) rfl
  repeat' (first|refine aC ?_|refine bf a4 ?_|fail)
  rw [hpos]
  repeat' (first|refine aC ?_|refine bf a4 ?_|(apply ir;refine lK ?_)|(apply cC;refine d4 a4 ?_)|(apply cL;refine de ?_)|fail)
  refine bv [22] rfl rfl ?_
  repeat' (first|refine ae ?_|refine a5 ?_|refine a6 ?_|refine a7 a4 rfl rfl ?_)
  exact am rfl rfl rfl
def t2 (a : ee) (name : Int) : Int := if name ≠ 0 then name else d6 (!(decide ([a.Min, a.Def, a.Max].all eU = true ∧ a.Min ≤ a.Def ∧ a.Def ≤ a.Max))) 60
theorem vS (a : ee) (name : Int) : bk Tryz.prog 69 [.agg (eu a), az name] (az (t2 a name)) := by
 refine aB Tryz.func69 rfl Tryz.ntmps69 rfl fun B => ?_
 unfold t2
 repeat' (first|refine a8 ?_|refine a0 ?_|refine a5 ?_|refine a6 ?_|refine a7 a4 rfl rfl ?_|refine aY ?_|fail)
 refine aq rfl (fun h => ?_) (fun h => ?_)
 ·rw [if_pos (Dz h)]
  repeat' (first|refine a8 ?_|refine a0 ?_|refine ae ?_|refine a5 ?_|refine an ?_|refine a6 ?_|refine a7 a4 rfl rfl ?_)
  exact am rfl rfl rfl
 rw [if_neg (Dy h)]
 repeat' (first|refine a8 ?_|refine a0 ?_|refine ah ?_|refine a5 ?_|refine a7 a4 rfl rfl ?_|refine c6 a4 ?_|(apply bb;refine b4 ?_)|fail)
 refine cF (t := 5) [] ([a.Min, a.Def, a.Max].all eU = true ∧ a.Min ≤ a.Def ∧ a.Def ≤ a.Max) rfl (fun Q' K => ?_) ?_
 ·repeat' (first|refine a6 ?_|refine a7 a4 rfl rfl ?_|refine ak rfl rfl ?_|refine av rfl rfl rfl rfl ?_|refine aH rfl rfl rfl (fun _ => ?_) (fun _ => ?_))
  all_goals exact K _ _ rfl rfl (by clear K; grind)
 repeat' (first|refine a8 ?_|refine a0 ?_|refine ae ?_|refine a5 ?_|refine a6 ?_|refine a7 a4 rfl rfl ?_|(apply bb;refine b4 ?_)|fail)
 exact am rfl rfl rfl
instance (a : ee) (name : Int) : AD Tryz.prog 69 [.agg (eu a), az name] (az (t2 a name)) := ⟨vS a name⟩
def ri (_ : Nat) (t : fw) : Int := d6 (decide (¬ (-64 ≤ t.Start ∧ t.Start ≤ t.Peak ∧ t.Peak ≤ t.End ∧ t.End ≤ 64) ∨ (t.Start < 0 ∧ t.End > 0 ∧ t.Peak ≠ 0))) 61
set_option maxHeartbeats 1000000 in
theorem xz (i : Nat) (t : fw) : bk Tryz.prog 150 [az i, .agg (qm t)] (az (ri i t)) := by
 refine aB Tryz.func150 rfl Tryz.ntmps150 rfl fun B => ?_
 repeat' (first|refine a8 ?_|refine a0 ?_|refine a5 ?_|refine a6 ?_|refine a7 a4 rfl rfl ?_|refine aY ?_|fail)
 refine cF (t := 5) [3] (-64 ≤ t.Start ∧ t.Start ≤ t.Peak ∧ t.Peak ≤ t.End ∧ t.End ≤ 64) rfl (fun Q' K => ?_) ?_
 ·repeat' (first|refine a6 ?_|refine a7 a4 rfl rfl ?_|refine ak rfl rfl ?_|refine av rfl rfl rfl rfl ?_|refine aH rfl rfl rfl (fun _ => ?_) (fun _ => ?_))
  all_goals exact K _ _ rfl rfl (by clear K; grind)
 repeat' (first|refine a8 ?_|refine a0 ?_|refine a5 ?_|refine a7 a4 rfl rfl ?_)
 refine cF (t := 6) [5] (t.Start < 0 ∧ t.End > 0 ∧ t.Peak ≠ 0) rfl (fun Q' K => ?_) ?_
 ·repeat' (first|refine a6 ?_|refine a7 a4 rfl rfl ?_|refine ak rfl rfl ?_|refine av rfl rfl rfl rfl ?_|refine aH rfl rfl rfl (fun _ => ?_) (fun _ => ?_))
  all_goals exact K _ _ rfl rfl (by clear K; grind)
 have ht : ri i t = d6 (!(decide (-64 ≤ t.Start ∧ t.Start ≤ t.Peak ∧ t.Peak ≤ t.End ∧ t.End ≤ 64)) || decide (t.Start < 0 ∧ t.End > 0 ∧ t.Peak ≠ 0)) 61 := by unfold ri; rw [Bool.decide_or, decide_not]
 rw [ht]
 generalize decide (-64 ≤ t.Start ∧ t.Start ≤ t.Peak ∧ t.Peak ≤ t.End ∧ t.End ≤ 64) = p
 generalize decide (t.Start < 0 ∧ t.End > 0 ∧ t.Peak ≠ 0) = q
 cases p <;> cases q
 all_goals
  repeat' (first|refine a8 ?_|refine a0 ?_|refine ae ?_|refine a5 ?_|refine a6 ?_|refine a7 a4 rfl rfl ?_|refine ak rfl rfl ?_|refine av rfl rfl rfl rfl ?_|(apply bb;refine b4 ?_)|fail)
  exact am rfl rfl rfl
def xa (axes : Int) (r : List fw) : Int := if (r.length : Int) ≠ axes then 61 else (co r ri).1
theorem sx (r : List fw) (axes : Int) : bk Tryz.prog 72 [.agg (da r), az axes] (az (xa axes r)) := by
 refine aB Tryz.func72 rfl Tryz.ntmps72 rfl fun B => ?_
 unfold xa
 repeat' (first|refine a8 ?_|refine a0 ?_|refine a5 ?_|refine a6 ?_|refine a7 a4 rfl rfl ?_|refine aY ?_|fail)
 rw [Du]
 refine aq rfl (fun h => ?_) (fun h => ?_)
 ·rw [if_pos (Dz h)]
  repeat' (first|refine a8 ?_|refine a0 ?_|refine ae ?_|refine a5 ?_|refine an ?_|refine a6 ?_|refine a7 a4 rfl rfl ?_)
  exact am rfl rfl rfl
 rw [if_neg (Dy h)]
 repeat' (first|refine a8 ?_|refine a0 ?_|refine ah ?_|refine a5 ?_|refine a7 a4 rfl rfl ?_)
 refine aL [] [] (yt (u := .sc (.func (.func 150) #[] #[])) (g := 150) (caps := []) rfl r _ (fun _ _ => True) [] trivial (cr (fun i x _ => xz i x))) rfl rfl (Do _) rfl fun c L1 hc => ?_
 have hc : c = bK (co r ri) := hc
 subst hc
 unfold bK
 repeat' (first|refine a8 ?_|refine a0 ?_|refine ae ?_|refine a5 ?_|refine a6 ?_|refine a7 a4 rfl rfl ?_)
 exact am rfl rfl rfl
instance (r : List fw) (axes : Int) : AD Tryz.prog 72 [.agg (da r), az axes] (az (xa axes r)) := ⟨sx r axes⟩
theorem r7 (f : aN) (i : Nat) (r : List fw) : bk Tryz.prog 71 [az i, .agg (da r), .iptr (bU f)] (az (xa f.Axes.length r)) := by
 refine aB Tryz.func71 rfl Tryz.ntmps71 rfl fun B => ?_
 repeat' (first|refine a8 ?_|refine a0 ?_|refine ae ?_|refine a5 ?_|refine a6 ?_|refine a7 a4 rfl rfl ?_|refine aY ?_|(apply bb;refine b4 ?_)|fail)
 rw [Du]
 repeat' (first|fail)
 exact am rfl rfl rfl
theorem ud (i : Nat) (l : List gB) : bk Tryz.prog 74 [az i, .imm 2 (l.map ip)] (az (nm l)) := by
 refine aB Tryz.func74 rfl Tryz.ntmps74 rfl fun B => ?_
 repeat' (first|refine a8 ?_|refine a0 ?_|refine ae ?_|refine a5 ?_|refine a6 ?_|refine a7 a4 rfl rfl ?_|(apply bb;refine b4 ?_)|fail)
 exact am rfl rfl rfl
def w9 (_ : Nat) (n : Int) : Int := d6 (!([n].all eU)) 1
theorem w8 (i : Nat) (n : Int) : bk Tryz.prog 77 [az i, az n] (az (w9 i n)) := by
 refine aB Tryz.func77 rfl Tryz.ntmps77 rfl fun B => ?_
 repeat' (first|refine a8 ?_|refine a0 ?_|refine ae ?_|refine a5 ?_|refine a6 ?_|refine a7 a4 rfl rfl ?_|refine c6 a4 ?_|(apply bb;refine b4 ?_)|fail)
 exact am rfl rfl rfl
def ow (f : aN) : Int := if f.Unit < 16 ∨ f.Unit > 4096 then 1 else if f.Glyphs.length = 0 then 32 else 0
theorem wz (f : aN) : bk Tryz.prog 49 [cA f] (az (ow f)) := by
 refine aB Tryz.func49 rfl Tryz.ntmps49 rfl fun B => ?_
 unfold ow
 repeat' (first|refine a8 ?_|refine a0 ?_|refine aj ?_|refine a5 ?_|refine a6 ?_|refine a7 a4 rfl rfl ?_|refine aY ?_|fail)
 refine bG [1] (f.Unit < 16 ∨ f.Unit > 4096) rfl (fun Q' K => ?_) (fun hC => ?_) (fun hC => ?_)
 ·repeat' (first|refine a6 ?_|refine a7 a4 rfl rfl ?_|refine ak rfl rfl ?_|refine av rfl rfl rfl rfl ?_|refine aH rfl rfl rfl (fun _ => ?_) (fun _ => ?_))
  all_goals exact K _ _ rfl rfl (by clear K; grind)
 ·rw [if_pos hC]
  repeat' (first|refine a8 ?_|refine a0 ?_|refine ae ?_|refine a5 ?_|refine an ?_|refine aI ?_|refine a6 ?_|refine a7 a4 rfl rfl ?_)
  exact am rfl rfl rfl
 rw [if_neg hC]
 repeat' (first|refine a8 ?_|refine a0 ?_|refine a5 ?_|refine a6 ?_|refine a7 a4 rfl rfl ?_)
 rw [Du]
 refine aq rfl (fun h => ?_) (fun h => ?_)
 ·rw [if_pos (by have := Dz h; omega)]
  repeat' (first|refine a8 ?_|refine a0 ?_|refine ae ?_|refine a5 ?_|refine an ?_|refine aI ?_|refine a6 ?_|refine a7 a4 rfl rfl ?_)
  exact am rfl rfl rfl
 rw [if_neg (by have := Dy h; omega)]
 repeat' (first|refine a8 ?_|refine a0 ?_|refine ah ?_|refine ae ?_|refine a5 ?_|refine aG ?_|refine a6 ?_|refine a7 a4 rfl rfl ?_)
 exact am rfl rfl rfl
instance (f : aN) : AD Tryz.prog 49 [cA f] (az (ow f)) := ⟨wz f⟩
theorem uy (f : aN) : bk Tryz.prog 48 [.iptr (bU f)] (bK (ow f, 0)) := by
 refine aB Tryz.func48 rfl Tryz.ntmps48 rfl fun B => ?_
 repeat' (first|refine a8 ?_|refine a0 ?_|refine ae ?_|refine a5 ?_|refine a6 ?_|refine a7 a4 rfl rfl ?_|(apply bb;refine b4 ?_)|fail)
 exact aJ rfl rfl rfl rfl
end Go.Proofs.YtpmdfoaadejmkaaGreatDoor
namespace Go.Proofs.YtpmdfoaadejmkaaGreatDoor
open Go.RowKit
section
variable {P : Program} {tt : TT} {l : List Oper} {fr : bw} {fin : jo} {sk : lw} {acc : bw} {L : AL} {k : Nat} {dd : Option Tmp} {ty t t' : TypeId} {pos : String} {af : Array Edge} {g : Option (Nat × Bool)} {x y : Operand} {u : AV}
theorem cK (ok : di P tt) {e sz by_ b off n cap : Nat} {q : IntKind} {i : Int} (ht : iJ tt t = some (e, sz, by_)) (hx : aW (cl l.toArray acc fr af.toList) x = some (.sc (.slice (some ⟨b, off, none⟩) n cap))) (hy : aW (cl l.toArray acc fr af.toList) y = some (.sc (.int q i))) (h0 : 0 ≤ i ∧ i < n) (hg : iP ⟨dd, .indexAddr t x y, ty, pos, af, g⟩ acc) (h : DA P l fr fin sk ((k, .sc (.pointer (some ⟨b, off + i.toNat * sz, none⟩))) :: acc) L) :
  cE P l fr fin k .v ⟨dd, .indexAddr t x y, ty, pos, af, g⟩ sk acc L := eS hg (fun _ _ => (q5 (b8 ok ht).1 hx hy h0).ao) h
theorem wc (ok : di P tt) (i : Nat) {b q n : Nat} {cs ys : List AV} {e : TypeId} (ht : Bh tt t = some n) (hx : aW (cl l.toArray acc fr af.toList) x = some (.sc (.pointer (some ⟨b, q, none⟩)))) (hy : aW (cl l.toArray acc fr af.toList) y = some u) (hu : u.cells = some ys) (hL : L[i]? = some (b, .box cs e)) (hn : Nat.beq ys.length n = true) (hk : Nat.ble (q + n) cs.length = true) (hg : iP ⟨dd, .store t x y, ty, pos, af, g⟩ acc) (h : ∀ c, DA P l fr fin sk ((k, c) :: acc) (eR L i (.box (eJ cs q ys) e))) :
  cE P l fr fin k .e ⟨dd, .store t x y, ty, pos, af, g⟩ sk acc L := jv hg (fun _ => jP i (kA ok ht) hx hy hu hL hn hk) fun c L' h1 => by subst h1; exact h c
theorem qx {v : Value} (ht : fL P t = true) (hx : aW (cl l.toArray acc fr af.toList) x = some (.sc (.iface t v))) (hg : iP ⟨dd, .typeAssert x t' t false, ty, pos, af, g⟩ acc) (h : DA P l fr fin sk ((k, .sc v) :: acc) L) : cE P l fr fin k .v ⟨dd, .typeAssert x t' t false, ty, pos, af, g⟩ sk acc L :=
 eS hg (fun _ _ => (q4 ht hx).ao) h
theorem ug (ok : di P tt) (i : Nat) {e by_ b n cap : Nat} {cs : List AV} {c : AV} (ht : iJ tt t = some (e, 1, by_)) (hz : zI tt e = some [.int .i64 0]) (hx : aW (cl l.toArray acc fr af.toList) x = some (.sc (.slice (some ⟨b, 0, none⟩) n cap))) (hy : aW (cl l.toArray acc fr af.toList) y = some u) (hu : i6 u = some (1, [[c]])) (hL : L[i]? = some (b, .box cs e)) (hcl : cs.length = cap) (hn : n ≤ cap) (h63 : n + 1 ≤ 9223372036854775807) (hby : (n + 1) * by_ ≤ 140737488355328) (hg : iP ⟨dd, .call ⟨.builtin .append, #[x, y], #[t, t]⟩, ty, pos, af, g⟩ acc)
  (h : ∀ b' cs', cs'.take (n + 1) = cs.take n ++ [c] → n + 1 ≤ cs'.length → DA P l fr fin sk ((k, .sc (.slice (some ⟨b', 0, none⟩) (n + 1) cs'.length)) :: acc) ((b', .box cs' e) :: L.eraseIdx i)) :
  cE P l fr fin k .e ⟨dd, .call ⟨.builtin .append, #[x, y], #[t, t]⟩, ty, pos, af, g⟩ sk acc L :=
 jv hg (fun _ => mC i (b8 ok ht).1 (eI ok hz) hx hy (cO hu) hL hcl hn h63 hby) fun q L' ⟨b', cs', h1, h2, h3, h4⟩ => by subst h1; subst h4; exact h b' cs' h2 h3
theorem uh (ok : di P tt) {e by_ : Nat} {c : AV} (ht : iJ tt t = some (e, 1, by_)) (hz : zI tt e = some [.int .i64 0]) (hx : aW (cl l.toArray acc fr af.toList) x = some (.sc (.slice none 0 0))) (hy : aW (cl l.toArray acc fr af.toList) y = some u) (hu : i6 u = some (1, [[c]])) (hby : Nat.ble by_ 140737488355328 = true) (hg : iP ⟨dd, .call ⟨.builtin .append, #[x, y], #[t, t]⟩, ty, pos, af, g⟩ acc)
  (h : ∀ b' cs', cs'.take 1 = [c] → 1 ≤ cs'.length → DA P l fr fin sk ((k, .sc (.slice (some ⟨b', 0, none⟩) 1 cs'.length)) :: acc) ((b', .box cs' e) :: L)) :
  cE P l fr fin k .e ⟨dd, .call ⟨.builtin .append, #[x, y], #[t, t]⟩, ty, pos, af, g⟩ sk acc L :=
 jv hg (fun _ => mD (b8 ok ht).1 (eI ok hz) hx hy (cO hu) (Nat.ble_eq .. ▸ hby)) fun q L' ⟨b', cs', h1, h2, h3, h4⟩ => by subst h1; subst h4; exact h b' cs' h2 h3
end
def zN (P : Program) (t : TypeId) (name : String) (f : FuncId) (ptr : Bool) (e : TypeId) : Bool := (match P.underlying t with | some (.pointer e') => Nat.beq e' e | _ => false) && match P.info? t with
 | some ti => match ti.methods.find? (·.name == name) with
  | some m => m.path.isEmpty && (match m.func with | some (f', p') => Nat.beq f' f && (p' == ptr) | none => false)
  | none => false
 | none => false
theorem fI {P : Program} {t : TypeId} {name : String} {f : FuncId} {ptr : Bool} {e : TypeId} (h : zN P t name f ptr e = true) : jL P t name f ptr e := by
 unfold zN at h
 rw [Bool.and_eq_true] at h
 obtain ⟨h1, h2⟩ := h
 split at h1
 ·rename_i e' hu
  rw [Nat.beq_eq] at h1
  subst h1
  split at h2
  ·rename_i ti hti
   split at h2
   ·rename_i m hm
    rw [Bool.and_eq_true] at h2
    obtain ⟨h3, h4⟩ := h2
    split at h4
    ·rename_i f' p' hf
     rw [Bool.and_eq_true, Nat.beq_eq, beq_iff_eq] at h4
     refine ⟨hu, ti, m, hti, hm, ?_, by rw [hf, h4.1, h4.2]⟩
     simpa using h3
    ·cases h4
   ·cases h2
  ·cases h2
 ·cases h1
end Go.Proofs.YtpmdfoaadejmkaaGreatDoor
namespace Go.Proofs.YtpmdfoaadejmkaaGreatDoor
open Go.RowKit Go.MapKept
section
variable {P : Program} {fr : bw} {B : Bs} {L : AL}
theorem AO.as {o : Oper} {a b : AV} (h : AO P o fr B L (fun c L' => c = a ∧ L' = L)) (hv : ∀ σ v, VR σ a v → VR σ b v) : AO P o fr B L (fun c L' => c = b ∧ L' = L) :=
 fun σ ρ w hρ hw => (h σ ρ w hρ hw).mono fun _ _ ⟨τ, c, L', h1, h2, h3, h4, h5⟩ => ⟨τ, b, L', h1, hv τ _ (by rw [← h4]; exact h2), h3, rfl, h5⟩
end
section
variable {P : Program} {tt : TT} {l : List Oper} {fr : bw} {fin : jo} {sk : lw} {acc : bw} {L : AL} {k : Nat} {dd : Option Tmp} {ty t t' : TypeId} {pos : String} {af : Array Edge} {g : Option (Nat × Bool)} {x y z : Operand} {u : AV}
theorem ui (i : Nat) (v0 : Value) (a : AV) {b kt et : Nat} {kd : TypeDesc} {q : Value} {m : Value → Option AV} (ht : P.underlying t = some (.map kt et)) (hkt : P.underlying kt = some kd) (hx : aW (cl l.toArray acc fr af.toList) x = some (.sc (.map (some b)))) (hy : aW (cl l.toArray acc fr af.toList) y = some (.sc q)) (hk : IsKey kd q) (hL : L[i]? = some (b, cg kd m)) (hz : iN P et v0 = true) (ha : ∀ σ v, VR σ ((m q).getD (.sc v0)) v → VR σ a v) (hg : iP ⟨dd, .lookup t x y false, ty, pos, af, g⟩ acc) (h : DA P l fr fin sk ((k, a) :: acc) L) :
  cE P l fr fin k .e ⟨dd, .lookup t x y false, ty, pos, af, g⟩ sk acc L :=
 jv hg (fun B => (iR i ht hkt hx hy hk hL (eo hz) fun _ => .sc _).as ha) fun c L' ⟨h1, h2⟩ => by subst h1; subst h2; exact h
theorem jX (ok : di P tt) (L0 : AL) {e sz by_ : Nat} {q : Option (Nat × Nat)} {l1 l2 : List (List AV)} (ht : iJ tt t = some (e, sz, by_)) (hx : aW (cl l.toArray acc fr af.toList) x = some (.vec q sz l1)) (hy : aW (cl l.toArray acc fr af.toList) y = some u) (hu : i6 u = some (sz, l2)) (hL : L.Perm (tok q e sz l1.length ++ L0)) (h63 : l1.length + l2.length ≤ 9223372036854775807) (hby : (l1.length + l2.length) * by_ ≤ 140737488355328) (hg : iP ⟨dd, .call ⟨.builtin .append, #[x, y], #[t, t]⟩, ty, pos, af, g⟩ acc)
  (h : ∀ k', DA P l fr fin sk ((k, .vec k' sz (l1 ++ l2)) :: acc) (tok k' e sz (l1 ++ l2).length ++ L0)) :
  cE P l fr fin k .e ⟨dd, .call ⟨.builtin .append, #[x, y], #[t, t]⟩, ty, pos, af, g⟩ sk acc L :=
 jv hg (fun _ => o4 L0 (b8 ok ht).1 (b8 ok ht).2 hx hy (cO hu) hL h63 hby) fun c L' ⟨k', h1, h2⟩ => by subst h1; subst h2; exact h k'
end
section
variable {P : Program} {r : Option Nat} {ops : Array Oper} {Q : Exit → Act → World → Prop} {nt : Nat} {D : List Deferred} {fr : bw} {B : Bs} {L : AL} {rest : List Oper} {d : Nat} {ty t : TypeId} {pos : String} {af : Array Edge} {x y z : Operand} {u : AV}
theorem gn (i : Nat) (v0 : Value) (a : AV) {b kt et : Nat} {kd : TypeDesc} {k : Value} {m : Value → Option AV} (ht : P.underlying t = some (.map kt et)) (hkt : P.underlying kt = some kd) (hx : aW fr x = some (.sc (.map (some b)))) (hy : aW fr y = some (.sc k)) (hk : IsKey kd k) (hL : L[i]? = some (b, cg kd m)) (hz : iN P et v0 = true) (ha : ∀ σ v, VR σ ((m k).getD (.sc v0)) v → VR σ a v) (hd : Nat.ble nt d = false)
  (h : bh P r ops Q nt D rest ((d, a) :: fr) B L) : bh P r ops Q nt D (⟨some d, .lookup t x y false, ty, pos, af, none⟩ :: rest) fr B L :=
 c8 hd rfl ((iR i ht hkt hx hy hk hL (eo hz) fun _ => .sc _).as ha) fun c L' ⟨h1, h2⟩ => by subst h1; subst h2; exact h
end
noncomputable def lh (m : Value → Option AV) (k : Value) (c : AV) : Value → Option AV := fun q => open Classical in if q = k then some c else m q
theorem gk {m : Value → Option AV} {k : Value} {c : AV} : lh m k c k = some c := by simp [lh]
theorem fJ {m : Value → Option AV} {k : Value} {c : AV} (q : Value) (h : q ≠ k) : lh m k c q = m q := by simp [lh, h]
def kN (m : Value → Option AV) (M : Int → Int) : Prop := ∀ z, m (.int .i64 z) = none ∧ M z = 0 ∨ m (.int .i64 z) = some (.sc (.int .i64 (M z)))
theorem kN.at {m : Value → Option AV} {M : Int → Int} (h : kN m M) (z : Int) : ∀ (σ : bJ) (v : Value), VR σ ((m (.int .i64 z)).getD (.sc (.int .i64 0))) v → VR σ (.sc (.int .i64 (M z))) v := by
 intro σ v hv
 rcases h z with ⟨h1, h2⟩ | h1
 ·rw [h1] at hv; rw [h2]; exact hv
 ·rw [h1] at hv; exact hv
theorem kN.put {m : Value → Option AV} {M : Int → Int} (h : kN m M) (z c : Int) : kN (lh m (.int .i64 z) (.sc (.int .i64 c))) fun q => if q = z then c else M q := by
 intro q
 by_cases e : q = z
 ·subst e; simp only [if_true, gk]; exact .inr trivial
 ·simp only [if_neg e]; rw [fJ _ (by intro h; injection h with _ h; exact e h)]; exact h q
def my (m : Value → Option AV) (K : Int → Option (Nat × Nat)) (U : Int → List Int) : Prop := ∀ z, (m (.int .i64 z) = none ∧ U z = [] ∧ K z = none) ∨ m (.int .i64 z) = some (.vec (K z) 1 (aR (U z)))
theorem my.at {m : Value → Option AV} {K : Int → Option (Nat × Nat)} {U : Int → List Int} (h : my m K U) (z : Int) : ∀ (σ : bJ) (v : Value), VR σ ((m (.int .i64 z)).getD (.sc (.slice none 0 0))) v → VR σ (.vec (K z) 1 (aR (U z))) v := by
 intro σ v hv
 rcases h z with ⟨h1, h2, h3⟩ | h1
 ·rw [h1] at hv; rw [h2, h3]; exact eG 1 hv
 ·rw [h1] at hv; exact hv
theorem my.put {m : Value → Option AV} {K : Int → Option (Nat × Nat)} {U : Int → List Int} (h : my m K U) (z : Int) (k : Option (Nat × Nat)) (l : List Int) : my (lh m (.int .i64 z) (.vec k 1 (aR l))) (fun q => if q = z then k else K q) fun q => if q = z then l else U q := by
 intro q
 by_cases e : q = z
 ·subst e; simp only [if_true, gk]; exact .inr trivial
 ·simp only [if_neg e]
  rw [fJ _ (by intro h; injection h with _ h; exact e h)]
  exact h q
def jK (e : TypeId) (K : Int → Option (Nat × Nat)) (U : Int → List Int) (zs : List Int) : AL := zs.flatMap fun z => tok (K z) e 1 (aR (U z)).length
theorem lq {e : TypeId} {K : Int → Option (Nat × Nat)} {U : Int → List Int} : ∀ {zs : List Int} {z : Int}, z ∈ zs → (jK e K U zs).Perm (tok (K z) e 1 (aR (U z)).length ++ jK e K U (zs.erase z))
 | y :: zs, z, h => by
  by_cases hz : y = z
  ·subst hz
   rw [List.erase_cons_head]
   exact Do _
  ·have hm : z ∈ zs := by
    rcases List.mem_cons.1 h with h | h
    ·exact absurd h.symm hz
    ·exact h
   rw [List.erase_cons_tail (by simpa using hz)]
   have ih := lq (e := e) (K := K) (U := U) hm
   unfold jK at ih ⊢
   rw [List.flatMap_cons, List.flatMap_cons]
   refine (List.Perm.append_left _ ih).trans ?_
   rw [← List.append_assoc, ← List.append_assoc]
   exact List.Perm.append_right _ List.perm_append_comm
theorem sL {e : TypeId} {K K' : Int → Option (Nat × Nat)} {U U' : Int → List Int} {zs : List Int} (h : ∀ z ∈ zs, K z = K' z ∧ U z = U' z) : jK e K U zs = jK e K' U' zs := by
 unfold jK
 induction zs with
 | nil => rfl
 | cons z zs ih =>
  rw [List.flatMap_cons, List.flatMap_cons, ih fun y hy => h y (Dt _ hy), (h z (List.mem_cons_self ..)).1, (h z (List.mem_cons_self ..)).2]
theorem xA {e : TypeId} {K : Int → Option (Nat × Nat)} {U : Int → List Int} {zs : List Int} {z : Int} {k : Option (Nat × Nat)} {l : List Int} (hn : zs.Nodup) (h : z ∈ zs) : (tok k e 1 (aR l).length ++ jK e K U (zs.erase z)).Perm (jK e (fun q => if q = z then k else K q) (fun q => if q = z then l else U q) zs) := by
 have h1 := lq (e := e) (K := fun q => if q = z then k else K q) (U := fun q => if q = z then l else U q) h
 simp only [if_true] at h1
 refine List.Perm.trans ?_ h1.symm
 rw [sL (K := K) (U := U) (K' := fun q => if q = z then k else K q) (U' := fun q => if q = z then l else U q) fun y hy => by
  have hne : y ≠ z := fun e => by subst e; exact (List.Nodup.not_mem_erase hn) hy
  simp only [if_neg hne]
  exact ⟨trivial, trivial⟩]
theorem vg (e : TypeId) (U : Int → List Int) (zs : List Int) : jK e (fun _ => none) U zs = [] := by
 unfold jK tok
 induction zs with
 | nil => rfl
 | cons z zs ih => rw [List.flatMap_cons, ih]; rfl
end Go.Proofs.YtpmdfoaadejmkaaGreatDoor
namespace Go.Proofs.YtpmdfoaadejmkaaGreatDoor
open Go.RowKit
section
variable {P : Program} {r : Option Nat} {ops : Array Oper} {Q : Exit → Act → World → Prop} {nt : Nat} {D : List Deferred} {fr : bw} {B : Bs} {L : AL} {cd : Code}
def mx (nt : Nat) (B : Bs) {α : Type} (Dx : α → List Deferred) (V : α → bw) (fr0 : bw) (C : α → Prop) (Lx : α → AL) (μ : α → Nat) (x : α) (Q : Exit → Act → World → Prop) : Exit → Act → World → Prop := Exit.then (fun a w => ∃ σ x', fX σ nt (Dx x') (V x' ++ fr0) a ∧ C x' ∧ cm B σ (Lx x') w ∧ μ x' < μ x) Q
theorem vN (ks : List Nat) {α : Type} (Dx : α → List Deferred) (V : α → bw) (C : α → Prop) (Lx : α → AL) (μ : α → Nat) (x0 : α) {fr0 : bw} (hk : fy fr ks = some fr0) (hV : jq (V x0) fr) (hD : D = Dx x0) (hC : C x0) (hL : ∀ σ w, cm B σ L w → cm B σ (Lx x0) w)
  (hb : ∀ x, C x → AT P r cd (mx nt B Dx V fr0 C Lx μ x Q) nt (Dx x) (V x ++ fr0) B (Lx x)) : AT P r (.loop cd) Q nt D fr B L := by
 intro σ a w ha hw
 subst hD
 classical
 let G : Nat → Act → World → Prop := fun m a w => ∃ σ x, fX σ nt (Dx x) (V x ++ fr0) a ∧ C x ∧ cm B σ (Lx x) w ∧ μ x = m
 let M : Act → World → Nat := fun a w => if h : ∃ m, G m a w ∧ ∀ m', G m' a w → m ≤ m' then h.choose else 0
 have least : ∀ a w, (∃ m, G m a w) → G (M a w) a w ∧ ∀ m', G m' a w → M a w ≤ m' := by
  rintro a w ⟨m0, hg0⟩
  have hex : ∃ m, G m a w ∧ ∀ m', G m' a w → m ≤ m' := by
   have : ∀ k, ∀ m, m ≤ k → G m a w → ∃ m, G m a w ∧ ∀ m', G m' a w → m ≤ m' := by
    intro k
    induction k with
    | zero => intro m hm hg; exact ⟨m, hg, fun m' _ => by omega⟩
    | succ k ih =>
     intro m hm hg
     by_cases h : ∃ m', m' < m ∧ G m' a w
     ·obtain ⟨m', hlt, hg'⟩ := h
      exact ih m' (by omega) hg'
     ·exact ⟨m, hg, fun m' hg' => by
       rcases Nat.lt_or_ge m' m with hlt | hge
       ·exact absurd ⟨m', hlt, hg'⟩ h
       ·exact hge⟩
   exact this m0 m0 (Nat.le_refl _) hg0
  have hM : M a w = hex.choose := dif_pos hex
  rw [hM]; exact hex.choose_spec
 refine wpIn_loop (fun a w => ∃ m, G m a w) M ⟨_, σ, x0, ha.weak (jO hV (d7 ks hk)), hC, hL σ w hw, rfl⟩ ?_
 intro a w hI
 obtain ⟨⟨σ', x, hx, hj, hst, hm⟩, _⟩ := least a w hI
 refine wpIn_mono (hb x hj σ' a w hx hst) ?_
 intro e a' w' hq
 cases e with
 | normal =>
  obtain ⟨τ, x', hx', hj', hst', hlt⟩ := hq
  have hg : G (μ x') a' w' := ⟨τ, x', hx', hj', hst', rfl⟩
  refine ⟨⟨_, hg⟩, ?_⟩
  have := (least a' w' ⟨_, hg⟩).2 (μ x') hg
  omega
 | _ => exact hq
theorem kS {α : Type} {Dx : α → List Deferred} {V : α → bw} {fr0 : bw} {C : α → Prop} {Lx : α → AL} {μ : α → Nat} {x : α} (x' : α) (hk : fy fr (fr0.map (·.1)) = some fr0) (hV : jq (V x') fr) (hD : D = Dx x') (hC : C x') (hm : μ x' < μ x) (hL : ∀ σ w, cm B σ L w → cm B σ (Lx x') w) :
  AX P .normal (mx nt B Dx V fr0 C Lx μ x Q) nt D fr B L := fun σ a w ha hw => by
 subst hD
 exact ⟨σ, x', ha.weak (jO hV (d7 _ hk)), hC, hL _ _ hw, hm⟩
theorem nL {α : Type} {Dx : α → List Deferred} {V : α → bw} {fr0 : bw} {C : α → Prop} {Lx : α → AL} {μ : α → Nat} {x : α} {id : Nat} (h : AX P (.exit id) Q nt D fr B L) : AX P (.exit id) (mx nt B Dx V fr0 C Lx μ x Q) nt D fr B L := fun σ a w ha hw => h σ a w ha hw
end
section
variable {nt : Nat} {D : List Deferred} {B : Bs} {fr : bw} {L : AL}
theorem oR {t b e sz n : Nat} {cs : List AV} {l : List (List AV)} (i : Nat) (hl : bE fr t = some (.iptr [.sc (.slice (some ⟨b, 0, none⟩) n n)])) (hL : L[i]? = some (b, .box cs e)) (hc : cs = l.flatten) (hs : ∀ q ∈ l, q.length = sz) (hn : l.length = n) (h63 : n ≤ 9223372036854775807) : jN nt D B fr L ((t, .iptr [.imm sz l]) :: fr) ((b, .vec e sz n n) :: L.eraseIdx i) := by
 intro σ a w ha hw0
 have hw := hw0.perm (eg hL)
 obtain ⟨o, ho, vs, rfl, hvs, h1⟩ := hw.here _ (List.mem_cons_self ..)
 have hfree := hw.free _ (List.mem_cons_self ..)
 have hvl : vs.length = n * sz := by rw [← hvs.1, hc, dH l hs, hn]
 have hst : cm B σ ((b, .vec e sz 0 n) :: L.eraseIdx i) w := by
  refine ⟨hw.os, hw.tape, hw.output, hw.size, hw.old, fun p hp => ?_, fun p hp => ?_, by simpa using hw.apart, hw.froz, fun p hp off hm => ?_, hw.grow, hw.same⟩
  ·rcases List.mem_cons.1 hp with rfl | hp'
   ·exact ⟨_, ho, _, rfl, by simp [hvl], Nat.zero_le _, by unfold maxLen; omega⟩
   ·exact hw.here p (Dt _ hp')
  ·rcases List.mem_cons.1 hp with rfl | hp'
   ·exact hw.mine (b, .box cs e) (List.mem_cons_self ..)
   ·exact hw.mine p (Dt _ hp')
  ·rcases List.mem_cons.1 hp with rfl | hp'
   ·exact hfree off trivial
   ·exact hw.free p (Dt _ hp') off hm
 obtain ⟨hst', hle⟩ := hst.freezeHead (n' := n) (xs := vs) (fun j u hj => by rw [cn ho]; simpa using hj) hvl (Nat.zero_le _) (Nat.le_refl _)
 refine ⟨_, ?_, hst'⟩
 have hv : VR (σ.add b vs) (.vec (some (b, n)) sz l) (.slice (some ⟨b, 0, none⟩) n n) := by
  have := iM (σ := σ.add b vs) (b := b) (cap := n) hs (by rw [← hc]; exact hvs.mono hle) h1 (by omega) (by unfold maxLen; omega) (fun j u hj => bJ.add_at hj)
  rwa [hn] at this
 have ha' := ha.mono hle
 refine ⟨ha'.size, ha'.defers, fun t' v' hl' => ?_⟩
 rw [bL] at hl'
 by_cases e : t = t'
 ·subst e
  simp only [if_true, Option.some.injEq] at hl'
  subst hl'
  have hp := ha.look t _ hl
  generalize a.tmps.getD t undef = v0 at hp
  generalize hq : AV.iptr [.sc (.slice (some ⟨b, 0, none⟩) n n)] = q at hp
  cases hp with
  | iptr cs2 b0 off hx h =>
   injection hq with hq
   subst hq
   refine .iptr _ b0 off (fun j hj => ?_) fun j c u hc hu => ?_
   ·obtain ⟨u, hu, h1⟩ := hx j hj
    exact ⟨u, hle _ _ _ hu, h1⟩
   ·have hj : j = 0 := by
     have := (Dp hc).1
     simp at this
     exact this
    subst hj
    simp at hc
    subst hc
    obtain ⟨u', hu', _⟩ := hx 0 (by simp)
    have h2 := hle _ _ _ hu'
    rw [hu] at h2
    injection h2 with h2
    subst h2
    rw [(h 0 _ u rfl hu').sc_inv]
    exact hv.im
  | _ => cases hq
 ·rw [if_neg e] at hl'
  exact ha'.look t' v' hl'
end
end Go.Proofs.YtpmdfoaadejmkaaGreatDoor
