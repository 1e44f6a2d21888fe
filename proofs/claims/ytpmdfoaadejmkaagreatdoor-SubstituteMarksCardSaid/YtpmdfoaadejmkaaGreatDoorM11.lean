/-
  The program: glyphs, as check looks at them, with anchors and deltas.
-/
import Derived.Test.YtpmdfoaadejmkaaGreatDoorM10
import Derived.Test.YtpmdfoaadejmkaaGreatDoorM07
namespace Go.Proofs.YtpmdfoaadejmkaaGreatDoor
open Go.RowKit
attribute [local irreducible] AT bh AX AO Av Kt b6 di DA cC
theorem xK : gF Tryz.prog 293 := ⟨⟨_, _, Tryz.underlying293, ⟨by decide, by decide⟩, ⟨rfl, rfl⟩, Tryz.underlying3, Tryz.underlying3⟩, Tryz.stoodInHeld293⟩
theorem Bm : gF Tryz.prog 296 := ⟨⟨_, _, Tryz.underlying296, ⟨by decide, by decide⟩, ⟨rfl, rfl⟩, Tryz.underlying3, Tryz.underlying3⟩, Tryz.stoodInHeld296⟩
def lb (l : List dy) (a b : Int) : Option AV := if ∃ x ∈ l, x.Kind = a ∧ x.Class = b then some (dx true) else none
theorem wV : lb [] = fun _ _ => none := by funext a b; simp [lb]
theorem uK (l : List dy) (a b : Int) : (lb l a b).getD (dx false) = dx (decide (∃ x ∈ l, x.Kind = a ∧ x.Class = b)) := by
 unfold lb
 by_cases h : ∃ x ∈ l, x.Kind = a ∧ x.Class = b
 ·rw [if_pos h, decide_eq_true h]; rfl
 ·rw [if_neg h, decide_eq_false h]; rfl
theorem uL {l : List dy} {i : Nat} {x : dy} (h : l[i]? = some x) : lb (l.take (i + 1)) x.Kind x.Class = some (dx true) := by
 unfold lb
 rw [if_pos ⟨x, by rw [List.take_add_one, h]; simp, rfl, rfl⟩]
theorem sm {l : List dy} {i : Nat} {x : dy} (h : l[i]? = some x) (p q : Int) (hne : ¬ (p = x.Kind ∧ q = x.Class)) : lb (l.take (i + 1)) p q = lb (l.take i) p q := by
 unfold lb
 have : (∃ y ∈ l.take (i + 1), y.Kind = p ∧ y.Class = q) ↔ ∃ y ∈ l.take i, y.Kind = p ∧ y.Class = q := by
  rw [List.take_add_one, h]
  simp only [Option.toList_some, List.mem_append, List.mem_singleton]
  constructor
  ·rintro ⟨y, hy | rfl, h1⟩
   ·exact ⟨y, hy, h1⟩
   ·exact absurd ⟨h1.1.symm, h1.2.symm⟩ hne
  ·rintro ⟨y, hy, h1⟩
   exact ⟨y, Or.inl hy, h1⟩
 by_cases hc : ∃ y ∈ l.take i, y.Kind = p ∧ y.Class = q
 ·rw [if_pos hc, if_pos (this.2 hc)]
 ·rw [if_neg hc, if_neg (fun h => hc (this.1 h))]
set_option maxHeartbeats 1000000 in
theorem ry (g : bb) (i : Nat) (a : dy) (ha : g.Anchors[i]? = some a) (m : Nat) : AC Tryz.prog 205 [aA i, .agg (dU a), .iptr [dx g.Mark], .iptr [.sc (.map (some m))]] [(m, fc (lb (g.Anchors.take i)))] fun c L' => c = aA (kN g i a) ∧ (kN g i a = 0 → L' = [(m, fc (lb (g.Anchors.take (i + 1))))]) := by
 refine aC Tryz.func205 rfl Tryz.ntmps205 rfl fun B => ?_
 repeat' (first|refine a9 ?_|refine a4 ?_|refine a6 ?_|refine a7 ?_|refine a8 a5 rfl rfl ?_|(apply aP; first|refine aa 7 a5 0 rfl rfl rfl rfl rfl rfl rfl rfl ?_|refine aa 7 a5 1 rfl rfl rfl rfl rfl rfl rfl rfl ?_|refine aa 7 a5 2 rfl rfl rfl rfl rfl rfl rfl rfl ?_|refine ad a5 0 rfl rfl rfl rfl rfl rfl rfl ?_|refine ad a5 1 rfl rfl rfl rfl rfl rfl rfl ?_|refine ad a5 2 rfl rfl rfl rfl rfl rfl rfl ?_|refine ad a5 3 rfl rfl rfl rfl rfl rfl rfl ?_|fail)|refine aZ ?_|refine b4 a5 fun _=>?_|fail)
 refine cA (t := 8) [2, 3, 5, 7] (a.Kind = 3 ∨ a.Kind = 4) rfl (fun Q' K => ?_) ?_
 ·repeat' (first|refine a7 ?_|refine a8 a5 rfl rfl ?_|refine am rfl rfl ?_|refine ax rfl rfl rfl rfl ?_|refine aI rfl rfl rfl (fun _ => ?_) (fun _ => ?_))
  all_goals exact K _ _ rfl rfl (by clear K; grind)
 repeat' (first|refine a9 ?_|refine a4 ?_|refine ak ?_|refine a6 ?_|refine a8 a5 rfl rfl ?_)
 refine cA (t := 22) [2, 3, 5, 7, 8] (a.Kind < 1 ∨ a.Kind > 4) rfl (fun Q' K => ?_) ?_
 ·repeat' (first|refine a7 ?_|refine a8 a5 rfl rfl ?_|refine am rfl rfl ?_|refine ax rfl rfl rfl rfl ?_|refine aI rfl rfl rfl (fun _ => ?_) (fun _ => ?_))
  all_goals exact K _ _ rfl rfl (by clear K; grind)
 repeat' (first|refine a6 ?_)
 refine ar rfl (fun h1 => ?_) (fun h1 => ?_)
 ·have h0 := h1
  replace h1 := Dz h1
  rw [h0]
  repeat' (first|refine a9 ?_|refine a4 ?_|refine ai ?_|refine ah ?_|refine a6 ?_|refine aq ?_|refine aJ ?_|refine a7 ?_|refine a8 a5 rfl rfl ?_|refine bv rfl ?_)
  refine an rfl rfl ?_
  rw [show kN g i a = 35 from if_pos (.inl h1)]
  exact ⟨rfl, fun e => absurd e (by decide)⟩
 have h0 := h1
 replace h1 := Dy h1
 rw [h0]
 clear h0
 repeat' (first|refine a9 ?_|refine a4 ?_|refine a8 a5 rfl rfl ?_)
 refine cA (t := 22) [2, 3, 5, 7, 8] (a.Class < 0 ∨ a.Class > 15) rfl (fun Q' K => ?_) ?_
 ·repeat' (first|refine a7 ?_|refine a8 a5 rfl rfl ?_|refine am rfl rfl ?_|refine ax rfl rfl rfl rfl ?_|refine aI rfl rfl rfl (fun _ => ?_) (fun _ => ?_))
  all_goals exact K _ _ rfl rfl (by clear K; grind)
 repeat' (first|refine a6 ?_)
 refine ar rfl (fun h2 => ?_) (fun h2 => ?_)
 ·have h0 := h2
  replace h2 := Dz h2
  rw [h0]
  repeat' (first|refine a9 ?_|refine a4 ?_|refine ai ?_|refine ah ?_|refine a6 ?_|refine aq ?_|refine aJ ?_|refine a7 ?_|refine a8 a5 rfl rfl ?_|refine bv rfl ?_)
  refine an rfl rfl ?_
  rw [show kN g i a = 35 from if_pos (.inr (.inl h2))]
  exact ⟨rfl, fun e => absurd e (by decide)⟩
 have h0 := h2
 replace h2 := Dy h2
 rw [h0]
 clear h0
 repeat' (first|refine a9 ?_|refine a4 ?_|refine a8 a5 rfl rfl ?_)
 refine cA (t := 22) [2, 3, 5, 7] ((a.Kind = 3 ∨ a.Kind = 4) ∧ a.Class ≠ 0) rfl (fun Q' K => ?_) ?_
 ·generalize hj : decide (a.Kind = 3 ∨ a.Kind = 4) = j
  have hj' : (a.Kind = 3 ∨ a.Kind = 4) ↔ j = true := by rw [← hj, decide_eq_true_eq]
  repeat' (first|refine a7 ?_|refine a8 a5 rfl rfl ?_|refine am rfl rfl ?_|refine ax rfl rfl rfl rfl ?_|refine aI rfl rfl rfl (fun _ => ?_) (fun _ => ?_))
  all_goals exact K _ _ (by first | rfl | (subst_vars; rfl)) rfl (by clear K; grind)
 repeat' (first|refine a6 ?_)
 refine ar rfl (fun h3 => ?_) (fun h3 => ?_)
 ·have h0 := h3
  replace h3 := Dz h3
  rw [h0]
  repeat' (first|refine a9 ?_|refine a4 ?_|refine ai ?_|refine ah ?_|refine a6 ?_|refine aq ?_|refine aJ ?_|refine a7 ?_|refine a8 a5 rfl rfl ?_|refine bv rfl ?_)
  refine an rfl rfl ?_
  rw [show kN g i a = 35 from if_pos (.inr (.inr (.inl h3)))]
  exact ⟨rfl, fun e => absurd e (by decide)⟩
 have h0 := h3
 replace h3 := Dy h3
 rw [h0]
 clear h0
 repeat' (first|refine a9 ?_|refine a4 ?_|refine a6 ?_|refine a7 ?_|refine a8 a5 rfl rfl ?_|refine ce a5 ?_|(apply bc;refine b7 ?_)|fail)
 refine ar rfl (fun h4 => ?_) (fun h4 => ?_)
 ·rw [h4]
  repeat' (first|refine a9 ?_|refine a4 ?_|refine ai ?_|refine ah ?_|refine a6 ?_|refine aq ?_|refine aJ ?_|refine a7 ?_|refine a8 a5 rfl rfl ?_|refine bv rfl ?_)
  refine an rfl rfl ?_
  rw [show kN g i a = 35 from if_pos (.inr (.inr (.inr (.inl (by rw [← Bool.not_eq_true', h4])))))]
  exact ⟨rfl, fun e => absurd e (by decide)⟩
 rw [h4]
 repeat' (first|refine a9 ?_|refine a4 ?_|refine a8 a5 rfl rfl ?_)
 refine cA (t := 22) [3, 7] (a.Kind = 2 ∧ g.Mark = false) rfl (fun Q' K => ?_) ?_
 ·repeat' (first|refine a7 ?_|refine a8 a5 rfl rfl ?_|refine am rfl rfl ?_|refine ax rfl rfl rfl rfl ?_|refine aI rfl rfl rfl (fun _ => ?_) (fun _ => ?_))
  all_goals exact K _ _ rfl rfl (by clear K; grind)
 repeat' (first|refine a6 ?_)
 refine ar rfl (fun h5 => ?_) (fun h5 => ?_)
 ·have h0 := h5
  replace h5 := Dz h5
  rw [h0]
  repeat' (first|refine a9 ?_|refine a4 ?_|refine ai ?_|refine ah ?_|refine a6 ?_|refine aq ?_|refine aJ ?_|refine a7 ?_|refine a8 a5 rfl rfl ?_|refine bv rfl ?_)
  refine an rfl rfl ?_
  rw [show kN g i a = 35 from if_pos (.inr (.inr (.inr (.inr (.inl h5)))))]
  exact ⟨rfl, fun e => absurd e (by decide)⟩
 have h0 := h5
 replace h5 := Dy h5
 rw [h0]
 clear h0
 repeat' (first|refine a4 ?_|refine a8 a5 rfl rfl ?_)
 refine sp 0 (.bool false) Tryz.underlying291 xK rfl rfl rfl (by kernel_rfl) rfl ?_
 rw [uK]
 repeat' (first|refine a6 ?_|refine a7 ?_|refine a8 a5 rfl rfl ?_)
 refine ar rfl (fun h6 => ?_) (fun h6 => ?_)
 ·rw [h6]
  repeat' (first|refine a9 ?_|refine a4 ?_|refine ah ?_|refine a6 ?_|refine aq ?_|refine aJ ?_|refine a7 ?_|refine a8 a5 rfl rfl ?_)
  refine an rfl rfl ?_
  rw [show kN g i a = 35 from if_pos (.inr (.inr (.inr (.inr (.inr (Dz h6))))))]
  exact ⟨rfl, fun e => absurd e (by decide)⟩
 rw [h6]
 repeat' (first|refine a9 ?_|refine a4 ?_|refine ai ?_|refine a6 ?_|refine aH ?_|refine a8 a5 rfl rfl ?_)
 refine pp 0 (lb (g.Anchors.take (i + 1))) Tryz.underlying291 xK rfl rfl rfl rfl (uL ha) (sm ha) ?_
 repeat' (first|refine a9 ?_|refine a4 ?_|refine ah ?_|refine a6 ?_|refine a7 ?_|refine a8 a5 rfl rfl ?_)
 refine an rfl rfl ?_
 have h4' : [a.X, a.Y].all eT = true := by simpa using h4
 have h6' := Dy h6
 rw [show kN g i a = 0 from if_neg (by
  rintro (h | h | h | h | h | h)
  ·exact h1 h
  ·exact h2 h
  ·exact h3 h
  ·rw [h4'] at h; cases h
  ·exact h5 h
  ·exact h6' h)]
 exact ⟨rfl, fun _ => rfl⟩
def nq (a b c d : Int) : Bool := decide (a < c ∨ (a = c ∧ b < d))
theorem rI (a b c d : Int) : bn Tryz.prog 209 [.agg [aA a, aA b], .agg [aA c, aA d]] (dx (nq a b c d)) := by
 refine aC Tryz.func209 rfl Tryz.ntmps209 rfl fun B => ?_
 repeat' (first|refine a9 ?_|refine a4 ?_|refine a6 ?_|refine a7 ?_|refine a8 a5 rfl rfl ?_|refine aZ ?_|fail)
 refine cA (t := 4) [] (nq a b c d = true) rfl (fun Q' K => ?_) ?_
 ·repeat' (first|refine a7 ?_|refine a8 a5 rfl rfl ?_|refine am rfl rfl ?_|refine ax rfl rfl rfl rfl ?_|refine cW rfl rfl rfl ?_|refine aI rfl rfl rfl (fun _ => ?_) (fun _ => ?_))
  all_goals exact K _ _ rfl rfl (by clear K; unfold nq; grind)
 repeat' (first|refine ah ?_|refine a6 ?_)
 refine an rfl rfl ?_
 simp
def dZ (l : List f3) (i : Nat) : Int × Int := match i with | 0 => (0, 0) | j + 1 => match l[j]? with | some b => (b.Region, b.Point) | none => (0, 0)
def mW (g : bb) (i : Nat) (d : f3) : Bool := decide (0 < i ∧ ((d.Region = (dZ g.Deltas i).1 ∧ d.Point = (dZ g.Deltas i).2) ∨ nq d.Region d.Point (dZ g.Deltas i).1 (dZ g.Deltas i).2 = true))
theorem yV {g : bb} {i : Nat} {d : f3} (hd : g.Deltas[i]? = some d) : (match i with | 0 => false | j + 1 => match g.Deltas[j]? with | some b => decide (d.Region < b.Region ∨ (d.Region = b.Region ∧ d.Point ≤ b.Point)) | none => false) = mW g i d := by
 unfold mW
 cases i with
 | zero => simp
 | succ j =>
  have hj : j < g.Deltas.length := by have := (Dp hd).1; omega
  obtain ⟨b, hb⟩ : ∃ b, g.Deltas[j]? = some b := ⟨_, Bn hj⟩
  simp only [hb, dZ, nq]
  rw [Bool.eq_iff_iff, decide_eq_true_eq, decide_eq_true_eq, decide_eq_true_eq]
  omega
theorem yn {f : aN} {g : bb} {i : Nat} {d : f3} (hd : g.Deltas[i]? = some d) : qv f g i d = if d.Region < 0 ∨ d.Region ≥ f.Regions.length then 61 else if (d.Point < -1 ∨ d.Point ≥ g.Points.length) ∨ [d.X, d.Y].all eT = false ∨ (d.Point = -1 ∧ d.Y ≠ 0) then 30 else if mW g i d = true then 24 else 0 := by
 unfold qv
 rw [← yV hd]
 cases i <;> rfl
set_option maxHeartbeats 1000000 in
theorem uq (f : aN) (g : bb) (i : Nat) (d : f3) (hd : g.Deltas[i]? = some d) (R N : Int) (hR : R = f.Regions.length) (hN : N = g.Points.length) (b : Nat) : AC Tryz.prog 208 [aA i, .agg (f5 d), .iptr [aA R], .iptr [aA N], .sc (.pointer (some ⟨b, 0, none⟩))] [(b, .box [aA (dZ g.Deltas i).1, aA (dZ g.Deltas i).2] 296)] fun c L' => c = aA (qv f g i d) ∧ (qv f g i d = 0 → L' = [(b, .box [aA (dZ g.Deltas (i + 1)).1, aA (dZ g.Deltas (i + 1)).2] 296)]) := by
 refine aC Tryz.func208 rfl Tryz.ntmps208 rfl fun B => ?_
 rw [yn hd, ← hR, ← hN]
 have hnext : dZ g.Deltas (i + 1) = (d.Region, d.Point) := by simp only [dZ, hd]
 rw [hnext]
 repeat' (first|refine a9 ?_|refine a4 ?_|refine ak ?_|refine a6 ?_|refine a7 ?_|refine a8 a5 rfl rfl ?_|(apply aP; first|refine aa 8 a5 0 rfl rfl rfl rfl rfl rfl rfl rfl ?_|refine aa 8 a5 1 rfl rfl rfl rfl rfl rfl rfl rfl ?_|refine aa 8 a5 2 rfl rfl rfl rfl rfl rfl rfl rfl ?_|refine ad a5 0 rfl rfl rfl rfl rfl rfl rfl ?_|refine ad a5 1 rfl rfl rfl rfl rfl rfl rfl ?_|refine ad a5 2 rfl rfl rfl rfl rfl rfl rfl ?_|refine ad a5 3 rfl rfl rfl rfl rfl rfl rfl ?_|fail)|refine aZ ?_|refine b4 a5 fun _=>?_|fail)
 refine bH [0, 3, 4, 6, 8] (d.Region < 0 ∨ d.Region ≥ R) rfl (fun Q' K => ?_) (fun h1 => ?_) (fun h1 => ?_)
 ·repeat' (first|refine a7 ?_|refine a8 a5 rfl rfl ?_|refine am rfl rfl ?_|refine ax rfl rfl rfl rfl ?_|refine aI rfl rfl rfl (fun _ => ?_) (fun _ => ?_))
  all_goals exact K _ _ rfl rfl (by clear K; grind)
 ·rw [if_pos h1]
  repeat' (first|refine a9 ?_|refine a4 ?_|refine ah ?_|refine a6 ?_|refine aq ?_|refine aJ ?_|refine a7 ?_|refine a8 a5 rfl rfl ?_)
  exact an rfl rfl ⟨rfl, fun e => absurd e (by decide)⟩
 rw [if_neg h1]
 repeat' (first|refine a9 ?_|refine a4 ?_|refine a8 a5 rfl rfl ?_)
 refine cA (t := 24) [0, 4, 6, 8] (d.Point < -1 ∨ d.Point ≥ N) rfl (fun Q' K => ?_) ?_
 ·repeat' (first|refine a7 ?_|refine a8 a5 rfl rfl ?_|refine am rfl rfl ?_|refine ax rfl rfl rfl rfl ?_|refine aI rfl rfl rfl (fun _ => ?_) (fun _ => ?_))
  all_goals exact K _ _ rfl rfl (by clear K; grind)
 repeat' (first|refine a6 ?_)
 refine ar rfl (fun h2 => ?_) (fun h2 => ?_)
 ·have h0 := h2
  replace h2 := Dz h2
  rw [h0]
  rw [if_pos (.inl h2)]
  repeat' (first|refine a9 ?_|refine a4 ?_|refine ai ?_|refine ah ?_|refine a6 ?_|refine aq ?_|refine aJ ?_|refine a7 ?_|refine a8 a5 rfl rfl ?_|refine bv rfl ?_)
  exact an rfl rfl ⟨rfl, fun e => absurd e (by decide)⟩
 have h0 := h2
 replace h2 := Dy h2
 rw [h0]
 clear h0
 repeat' (first|refine a9 ?_|refine a4 ?_|refine a6 ?_|refine a7 ?_|refine a8 a5 rfl rfl ?_|refine ce a5 ?_|(apply bc;refine b7 ?_)|fail)
 refine ar rfl (fun h3 => ?_) (fun h3 => ?_)
 ·rw [if_pos (.inr (.inl (by rw [← Bool.not_eq_true', h3]))), h3]
  repeat' (first|refine a9 ?_|refine a4 ?_|refine ai ?_|refine ah ?_|refine a6 ?_|refine aq ?_|refine aJ ?_|refine a7 ?_|refine a8 a5 rfl rfl ?_|refine bv rfl ?_)
  exact an rfl rfl ⟨rfl, fun e => absurd e (by decide)⟩
 rw [h3]
 repeat' (first|refine a4 ?_|refine a8 a5 rfl rfl ?_)
 refine cA (t := 24) [0, 4, 8] (d.Point = -1 ∧ d.Y ≠ 0) rfl (fun Q' K => ?_) ?_
 ·repeat' (first|refine a7 ?_|refine a8 a5 rfl rfl ?_|refine am rfl rfl ?_|refine ax rfl rfl rfl rfl ?_|refine aI rfl rfl rfl (fun _ => ?_) (fun _ => ?_))
  all_goals exact K _ _ rfl rfl (by clear K; grind)
 repeat' (first|refine a6 ?_)
 refine ar rfl (fun h4 => ?_) (fun h4 => ?_)
 ·have h0 := h4
  replace h4 := Dz h4
  rw [h0]
  rw [if_pos (.inr (.inr h4))]
  repeat' (first|refine a9 ?_|refine a4 ?_|refine ah ?_|refine a6 ?_|refine aq ?_|refine aJ ?_|refine a7 ?_|refine a8 a5 rfl rfl ?_)
  exact an rfl rfl ⟨rfl, fun e => absurd e (by decide)⟩
 have h0 := h4
 replace h4 := Dy h4
 rw [h0]
 clear h0
 have h3' : [d.X, d.Y].all eT = true := by simpa using h3
 rw [if_neg (by
  rintro (h | h | h)
  ·exact h2 h
  ·rw [h3'] at h; cases h
  ·exact h4 h)]
 repeat' (first|refine a9 ?_|refine a4 ?_|refine a8 a5 rfl rfl ?_)
 refine bH [4, 8] (mW g i d = true) rfl (fun Q' K => ?_) (fun h5 => ?_) (fun h5 => ?_)
 ·repeat' (first|refine a7 ?_|refine a8 a5 rfl rfl ?_|refine am rfl rfl ?_|refine ax rfl rfl rfl rfl ?_|refine cW rfl rfl rfl ?_|(apply bE; first|refine aj a5 0 rfl rfl rfl rfl rfl ?_|refine aj a5 1 rfl rfl rfl rfl rfl ?_|refine aj a5 2 rfl rfl rfl rfl rfl ?_|refine aj a5 3 rfl rfl rfl rfl rfl ?_|refine ay a5 0 rfl rfl rfl rfl rfl ?_|refine ay a5 1 rfl rfl rfl rfl rfl ?_|refine ay a5 2 rfl rfl rfl rfl rfl ?_|refine aj a5 1 rfl rfl rfl (by assumption) rfl ?_|refine aj a5 0 rfl rfl rfl (by assumption) rfl ?_|fail)|refine aI rfl rfl rfl (fun _ => ?_) (fun _ => ?_))
  all_goals first
   | exact K _ _ rfl rfl (by clear K; unfold mW; grind)
   | (refine B5 Bm Tryz.eqGuardType296 rfl rfl rfl ?_)
  repeat' (first|refine a7 ?_|refine a8 a5 rfl rfl ?_|refine am rfl rfl ?_|refine ax rfl rfl rfl rfl ?_|(apply bE; first|refine aj a5 0 rfl rfl rfl rfl rfl ?_|refine aj a5 1 rfl rfl rfl rfl rfl ?_|refine aj a5 2 rfl rfl rfl rfl rfl ?_|refine aj a5 3 rfl rfl rfl rfl rfl ?_|refine ay a5 0 rfl rfl rfl rfl rfl ?_|refine ay a5 1 rfl rfl rfl rfl rfl ?_|refine ay a5 2 rfl rfl rfl rfl rfl ?_|refine aj a5 1 rfl rfl rfl (by assumption) rfl ?_|refine aj a5 0 rfl rfl rfl (by assumption) rfl ?_|fail)|refine aI rfl rfl rfl (fun _ => ?_) (fun _ => ?_))
  all_goals first
   | exact K _ _ rfl rfl (by clear K; unfold mW; grind)
   | (refine b7 (hc := ⟨rI d.Region d.Point (dZ g.Deltas i).1 (dZ g.Deltas i).2⟩) ?_)
  repeat' (first|refine a7 ?_|refine a8 a5 rfl rfl ?_|refine am rfl rfl ?_)
  all_goals exact K _ _ rfl rfl (by clear K; unfold mW; grind)
 ·rw [if_pos h5]
  repeat' (first|refine a9 ?_|refine a4 ?_|refine ah ?_|refine a6 ?_|refine aq ?_|refine aJ ?_|refine a7 ?_|refine a8 a5 rfl rfl ?_)
  exact an rfl rfl ⟨rfl, fun e => absurd e (by decide)⟩
 rw [if_neg h5]
 repeat' (first|refine a9 ?_|refine a4 ?_|refine ai ?_|refine ah ?_|refine a6 ?_|refine aH ?_|refine a7 ?_|refine a8 a5 rfl rfl ?_|(apply aP; first|refine aa 8 a5 0 rfl rfl rfl rfl rfl rfl rfl rfl ?_|refine aa 8 a5 1 rfl rfl rfl rfl rfl rfl rfl rfl ?_|refine aa 8 a5 2 rfl rfl rfl rfl rfl rfl rfl rfl ?_|refine ad a5 0 rfl rfl rfl rfl rfl rfl rfl ?_|refine ad a5 1 rfl rfl rfl rfl rfl rfl rfl ?_|refine ad a5 2 rfl rfl rfl rfl rfl rfl rfl ?_|refine ad a5 3 rfl rfl rfl rfl rfl rfl rfl ?_|fail))
 refine an rfl rfl ⟨rfl, fun e => ?_⟩
 rfl
set_option maxHeartbeats 2000000 in
theorem uA (f : aN) (g : bb) (name : Int) : bn Tryz.prog 52 [cz f, .agg (c7 g), aA name] (aA (mS f g name)) := by
 refine aC Tryz.func52 rfl Tryz.ntmps52 rfl fun B => ?_
 repeat' (first|refine a9 ?_|refine a4 ?_|refine a6 ?_|refine a7 ?_|refine a8 a5 rfl rfl ?_|refine aZ ?_|fail)
 refine bk 30 [(0, .v), (1, .v), (2, .v), (3, .v), (4, .v), (5, .v), (6, .v), (7, .v), (8, .v), (9, .v), (12, .v), (13, .v), (14, .v), (15, .v), (16, .v), (17, .v), (18, .v), (19, .v), (20, .v), (23, .v), (10, .e), (11, .v), (21, .e), (22, .v), (24, .v), (25, .e), (26, .v), (27, .v), (28, .v), (29, .v)] none ?_ trivial rfl (by kernel_rfl) (by kernel_rfl) (by kernel_rfl) c9 (by kernel_rfl) rfl
 repeat' (first|refine aD ?_|refine bi a5 ?_|(apply cL;refine df ?_)|fail)
 refine iU [] [] (rz g.Mark) rfl rfl (Do _) trivial fun c L1 ⟨m, hc, hL⟩ => ?_
 subst hc; subst hL
 repeat' (first|refine aD ?_|(apply cL;refine df ?_)|fail)
 refine iU [] _ (ur (f.Regions.map dc).length (g.Points.map fz).length) rfl rfl (Do _) trivial fun c L1 ⟨b, hc, hL⟩ => ?_
 subst hc; subst hL
 repeat' (first|refine aD ?_|(apply cL;refine df ?_)|refine lF a5 ?_|fail)
 refine iU (L := [(b, .box [aA 0, aA 0] 296), (m, fc fun _ _ => none)]) _ [] (gk [⟨114, [.iptr [aA name]], [], name, 0⟩, ⟨115, [.iptr (c7 g)], [], gX g, 0⟩, ⟨201, [.iptr [.imm 3 (g.Parts.map eZ)], .iptr [aA 8], .iptr [.fn 118 [.iptr (bV f)]]], [], (c5 8 g.Parts (lQ f)).1, (c5 8 g.Parts (lQ f)).2⟩, ⟨203, [.iptr [.imm 4 (g.Anchors.map dU)], .iptr [aA 16], .iptr [.fn 205 [.iptr [dx g.Mark], .iptr [.sc (.map (some m))]]]], [(m, fc fun _ _ => none)], (c5 16 g.Anchors (kN g)).1, (c5 16 g.Anchors (kN g)).2⟩, ⟨206, [.iptr [.imm 4 (g.Deltas.map f5)], .iptr [aA 400], .iptr [.fn 208 [.iptr [aA (f.Regions.map dc).length], .iptr [aA (g.Points.map fz).length], .sc (.pointer (some ⟨b, 0, none⟩))]]], [(b, .box [aA 0, aA 0] 296)], (c5 400 g.Deltas (qv f g)).1, (c5 400 g.Deltas (qv f g)).2⟩, ⟨124, [.iptr (c7 g)], [], nh g.Hint, 0⟩] ?_) rfl rfl (List.Perm.swap ..) trivial fun c L1 hc => ?_
 ·refine ⟨⟨inferInstance, s3 name⟩, fun _ => ⟨⟨inferInstance, s4 g⟩, fun _ => ⟨⟨inferInstance, zm rfl g.Parts 8 _ (fun _ _ => True) [] trivial (fun _ => ct fun i x _ => s5 f i x)⟩, fun _ => ⟨⟨inferInstance, zn rfl g.Anchors 16 (eK g.Anchors (kN g)) (fun i L => L = [(m, fc (lb (g.Anchors.take i)))]) _ (by rw [List.take_zero, wV]) ?_⟩, fun _ => ⟨⟨inferInstance, zo rfl g.Deltas 400 (eK g.Deltas (qv f g)) (fun i L => L = [(b, .box [aA (dZ g.Deltas i).1, aA (dZ g.Deltas i).2] 296)]) _ rfl ?_⟩, fun _ => ⟨⟨inferInstance, s6 g⟩, fun _ => trivial⟩⟩⟩⟩⟩⟩
  ·intro _ i x L hx hL
   subst hL
   rw [fm hx]
   exact ry g i x hx m
  ·intro _ i x L hx hL
   subst hL
   rw [fm hx]
   exact uq f g i x hx _ _ (by rw [Du]) (by rw [Du]) b
 ·rw [gS] at hc
  subst hc
  unfold bL
  repeat' (first|refine aD ?_|refine bi a5 ?_|fail)
  refine bz [7, 37] rfl rfl ?_
  repeat' (first|refine a9 ?_|refine a4 ?_|refine ah ?_|refine a6 ?_|refine a7 ?_|refine a8 a5 rfl rfl ?_)
  exact an rfl rfl rfl
instance (f : aN) (g : bb) (name : Int) : AD Tryz.prog 52 [cz f, .agg (c7 g), aA name] (aA (mS f g name)) := ⟨uA f g name⟩
section
variable {P : Program} {l : List Oper} {fr : bw} {fin : jn} {sk : lm} {acc : bw} {L : AL} {k : Nat} {dd : Option Tmp} {ty t : TypeId} {pos : String} {af : Array Edge} {g : Option (Nat × Bool)} {x y : Operand}
theorem mK (i : Nat) (v0 : Value) {b kt et : Nat} {kd : TypeDesc} {q : Value} {m : Value → Option AV} (ht : P.underlying t = some (.map kt et)) (hkt : P.underlying kt = some kd) (hx : aX (cl l.toArray acc fr af.toList) x = some (.sc (.map (some b)))) (hy : aX (cl l.toArray acc fr af.toList) y = some (.sc q)) (hk : MapKept.IsKey kd q) (hL : L[i]? = some (b, cg kd m)) (hz : iO P et v0 = true) (hg : iQ ⟨dd, .lookup t x y false, ty, pos, af, g⟩ acc) (h : DA P l fr fin sk ((k, (m q).getD (.sc v0)) :: acc) L) :
  cC P l fr fin k .e ⟨dd, .lookup t x y false, ty, pos, af, g⟩ sk acc L :=
 ju hg (fun B => iS i ht hkt hx hy hk hL (ej hz) fun _ => .sc _) fun c L' ⟨h1, h2⟩ => by subst h1; subst h2; exact h
end
def t7 (f : aN) (c : hH) (late : Bool) : Int := if c.Rune < 0 ∨ c.Rune > 1114111 then 1 else if jd f c.Glyph = false then 32 else d6 late 24
theorem we (f : aN) (c : hH) (late : Bool) : bn Tryz.prog 59 [cz f, .agg (fb c), dx late] (aA (t7 f c late)) := by
 refine aC Tryz.func59 rfl Tryz.ntmps59 rfl fun B => ?_
 unfold t7
 repeat' (first|refine a9 ?_|refine a4 ?_|refine ak ?_|refine a6 ?_|refine a7 ?_|refine a8 a5 rfl rfl ?_|refine aZ ?_|fail)
 refine bH [2, 3, 4] (c.Rune < 0 ∨ c.Rune > 1114111) rfl (fun Q' K => ?_) (fun hC => ?_) (fun hC => ?_)
 ·repeat' (first|refine a7 ?_|refine a8 a5 rfl rfl ?_|refine am rfl rfl ?_|refine ax rfl rfl rfl rfl ?_|refine aI rfl rfl rfl (fun _ => ?_) (fun _ => ?_))
  all_goals exact K _ _ rfl rfl (by clear K; grind)
 ·rw [if_pos hC]
  repeat' (first|refine a9 ?_|refine a4 ?_|refine ah ?_|refine a6 ?_|refine aq ?_|refine aJ ?_|refine a7 ?_|refine a8 a5 rfl rfl ?_)
  exact an rfl rfl rfl
 rw [if_neg hC]
 repeat' (first|refine a9 ?_|refine a4 ?_|refine a6 ?_|refine a7 ?_|refine a8 a5 rfl rfl ?_|(apply bc;refine b7 ?_)|fail)
 refine ar rfl (fun h => ?_) (fun h => ?_)
 ·rw [if_pos (by simpa using h)]
  repeat' (first|refine a9 ?_|refine a4 ?_|refine ah ?_|refine a6 ?_|refine aq ?_|refine aJ ?_|refine a7 ?_|refine a8 a5 rfl rfl ?_)
  exact an rfl rfl rfl
 rw [if_neg (by simpa using h)]
 repeat' (first|refine a9 ?_|refine a4 ?_|refine ai ?_|refine ah ?_|refine a6 ?_|refine aH ?_|refine a7 ?_|refine a8 a5 rfl rfl ?_|(apply bc;refine b7 ?_)|fail)
 exact an rfl rfl rfl
instance (f : aN) (c : hH) (late : Bool) : AD Tryz.prog 59 [cz f, .agg (fb c), dx late] (aA (t7 f c late)) := ⟨we f c late⟩
def wN (f : aN) (i : Nat) (c : hH) : Bool := match i with | 0 => false | j + 1 => match f.Chars[j]? with | some b => decide (c.Rune ≤ b.Rune) | none => false
def iT (f : aN) (i : Nat) (c : hH) : Int := t7 f c (wN f i c)
theorem ug (f : aN) (i : Nat) (c : hH) (hc : f.Chars[i]? = some c) (hm : (f.Chars.length : Int) ≤ 1000) : bn Tryz.prog 58 [aA i, .agg (fb c), .iptr (bV f)] (aA (iT f i c)) := by
 refine aC Tryz.func58 rfl Tryz.ntmps58 rfl fun B => ?_
 have hil := (Dp hc).1
 unfold iT
 cases i with
 | zero =>
  repeat' (first|refine a9 ?_|refine a4 ?_|refine a6 ?_|refine a7 ?_|refine a8 a5 rfl rfl ?_|refine aZ ?_|fail)
  refine bk 17 [(0, .v), (1, .v), (2, .v), (3, .v), (4, .v), (5, .v), (6, .v), (7, .v), (8, .v), (9, .v), (10, .v), (11, .v), (12, .v), (13, .v), (14, .v), (15, .v), (16, .v)] none ?_ trivial rfl (by kernel_rfl) (by kernel_rfl) (by kernel_rfl) c9 (by kernel_rfl) rfl
  repeat' (first|refine aD ?_|refine bi a5 ?_|(apply cL;refine df ?_)|refine td rfl rfl ?_)
  refine bz [22] rfl rfl ?_
  repeat' (first|refine ah ?_|refine a6 ?_|refine a7 ?_|refine a8 a5 rfl rfl ?_)
  exact an rfl rfl rfl
 | succ j =>
  obtain ⟨b, hb⟩ : ∃ b, f.Chars[j]? = some b := ⟨_, Bn (by omega)⟩
  have hbg : (f.Chars.map fb)[(((j + 1 : Nat) : Int) - 1).toNat]? = some (fb b) := by rw [show (((j + 1 : Nat) : Int) - 1).toNat = j by omega]; exact bW hb
  have hl : wN f (j + 1) c = decide (c.Rune ≤ b.Rune) := by simp [wN, hb]
  have hpos : decide (0 < ((j + 1 : Nat) : Int)) = true := decide_eq_true (by omega)
  rw [hl]
  repeat' (first|refine a9 ?_|refine a4 ?_|refine a6 ?_|refine a7 ?_|refine a8 a5 rfl rfl ?_|refine aZ ?_|fail)
  refine bk 17 [(0, .v), (1, .v), (2, .v), (3, .v), (4, .v), (5, .v), (6, .v), (7, .v), (8, .v), (9, .v), (10, .v), (11, .v), (12, .v), (13, .v), (14, .v), (15, .v), (16, .v)] none ?_ trivial rfl (by kernel_rfl) (by kernel_rfl) (by kernel_rfl) c9 (by kernel_rfl) rfl
  repeat' (first|refine aD ?_|refine bi a5 ?_|fail)
  rw [hpos]
  repeat' (first|refine aD ?_|refine bi a5 ?_|(apply ir;refine lE ?_)|(apply cD;refine d3 a5 ?_)|(apply cL;refine df ?_)|fail)
  refine bz [22] rfl rfl ?_
  repeat' (first|refine ah ?_|refine a6 ?_|refine a7 ?_|refine a8 a5 rfl rfl ?_)
  exact an rfl rfl rfl
def t5 (a : ea) (name : Int) : Int := if name ≠ 0 then name else d6 (!(decide ([a.Min, a.Def, a.Max].all eT = true ∧ a.Min ≤ a.Def ∧ a.Def ≤ a.Max))) 60
theorem vY (a : ea) (name : Int) : bn Tryz.prog 69 [.agg (ep a), aA name] (aA (t5 a name)) := by
 refine aC Tryz.func69 rfl Tryz.ntmps69 rfl fun B => ?_
 unfold t5
 repeat' (first|refine a9 ?_|refine a4 ?_|refine a6 ?_|refine a7 ?_|refine a8 a5 rfl rfl ?_|refine aZ ?_|fail)
 refine ar rfl (fun h => ?_) (fun h => ?_)
 ·rw [if_pos (Dz h)]
  repeat' (first|refine a9 ?_|refine a4 ?_|refine ah ?_|refine a6 ?_|refine aq ?_|refine a7 ?_|refine a8 a5 rfl rfl ?_)
  exact an rfl rfl rfl
 rw [if_neg (Dy h)]
 repeat' (first|refine a9 ?_|refine a4 ?_|refine ai ?_|refine a6 ?_|refine a8 a5 rfl rfl ?_|refine ce a5 ?_|(apply bc;refine b7 ?_)|fail)
 refine cA (t := 5) [] ([a.Min, a.Def, a.Max].all eT = true ∧ a.Min ≤ a.Def ∧ a.Def ≤ a.Max) rfl (fun Q' K => ?_) ?_
 ·repeat' (first|refine a7 ?_|refine a8 a5 rfl rfl ?_|refine am rfl rfl ?_|refine ax rfl rfl rfl rfl ?_|refine aI rfl rfl rfl (fun _ => ?_) (fun _ => ?_))
  all_goals exact K _ _ rfl rfl (by clear K; grind)
 repeat' (first|refine a9 ?_|refine a4 ?_|refine ah ?_|refine a6 ?_|refine a7 ?_|refine a8 a5 rfl rfl ?_|(apply bc;refine b7 ?_)|fail)
 exact an rfl rfl rfl
instance (a : ea) (name : Int) : AD Tryz.prog 69 [.agg (ep a), aA name] (aA (t5 a name)) := ⟨vY a name⟩
def rh (_ : Nat) (t : fv) : Int := d6 (decide (¬ (-64 ≤ t.Start ∧ t.Start ≤ t.Peak ∧ t.Peak ≤ t.End ∧ t.End ≤ 64) ∨ (t.Start < 0 ∧ t.End > 0 ∧ t.Peak ≠ 0))) 61
set_option maxHeartbeats 1000000 in
theorem xH (i : Nat) (t : fv) : bn Tryz.prog 150 [aA i, .agg (qj t)] (aA (rh i t)) := by
 refine aC Tryz.func150 rfl Tryz.ntmps150 rfl fun B => ?_
 repeat' (first|refine a9 ?_|refine a4 ?_|refine a6 ?_|refine a7 ?_|refine a8 a5 rfl rfl ?_|refine aZ ?_|fail)
 refine cA (t := 5) [3] (-64 ≤ t.Start ∧ t.Start ≤ t.Peak ∧ t.Peak ≤ t.End ∧ t.End ≤ 64) rfl (fun Q' K => ?_) ?_
 ·repeat' (first|refine a7 ?_|refine a8 a5 rfl rfl ?_|refine am rfl rfl ?_|refine ax rfl rfl rfl rfl ?_|refine aI rfl rfl rfl (fun _ => ?_) (fun _ => ?_))
  all_goals exact K _ _ rfl rfl (by clear K; grind)
 repeat' (first|refine a9 ?_|refine a4 ?_|refine a6 ?_|refine a8 a5 rfl rfl ?_)
 refine cA (t := 6) [5] (t.Start < 0 ∧ t.End > 0 ∧ t.Peak ≠ 0) rfl (fun Q' K => ?_) ?_
 ·repeat' (first|refine a7 ?_|refine a8 a5 rfl rfl ?_|refine am rfl rfl ?_|refine ax rfl rfl rfl rfl ?_|refine aI rfl rfl rfl (fun _ => ?_) (fun _ => ?_))
  all_goals exact K _ _ rfl rfl (by clear K; grind)
 have ht : rh i t = d6 (!(decide (-64 ≤ t.Start ∧ t.Start ≤ t.Peak ∧ t.Peak ≤ t.End ∧ t.End ≤ 64)) || decide (t.Start < 0 ∧ t.End > 0 ∧ t.Peak ≠ 0)) 61 := by unfold rh; rw [Bool.decide_or, decide_not]
 rw [ht]
 generalize decide (-64 ≤ t.Start ∧ t.Start ≤ t.Peak ∧ t.Peak ≤ t.End ∧ t.End ≤ 64) = p
 generalize decide (t.Start < 0 ∧ t.End > 0 ∧ t.Peak ≠ 0) = q
 cases p <;> cases q
 all_goals
  repeat' (first|refine a9 ?_|refine a4 ?_|refine ah ?_|refine a6 ?_|refine a7 ?_|refine a8 a5 rfl rfl ?_|refine am rfl rfl ?_|refine ax rfl rfl rfl rfl ?_|(apply bc;refine b7 ?_)|fail)
  exact an rfl rfl rfl
def xi (axes : Int) (r : List fv) : Int := if (r.length : Int) ≠ axes then 61 else (co r rh).1
theorem sy (r : List fv) (axes : Int) : bn Tryz.prog 72 [.agg (dc r), aA axes] (aA (xi axes r)) := by
 refine aC Tryz.func72 rfl Tryz.ntmps72 rfl fun B => ?_
 unfold xi
 repeat' (first|refine a9 ?_|refine a4 ?_|refine a6 ?_|refine a7 ?_|refine a8 a5 rfl rfl ?_|refine aZ ?_|fail)
 rw [Du]
 refine ar rfl (fun h => ?_) (fun h => ?_)
 ·rw [if_pos (Dz h)]
  repeat' (first|refine a9 ?_|refine a4 ?_|refine ah ?_|refine a6 ?_|refine aq ?_|refine a7 ?_|refine a8 a5 rfl rfl ?_)
  exact an rfl rfl rfl
 rw [if_neg (Dy h)]
 repeat' (first|refine a9 ?_|refine a4 ?_|refine ai ?_|refine a6 ?_|refine a8 a5 rfl rfl ?_)
 refine aO [] [] (yA (u := .sc (.func (.func 150) #[] #[])) (g := 150) (caps := []) rfl r _ (fun _ _ => True) [] trivial (ct (fun i x _ => xH i x))) rfl rfl (Do _) rfl fun c L1 hc => ?_
 have hc : c = bL (co r rh) := hc
 subst hc
 unfold bL
 repeat' (first|refine a9 ?_|refine a4 ?_|refine ah ?_|refine a6 ?_|refine a7 ?_|refine a8 a5 rfl rfl ?_)
 exact an rfl rfl rfl
instance (r : List fv) (axes : Int) : AD Tryz.prog 72 [.agg (dc r), aA axes] (aA (xi axes r)) := ⟨sy r axes⟩
theorem qZ (f : aN) (i : Nat) (r : List fv) : bn Tryz.prog 71 [aA i, .agg (dc r), .iptr (bV f)] (aA (xi f.Axes.length r)) := by
 refine aC Tryz.func71 rfl Tryz.ntmps71 rfl fun B => ?_
 repeat' (first|refine a9 ?_|refine a4 ?_|refine ah ?_|refine a6 ?_|refine a7 ?_|refine a8 a5 rfl rfl ?_|refine aZ ?_|(apply bc;refine b7 ?_)|fail)
 rw [Du]
 repeat' (first|fail)
 exact an rfl rfl rfl
theorem uh (i : Nat) (l : List gC) : bn Tryz.prog 74 [aA i, .imm 2 (l.map ip)] (aA (nh l)) := by
 refine aC Tryz.func74 rfl Tryz.ntmps74 rfl fun B => ?_
 repeat' (first|refine a9 ?_|refine a4 ?_|refine ah ?_|refine a6 ?_|refine a7 ?_|refine a8 a5 rfl rfl ?_|(apply bc;refine b7 ?_)|fail)
 exact an rfl rfl rfl
def wj (_ : Nat) (n : Int) : Int := d6 (!([n].all eT)) 1
theorem wi (i : Nat) (n : Int) : bn Tryz.prog 77 [aA i, aA n] (aA (wj i n)) := by
 refine aC Tryz.func77 rfl Tryz.ntmps77 rfl fun B => ?_
 repeat' (first|refine a9 ?_|refine a4 ?_|refine ah ?_|refine a6 ?_|refine a7 ?_|refine a8 a5 rfl rfl ?_|refine ce a5 ?_|(apply bc;refine b7 ?_)|fail)
 exact an rfl rfl rfl
def om (f : aN) : Int := if f.Unit < 16 ∨ f.Unit > 4096 then 1 else if f.Glyphs.length = 0 then 32 else 0
theorem wH (f : aN) : bn Tryz.prog 49 [cz f] (aA (om f)) := by
 refine aC Tryz.func49 rfl Tryz.ntmps49 rfl fun B => ?_
 unfold om
 repeat' (first|refine a9 ?_|refine a4 ?_|refine ak ?_|refine a6 ?_|refine a7 ?_|refine a8 a5 rfl rfl ?_|refine aZ ?_|fail)
 refine bH [1] (f.Unit < 16 ∨ f.Unit > 4096) rfl (fun Q' K => ?_) (fun hC => ?_) (fun hC => ?_)
 ·repeat' (first|refine a7 ?_|refine a8 a5 rfl rfl ?_|refine am rfl rfl ?_|refine ax rfl rfl rfl rfl ?_|refine aI rfl rfl rfl (fun _ => ?_) (fun _ => ?_))
  all_goals exact K _ _ rfl rfl (by clear K; grind)
 ·rw [if_pos hC]
  repeat' (first|refine a9 ?_|refine a4 ?_|refine ah ?_|refine a6 ?_|refine aq ?_|refine aJ ?_|refine a7 ?_|refine a8 a5 rfl rfl ?_)
  exact an rfl rfl rfl
 rw [if_neg hC]
 repeat' (first|refine a9 ?_|refine a4 ?_|refine a6 ?_|refine a7 ?_|refine a8 a5 rfl rfl ?_)
 rw [Du]
 refine ar rfl (fun h => ?_) (fun h => ?_)
 ·rw [if_pos (by have := Dz h; omega)]
  repeat' (first|refine a9 ?_|refine a4 ?_|refine ah ?_|refine a6 ?_|refine aq ?_|refine aJ ?_|refine a7 ?_|refine a8 a5 rfl rfl ?_)
  exact an rfl rfl rfl
 rw [if_neg (by have := Dy h; omega)]
 repeat' (first|refine a9 ?_|refine a4 ?_|refine ai ?_|refine ah ?_|refine a6 ?_|refine aH ?_|refine a7 ?_|refine a8 a5 rfl rfl ?_)
 exact an rfl rfl rfl
instance (f : aN) : AD Tryz.prog 49 [cz f] (aA (om f)) := ⟨wH f⟩
theorem uC (f : aN) : bn Tryz.prog 48 [.iptr (bV f)] (bL (om f, 0)) := by
 refine aC Tryz.func48 rfl Tryz.ntmps48 rfl fun B => ?_
 repeat' (first|refine a9 ?_|refine a4 ?_|refine ah ?_|refine a6 ?_|refine a7 ?_|refine a8 a5 rfl rfl ?_|(apply bc;refine b7 ?_)|fail)
 exact aK rfl rfl rfl rfl
end Go.Proofs.YtpmdfoaadejmkaaGreatDoor
namespace Go.Proofs.YtpmdfoaadejmkaaGreatDoor
open Go.RowKit
section
variable {P : Program} {tt : TT} {l : List Oper} {fr : bw} {fin : jn} {sk : lm} {acc : bw} {L : AL} {k : Nat} {dd : Option Tmp} {ty t t' : TypeId} {pos : String} {af : Array Edge} {g : Option (Nat × Bool)} {x y : Operand} {u : AV}
theorem cK (ok : dl P tt) {e sz by_ b off n cap : Nat} {q : IntKind} {i : Int} (ht : iJ tt t = some (e, sz, by_)) (hx : aX (cl l.toArray acc fr af.toList) x = some (.sc (.slice (some ⟨b, off, none⟩) n cap))) (hy : aX (cl l.toArray acc fr af.toList) y = some (.sc (.int q i))) (h0 : 0 ≤ i ∧ i < n) (hg : iQ ⟨dd, .indexAddr t x y, ty, pos, af, g⟩ acc) (h : DA P l fr fin sk ((k, .sc (.pointer (some ⟨b, off + i.toNat * sz, none⟩))) :: acc) L) :
  cC P l fr fin k .v ⟨dd, .indexAddr t x y, ty, pos, af, g⟩ sk acc L := eR hg (fun _ _ => (pY (b9 ok ht).1 hx hy h0).ao) h
theorem wl (ok : dl P tt) (i : Nat) {b q n : Nat} {cs ys : List AV} {e : TypeId} (ht : Bo tt t = some n) (hx : aX (cl l.toArray acc fr af.toList) x = some (.sc (.pointer (some ⟨b, q, none⟩)))) (hy : aX (cl l.toArray acc fr af.toList) y = some u) (hu : u.cells = some ys) (hL : L[i]? = some (b, .box cs e)) (hn : Nat.beq ys.length n = true) (hk : Nat.ble (q + n) cs.length = true) (hg : iQ ⟨dd, .store t x y, ty, pos, af, g⟩ acc) (h : ∀ c, DA P l fr fin sk ((k, c) :: acc) (eQ L i (.box (eI cs q ys) e))) :
  cC P l fr fin k .e ⟨dd, .store t x y, ty, pos, af, g⟩ sk acc L := ju hg (fun _ => jN i (kx ok ht) hx hy hu hL hn hk) fun c L' h1 => by subst h1; exact h c
theorem qu {v : Value} (ht : fK P t = true) (hx : aX (cl l.toArray acc fr af.toList) x = some (.sc (.iface t v))) (hg : iQ ⟨dd, .typeAssert x t' t false, ty, pos, af, g⟩ acc) (h : DA P l fr fin sk ((k, .sc v) :: acc) L) : cC P l fr fin k .v ⟨dd, .typeAssert x t' t false, ty, pos, af, g⟩ sk acc L :=
 eR hg (fun _ _ => (pX ht hx).ao) h
theorem uk (ok : dl P tt) (i : Nat) {e by_ b n cap : Nat} {cs : List AV} {c : AV} (ht : iJ tt t = some (e, 1, by_)) (hz : zI tt e = some [.int .i64 0]) (hx : aX (cl l.toArray acc fr af.toList) x = some (.sc (.slice (some ⟨b, 0, none⟩) n cap))) (hy : aX (cl l.toArray acc fr af.toList) y = some u) (hu : i6 u = some (1, [[c]])) (hL : L[i]? = some (b, .box cs e)) (hcl : cs.length = cap) (hn : n ≤ cap) (h63 : n + 1 ≤ 9223372036854775807) (hby : (n + 1) * by_ ≤ 140737488355328) (hg : iQ ⟨dd, .call ⟨.builtin .append, #[x, y], #[t, t]⟩, ty, pos, af, g⟩ acc)
  (h : ∀ b' cs', cs'.take (n + 1) = cs.take n ++ [c] → n + 1 ≤ cs'.length → DA P l fr fin sk ((k, .sc (.slice (some ⟨b', 0, none⟩) (n + 1) cs'.length)) :: acc) ((b', .box cs' e) :: L.eraseIdx i)) :
  cC P l fr fin k .e ⟨dd, .call ⟨.builtin .append, #[x, y], #[t, t]⟩, ty, pos, af, g⟩ sk acc L :=
 ju hg (fun _ => mw i (b9 ok ht).1 (eH ok hz) hx hy (cP hu) hL hcl hn h63 hby) fun q L' ⟨b', cs', h1, h2, h3, h4⟩ => by subst h1; subst h4; exact h b' cs' h2 h3
theorem ul (ok : dl P tt) {e by_ : Nat} {c : AV} (ht : iJ tt t = some (e, 1, by_)) (hz : zI tt e = some [.int .i64 0]) (hx : aX (cl l.toArray acc fr af.toList) x = some (.sc (.slice none 0 0))) (hy : aX (cl l.toArray acc fr af.toList) y = some u) (hu : i6 u = some (1, [[c]])) (hby : Nat.ble by_ 140737488355328 = true) (hg : iQ ⟨dd, .call ⟨.builtin .append, #[x, y], #[t, t]⟩, ty, pos, af, g⟩ acc)
  (h : ∀ b' cs', cs'.take 1 = [c] → 1 ≤ cs'.length → DA P l fr fin sk ((k, .sc (.slice (some ⟨b', 0, none⟩) 1 cs'.length)) :: acc) ((b', .box cs' e) :: L)) :
  cC P l fr fin k .e ⟨dd, .call ⟨.builtin .append, #[x, y], #[t, t]⟩, ty, pos, af, g⟩ sk acc L :=
 ju hg (fun _ => mx (b9 ok ht).1 (eH ok hz) hx hy (cP hu) (Nat.ble_eq .. ▸ hby)) fun q L' ⟨b', cs', h1, h2, h3, h4⟩ => by subst h1; subst h4; exact h b' cs' h2 h3
end
def zU (P : Program) (t : TypeId) (name : String) (f : FuncId) (ptr : Bool) (e : TypeId) : Bool := (match P.underlying t with | some (.pointer e') => Nat.beq e' e | _ => false) && match P.info? t with
 | some ti => match ti.methods.find? (·.name == name) with
  | some m => m.path.isEmpty && (match m.func with | some (f', p') => Nat.beq f' f && (p' == ptr) | none => false)
  | none => false
 | none => false
theorem fH {P : Program} {t : TypeId} {name : String} {f : FuncId} {ptr : Bool} {e : TypeId} (h : zU P t name f ptr e = true) : jJ P t name f ptr e := by
 unfold zU at h
 rw [Bool.and_eq_true] at h
 obtain ⟨h1, h2⟩ := h
 split at h1
 ·rename_i e' hu
  rw [Nat.beq_eq] at h1
  subst h1
  split at h2
  ·rename_i ti hti
   split at h2
   ·rename_i m hm
    rw [Bool.and_eq_true] at h2
    obtain ⟨h3, h4⟩ := h2
    split at h4
    ·rename_i f' p' hf
     rw [Bool.and_eq_true, Nat.beq_eq, beq_iff_eq] at h4
     refine ⟨hu, ti, m, hti, hm, ?_, by rw [hf, h4.1, h4.2]⟩
     simpa using h3
    ·cases h4
   ·cases h2
  ·cases h2
 ·cases h1
end Go.Proofs.YtpmdfoaadejmkaaGreatDoor
namespace Go.Proofs.YtpmdfoaadejmkaaGreatDoor
open Go.RowKit Go.MapKept
section
variable {P : Program} {fr : bw} {B : Bs} {L : AL}
theorem AO.as {o : Oper} {a b : AV} (h : AO P o fr B L (fun c L' => c = a ∧ L' = L)) (hv : ∀ σ v, VR σ a v → VR σ b v) : AO P o fr B L (fun c L' => c = b ∧ L' = L) :=
 fun σ ρ w hρ hw => (h σ ρ w hρ hw).mono fun _ _ ⟨τ, c, L', h1, h2, h3, h4, h5⟩ => ⟨τ, b, L', h1, hv τ _ (by rw [← h4]; exact h2), h3, rfl, h5⟩
end
section
variable {P : Program} {tt : TT} {l : List Oper} {fr : bw} {fin : jn} {sk : lm} {acc : bw} {L : AL} {k : Nat} {dd : Option Tmp} {ty t t' : TypeId} {pos : String} {af : Array Edge} {g : Option (Nat × Bool)} {x y z : Operand} {u : AV}
theorem um (i : Nat) (v0 : Value) (a : AV) {b kt et : Nat} {kd : TypeDesc} {q : Value} {m : Value → Option AV} (ht : P.underlying t = some (.map kt et)) (hkt : P.underlying kt = some kd) (hx : aX (cl l.toArray acc fr af.toList) x = some (.sc (.map (some b)))) (hy : aX (cl l.toArray acc fr af.toList) y = some (.sc q)) (hk : IsKey kd q) (hL : L[i]? = some (b, cg kd m)) (hz : iO P et v0 = true) (ha : ∀ σ v, VR σ ((m q).getD (.sc v0)) v → VR σ a v) (hg : iQ ⟨dd, .lookup t x y false, ty, pos, af, g⟩ acc) (h : DA P l fr fin sk ((k, a) :: acc) L) :
  cC P l fr fin k .e ⟨dd, .lookup t x y false, ty, pos, af, g⟩ sk acc L :=
 ju hg (fun B => (iS i ht hkt hx hy hk hL (ej hz) fun _ => .sc _).as ha) fun c L' ⟨h1, h2⟩ => by subst h1; subst h2; exact h
theorem jV (ok : dl P tt) (L0 : AL) {e sz by_ : Nat} {q : Option (Nat × Nat)} {l1 l2 : List (List AV)} (ht : iJ tt t = some (e, sz, by_)) (hx : aX (cl l.toArray acc fr af.toList) x = some (.vec q sz l1)) (hy : aX (cl l.toArray acc fr af.toList) y = some u) (hu : i6 u = some (sz, l2)) (hL : L.Perm (tok q e sz l1.length ++ L0)) (h63 : l1.length + l2.length ≤ 9223372036854775807) (hby : (l1.length + l2.length) * by_ ≤ 140737488355328) (hg : iQ ⟨dd, .call ⟨.builtin .append, #[x, y], #[t, t]⟩, ty, pos, af, g⟩ acc)
  (h : ∀ k', DA P l fr fin sk ((k, .vec k' sz (l1 ++ l2)) :: acc) (tok k' e sz (l1 ++ l2).length ++ L0)) :
  cC P l fr fin k .e ⟨dd, .call ⟨.builtin .append, #[x, y], #[t, t]⟩, ty, pos, af, g⟩ sk acc L :=
 ju hg (fun _ => nV L0 (b9 ok ht).1 (b9 ok ht).2 hx hy (cP hu) hL h63 hby) fun c L' ⟨k', h1, h2⟩ => by subst h1; subst h2; exact h k'
end
section
variable {P : Program} {r : Option Nat} {ops : Array Oper} {Q : Exit → Act → World → Prop} {nt : Nat} {D : List Deferred} {fr : bw} {B : Bs} {L : AL} {rest : List Oper} {d : Nat} {ty t : TypeId} {pos : String} {af : Array Edge} {x y z : Operand} {u : AV}
theorem gp (i : Nat) (v0 : Value) (a : AV) {b kt et : Nat} {kd : TypeDesc} {k : Value} {m : Value → Option AV} (ht : P.underlying t = some (.map kt et)) (hkt : P.underlying kt = some kd) (hx : aX fr x = some (.sc (.map (some b)))) (hy : aX fr y = some (.sc k)) (hk : IsKey kd k) (hL : L[i]? = some (b, cg kd m)) (hz : iO P et v0 = true) (ha : ∀ σ v, VR σ ((m k).getD (.sc v0)) v → VR σ a v) (hd : Nat.ble nt d = false)
  (h : bh P r ops Q nt D rest ((d, a) :: fr) B L) : bh P r ops Q nt D (⟨some d, .lookup t x y false, ty, pos, af, none⟩ :: rest) fr B L :=
 c6 hd rfl ((iS i ht hkt hx hy hk hL (ej hz) fun _ => .sc _).as ha) fun c L' ⟨h1, h2⟩ => by subst h1; subst h2; exact h
end
noncomputable def lc (m : Value → Option AV) (k : Value) (c : AV) : Value → Option AV := fun q => open Classical in if q = k then some c else m q
theorem gm {m : Value → Option AV} {k : Value} {c : AV} : lc m k c k = some c := by simp [lc]
theorem fI {m : Value → Option AV} {k : Value} {c : AV} (q : Value) (h : q ≠ k) : lc m k c q = m q := by simp [lc, h]
def kK (m : Value → Option AV) (M : Int → Int) : Prop := ∀ z, m (.int .i64 z) = none ∧ M z = 0 ∨ m (.int .i64 z) = some (.sc (.int .i64 (M z)))
theorem kK.at {m : Value → Option AV} {M : Int → Int} (h : kK m M) (z : Int) : ∀ (σ : bK) (v : Value), VR σ ((m (.int .i64 z)).getD (.sc (.int .i64 0))) v → VR σ (.sc (.int .i64 (M z))) v := by
 intro σ v hv
 rcases h z with ⟨h1, h2⟩ | h1
 ·rw [h1] at hv; rw [h2]; exact hv
 ·rw [h1] at hv; exact hv
theorem kK.put {m : Value → Option AV} {M : Int → Int} (h : kK m M) (z c : Int) : kK (lc m (.int .i64 z) (.sc (.int .i64 c))) fun q => if q = z then c else M q := by
 intro q
 by_cases e : q = z
 ·subst e; simp only [if_true, gm]; exact .inr trivial
 ·simp only [if_neg e]; rw [fI _ (by intro h; injection h with _ h; exact e h)]; exact h q
def mq (m : Value → Option AV) (K : Int → Option (Nat × Nat)) (U : Int → List Int) : Prop := ∀ z, (m (.int .i64 z) = none ∧ U z = [] ∧ K z = none) ∨ m (.int .i64 z) = some (.vec (K z) 1 (aT (U z)))
theorem mq.at {m : Value → Option AV} {K : Int → Option (Nat × Nat)} {U : Int → List Int} (h : mq m K U) (z : Int) : ∀ (σ : bK) (v : Value), VR σ ((m (.int .i64 z)).getD (.sc (.slice none 0 0))) v → VR σ (.vec (K z) 1 (aT (U z))) v := by
 intro σ v hv
 rcases h z with ⟨h1, h2, h3⟩ | h1
 ·rw [h1] at hv; rw [h2, h3]; exact eF 1 hv
 ·rw [h1] at hv; exact hv
theorem mq.put {m : Value → Option AV} {K : Int → Option (Nat × Nat)} {U : Int → List Int} (h : mq m K U) (z : Int) (k : Option (Nat × Nat)) (l : List Int) : mq (lc m (.int .i64 z) (.vec k 1 (aT l))) (fun q => if q = z then k else K q) fun q => if q = z then l else U q := by
 intro q
 by_cases e : q = z
 ·subst e; simp only [if_true, gm]; exact .inr trivial
 ·simp only [if_neg e]
  rw [fI _ (by intro h; injection h with _ h; exact e h)]
  exact h q
def jI (e : TypeId) (K : Int → Option (Nat × Nat)) (U : Int → List Int) (zs : List Int) : AL := zs.flatMap fun z => tok (K z) e 1 (aT (U z)).length
theorem li {e : TypeId} {K : Int → Option (Nat × Nat)} {U : Int → List Int} : ∀ {zs : List Int} {z : Int}, z ∈ zs → (jI e K U zs).Perm (tok (K z) e 1 (aT (U z)).length ++ jI e K U (zs.erase z))
 | y :: zs, z, h => by
  by_cases hz : y = z
  ·subst hz
   rw [List.erase_cons_head]
   exact Do _
  ·have hm : z ∈ zs := by
    rcases List.mem_cons.1 h with h | h
    ·exact absurd h.symm hz
    ·exact h
   rw [List.erase_cons_tail (by simpa using hz)]
   have ih := li (e := e) (K := K) (U := U) hm
   unfold jI at ih ⊢
   rw [List.flatMap_cons, List.flatMap_cons]
   refine (List.Perm.append_left _ ih).trans ?_
   rw [← List.append_assoc, ← List.append_assoc]
   exact List.Perm.append_right _ List.perm_append_comm
theorem sM {e : TypeId} {K K' : Int → Option (Nat × Nat)} {U U' : Int → List Int} {zs : List Int} (h : ∀ z ∈ zs, K z = K' z ∧ U z = U' z) : jI e K U zs = jI e K' U' zs := by
 unfold jI
 induction zs with
 | nil => rfl
 | cons z zs ih =>
  rw [List.flatMap_cons, List.flatMap_cons, ih fun y hy => h y (Dt _ hy), (h z (List.mem_cons_self ..)).1, (h z (List.mem_cons_self ..)).2]
theorem xI {e : TypeId} {K : Int → Option (Nat × Nat)} {U : Int → List Int} {zs : List Int} {z : Int} {k : Option (Nat × Nat)} {l : List Int} (hn : zs.Nodup) (h : z ∈ zs) : (tok k e 1 (aT l).length ++ jI e K U (zs.erase z)).Perm (jI e (fun q => if q = z then k else K q) (fun q => if q = z then l else U q) zs) := by
 have h1 := li (e := e) (K := fun q => if q = z then k else K q) (U := fun q => if q = z then l else U q) h
 simp only [if_true] at h1
 refine List.Perm.trans ?_ h1.symm
 rw [sM (K := K) (U := U) (K' := fun q => if q = z then k else K q) (U' := fun q => if q = z then l else U q) fun y hy => by
  have hne : y ≠ z := fun e => by subst e; exact (List.Nodup.not_mem_erase hn) hy
  simp only [if_neg hne]
  exact ⟨trivial, trivial⟩]
theorem vl (e : TypeId) (U : Int → List Int) (zs : List Int) : jI e (fun _ => none) U zs = [] := by
 unfold jI tok
 induction zs with
 | nil => rfl
 | cons z zs ih => rw [List.flatMap_cons, ih]; rfl
end Go.Proofs.YtpmdfoaadejmkaaGreatDoor
namespace Go.Proofs.YtpmdfoaadejmkaaGreatDoor
open Go.RowKit
section
variable {P : Program} {r : Option Nat} {ops : Array Oper} {Q : Exit → Act → World → Prop} {nt : Nat} {D : List Deferred} {fr : bw} {B : Bs} {L : AL} {cd : Code}
def mp (nt : Nat) (B : Bs) {α : Type} (Dx : α → List Deferred) (V : α → bw) (fr0 : bw) (C : α → Prop) (Lx : α → AL) (μ : α → Nat) (x : α) (Q : Exit → Act → World → Prop) : Exit → Act → World → Prop := Exit.then (fun a w => ∃ σ x', fX σ nt (Dx x') (V x' ++ fr0) a ∧ C x' ∧ cm B σ (Lx x') w ∧ μ x' < μ x) Q
theorem vT (ks : List Nat) {α : Type} (Dx : α → List Deferred) (V : α → bw) (C : α → Prop) (Lx : α → AL) (μ : α → Nat) (x0 : α) {fr0 : bw} (hk : fx fr ks = some fr0) (hV : jp (V x0) fr) (hD : D = Dx x0) (hC : C x0) (hL : ∀ σ w, cm B σ L w → cm B σ (Lx x0) w)
  (hb : ∀ x, C x → AT P r cd (mp nt B Dx V fr0 C Lx μ x Q) nt (Dx x) (V x ++ fr0) B (Lx x)) : AT P r (.loop cd) Q nt D fr B L := by
 intro σ a w ha hw
 subst hD
 classical
 let G : Nat → Act → World → Prop := fun m a w => ∃ σ x, fX σ nt (Dx x) (V x ++ fr0) a ∧ C x ∧ cm B σ (Lx x) w ∧ μ x = m
 let M : Act → World → Nat := fun a w => if h : ∃ m, G m a w ∧ ∀ m', G m' a w → m ≤ m' then h.choose else 0
 have least : ∀ a w, (∃ m, G m a w) → G (M a w) a w ∧ ∀ m', G m' a w → M a w ≤ m' := by
  rintro a w ⟨m0, hg0⟩
  have hex : ∃ m, G m a w ∧ ∀ m', G m' a w → m ≤ m' := by
   have : ∀ k, ∀ m, m ≤ k → G m a w → ∃ m, G m a w ∧ ∀ m', G m' a w → m ≤ m' := by
    intro k
    induction k with
    | zero => intro m hm hg; exact ⟨m, hg, fun m' _ => by omega⟩
    | succ k ih =>
     intro m hm hg
     by_cases h : ∃ m', m' < m ∧ G m' a w
     ·obtain ⟨m', hlt, hg'⟩ := h
      exact ih m' (by omega) hg'
     ·exact ⟨m, hg, fun m' hg' => by
       rcases Nat.lt_or_ge m' m with hlt | hge
       ·exact absurd ⟨m', hlt, hg'⟩ h
       ·exact hge⟩
   exact this m0 m0 (Nat.le_refl _) hg0
  have hM : M a w = hex.choose := dif_pos hex
  rw [hM]; exact hex.choose_spec
 refine wpIn_loop (fun a w => ∃ m, G m a w) M ⟨_, σ, x0, ha.weak (jM hV (d7 ks hk)), hC, hL σ w hw, rfl⟩ ?_
 intro a w hI
 obtain ⟨⟨σ', x, hx, hj, hst, hm⟩, _⟩ := least a w hI
 refine wpIn_mono (hb x hj σ' a w hx hst) ?_
 intro e a' w' hq
 cases e with
 | normal =>
  obtain ⟨τ, x', hx', hj', hst', hlt⟩ := hq
  have hg : G (μ x') a' w' := ⟨τ, x', hx', hj', hst', rfl⟩
  refine ⟨⟨_, hg⟩, ?_⟩
  have := (least a' w' ⟨_, hg⟩).2 (μ x') hg
  omega
 | _ => exact hq
theorem kP {α : Type} {Dx : α → List Deferred} {V : α → bw} {fr0 : bw} {C : α → Prop} {Lx : α → AL} {μ : α → Nat} {x : α} (x' : α) (hk : fx fr (fr0.map (·.1)) = some fr0) (hV : jp (V x') fr) (hD : D = Dx x') (hC : C x') (hm : μ x' < μ x) (hL : ∀ σ w, cm B σ L w → cm B σ (Lx x') w) :
  AX P .normal (mp nt B Dx V fr0 C Lx μ x Q) nt D fr B L := fun σ a w ha hw => by
 subst hD
 exact ⟨σ, x', ha.weak (jM hV (d7 _ hk)), hC, hL _ _ hw, hm⟩
theorem nH {α : Type} {Dx : α → List Deferred} {V : α → bw} {fr0 : bw} {C : α → Prop} {Lx : α → AL} {μ : α → Nat} {x : α} {id : Nat} (h : AX P (.exit id) Q nt D fr B L) : AX P (.exit id) (mp nt B Dx V fr0 C Lx μ x Q) nt D fr B L := fun σ a w ha hw => h σ a w ha hw
end
section
variable {nt : Nat} {D : List Deferred} {B : Bs} {fr : bw} {L : AL}
theorem oM {t b e sz n : Nat} {cs : List AV} {l : List (List AV)} (i : Nat) (hl : bF fr t = some (.iptr [.sc (.slice (some ⟨b, 0, none⟩) n n)])) (hL : L[i]? = some (b, .box cs e)) (hc : cs = l.flatten) (hs : ∀ q ∈ l, q.length = sz) (hn : l.length = n) (h63 : n ≤ 9223372036854775807) : jL nt D B fr L ((t, .iptr [.imm sz l]) :: fr) ((b, .vec e sz n n) :: L.eraseIdx i) := by
 intro σ a w ha hw0
 have hw := hw0.perm (ec hL)
 obtain ⟨o, ho, vs, rfl, hvs, h1⟩ := hw.here _ (List.mem_cons_self ..)
 have hfree := hw.free _ (List.mem_cons_self ..)
 have hvl : vs.length = n * sz := by rw [← hvs.1, hc, dG l hs, hn]
 have hst : cm B σ ((b, .vec e sz 0 n) :: L.eraseIdx i) w := by
  refine ⟨hw.os, hw.tape, hw.output, hw.size, hw.old, fun p hp => ?_, fun p hp => ?_, by simpa using hw.apart, hw.froz, fun p hp off hm => ?_, hw.grow, hw.same⟩
  ·rcases List.mem_cons.1 hp with rfl | hp'
   ·exact ⟨_, ho, _, rfl, by simp [hvl], Nat.zero_le _, by unfold maxLen; omega⟩
   ·exact hw.here p (Dt _ hp')
  ·rcases List.mem_cons.1 hp with rfl | hp'
   ·exact hw.mine (b, .box cs e) (List.mem_cons_self ..)
   ·exact hw.mine p (Dt _ hp')
  ·rcases List.mem_cons.1 hp with rfl | hp'
   ·exact hfree off trivial
   ·exact hw.free p (Dt _ hp') off hm
 obtain ⟨hst', hle⟩ := hst.freezeHead (n' := n) (xs := vs) (fun j u hj => by rw [cn ho]; simpa using hj) hvl (Nat.zero_le _) (Nat.le_refl _)
 refine ⟨_, ?_, hst'⟩
 have hv : VR (σ.add b vs) (.vec (some (b, n)) sz l) (.slice (some ⟨b, 0, none⟩) n n) := by
  have := iM (σ := σ.add b vs) (b := b) (cap := n) hs (by rw [← hc]; exact hvs.mono hle) h1 (by omega) (by unfold maxLen; omega) (fun j u hj => bK.add_at hj)
  rwa [hn] at this
 have ha' := ha.mono hle
 refine ⟨ha'.size, ha'.defers, fun t' v' hl' => ?_⟩
 rw [bM] at hl'
 by_cases e : t = t'
 ·subst e
  simp only [if_true, Option.some.injEq] at hl'
  subst hl'
  have hp := ha.look t _ hl
  generalize a.tmps.getD t undef = v0 at hp
  generalize hq : AV.iptr [.sc (.slice (some ⟨b, 0, none⟩) n n)] = q at hp
  cases hp with
  | iptr cs2 b0 off hx h =>
   injection hq with hq
   subst hq
   refine .iptr _ b0 off (fun j hj => ?_) fun j c u hc hu => ?_
   ·obtain ⟨u, hu, h1⟩ := hx j hj
    exact ⟨u, hle _ _ _ hu, h1⟩
   ·have hj : j = 0 := by
     have := (Dp hc).1
     simp at this
     exact this
    subst hj
    simp at hc
    subst hc
    obtain ⟨u', hu', _⟩ := hx 0 (by simp)
    have h2 := hle _ _ _ hu'
    rw [hu] at h2
    injection h2 with h2
    subst h2
    rw [(h 0 _ u rfl hu').sc_inv]
    exact hv.im
  | _ => cases hq
 ·rw [if_neg e] at hl'
  exact ha'.look t' v' hl'
end
end Go.Proofs.YtpmdfoaadejmkaaGreatDoor
