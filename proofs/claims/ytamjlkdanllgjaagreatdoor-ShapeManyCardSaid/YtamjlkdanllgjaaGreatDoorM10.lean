/-
  The program: glyphs, as check looks at them, with anchors and deltas.
-/
import Derived.Test.YtamjlkdanllgjaaGreatDoorM09
import Derived.Test.YtamjlkdanllgjaaGreatDoorM07
namespace Go.Proofs.YtamjlkdanllgjaaGreatDoor
open Go.RowKit
attribute [local irreducible] AT br AX AO Av Kt aW cZ DA cw
theorem zK : gU Tryz.prog 361 := ⟨⟨_, _, Tryz.underlying361, ⟨by decide, by decide⟩, ⟨rfl, rfl⟩, Tryz.underlying3, Tryz.underlying3⟩, Tryz.stoodInHeld361⟩
theorem Ee : gU Tryz.prog 364 := ⟨⟨_, _, Tryz.underlying364, ⟨by decide, by decide⟩, ⟨rfl, rfl⟩, Tryz.underlying3, Tryz.underlying3⟩, Tryz.stoodInHeld364⟩
def lK (l : List dI) (a b : Int) : Option AV := if ∃ x ∈ l, x.Kind = a ∧ x.Class = b then some (ce true) else none
theorem yt : lK [] = fun _ _ => none := by funext a b; simp [lK]
theorem w9 (l : List dI) (a b : Int) : (lK l a b).getD (ce false) = ce (decide (∃ x ∈ l, x.Kind = a ∧ x.Class = b)) := by
 unfold lK
 by_cases h : ∃ x ∈ l, x.Kind = a ∧ x.Class = b
 ·rw [if_pos h, decide_eq_true h]; rfl
 ·rw [if_neg h, decide_eq_false h]; rfl
theorem wa {l : List dI} {i : Nat} {x : dI} (h : l[i]? = some x) : lK (l.take (i + 1)) x.Kind x.Class = some (ce true) := by
 unfold lK
 rw [if_pos ⟨x, by rw [List.take_add_one, h]; simp, rfl, rfl⟩]
theorem tx {l : List dI} {i : Nat} {x : dI} (h : l[i]? = some x) (p q : Int) (hne : ¬ (p = x.Kind ∧ q = x.Class)) : lK (l.take (i + 1)) p q = lK (l.take i) p q := by
 unfold lK
 have : (∃ y ∈ l.take (i + 1), y.Kind = p ∧ y.Class = q) ↔ ∃ y ∈ l.take i, y.Kind = p ∧ y.Class = q := by
  rw [List.take_add_one, h]
  simp only [Option.toList_some, List.mem_append, List.mem_singleton]
  constructor
  ·rintro ⟨y, hy | rfl, h1⟩
   ·exact ⟨y, hy, h1⟩
   ·exact absurd ⟨h1.1.symm, h1.2.symm⟩ hne
  ·rintro ⟨y, hy, h1⟩
   exact ⟨y, Or.inl hy, h1⟩
 by_cases hc : ∃ y ∈ l.take i, y.Kind = p ∧ y.Class = q
 ·rw [if_pos hc, if_pos (this.2 hc)]
 ·rw [if_neg hc, if_neg (fun h => hc (this.1 h))]
set_option maxHeartbeats 1000000 in
theorem sH (g : b7) (i : Nat) (a : dI) (ha : g.Anchors[i]? = some a) (m : Nat) : AC Tryz.prog 251 [aD i, .agg (dR a), .iptr [ce g.Mark], .iptr [.sc (.map (some m))]] [(m, fF (lK (g.Anchors.take i)))] fun c L' => c = aD (lj g i a) ∧ (lj g i a = 0 → L' = [(m, fF (lK (g.Anchors.take (i + 1))))]) := by
 refine aG Tryz.func251 rfl Tryz.ntmps251 rfl fun B => ?_
 repeat' (first|refine ae ?_|refine a6 ?_|refine a8 ?_|refine aa ?_|refine ah a7 rfl rfl ?_|(apply aQ; first|refine ai 7 a7 0 rfl rfl rfl rfl rfl rfl rfl rfl ?_|refine ai 7 a7 1 rfl rfl rfl rfl rfl rfl rfl rfl ?_|refine ai 7 a7 2 rfl rfl rfl rfl rfl rfl rfl rfl ?_|refine aj a7 0 rfl rfl rfl rfl rfl rfl rfl ?_|refine aj a7 1 rfl rfl rfl rfl rfl rfl rfl ?_|refine aj a7 2 rfl rfl rfl rfl rfl rfl rfl ?_|refine aj a7 3 rfl rfl rfl rfl rfl rfl rfl ?_|fail)|refine b9 ?_|refine aY a7 fun _=>?_|fail)
 refine cT (t := 8) [2, 3, 5, 7] (a.Kind = 3 ∨ a.Kind = 4) rfl (fun Q' K => ?_) ?_
 ·repeat' (first|refine aa ?_|refine ah a7 rfl rfl ?_|refine aB rfl rfl ?_|refine aE rfl rfl rfl rfl ?_|refine aU rfl rfl rfl (fun _ => ?_) (fun _ => ?_))
  all_goals exact K _ _ rfl rfl (by clear K; grind)
 repeat' (first|refine ae ?_|refine a6 ?_|refine ar ?_|refine a8 ?_|refine ah a7 rfl rfl ?_)
 refine cT (t := 22) [2, 3, 5, 7, 8] (a.Kind < 1 ∨ a.Kind > 4) rfl (fun Q' K => ?_) ?_
 ·repeat' (first|refine aa ?_|refine ah a7 rfl rfl ?_|refine aB rfl rfl ?_|refine aE rfl rfl rfl rfl ?_|refine aU rfl rfl rfl (fun _ => ?_) (fun _ => ?_))
  all_goals exact K _ _ rfl rfl (by clear K; grind)
 repeat' (first|refine a8 ?_)
 refine ay rfl (fun h1 => ?_) (fun h1 => ?_)
 ·have h0 := h1
  replace h1 := Hz h1
  rw [h0]
  repeat' (first|refine ae ?_|refine a6 ?_|refine aq ?_|refine am ?_|refine a8 ?_|refine aw ?_|refine aK ?_|refine aa ?_|refine ah a7 rfl rfl ?_|refine bK rfl ?_)
  refine au rfl rfl ?_
  rw [show lj g i a = 35 from if_pos (.inl h1)]
  exact ⟨rfl, fun e => absurd e (by decide)⟩
 have h0 := h1
 replace h1 := Hy h1
 rw [h0]
 clear h0
 repeat' (first|refine ae ?_|refine a6 ?_|refine ah a7 rfl rfl ?_)
 refine cT (t := 22) [2, 3, 5, 7, 8] (a.Class < 0 ∨ a.Class > 15) rfl (fun Q' K => ?_) ?_
 ·repeat' (first|refine aa ?_|refine ah a7 rfl rfl ?_|refine aB rfl rfl ?_|refine aE rfl rfl rfl rfl ?_|refine aU rfl rfl rfl (fun _ => ?_) (fun _ => ?_))
  all_goals exact K _ _ rfl rfl (by clear K; grind)
 repeat' (first|refine a8 ?_)
 refine ay rfl (fun h2 => ?_) (fun h2 => ?_)
 ·have h0 := h2
  replace h2 := Hz h2
  rw [h0]
  repeat' (first|refine ae ?_|refine a6 ?_|refine aq ?_|refine am ?_|refine a8 ?_|refine aw ?_|refine aK ?_|refine aa ?_|refine ah a7 rfl rfl ?_|refine bK rfl ?_)
  refine au rfl rfl ?_
  rw [show lj g i a = 35 from if_pos (.inr (.inl h2))]
  exact ⟨rfl, fun e => absurd e (by decide)⟩
 have h0 := h2
 replace h2 := Hy h2
 rw [h0]
 clear h0
 repeat' (first|refine ae ?_|refine a6 ?_|refine ah a7 rfl rfl ?_)
 refine cT (t := 22) [2, 3, 5, 7] ((a.Kind = 3 ∨ a.Kind = 4) ∧ a.Class ≠ 0) rfl (fun Q' K => ?_) ?_
 ·generalize hj : decide (a.Kind = 3 ∨ a.Kind = 4) = j
  have hj' : (a.Kind = 3 ∨ a.Kind = 4) ↔ j = true := by rw [← hj, decide_eq_true_eq]
  repeat' (first|refine aa ?_|refine ah a7 rfl rfl ?_|refine aB rfl rfl ?_|refine aE rfl rfl rfl rfl ?_|refine aU rfl rfl rfl (fun _ => ?_) (fun _ => ?_))
  all_goals exact K _ _ (by first | rfl | (subst_vars; rfl)) rfl (by clear K; grind)
 repeat' (first|refine a8 ?_)
 refine ay rfl (fun h3 => ?_) (fun h3 => ?_)
 ·have h0 := h3
  replace h3 := Hz h3
  rw [h0]
  repeat' (first|refine ae ?_|refine a6 ?_|refine aq ?_|refine am ?_|refine a8 ?_|refine aw ?_|refine aK ?_|refine aa ?_|refine ah a7 rfl rfl ?_|refine bK rfl ?_)
  refine au rfl rfl ?_
  rw [show lj g i a = 35 from if_pos (.inr (.inr (.inl h3)))]
  exact ⟨rfl, fun e => absurd e (by decide)⟩
 have h0 := h3
 replace h3 := Hy h3
 rw [h0]
 clear h0
 repeat' (first|refine ae ?_|refine a6 ?_|refine a8 ?_|refine aa ?_|refine ah a7 rfl rfl ?_|refine cE a7 ?_|(apply bc;refine aX ?_)|fail)
 refine ay rfl (fun h4 => ?_) (fun h4 => ?_)
 ·rw [h4]
  repeat' (first|refine ae ?_|refine a6 ?_|refine aq ?_|refine am ?_|refine a8 ?_|refine aw ?_|refine aK ?_|refine aa ?_|refine ah a7 rfl rfl ?_|refine bK rfl ?_)
  refine au rfl rfl ?_
  rw [show lj g i a = 35 from if_pos (.inr (.inr (.inr (.inl (by rw [← Bool.not_eq_true', h4])))))]
  exact ⟨rfl, fun e => absurd e (by decide)⟩
 rw [h4]
 repeat' (first|refine ae ?_|refine a6 ?_|refine ah a7 rfl rfl ?_)
 refine cT (t := 22) [3, 7] (a.Kind = 2 ∧ g.Mark = false) rfl (fun Q' K => ?_) ?_
 ·repeat' (first|refine aa ?_|refine ah a7 rfl rfl ?_|refine aB rfl rfl ?_|refine aE rfl rfl rfl rfl ?_|refine aU rfl rfl rfl (fun _ => ?_) (fun _ => ?_))
  all_goals exact K _ _ rfl rfl (by clear K; grind)
 repeat' (first|refine a8 ?_)
 refine ay rfl (fun h5 => ?_) (fun h5 => ?_)
 ·have h0 := h5
  replace h5 := Hz h5
  rw [h0]
  repeat' (first|refine ae ?_|refine a6 ?_|refine aq ?_|refine am ?_|refine a8 ?_|refine aw ?_|refine aK ?_|refine aa ?_|refine ah a7 rfl rfl ?_|refine bK rfl ?_)
  refine au rfl rfl ?_
  rw [show lj g i a = 35 from if_pos (.inr (.inr (.inr (.inr (.inl h5)))))]
  exact ⟨rfl, fun e => absurd e (by decide)⟩
 have h0 := h5
 replace h5 := Hy h5
 rw [h0]
 clear h0
 repeat' (first|refine a6 ?_|refine ah a7 rfl rfl ?_)
 refine tD 0 (.bool false) Tryz.underlying359 zK rfl rfl rfl (by kernel_rfl) rfl ?_
 rw [w9]
 repeat' (first|refine a8 ?_|refine aa ?_|refine ah a7 rfl rfl ?_)
 refine ay rfl (fun h6 => ?_) (fun h6 => ?_)
 ·rw [h6]
  repeat' (first|refine ae ?_|refine a6 ?_|refine am ?_|refine a8 ?_|refine aw ?_|refine aK ?_|refine aa ?_|refine ah a7 rfl rfl ?_)
  refine au rfl rfl ?_
  rw [show lj g i a = 35 from if_pos (.inr (.inr (.inr (.inr (.inr (Hz h6))))))]
  exact ⟨rfl, fun e => absurd e (by decide)⟩
 rw [h6]
 repeat' (first|refine ae ?_|refine a6 ?_|refine aq ?_|refine a8 ?_|refine aR ?_|refine ah a7 rfl rfl ?_)
 refine qn 0 (lK (g.Anchors.take (i + 1))) Tryz.underlying359 zK rfl rfl rfl rfl (wa ha) (tx ha) ?_
 repeat' (first|refine ae ?_|refine a6 ?_|refine am ?_|refine a8 ?_|refine aa ?_|refine ah a7 rfl rfl ?_)
 refine au rfl rfl ?_
 have h4' : [a.X, a.Y].all fi = true := by simpa using h4
 have h6' := Hy h6
 rw [show lj g i a = 0 from if_neg (by
  rintro (h | h | h | h | h | h)
  ·exact h1 h
  ·exact h2 h
  ·exact h3 h
  ·rw [h4'] at h; cases h
  ·exact h5 h
  ·exact h6' h)]
 exact ⟨rfl, fun _ => rfl⟩
def ou (a b c d : Int) : Bool := decide (a < c ∨ (a = c ∧ b < d))
theorem sS (a b c d : Int) : bw Tryz.prog 255 [.agg [aD a, aD b], .agg [aD c, aD d]] (ce (ou a b c d)) := by
 refine aG Tryz.func255 rfl Tryz.ntmps255 rfl fun B => ?_
 repeat' (first|refine ae ?_|refine a6 ?_|refine a8 ?_|refine aa ?_|refine ah a7 rfl rfl ?_|refine b9 ?_|fail)
 refine cT (t := 4) [] (ou a b c d = true) rfl (fun Q' K => ?_) ?_
 ·repeat' (first|refine aa ?_|refine ah a7 rfl rfl ?_|refine aB rfl rfl ?_|refine aE rfl rfl rfl rfl ?_|refine cr rfl rfl rfl ?_|refine aU rfl rfl rfl (fun _ => ?_) (fun _ => ?_))
  all_goals exact K _ _ rfl rfl (by clear K; unfold ou; grind)
 repeat' (first|refine am ?_|refine a8 ?_)
 refine au rfl rfl ?_
 simp
def eG (l : List eC) (i : Nat) : Int × Int := match i with | 0 => (0, 0) | j + 1 => match l[j]? with | some b => (b.Region, b.Point) | none => (0, 0)
def nP (g : b7) (i : Nat) (d : eC) : Bool := decide (0 < i ∧ ((d.Region = (eG g.Deltas i).1 ∧ d.Point = (eG g.Deltas i).2) ∨ ou d.Region d.Point (eG g.Deltas i).1 (eG g.Deltas i).2 = true))
theorem Be {g : b7} {i : Nat} {d : eC} (hd : g.Deltas[i]? = some d) : (match i with | 0 => false | j + 1 => match g.Deltas[j]? with | some b => decide (d.Region < b.Region ∨ (d.Region = b.Region ∧ d.Point ≤ b.Point)) | none => false) = nP g i d := by
 unfold nP
 cases i with
 | zero => simp
 | succ j =>
  have hj : j < g.Deltas.length := by have := (Hq hd).1; omega
  obtain ⟨b, hb⟩ : ∃ b, g.Deltas[j]? = some b := ⟨_, Eg hj⟩
  simp only [hb, eG, ou]
  rw [Bool.eq_iff_iff, decide_eq_true_eq, decide_eq_true_eq, decide_eq_true_eq]
  omega
theorem As {f : aP} {g : b7} {i : Nat} {d : eC} (hd : g.Deltas[i]? = some d) : rA f g i d = if d.Region < 0 ∨ d.Region ≥ f.Regions.length then 61 else if (d.Point < -1 ∨ d.Point ≥ g.Points.length) ∨ [d.X, d.Y].all fi = false ∨ (d.Point = -1 ∧ d.Y ≠ 0) then 30 else if nP g i d = true then 24 else 0 := by
 unfold rA
 rw [← Be hd]
 cases i <;> rfl
set_option maxHeartbeats 1000000 in
theorem vH (f : aP) (g : b7) (i : Nat) (d : eC) (hd : g.Deltas[i]? = some d) (R N : Int) (hR : R = f.Regions.length) (hN : N = g.Points.length) (b : Nat) : AC Tryz.prog 254 [aD i, .agg (fD d), .iptr [aD R], .iptr [aD N], .sc (.pointer (some ⟨b, 0, none⟩))] [(b, .box [aD (eG g.Deltas i).1, aD (eG g.Deltas i).2] 364)] fun c L' => c = aD (rA f g i d) ∧ (rA f g i d = 0 → L' = [(b, .box [aD (eG g.Deltas (i + 1)).1, aD (eG g.Deltas (i + 1)).2] 364)]) := by
 refine aG Tryz.func254 rfl Tryz.ntmps254 rfl fun B => ?_
 rw [As hd, ← hR, ← hN]
 have hnext : eG g.Deltas (i + 1) = (d.Region, d.Point) := by simp only [eG, hd]
 rw [hnext]
 repeat' (first|refine ae ?_|refine a6 ?_|refine ar ?_|refine a8 ?_|refine aa ?_|refine ah a7 rfl rfl ?_|(apply aQ; first|refine ai 8 a7 0 rfl rfl rfl rfl rfl rfl rfl rfl ?_|refine ai 8 a7 1 rfl rfl rfl rfl rfl rfl rfl rfl ?_|refine ai 8 a7 2 rfl rfl rfl rfl rfl rfl rfl rfl ?_|refine aj a7 0 rfl rfl rfl rfl rfl rfl rfl ?_|refine aj a7 1 rfl rfl rfl rfl rfl rfl rfl ?_|refine aj a7 2 rfl rfl rfl rfl rfl rfl rfl ?_|refine aj a7 3 rfl rfl rfl rfl rfl rfl rfl ?_|fail)|refine b9 ?_|refine aY a7 fun _=>?_|fail)
 refine co [0, 3, 4, 6, 8] (d.Region < 0 ∨ d.Region ≥ R) rfl (fun Q' K => ?_) (fun h1 => ?_) (fun h1 => ?_)
 ·repeat' (first|refine aa ?_|refine ah a7 rfl rfl ?_|refine aB rfl rfl ?_|refine aE rfl rfl rfl rfl ?_|refine aU rfl rfl rfl (fun _ => ?_) (fun _ => ?_))
  all_goals exact K _ _ rfl rfl (by clear K; grind)
 ·rw [if_pos h1]
  repeat' (first|refine ae ?_|refine a6 ?_|refine am ?_|refine a8 ?_|refine aw ?_|refine aK ?_|refine aa ?_|refine ah a7 rfl rfl ?_)
  exact au rfl rfl ⟨rfl, fun e => absurd e (by decide)⟩
 rw [if_neg h1]
 repeat' (first|refine ae ?_|refine a6 ?_|refine ah a7 rfl rfl ?_)
 refine cT (t := 24) [0, 4, 6, 8] (d.Point < -1 ∨ d.Point ≥ N) rfl (fun Q' K => ?_) ?_
 ·repeat' (first|refine aa ?_|refine ah a7 rfl rfl ?_|refine aB rfl rfl ?_|refine aE rfl rfl rfl rfl ?_|refine aU rfl rfl rfl (fun _ => ?_) (fun _ => ?_))
  all_goals exact K _ _ rfl rfl (by clear K; grind)
 repeat' (first|refine a8 ?_)
 refine ay rfl (fun h2 => ?_) (fun h2 => ?_)
 ·have h0 := h2
  replace h2 := Hz h2
  rw [h0]
  rw [if_pos (.inl h2)]
  repeat' (first|refine ae ?_|refine a6 ?_|refine aq ?_|refine am ?_|refine a8 ?_|refine aw ?_|refine aK ?_|refine aa ?_|refine ah a7 rfl rfl ?_|refine bK rfl ?_)
  exact au rfl rfl ⟨rfl, fun e => absurd e (by decide)⟩
 have h0 := h2
 replace h2 := Hy h2
 rw [h0]
 clear h0
 repeat' (first|refine ae ?_|refine a6 ?_|refine a8 ?_|refine aa ?_|refine ah a7 rfl rfl ?_|refine cE a7 ?_|(apply bc;refine aX ?_)|fail)
 refine ay rfl (fun h3 => ?_) (fun h3 => ?_)
 ·rw [if_pos (.inr (.inl (by rw [← Bool.not_eq_true', h3]))), h3]
  repeat' (first|refine ae ?_|refine a6 ?_|refine aq ?_|refine am ?_|refine a8 ?_|refine aw ?_|refine aK ?_|refine aa ?_|refine ah a7 rfl rfl ?_|refine bK rfl ?_)
  exact au rfl rfl ⟨rfl, fun e => absurd e (by decide)⟩
 rw [h3]
 repeat' (first|refine a6 ?_|refine ah a7 rfl rfl ?_)
 refine cT (t := 24) [0, 4, 8] (d.Point = -1 ∧ d.Y ≠ 0) rfl (fun Q' K => ?_) ?_
 ·repeat' (first|refine aa ?_|refine ah a7 rfl rfl ?_|refine aB rfl rfl ?_|refine aE rfl rfl rfl rfl ?_|refine aU rfl rfl rfl (fun _ => ?_) (fun _ => ?_))
  all_goals exact K _ _ rfl rfl (by clear K; grind)
 repeat' (first|refine a8 ?_)
 refine ay rfl (fun h4 => ?_) (fun h4 => ?_)
 ·have h0 := h4
  replace h4 := Hz h4
  rw [h0]
  rw [if_pos (.inr (.inr h4))]
  repeat' (first|refine ae ?_|refine a6 ?_|refine am ?_|refine a8 ?_|refine aw ?_|refine aK ?_|refine aa ?_|refine ah a7 rfl rfl ?_)
  exact au rfl rfl ⟨rfl, fun e => absurd e (by decide)⟩
 have h0 := h4
 replace h4 := Hy h4
 rw [h0]
 clear h0
 have h3' : [d.X, d.Y].all fi = true := by simpa using h3
 rw [if_neg (by
  rintro (h | h | h)
  ·exact h2 h
  ·rw [h3'] at h; cases h
  ·exact h4 h)]
 repeat' (first|refine ae ?_|refine a6 ?_|refine ah a7 rfl rfl ?_)
 refine co [4, 8] (nP g i d = true) rfl (fun Q' K => ?_) (fun h5 => ?_) (fun h5 => ?_)
 ·repeat' (first|refine aa ?_|refine ah a7 rfl rfl ?_|refine aB rfl rfl ?_|refine aE rfl rfl rfl rfl ?_|refine cr rfl rfl rfl ?_|(apply c9; first|refine aC a7 0 rfl rfl rfl rfl rfl ?_|refine aC a7 1 rfl rfl rfl rfl rfl ?_|refine aC a7 2 rfl rfl rfl rfl rfl ?_|refine aC a7 3 rfl rfl rfl rfl rfl ?_|refine aJ a7 0 rfl rfl rfl rfl rfl ?_|refine aJ a7 1 rfl rfl rfl rfl rfl ?_|refine aJ a7 2 rfl rfl rfl rfl rfl ?_|refine aC a7 1 rfl rfl rfl (by assumption) rfl ?_|refine aC a7 0 rfl rfl rfl (by assumption) rfl ?_|fail)|refine aU rfl rfl rfl (fun _ => ?_) (fun _ => ?_))
  all_goals first
   | exact K _ _ rfl rfl (by clear K; unfold nP; grind)
   | (refine DI Ee Tryz.eqGuardType364 rfl rfl rfl ?_)
  repeat' (first|refine aa ?_|refine ah a7 rfl rfl ?_|refine aB rfl rfl ?_|refine aE rfl rfl rfl rfl ?_|(apply c9; first|refine aC a7 0 rfl rfl rfl rfl rfl ?_|refine aC a7 1 rfl rfl rfl rfl rfl ?_|refine aC a7 2 rfl rfl rfl rfl rfl ?_|refine aC a7 3 rfl rfl rfl rfl rfl ?_|refine aJ a7 0 rfl rfl rfl rfl rfl ?_|refine aJ a7 1 rfl rfl rfl rfl rfl ?_|refine aJ a7 2 rfl rfl rfl rfl rfl ?_|refine aC a7 1 rfl rfl rfl (by assumption) rfl ?_|refine aC a7 0 rfl rfl rfl (by assumption) rfl ?_|fail)|refine aU rfl rfl rfl (fun _ => ?_) (fun _ => ?_))
  all_goals first
   | exact K _ _ rfl rfl (by clear K; unfold nP; grind)
   | (refine aX (hc := ⟨sS d.Region d.Point (eG g.Deltas i).1 (eG g.Deltas i).2⟩) ?_)
  repeat' (first|refine aa ?_|refine ah a7 rfl rfl ?_|refine aB rfl rfl ?_)
  all_goals exact K _ _ rfl rfl (by clear K; unfold nP; grind)
 ·rw [if_pos h5]
  repeat' (first|refine ae ?_|refine a6 ?_|refine am ?_|refine a8 ?_|refine aw ?_|refine aK ?_|refine aa ?_|refine ah a7 rfl rfl ?_)
  exact au rfl rfl ⟨rfl, fun e => absurd e (by decide)⟩
 rw [if_neg h5]
 repeat' (first|refine ae ?_|refine a6 ?_|refine aq ?_|refine am ?_|refine a8 ?_|refine aR ?_|refine aa ?_|refine ah a7 rfl rfl ?_|(apply aQ; first|refine ai 8 a7 0 rfl rfl rfl rfl rfl rfl rfl rfl ?_|refine ai 8 a7 1 rfl rfl rfl rfl rfl rfl rfl rfl ?_|refine ai 8 a7 2 rfl rfl rfl rfl rfl rfl rfl rfl ?_|refine aj a7 0 rfl rfl rfl rfl rfl rfl rfl ?_|refine aj a7 1 rfl rfl rfl rfl rfl rfl rfl ?_|refine aj a7 2 rfl rfl rfl rfl rfl rfl rfl ?_|refine aj a7 3 rfl rfl rfl rfl rfl rfl rfl ?_|fail))
 refine au rfl rfl ⟨rfl, fun e => ?_⟩
 rfl
set_option maxHeartbeats 2000000 in
theorem vU (f : aP) (g : b7) (name : Int) : bw Tryz.prog 109 [cf f, .agg (bE g), aD name] (aD (nI f g name)) := by
 refine aG Tryz.func109 rfl Tryz.ntmps109 rfl fun B => ?_
 repeat' (first|refine ae ?_|refine a6 ?_|refine a8 ?_|refine aa ?_|refine ah a7 rfl rfl ?_|refine b9 ?_|fail)
 refine bF 30 [(0, .v), (1, .v), (2, .v), (3, .v), (4, .v), (5, .v), (6, .v), (7, .v), (8, .v), (9, .v), (12, .v), (13, .v), (14, .v), (15, .v), (16, .v), (17, .v), (18, .v), (19, .v), (20, .v), (23, .v), (10, .e), (11, .v), (21, .e), (22, .v), (24, .v), (25, .e), (26, .v), (27, .v), (28, .v), (29, .v)] none ?_ trivial rfl (by kernel_rfl) (by kernel_rfl) (by kernel_rfl) mixed (by kernel_rfl) rfl
 repeat' (first|refine aM ?_|refine bD a7 ?_|(apply cL;refine d8 ?_)|fail)
 refine hQ [] [] (sI g.Mark) rfl rfl (Hp _) trivial fun c L1 ⟨m, hc, hL⟩ => ?_
 subst hc; subst hL
 repeat' (first|refine aM ?_|(apply cL;refine d8 ?_)|fail)
 refine hQ [] _ (vI (f.Regions.map dz).length (g.Points.map fc).length) rfl rfl (Hp _) trivial fun c L1 ⟨b, hc, hL⟩ => ?_
 subst hc; subst hL
 repeat' (first|refine aM ?_|(apply cL;refine d8 ?_)|refine iK a7 ?_|fail)
 refine hQ (L := [(b, .box [aD 0, aD 0] 364), (m, fF fun _ _ => none)]) _ [] (gC [⟨173, [.iptr [aD name]], [], name, 0⟩, ⟨174, [.iptr (bE g)], [], ir g, 0⟩, ⟨247, [.iptr [.imm 3 (g.Parts.map eN)], .iptr [aD 8], .iptr [.fn 177 [.iptr (bH f)]]], [], (ck 8 g.Parts (mo f)).1, (ck 8 g.Parts (mo f)).2⟩, ⟨249, [.iptr [.imm 4 (g.Anchors.map dR)], .iptr [aD 16], .iptr [.fn 251 [.iptr [ce g.Mark], .iptr [.sc (.map (some m))]]]], [(m, fF fun _ _ => none)], (ck 16 g.Anchors (lj g)).1, (ck 16 g.Anchors (lj g)).2⟩, ⟨252, [.iptr [.imm 4 (g.Deltas.map fD)], .iptr [aD 400], .iptr [.fn 254 [.iptr [aD (f.Regions.map dz).length], .iptr [aD (g.Points.map fc).length], .sc (.pointer (some ⟨b, 0, none⟩))]]], [(b, .box [aD 0, aD 0] 364)], (ck 400 g.Deltas (rA f g)).1, (ck 400 g.Deltas (rA f g)).2⟩, ⟨183, [.iptr (bE g)], [], oa g.Hint, 0⟩] ?_) rfl rfl (List.Perm.swap ..) trivial fun c L1 hc => ?_
 ·refine ⟨⟨inferInstance, tf name⟩, fun _ => ⟨⟨inferInstance, tg g⟩, fun _ => ⟨⟨inferInstance, BM rfl g.Parts 8 _ (fun _ _ => True) [] trivial (fun _ => cF fun i x _ => th f i x)⟩, fun _ => ⟨⟨inferInstance, BN rfl g.Anchors 16 (f5 g.Anchors (lj g)) (fun i L => L = [(m, fF (lK (g.Anchors.take i)))]) _ (by rw [List.take_zero, yt]) ?_⟩, fun _ => ⟨⟨inferInstance, BO rfl g.Deltas 400 (f5 g.Deltas (rA f g)) (fun i L => L = [(b, .box [aD (eG g.Deltas i).1, aD (eG g.Deltas i).2] 364)]) _ rfl ?_⟩, fun _ => ⟨⟨inferInstance, tj g⟩, fun _ => trivial⟩⟩⟩⟩⟩⟩
  ·intro _ i x L hx hL
   subst hL
   rw [fL hx]
   exact sH g i x hx m
  ·intro _ i x L hx hL
   subst hL
   rw [fL hx]
   exact vH f g i x hx _ _ (by rw [Hv]) (by rw [Hv]) b
 ·rw [ic] at hc
  subst hc
  unfold bX
  repeat' (first|refine aM ?_|refine bD a7 ?_|fail)
  refine bM [7, 37] rfl rfl ?_
  repeat' (first|refine ae ?_|refine a6 ?_|refine am ?_|refine a8 ?_|refine aa ?_|refine ah a7 rfl rfl ?_)
  exact au rfl rfl rfl
instance (f : aP) (g : b7) (name : Int) : AD Tryz.prog 109 [cf f, .agg (bE g), aD name] (aD (nI f g name)) := ⟨vU f g name⟩
section
variable {P : Program} {l : List Oper} {fr : bJ} {fin : lc} {sk : mI} {acc : bJ} {L : AL} {k : Nat} {dd : Option Tmp} {ty t : TypeId} {pos : String} {af : Array Edge} {g : Option (Nat × Bool)} {x y : Operand}
theorem kx (i : Nat) (v0 : Value) {b kt et : Nat} {kd : TypeDesc} {q : Value} {m : Value → Option AV} (ht : P.underlying t = some (.map kt et)) (hkt : P.underlying kt = some kd) (hx : bh (cO l.toArray acc fr af.toList) x = some (.sc (.map (some b)))) (hy : bh (cO l.toArray acc fr af.toList) y = some (.sc q)) (hk : MapKept.IsKey kd q) (hL : L[i]? = some (b, bP kd m)) (hz : j8 P et v0 = true) (hg : jL ⟨dd, .lookup t x y false, ty, pos, af, g⟩ acc) (h : DA P l fr fin sk ((k, (m q).getD (.sc v0)) :: acc) L) :
  cw P l fr fin k .e ⟨dd, .lookup t x y false, ty, pos, af, g⟩ sk acc L :=
 iL hg (fun B => gy i ht hkt hx hy hk hL (eJ hz) fun _ => .sc _) fun c L' ⟨h1, h2⟩ => by subst h1; subst h2; exact h
end
def uo (f : aP) (c : d3) (late : Bool) : Int := if c.Rune < 0 ∨ c.Rune > 1114111 then 1 else if jv f c.Glyph = false then 32 else dp late 24
theorem xJ (f : aP) (c : d3) (late : Bool) : bw Tryz.prog 116 [cf f, .agg (dS c), ce late] (aD (uo f c late)) := by
 refine aG Tryz.func116 rfl Tryz.ntmps116 rfl fun B => ?_
 unfold uo
 repeat' (first|refine ae ?_|refine a6 ?_|refine ar ?_|refine a8 ?_|refine aa ?_|refine ah a7 rfl rfl ?_|refine b9 ?_|fail)
 refine co [2, 3, 4] (c.Rune < 0 ∨ c.Rune > 1114111) rfl (fun Q' K => ?_) (fun hC => ?_) (fun hC => ?_)
 ·repeat' (first|refine aa ?_|refine ah a7 rfl rfl ?_|refine aB rfl rfl ?_|refine aE rfl rfl rfl rfl ?_|refine aU rfl rfl rfl (fun _ => ?_) (fun _ => ?_))
  all_goals exact K _ _ rfl rfl (by clear K; grind)
 ·rw [if_pos hC]
  repeat' (first|refine ae ?_|refine a6 ?_|refine am ?_|refine a8 ?_|refine aw ?_|refine aK ?_|refine aa ?_|refine ah a7 rfl rfl ?_)
  exact au rfl rfl rfl
 rw [if_neg hC]
 repeat' (first|refine ae ?_|refine a6 ?_|refine a8 ?_|refine aa ?_|refine ah a7 rfl rfl ?_|(apply bc;refine aX ?_)|fail)
 refine ay rfl (fun h => ?_) (fun h => ?_)
 ·rw [if_pos (by simpa using h)]
  repeat' (first|refine ae ?_|refine a6 ?_|refine am ?_|refine a8 ?_|refine aw ?_|refine aK ?_|refine aa ?_|refine ah a7 rfl rfl ?_)
  exact au rfl rfl rfl
 rw [if_neg (by simpa using h)]
 repeat' (first|refine ae ?_|refine a6 ?_|refine aq ?_|refine am ?_|refine a8 ?_|refine aR ?_|refine aa ?_|refine ah a7 rfl rfl ?_|(apply bc;refine aX ?_)|fail)
 exact au rfl rfl rfl
instance (f : aP) (c : d3) (late : Bool) : AD Tryz.prog 116 [cf f, .agg (dS c), ce late] (aD (uo f c late)) := ⟨xJ f c late⟩
def yf (f : aP) (i : Nat) (c : d3) : Bool := match i with | 0 => false | j + 1 => match f.Chars[j]? with | some b => decide (c.Rune ≤ b.Rune) | none => false
def gZ (f : aP) (i : Nat) (c : d3) : Int := uo f c (yf f i c)
theorem vy (f : aP) (i : Nat) (c : d3) (hc : f.Chars[i]? = some c) (hm : (f.Chars.length : Int) ≤ 1000) : bw Tryz.prog 115 [aD i, .agg (dS c), .iptr (bH f)] (aD (gZ f i c)) := by
 refine aG Tryz.func115 rfl Tryz.ntmps115 rfl fun B => ?_
 have hil := (Hq hc).1
 unfold gZ
 cases i with
 | zero =>
  repeat' (first|refine ae ?_|refine a6 ?_|refine a8 ?_|refine aa ?_|refine ah a7 rfl rfl ?_|refine b9 ?_|fail)
  refine bF 17 [(0, .v), (1, .v), (2, .v), (3, .v), (4, .v), (5, .v), (6, .v), (7, .v), (8, .v), (9, .v), (10, .v), (11, .v), (12, .v), (13, .v), (14, .v), (15, .v), (16, .v)] none ?_ trivial rfl (by kernel_rfl) (by kernel_rfl) (by kernel_rfl) mixed (by kernel_rfl) rfl
  repeat' (first|refine aM ?_|refine bD a7 ?_|(apply cL;refine d8 ?_)|refine rz rfl rfl ?_)
  refine bM [22] rfl rfl ?_
  repeat' (first|refine am ?_|refine a8 ?_|refine aa ?_|refine ah a7 rfl rfl ?_)
  exact au rfl rfl rfl
 | succ j =>
  obtain ⟨b, hb⟩ : ∃ b, f.Chars[j]? = some b := ⟨_, Eg (by omega)⟩
  have hbg : (f.Chars.map dS)[(((j + 1 : Nat) : Int) - 1).toNat]? = some (dS b) := by rw [show (((j + 1 : Nat) : Int) - 1).toNat = j by omega]; exact bO hb
  have hl : yf f (j + 1) c = decide (c.Rune ≤ b.Rune) := by simp [yf, hb]
  have hpos : decide (0 < ((j + 1 : Nat) : Int)) = true := decide_eq_true (by omega)
  rw [hl]
  repeat' (first|refine ae ?_|refine a6 ?_|refine a8 ?_|refine aa ?_|refine ah a7 rfl rfl ?_|refine b9 ?_|fail)
  refine bF 17 [(0, .v), (1, .v), (2, .v), (3, .v), (4, .v), (5, .v), (6, .v), (7, .v), (8, .v), (9, .v), (10, .v), (11, .v), (12, .v), (13, .v), (14, .v), (15, .v), (16, .v)] none ?_ trivial rfl (by kernel_rfl) (by kernel_rfl) (by kernel_rfl) mixed (by kernel_rfl) rfl
  repeat' (first|refine aM ?_|refine bD a7 ?_|fail)
  rw [hpos]
  repeat' (first|refine aM ?_|refine bD a7 ?_|(apply iM;refine m9 ?_)|(apply dk;refine dT a7 ?_)|(apply cL;refine d8 ?_)|fail)
  refine bM [22] rfl rfl ?_
  repeat' (first|refine am ?_|refine a8 ?_|refine aa ?_|refine ah a7 rfl rfl ?_)
  exact au rfl rfl rfl
def uj (a : eu) (name : Int) : Int := if name ≠ 0 then name else dp (!(decide ([a.Min, a.Def, a.Max].all fi = true ∧ a.Min ≤ a.Def ∧ a.Def ≤ a.Max))) 60
theorem xz (a : eu) (name : Int) : bw Tryz.prog 126 [.agg (eH a), aD name] (aD (uj a name)) := by
 refine aG Tryz.func126 rfl Tryz.ntmps126 rfl fun B => ?_
 unfold uj
 repeat' (first|refine ae ?_|refine a6 ?_|refine a8 ?_|refine aa ?_|refine ah a7 rfl rfl ?_|refine b9 ?_|fail)
 refine ay rfl (fun h => ?_) (fun h => ?_)
 ·rw [if_pos (Hz h)]
  repeat' (first|refine ae ?_|refine a6 ?_|refine am ?_|refine a8 ?_|refine aw ?_|refine aa ?_|refine ah a7 rfl rfl ?_)
  exact au rfl rfl rfl
 rw [if_neg (Hy h)]
 repeat' (first|refine ae ?_|refine a6 ?_|refine aq ?_|refine a8 ?_|refine ah a7 rfl rfl ?_|refine cE a7 ?_|(apply bc;refine aX ?_)|fail)
 refine cT (t := 5) [] ([a.Min, a.Def, a.Max].all fi = true ∧ a.Min ≤ a.Def ∧ a.Def ≤ a.Max) rfl (fun Q' K => ?_) ?_
 ·repeat' (first|refine aa ?_|refine ah a7 rfl rfl ?_|refine aB rfl rfl ?_|refine aE rfl rfl rfl rfl ?_|refine aU rfl rfl rfl (fun _ => ?_) (fun _ => ?_))
  all_goals exact K _ _ rfl rfl (by clear K; grind)
 repeat' (first|refine ae ?_|refine a6 ?_|refine am ?_|refine a8 ?_|refine aa ?_|refine ah a7 rfl rfl ?_|(apply bc;refine aX ?_)|fail)
 exact au rfl rfl rfl
instance (a : eu) (name : Int) : AD Tryz.prog 126 [.agg (eH a), aD name] (aD (uj a name)) := ⟨xz a name⟩
def sr (_ : Nat) (t : eL) : Int := dp (decide (¬ (-64 ≤ t.Start ∧ t.Start ≤ t.Peak ∧ t.Peak ≤ t.End ∧ t.End ≤ 64) ∨ (t.Start < 0 ∧ t.End > 0 ∧ t.Peak ≠ 0))) 61
set_option maxHeartbeats 1000000 in
theorem zG (i : Nat) (t : eL) : bw Tryz.prog 209 [aD i, .agg (rm t)] (aD (sr i t)) := by
 refine aG Tryz.func209 rfl Tryz.ntmps209 rfl fun B => ?_
 repeat' (first|refine ae ?_|refine a6 ?_|refine a8 ?_|refine aa ?_|refine ah a7 rfl rfl ?_|refine b9 ?_|fail)
 refine cT (t := 5) [3] (-64 ≤ t.Start ∧ t.Start ≤ t.Peak ∧ t.Peak ≤ t.End ∧ t.End ≤ 64) rfl (fun Q' K => ?_) ?_
 ·repeat' (first|refine aa ?_|refine ah a7 rfl rfl ?_|refine aB rfl rfl ?_|refine aE rfl rfl rfl rfl ?_|refine aU rfl rfl rfl (fun _ => ?_) (fun _ => ?_))
  all_goals exact K _ _ rfl rfl (by clear K; grind)
 repeat' (first|refine ae ?_|refine a6 ?_|refine a8 ?_|refine ah a7 rfl rfl ?_)
 refine cT (t := 6) [5] (t.Start < 0 ∧ t.End > 0 ∧ t.Peak ≠ 0) rfl (fun Q' K => ?_) ?_
 ·repeat' (first|refine aa ?_|refine ah a7 rfl rfl ?_|refine aB rfl rfl ?_|refine aE rfl rfl rfl rfl ?_|refine aU rfl rfl rfl (fun _ => ?_) (fun _ => ?_))
  all_goals exact K _ _ rfl rfl (by clear K; grind)
 have ht : sr i t = dp (!(decide (-64 ≤ t.Start ∧ t.Start ≤ t.Peak ∧ t.Peak ≤ t.End ∧ t.End ≤ 64)) || decide (t.Start < 0 ∧ t.End > 0 ∧ t.Peak ≠ 0)) 61 := by unfold sr; rw [Bool.decide_or, decide_not]
 rw [ht]
 generalize decide (-64 ≤ t.Start ∧ t.Start ≤ t.Peak ∧ t.Peak ≤ t.End ∧ t.End ≤ 64) = p
 generalize decide (t.Start < 0 ∧ t.End > 0 ∧ t.Peak ≠ 0) = q
 cases p <;> cases q
 all_goals
  repeat' (first|refine ae ?_|refine a6 ?_|refine am ?_|refine a8 ?_|refine aa ?_|refine ah a7 rfl rfl ?_|refine aB rfl rfl ?_|refine aE rfl rfl rfl rfl ?_|(apply bc;refine aX ?_)|fail)
  exact au rfl rfl rfl
def z2 (axes : Int) (r : List eL) : Int := if (r.length : Int) ≠ axes then 61 else (cD r sr).1
theorem tJ (r : List eL) (axes : Int) : bw Tryz.prog 129 [.agg (dz r), aD axes] (aD (z2 axes r)) := by
 refine aG Tryz.func129 rfl Tryz.ntmps129 rfl fun B => ?_
 unfold z2
 repeat' (first|refine ae ?_|refine a6 ?_|refine a8 ?_|refine aa ?_|refine ah a7 rfl rfl ?_|refine b9 ?_|fail)
 rw [Hv]
 refine ay rfl (fun h => ?_) (fun h => ?_)
 ·rw [if_pos (Hz h)]
  repeat' (first|refine ae ?_|refine a6 ?_|refine am ?_|refine a8 ?_|refine aw ?_|refine aa ?_|refine ah a7 rfl rfl ?_)
  exact au rfl rfl rfl
 rw [if_neg (Hy h)]
 repeat' (first|refine ae ?_|refine a6 ?_|refine aq ?_|refine a8 ?_|refine ah a7 rfl rfl ?_)
 refine aV [] [] (AI (u := .sc (.func (.func 209) #[] #[])) (g := 209) (caps := []) rfl r _ (fun _ _ => True) [] trivial (cF (fun i x _ => zG i x))) rfl rfl (Hp _) rfl fun c L1 hc => ?_
 have hc : c = bX (cD r sr) := hc
 subst hc
 unfold bX
 repeat' (first|refine ae ?_|refine a6 ?_|refine am ?_|refine a8 ?_|refine aa ?_|refine ah a7 rfl rfl ?_)
 exact au rfl rfl rfl
instance (r : List eL) (axes : Int) : AD Tryz.prog 129 [.agg (dz r), aD axes] (aD (z2 axes r)) := ⟨tJ r axes⟩
theorem s6 (f : aP) (i : Nat) (r : List eL) : bw Tryz.prog 128 [aD i, .agg (dz r), .iptr (bH f)] (aD (z2 f.Axes.length r)) := by
 refine aG Tryz.func128 rfl Tryz.ntmps128 rfl fun B => ?_
 repeat' (first|refine ae ?_|refine a6 ?_|refine am ?_|refine a8 ?_|refine aa ?_|refine ah a7 rfl rfl ?_|refine b9 ?_|(apply bc;refine aX ?_)|fail)
 rw [Hv]
 repeat' (first|fail)
 exact au rfl rfl rfl
theorem vA (i : Nat) (l : List eo) : bw Tryz.prog 131 [aD i, .imm 2 (l.map f3)] (aD (oa l)) := by
 refine aG Tryz.func131 rfl Tryz.ntmps131 rfl fun B => ?_
 repeat' (first|refine ae ?_|refine a6 ?_|refine am ?_|refine a8 ?_|refine aa ?_|refine ah a7 rfl rfl ?_|(apply bc;refine aX ?_)|fail)
 exact au rfl rfl rfl
def xM (_ : Nat) (n : Int) : Int := dp (!([n].all fi)) 1
theorem xL (i : Nat) (n : Int) : bw Tryz.prog 134 [aD i, aD n] (aD (xM i n)) := by
 refine aG Tryz.func134 rfl Tryz.ntmps134 rfl fun B => ?_
 repeat' (first|refine ae ?_|refine a6 ?_|refine am ?_|refine a8 ?_|refine aa ?_|refine ah a7 rfl rfl ?_|refine cE a7 ?_|(apply bc;refine aX ?_)|fail)
 exact au rfl rfl rfl
def jC (f : aP) : Int := if f.Unit < 16 ∨ f.Unit > 4096 then 1 else if f.Glyphs.length = 0 then 32 else 0
theorem y5 (f : aP) : bw Tryz.prog 106 [cf f] (aD (jC f)) := by
 refine aG Tryz.func106 rfl Tryz.ntmps106 rfl fun B => ?_
 unfold jC
 repeat' (first|refine ae ?_|refine a6 ?_|refine ar ?_|refine a8 ?_|refine aa ?_|refine ah a7 rfl rfl ?_|refine b9 ?_|fail)
 refine co [1] (f.Unit < 16 ∨ f.Unit > 4096) rfl (fun Q' K => ?_) (fun hC => ?_) (fun hC => ?_)
 ·repeat' (first|refine aa ?_|refine ah a7 rfl rfl ?_|refine aB rfl rfl ?_|refine aE rfl rfl rfl rfl ?_|refine aU rfl rfl rfl (fun _ => ?_) (fun _ => ?_))
  all_goals exact K _ _ rfl rfl (by clear K; grind)
 ·rw [if_pos hC]
  repeat' (first|refine ae ?_|refine a6 ?_|refine am ?_|refine a8 ?_|refine aw ?_|refine aK ?_|refine aa ?_|refine ah a7 rfl rfl ?_)
  exact au rfl rfl rfl
 rw [if_neg hC]
 repeat' (first|refine ae ?_|refine a6 ?_|refine a8 ?_|refine aa ?_|refine ah a7 rfl rfl ?_)
 rw [Hv]
 refine ay rfl (fun h => ?_) (fun h => ?_)
 ·rw [if_pos (by have := Hz h; omega)]
  repeat' (first|refine ae ?_|refine a6 ?_|refine am ?_|refine a8 ?_|refine aw ?_|refine aK ?_|refine aa ?_|refine ah a7 rfl rfl ?_)
  exact au rfl rfl rfl
 rw [if_neg (by have := Hy h; omega)]
 repeat' (first|refine ae ?_|refine a6 ?_|refine aq ?_|refine am ?_|refine a8 ?_|refine aR ?_|refine aa ?_|refine ah a7 rfl rfl ?_)
 exact au rfl rfl rfl
instance (f : aP) : AD Tryz.prog 106 [cf f] (aD (jC f)) := ⟨y5 f⟩
theorem vX (f : aP) : bw Tryz.prog 105 [.iptr (bH f)] (bX (jC f, 0)) := by
 refine aG Tryz.func105 rfl Tryz.ntmps105 rfl fun B => ?_
 repeat' (first|refine ae ?_|refine a6 ?_|refine am ?_|refine a8 ?_|refine aa ?_|refine ah a7 rfl rfl ?_|(apply bc;refine aX ?_)|fail)
 exact aS rfl rfl rfl rfl
end Go.Proofs.YtamjlkdanllgjaaGreatDoor
namespace Go.Proofs.YtamjlkdanllgjaaGreatDoor
open Go.RowKit
section
variable {P : Program} {tt : TT} {l : List Oper} {fr : bJ} {fin : lc} {sk : mI} {acc : bJ} {L : AL} {k : Nat} {dd : Option Tmp} {ty t t' : TypeId} {pos : String} {af : Array Edge} {g : Option (Nat × Bool)} {x y : Operand} {u : AV}
theorem cS (ok : dG P tt) {e sz by_ b off n cap : Nat} {q : IntKind} {i : Int} (ht : jH tt t = some (e, sz, by_)) (hx : bh (cO l.toArray acc fr af.toList) x = some (.sc (.slice (some ⟨b, off, none⟩) n cap))) (hy : bh (cO l.toArray acc fr af.toList) y = some (.sc (.int q i))) (h0 : 0 ≤ i ∧ i < n) (hg : jL ⟨dd, .indexAddr t x y, ty, pos, af, g⟩ acc) (h : DA P l fr fin sk ((k, .sc (.pointer (some ⟨b, off + i.toNat * sz, none⟩))) :: acc) L) :
  cw P l fr fin k .v ⟨dd, .indexAddr t x y, ty, pos, af, g⟩ sk acc L := gp hg (fun _ _ => (qZ (bz ok ht).1 hx hy h0).ao) h
theorem ry (ok : dG P tt) (i : Nat) {b q n : Nat} {cs ys : List AV} {e : TypeId} (ht : BT tt t = some n) (hx : bh (cO l.toArray acc fr af.toList) x = some (.sc (.pointer (some ⟨b, q, none⟩)))) (hy : bh (cO l.toArray acc fr af.toList) y = some u) (hu : u.cells = some ys) (hL : L[i]? = some (b, .box cs e)) (hn : Nat.beq ys.length n = true) (hk : Nat.ble (q + n) cs.length = true) (hg : jL ⟨dd, .store t x y, ty, pos, af, g⟩ acc) (h : ∀ c, DA P l fr fin sk ((k, c) :: acc) (fC L i (.box (ew cs q ys) e))) :
  cw P l fr fin k .e ⟨dd, .store t x y, ty, pos, af, g⟩ sk acc L := iL hg (fun _ => nc i (oz ok ht) hx hy hu hL hn hk) fun c L' h1 => by subst h1; exact h c
theorem rx {v : Value} (ht : fz P t = true) (hx : bh (cO l.toArray acc fr af.toList) x = some (.sc (.iface t v))) (hg : jL ⟨dd, .typeAssert x t' t false, ty, pos, af, g⟩ acc) (h : DA P l fr fin sk ((k, .sc v) :: acc) L) : cw P l fr fin k .v ⟨dd, .typeAssert x t' t false, ty, pos, af, g⟩ sk acc L :=
 gp hg (fun _ _ => (qY ht hx).ao) h
theorem vD (ok : dG P tt) (i : Nat) {e by_ b n cap : Nat} {cs : List AV} {c : AV} (ht : jH tt t = some (e, 1, by_)) (hz : zI tt e = some [.int .i64 0]) (hx : bh (cO l.toArray acc fr af.toList) x = some (.sc (.slice (some ⟨b, 0, none⟩) n cap))) (hy : bh (cO l.toArray acc fr af.toList) y = some u) (hu : iD u = some (1, [[c]])) (hL : L[i]? = some (b, .box cs e)) (hcl : cs.length = cap) (hn : n ≤ cap) (h63 : n + 1 ≤ 9223372036854775807) (hby : (n + 1) * by_ ≤ 140737488355328) (hg : jL ⟨dd, .call ⟨.builtin .append, #[x, y], #[t, t]⟩, ty, pos, af, g⟩ acc)
  (h : ∀ b' cs', cs'.take (n + 1) = cs.take n ++ [c] → n + 1 ≤ cs'.length → DA P l fr fin sk ((k, .sc (.slice (some ⟨b', 0, none⟩) (n + 1) cs'.length)) :: acc) ((b', .box cs' e) :: L.eraseIdx i)) :
  cw P l fr fin k .e ⟨dd, .call ⟨.builtin .append, #[x, y], #[t, t]⟩, ty, pos, af, g⟩ sk acc L :=
 iL hg (fun _ => n8 i (bz ok ht).1 (ek ok hz) hx hy (cV hu) hL hcl hn h63 hby) fun q L' ⟨b', cs', h1, h2, h3, h4⟩ => by subst h1; subst h4; exact h b' cs' h2 h3
theorem vE (ok : dG P tt) {e by_ : Nat} {c : AV} (ht : jH tt t = some (e, 1, by_)) (hz : zI tt e = some [.int .i64 0]) (hx : bh (cO l.toArray acc fr af.toList) x = some (.sc (.slice none 0 0))) (hy : bh (cO l.toArray acc fr af.toList) y = some u) (hu : iD u = some (1, [[c]])) (hby : Nat.ble by_ 140737488355328 = true) (hg : jL ⟨dd, .call ⟨.builtin .append, #[x, y], #[t, t]⟩, ty, pos, af, g⟩ acc)
  (h : ∀ b' cs', cs'.take 1 = [c] → 1 ≤ cs'.length → DA P l fr fin sk ((k, .sc (.slice (some ⟨b', 0, none⟩) 1 cs'.length)) :: acc) ((b', .box cs' e) :: L)) :
  cw P l fr fin k .e ⟨dd, .call ⟨.builtin .append, #[x, y], #[t, t]⟩, ty, pos, af, g⟩ sk acc L :=
 iL hg (fun _ => n9 (bz ok ht).1 (ek ok hz) hx hy (cV hu) (Nat.ble_eq .. ▸ hby)) fun q L' ⟨b', cs', h1, h2, h3, h4⟩ => by subst h1; subst h4; exact h b' cs' h2 h3
end
def Ck (P : Program) (t : TypeId) (name : String) (f : FuncId) (ptr : Bool) (e : TypeId) : Bool := (match P.underlying t with | some (.pointer e') => Nat.beq e' e | _ => false) && match P.info? t with
 | some ti => match ti.methods.find? (·.name == name) with
  | some m => m.path.isEmpty && (match m.func with | some (f', p') => Nat.beq f' f && (p' == ptr) | none => false)
  | none => false
 | none => false
theorem fY {P : Program} {t : TypeId} {name : String} {f : FuncId} {ptr : Bool} {e : TypeId} (h : Ck P t name f ptr e = true) : kf P t name f ptr e := by
 unfold Ck at h
 rw [Bool.and_eq_true] at h
 obtain ⟨h1, h2⟩ := h
 split at h1
 ·rename_i e' hu
  rw [Nat.beq_eq] at h1
  subst h1
  split at h2
  ·rename_i ti hti
   split at h2
   ·rename_i m hm
    rw [Bool.and_eq_true] at h2
    obtain ⟨h3, h4⟩ := h2
    split at h4
    ·rename_i f' p' hf
     rw [Bool.and_eq_true, Nat.beq_eq, beq_iff_eq] at h4
     refine ⟨hu, ti, m, hti, hm, ?_, by rw [hf, h4.1, h4.2]⟩
     simpa using h3
    ·cases h4
   ·cases h2
  ·cases h2
 ·cases h1
end Go.Proofs.YtamjlkdanllgjaaGreatDoor
namespace Go.Proofs.YtamjlkdanllgjaaGreatDoor
open Go.RowKit Go.MapKept
section
variable {P : Program} {fr : bJ} {B : Bs} {L : AL}
theorem AO.as {o : Oper} {a b : AV} (h : AO P o fr B L (fun c L' => c = a ∧ L' = L)) (hv : ∀ σ v, VR σ a v → VR σ b v) : AO P o fr B L (fun c L' => c = b ∧ L' = L) :=
 fun σ ρ w hρ hw => (h σ ρ w hρ hw).mono fun _ _ ⟨τ, c, L', h1, h2, h3, h4, h5⟩ => ⟨τ, b, L', h1, hv τ _ (by rw [← h4]; exact h2), h3, rfl, h5⟩
end
section
variable {P : Program} {tt : TT} {l : List Oper} {fr : bJ} {fin : lc} {sk : mI} {acc : bJ} {L : AL} {k : Nat} {dd : Option Tmp} {ty t t' : TypeId} {pos : String} {af : Array Edge} {g : Option (Nat × Bool)} {x y z : Operand} {u : AV}
theorem vF (i : Nat) (v0 : Value) (a : AV) {b kt et : Nat} {kd : TypeDesc} {q : Value} {m : Value → Option AV} (ht : P.underlying t = some (.map kt et)) (hkt : P.underlying kt = some kd) (hx : bh (cO l.toArray acc fr af.toList) x = some (.sc (.map (some b)))) (hy : bh (cO l.toArray acc fr af.toList) y = some (.sc q)) (hk : IsKey kd q) (hL : L[i]? = some (b, bP kd m)) (hz : j8 P et v0 = true) (ha : ∀ σ v, VR σ ((m q).getD (.sc v0)) v → VR σ a v) (hg : jL ⟨dd, .lookup t x y false, ty, pos, af, g⟩ acc) (h : DA P l fr fin sk ((k, a) :: acc) L) :
  cw P l fr fin k .e ⟨dd, .lookup t x y false, ty, pos, af, g⟩ sk acc L :=
 iL hg (fun B => (gy i ht hkt hx hy hk hL (eJ hz) fun _ => .sc _).as ha) fun c L' ⟨h1, h2⟩ => by subst h1; subst h2; exact h
theorem kv (ok : dG P tt) (L0 : AL) {e sz by_ : Nat} {q : Option (Nat × Nat)} {l1 l2 : List (List AV)} (ht : jH tt t = some (e, sz, by_)) (hx : bh (cO l.toArray acc fr af.toList) x = some (.vec q sz l1)) (hy : bh (cO l.toArray acc fr af.toList) y = some u) (hu : iD u = some (sz, l2)) (hL : L.Perm (tok q e sz l1.length ++ L0)) (h63 : l1.length + l2.length ≤ 9223372036854775807) (hby : (l1.length + l2.length) * by_ ≤ 140737488355328) (hg : jL ⟨dd, .call ⟨.builtin .append, #[x, y], #[t, t]⟩, ty, pos, af, g⟩ acc)
  (h : ∀ k', DA P l fr fin sk ((k, .vec k' sz (l1 ++ l2)) :: acc) (tok k' e sz (l1 ++ l2).length ++ L0)) :
  cw P l fr fin k .e ⟨dd, .call ⟨.builtin .append, #[x, y], #[t, t]⟩, ty, pos, af, g⟩ sk acc L :=
 iL hg (fun _ => oX L0 (bz ok ht).1 (bz ok ht).2 hx hy (cV hu) hL h63 hby) fun c L' ⟨k', h1, h2⟩ => by subst h1; subst h2; exact h k'
end
section
variable {P : Program} {r : Option Nat} {ops : Array Oper} {Q : Exit → Act → World → Prop} {nt : Nat} {D : List Deferred} {fr : bJ} {B : Bs} {L : AL} {rest : List Oper} {d : Nat} {ty t : TypeId} {pos : String} {af : Array Edge} {x y z : Operand} {u : AV}
theorem gG (i : Nat) (v0 : Value) (a : AV) {b kt et : Nat} {kd : TypeDesc} {k : Value} {m : Value → Option AV} (ht : P.underlying t = some (.map kt et)) (hkt : P.underlying kt = some kd) (hx : bh fr x = some (.sc (.map (some b)))) (hy : bh fr y = some (.sc k)) (hk : IsKey kd k) (hL : L[i]? = some (b, bP kd m)) (hz : j8 P et v0 = true) (ha : ∀ σ v, VR σ ((m k).getD (.sc v0)) v → VR σ a v) (hd : Nat.ble nt d = false)
  (h : br P r ops Q nt D rest ((d, a) :: fr) B L) : br P r ops Q nt D (⟨some d, .lookup t x y false, ty, pos, af, none⟩ :: rest) fr B L :=
 bW hd rfl ((gy i ht hkt hx hy hk hL (eJ hz) fun _ => .sc _).as ha) fun c L' ⟨h1, h2⟩ => by subst h1; subst h2; exact h
end
noncomputable def lL (m : Value → Option AV) (k : Value) (c : AV) : Value → Option AV := fun q => open Classical in if q = k then some c else m q
theorem gE {m : Value → Option AV} {k : Value} {c : AV} : lL m k c k = some c := by simp [lL]
theorem fZ {m : Value → Option AV} {k : Value} {c : AV} (q : Value) (h : q ≠ k) : lL m k c q = m q := by simp [lL, h]
def lf (m : Value → Option AV) (M : Int → Int) : Prop := ∀ z, m (.int .i64 z) = none ∧ M z = 0 ∨ m (.int .i64 z) = some (.sc (.int .i64 (M z)))
theorem lf.at {m : Value → Option AV} {M : Int → Int} (h : lf m M) (z : Int) : ∀ (σ : bT) (v : Value), VR σ ((m (.int .i64 z)).getD (.sc (.int .i64 0))) v → VR σ (.sc (.int .i64 (M z))) v := by
 intro σ v hv
 rcases h z with ⟨h1, h2⟩ | h1
 ·rw [h1] at hv; rw [h2]; exact hv
 ·rw [h1] at hv; exact hv
theorem lf.put {m : Value → Option AV} {M : Int → Int} (h : lf m M) (z c : Int) : lf (lL m (.int .i64 z) (.sc (.int .i64 c))) fun q => if q = z then c else M q := by
 intro q
 by_cases e : q = z
 ·subst e; simp only [if_true, gE]; exact .inr trivial
 ·simp only [if_neg e]; rw [fZ _ (by intro h; injection h with _ h; exact e h)]; exact h q
def mZ (m : Value → Option AV) (K : Int → Option (Nat × Nat)) (U : Int → List Int) : Prop := ∀ z, (m (.int .i64 z) = none ∧ U z = [] ∧ K z = none) ∨ m (.int .i64 z) = some (.vec (K z) 1 (aT (U z)))
theorem mZ.at {m : Value → Option AV} {K : Int → Option (Nat × Nat)} {U : Int → List Int} (h : mZ m K U) (z : Int) : ∀ (σ : bT) (v : Value), VR σ ((m (.int .i64 z)).getD (.sc (.slice none 0 0))) v → VR σ (.vec (K z) 1 (aT (U z))) v := by
 intro σ v hv
 rcases h z with ⟨h1, h2, h3⟩ | h1
 ·rw [h1] at hv; rw [h2, h3]; exact er 1 hv
 ·rw [h1] at hv; exact hv
theorem mZ.put {m : Value → Option AV} {K : Int → Option (Nat × Nat)} {U : Int → List Int} (h : mZ m K U) (z : Int) (k : Option (Nat × Nat)) (l : List Int) : mZ (lL m (.int .i64 z) (.vec k 1 (aT l))) (fun q => if q = z then k else K q) fun q => if q = z then l else U q := by
 intro q
 by_cases e : q = z
 ·subst e; simp only [if_true, gE]; exact .inr trivial
 ·simp only [if_neg e]
  rw [fZ _ (by intro h; injection h with _ h; exact e h)]
  exact h q
def kc (e : TypeId) (K : Int → Option (Nat × Nat)) (U : Int → List Int) (zs : List Int) : AL := zs.flatMap fun z => tok (K z) e 1 (aT (U z)).length
theorem lQ {e : TypeId} {K : Int → Option (Nat × Nat)} {U : Int → List Int} : ∀ {zs : List Int} {z : Int}, z ∈ zs → (kc e K U zs).Perm (tok (K z) e 1 (aT (U z)).length ++ kc e K U (zs.erase z))
 | y :: zs, z, h => by
  by_cases hz : y = z
  ·subst hz
   rw [List.erase_cons_head]
   exact Hp _
  ·have hm : z ∈ zs := by
    rcases List.mem_cons.1 h with h | h
    ·exact absurd h.symm hz
    ·exact h
   rw [List.erase_cons_tail (by simpa using hz)]
   have ih := lQ (e := e) (K := K) (U := U) hm
   unfold kc at ih ⊢
   rw [List.flatMap_cons, List.flatMap_cons]
   refine (List.Perm.append_left _ ih).trans ?_
   rw [← List.append_assoc, ← List.append_assoc]
   exact List.Perm.append_right _ List.perm_append_comm
theorem u0 {e : TypeId} {K K' : Int → Option (Nat × Nat)} {U U' : Int → List Int} {zs : List Int} (h : ∀ z ∈ zs, K z = K' z ∧ U z = U' z) : kc e K U zs = kc e K' U' zs := by
 unfold kc
 induction zs with
 | nil => rfl
 | cons z zs ih =>
  rw [List.flatMap_cons, List.flatMap_cons, ih fun y hy => h y (Hu _ hy), (h z (List.mem_cons_self ..)).1, (h z (List.mem_cons_self ..)).2]
theorem zH {e : TypeId} {K : Int → Option (Nat × Nat)} {U : Int → List Int} {zs : List Int} {z : Int} {k : Option (Nat × Nat)} {l : List Int} (hn : zs.Nodup) (h : z ∈ zs) : (tok k e 1 (aT l).length ++ kc e K U (zs.erase z)).Perm (kc e (fun q => if q = z then k else K q) (fun q => if q = z then l else U q) zs) := by
 have h1 := lQ (e := e) (K := fun q => if q = z then k else K q) (U := fun q => if q = z then l else U q) h
 simp only [if_true] at h1
 refine List.Perm.trans ?_ h1.symm
 rw [u0 (K := K) (U := U) (K' := fun q => if q = z then k else K q) (U' := fun q => if q = z then l else U q) fun y hy => by
  have hne : y ≠ z := fun e => by subst e; exact (List.Nodup.not_mem_erase hn) hy
  simp only [if_neg hne]
  exact ⟨trivial, trivial⟩]
theorem wN (e : TypeId) (U : Int → List Int) (zs : List Int) : kc e (fun _ => none) U zs = [] := by
 unfold kc tok
 induction zs with
 | nil => rfl
 | cons z zs ih => rw [List.flatMap_cons, ih]; rfl
end Go.Proofs.YtamjlkdanllgjaaGreatDoor
namespace Go.Proofs.YtamjlkdanllgjaaGreatDoor
open Go.RowKit
section
variable {P : Program} {r : Option Nat} {ops : Array Oper} {Q : Exit → Act → World → Prop} {nt : Nat} {D : List Deferred} {fr : bJ} {B : Bs} {L : AL} {cd : Code}
def mU (nt : Nat) (B : Bs) {α : Type} (Dx : α → List Deferred) (V : α → bJ) (fr0 : bJ) (C : α → Prop) (Lx : α → AL) (μ : α → Nat) (x : α) (Q : Exit → Act → World → Prop) : Exit → Act → World → Prop := Exit.then (fun a w => ∃ σ x', ga σ nt (Dx x') (V x' ++ fr0) a ∧ C x' ∧ ct B σ (Lx x') w ∧ μ x' < μ x) Q
theorem xt (ks : List Nat) {α : Type} (Dx : α → List Deferred) (V : α → bJ) (C : α → Prop) (Lx : α → AL) (μ : α → Nat) (x0 : α) {fr0 : bJ} (hk : eM fr ks = some fr0) (hV : jO (V x0) fr) (hD : D = Dx x0) (hC : C x0) (hL : ∀ σ w, ct B σ L w → ct B σ (Lx x0) w)
  (hb : ∀ x, C x → AT P r cd (mU nt B Dx V fr0 C Lx μ x Q) nt (Dx x) (V x ++ fr0) B (Lx x)) : AT P r (.loop cd) Q nt D fr B L := by
 intro σ a w ha hw
 subst hD
 classical
 let G : Nat → Act → World → Prop := fun m a w => ∃ σ x, ga σ nt (Dx x) (V x ++ fr0) a ∧ C x ∧ ct B σ (Lx x) w ∧ μ x = m
 let M : Act → World → Nat := fun a w => if h : ∃ m, G m a w ∧ ∀ m', G m' a w → m ≤ m' then h.choose else 0
 have least : ∀ a w, (∃ m, G m a w) → G (M a w) a w ∧ ∀ m', G m' a w → M a w ≤ m' := by
  rintro a w ⟨m0, hg0⟩
  have hex : ∃ m, G m a w ∧ ∀ m', G m' a w → m ≤ m' := by
   have : ∀ k, ∀ m, m ≤ k → G m a w → ∃ m, G m a w ∧ ∀ m', G m' a w → m ≤ m' := by
    intro k
    induction k with
    | zero => intro m hm hg; exact ⟨m, hg, fun m' _ => by omega⟩
    | succ k ih =>
     intro m hm hg
     by_cases h : ∃ m', m' < m ∧ G m' a w
     ·obtain ⟨m', hlt, hg'⟩ := h
      exact ih m' (by omega) hg'
     ·exact ⟨m, hg, fun m' hg' => by
       rcases Nat.lt_or_ge m' m with hlt | hge
       ·exact absurd ⟨m', hlt, hg'⟩ h
       ·exact hge⟩
   exact this m0 m0 (Nat.le_refl _) hg0
  have hM : M a w = hex.choose := dif_pos hex
  rw [hM]; exact hex.choose_spec
 refine wpIn_loop (fun a w => ∃ m, G m a w) M ⟨_, σ, x0, ha.weak (kj hV (dq ks hk)), hC, hL σ w hw, rfl⟩ ?_
 intro a w hI
 obtain ⟨⟨σ', x, hx, hj, hst, hm⟩, _⟩ := least a w hI
 refine wpIn_mono (hb x hj σ' a w hx hst) ?_
 intro e a' w' hq
 cases e with
 | normal =>
  obtain ⟨τ, x', hx', hj', hst', hlt⟩ := hq
  have hg : G (μ x') a' w' := ⟨τ, x', hx', hj', hst', rfl⟩
  refine ⟨⟨_, hg⟩, ?_⟩
  have := (least a' w' ⟨_, hg⟩).2 (μ x') hg
  omega
 | _ => exact hq
theorem ln {α : Type} {Dx : α → List Deferred} {V : α → bJ} {fr0 : bJ} {C : α → Prop} {Lx : α → AL} {μ : α → Nat} {x : α} (x' : α) (hk : eM fr (fr0.map (·.1)) = some fr0) (hV : jO (V x') fr) (hD : D = Dx x') (hC : C x') (hm : μ x' < μ x) (hL : ∀ σ w, ct B σ L w → ct B σ (Lx x') w) :
  AX P .normal (mU nt B Dx V fr0 C Lx μ x Q) nt D fr B L := fun σ a w ha hw => by
 subst hD
 exact ⟨σ, x', ha.weak (kj hV (dq _ hk)), hC, hL _ _ hw, hm⟩
theorem oJ {α : Type} {Dx : α → List Deferred} {V : α → bJ} {fr0 : bJ} {C : α → Prop} {Lx : α → AL} {μ : α → Nat} {x : α} {id : Nat} (h : AX P (.exit id) Q nt D fr B L) : AX P (.exit id) (mU nt B Dx V fr0 C Lx μ x Q) nt D fr B L := fun σ a w ha hw => h σ a w ha hw
end
section
variable {nt : Nat} {D : List Deferred} {B : Bs} {fr : bJ} {L : AL}
theorem pM {t b e sz n : Nat} {cs : List AV} {l : List (List AV)} (i : Nat) (hl : bQ fr t = some (.iptr [.sc (.slice (some ⟨b, 0, none⟩) n n)])) (hL : L[i]? = some (b, .box cs e)) (hc : cs = l.flatten) (hs : ∀ q ∈ l, q.length = sz) (hn : l.length = n) (h63 : n ≤ 9223372036854775807) : jM nt D B fr L ((t, .iptr [.imm sz l]) :: fr) ((b, .vec e sz n n) :: L.eraseIdx i) := by
 intro σ a w ha hw0
 have hw := hw0.perm (eh hL)
 obtain ⟨o, ho, vs, rfl, hvs, h1⟩ := hw.here _ (List.mem_cons_self ..)
 have hfree := hw.free _ (List.mem_cons_self ..)
 have hvl : vs.length = n * sz := by rw [← hvs.1, hc, e7 l hs, hn]
 have hst : ct B σ ((b, .vec e sz 0 n) :: L.eraseIdx i) w := by
  refine ⟨hw.os, hw.tape, hw.output, hw.size, hw.old, fun p hp => ?_, fun p hp => ?_, by simpa using hw.apart, hw.froz, fun p hp off hm => ?_, hw.grow, hw.same⟩
  ·rcases List.mem_cons.1 hp with rfl | hp'
   ·exact ⟨_, ho, _, rfl, by simp [hvl], Nat.zero_le _, by unfold maxLen; omega⟩
   ·exact hw.here p (Hu _ hp')
  ·rcases List.mem_cons.1 hp with rfl | hp'
   ·exact hw.mine (b, .box cs e) (List.mem_cons_self ..)
   ·exact hw.mine p (Hu _ hp')
  ·rcases List.mem_cons.1 hp with rfl | hp'
   ·exact hfree off trivial
   ·exact hw.free p (Hu _ hp') off hm
 obtain ⟨hst', hle⟩ := hst.freezeHead (n' := n) (xs := vs) (fun j u hj => by rw [cC ho]; simpa using hj) hvl (Nat.zero_le _) (Nat.le_refl _)
 refine ⟨_, ?_, hst'⟩
 have hv : VR (σ.add b vs) (.vec (some (b, n)) sz l) (.slice (some ⟨b, 0, none⟩) n n) := by
  have := iv (σ := σ.add b vs) (b := b) (cap := n) hs (by rw [← hc]; exact hvs.mono hle) h1 (by omega) (by unfold maxLen; omega) (fun j u hj => bT.add_at hj)
  rwa [hn] at this
 have ha' := ha.mono hle
 refine ⟨ha'.size, ha'.defers, fun t' v' hl' => ?_⟩
 rw [bV] at hl'
 by_cases e : t = t'
 ·subst e
  simp only [if_true, Option.some.injEq] at hl'
  subst hl'
  have hp := ha.look t _ hl
  generalize a.tmps.getD t undef = v0 at hp
  generalize hq : AV.iptr [.sc (.slice (some ⟨b, 0, none⟩) n n)] = q at hp
  cases hp with
  | iptr cs2 b0 off hx h =>
   injection hq with hq
   subst hq
   refine .iptr _ b0 off (fun j hj => ?_) fun j c u hc hu => ?_
   ·obtain ⟨u, hu, h1⟩ := hx j hj
    exact ⟨u, hle _ _ _ hu, h1⟩
   ·have hj : j = 0 := by
     have := (Hq hc).1
     simp at this
     exact this
    subst hj
    simp at hc
    subst hc
    obtain ⟨u', hu', _⟩ := hx 0 (by simp)
    have h2 := hle _ _ _ hu'
    rw [hu] at h2
    injection h2 with h2
    subst h2
    rw [(h 0 _ u rfl hu').sc_inv]
    exact hv.im
  | _ => cases hq
 ·rw [if_neg e] at hl'
  exact ha'.look t' v' hl'
end
end Go.Proofs.YtamjlkdanllgjaaGreatDoor
