/-
  The program: glyphs, as check looks at them, with anchors and deltas.
-/
import Derived.Test.YtjjpkibjffmceaaGreatM09
import Derived.Test.YtjjpkibjffmceaaGreatM07
namespace Go.Proofs.YtjjpkibjffmceaaGreat
open Go.RowKit
attribute [local irreducible] AT bT AX AO Av Kt bk ej DA cX
theorem zJ : iE Tryz.prog 318 := ⟨⟨_, _, Tryz.underlying318, ⟨by decide, by decide⟩, ⟨rfl, rfl⟩, Tryz.underlying3, Tryz.underlying3⟩, Tryz.stoodInHeld318⟩
theorem Dq : iE Tryz.prog 321 := ⟨⟨_, _, Tryz.underlying321, ⟨by decide, by decide⟩, ⟨rfl, rfl⟩, Tryz.underlying3, Tryz.underlying3⟩, Tryz.stoodInHeld321⟩
def mI (l : List dt) (a b : Int) : Option AV := if ∃ x ∈ l, x.Kind = a ∧ x.Class = b then some (cF true) else none
theorem yJ : mI [] = fun _ _ => none := by funext a b; simp [mI]
theorem wF (l : List dt) (a b : Int) : (mI l a b).getD (cF false) = cF (decide (∃ x ∈ l, x.Kind = a ∧ x.Class = b)) := by
 unfold mI
 by_cases h : ∃ x ∈ l, x.Kind = a ∧ x.Class = b
 ·rw [if_pos h, decide_eq_true h]; rfl
 ·rw [if_neg h, decide_eq_false h]; rfl
theorem wG {l : List dt} {i : Nat} {x : dt} (h : l[i]? = some x) : mI (l.take (i + 1)) x.Kind x.Class = some (cF true) := by
 unfold mI
 rw [if_pos ⟨x, by rw [List.take_add_one, h]; simp, rfl, rfl⟩]
theorem um {l : List dt} {i : Nat} {x : dt} (h : l[i]? = some x) (p q : Int) (hne : ¬ (p = x.Kind ∧ q = x.Class)) : mI (l.take (i + 1)) p q = mI (l.take i) p q := by
 unfold mI
 have : (∃ y ∈ l.take (i + 1), y.Kind = p ∧ y.Class = q) ↔ ∃ y ∈ l.take i, y.Kind = p ∧ y.Class = q := by
  rw [List.take_add_one, h]
  simp only [Option.toList_some, List.mem_append, List.mem_singleton]
  constructor
  ·rintro ⟨y, hy | rfl, h1⟩
   ·exact ⟨y, hy, h1⟩
   ·exact absurd ⟨h1.1.symm, h1.2.symm⟩ hne
  ·rintro ⟨y, hy, h1⟩
   exact ⟨y, Or.inl hy, h1⟩
 by_cases hc : ∃ y ∈ l.take i, y.Kind = p ∧ y.Class = q
 ·rw [if_pos hc, if_pos (this.2 hc)]
 ·rw [if_neg hc, if_neg (fun h => hc (this.1 h))]
set_option maxHeartbeats 1000000 in
theorem tv (g : bf) (i : Nat) (a : dt) (ha : g.Anchors[i]? = some a) (m : Nat) : AC Tryz.prog 221 [aM i, .agg (ct a), .iptr [cF g.Mark], .iptr [.sc (.map (some m))]] [(m, gJ (mI (g.Anchors.take i)))] fun c L' => c = aM (kT g i a) ∧ (kT g i a = 0 → L' = [(m, gJ (mI (g.Anchors.take (i + 1))))]) := by
 refine aP Tryz.func221 rfl Tryz.ntmps221 rfl fun B => ?_
 repeat' (first|refine ah ?_|refine a7 ?_|refine a8 ?_|refine aa ?_|refine ae a6 rfl rfl ?_|(apply aH; first|refine ai 7 a6 0 rfl rfl rfl rfl rfl rfl rfl rfl ?_|refine ai 7 a6 1 rfl rfl rfl rfl rfl rfl rfl rfl ?_|refine ai 7 a6 2 rfl rfl rfl rfl rfl rfl rfl rfl ?_|refine aj a6 0 rfl rfl rfl rfl rfl rfl rfl ?_|refine aj a6 1 rfl rfl rfl rfl rfl rfl rfl ?_|refine aj a6 2 rfl rfl rfl rfl rfl rfl rfl ?_|refine aj a6 3 rfl rfl rfl rfl rfl rfl rfl ?_|fail)|refine be ?_|refine b5 a6 fun _=>?_|fail)
 refine cZ (t := 8) [2, 3, 5, 7] (a.Kind = 3 ∨ a.Kind = 4) rfl (fun Q' K => ?_) ?_
 ·repeat' (first|refine aa ?_|refine ae a6 rfl rfl ?_|refine aG rfl rfl ?_|refine aL rfl rfl rfl rfl ?_|refine bc rfl rfl rfl (fun _ => ?_) (fun _ => ?_))
  all_goals exact K _ _ rfl rfl (by clear K; grind)
 repeat' (first|refine ah ?_|refine a7 ?_|refine aq ?_|refine a8 ?_|refine ae a6 rfl rfl ?_)
 refine cZ (t := 22) [2, 3, 5, 7, 8] (a.Kind < 1 ∨ a.Kind > 4) rfl (fun Q' K => ?_) ?_
 ·repeat' (first|refine aa ?_|refine ae a6 rfl rfl ?_|refine aG rfl rfl ?_|refine aL rfl rfl rfl rfl ?_|refine bc rfl rfl rfl (fun _ => ?_) (fun _ => ?_))
  all_goals exact K _ _ rfl rfl (by clear K; grind)
 repeat' (first|refine a8 ?_)
 refine aw rfl (fun h1 => ?_) (fun h1 => ?_)
 ·have h0 := h1
  replace h1 := Gz h1
  rw [h0]
  repeat' (first|refine ah ?_|refine a7 ?_|refine au ?_|refine ar ?_|refine a8 ?_|refine aF ?_|refine aT ?_|refine aa ?_|refine ae a6 rfl rfl ?_|refine bQ rfl ?_)
  refine aA rfl rfl ?_
  rw [show kT g i a = 35 from if_pos (.inl h1)]
  exact ⟨rfl, fun e => absurd e (by decide)⟩
 have h0 := h1
 replace h1 := Gy h1
 rw [h0]
 clear h0
 repeat' (first|refine ah ?_|refine a7 ?_|refine ae a6 rfl rfl ?_)
 refine cZ (t := 22) [2, 3, 5, 7, 8] (a.Class < 0 ∨ a.Class > 15) rfl (fun Q' K => ?_) ?_
 ·repeat' (first|refine aa ?_|refine ae a6 rfl rfl ?_|refine aG rfl rfl ?_|refine aL rfl rfl rfl rfl ?_|refine bc rfl rfl rfl (fun _ => ?_) (fun _ => ?_))
  all_goals exact K _ _ rfl rfl (by clear K; grind)
 repeat' (first|refine a8 ?_)
 refine aw rfl (fun h2 => ?_) (fun h2 => ?_)
 ·have h0 := h2
  replace h2 := Gz h2
  rw [h0]
  repeat' (first|refine ah ?_|refine a7 ?_|refine au ?_|refine ar ?_|refine a8 ?_|refine aF ?_|refine aT ?_|refine aa ?_|refine ae a6 rfl rfl ?_|refine bQ rfl ?_)
  refine aA rfl rfl ?_
  rw [show kT g i a = 35 from if_pos (.inr (.inl h2))]
  exact ⟨rfl, fun e => absurd e (by decide)⟩
 have h0 := h2
 replace h2 := Gy h2
 rw [h0]
 clear h0
 repeat' (first|refine ah ?_|refine a7 ?_|refine ae a6 rfl rfl ?_)
 refine cZ (t := 22) [2, 3, 5, 7] ((a.Kind = 3 ∨ a.Kind = 4) ∧ a.Class ≠ 0) rfl (fun Q' K => ?_) ?_
 ·generalize hj : decide (a.Kind = 3 ∨ a.Kind = 4) = j
  have hj' : (a.Kind = 3 ∨ a.Kind = 4) ↔ j = true := by rw [← hj, decide_eq_true_eq]
  repeat' (first|refine aa ?_|refine ae a6 rfl rfl ?_|refine aG rfl rfl ?_|refine aL rfl rfl rfl rfl ?_|refine bc rfl rfl rfl (fun _ => ?_) (fun _ => ?_))
  all_goals exact K _ _ (by first | rfl | (subst_vars; rfl)) rfl (by clear K; grind)
 repeat' (first|refine a8 ?_)
 refine aw rfl (fun h3 => ?_) (fun h3 => ?_)
 ·have h0 := h3
  replace h3 := Gz h3
  rw [h0]
  repeat' (first|refine ah ?_|refine a7 ?_|refine au ?_|refine ar ?_|refine a8 ?_|refine aF ?_|refine aT ?_|refine aa ?_|refine ae a6 rfl rfl ?_|refine bQ rfl ?_)
  refine aA rfl rfl ?_
  rw [show kT g i a = 35 from if_pos (.inr (.inr (.inl h3)))]
  exact ⟨rfl, fun e => absurd e (by decide)⟩
 have h0 := h3
 replace h3 := Gy h3
 rw [h0]
 clear h0
 repeat' (first|refine ah ?_|refine a7 ?_|refine a8 ?_|refine aa ?_|refine ae a6 rfl rfl ?_|refine bz a6 ?_|(apply bA;refine bh ?_)|fail)
 refine aw rfl (fun h4 => ?_) (fun h4 => ?_)
 ·rw [h4]
  repeat' (first|refine ah ?_|refine a7 ?_|refine au ?_|refine ar ?_|refine a8 ?_|refine aF ?_|refine aT ?_|refine aa ?_|refine ae a6 rfl rfl ?_|refine bQ rfl ?_)
  refine aA rfl rfl ?_
  rw [show kT g i a = 35 from if_pos (.inr (.inr (.inr (.inl (by rw [← Bool.not_eq_true', h4])))))]
  exact ⟨rfl, fun e => absurd e (by decide)⟩
 rw [h4]
 repeat' (first|refine ah ?_|refine a7 ?_|refine ae a6 rfl rfl ?_)
 refine cZ (t := 22) [3, 7] (a.Kind = 2 ∧ g.Mark = false) rfl (fun Q' K => ?_) ?_
 ·repeat' (first|refine aa ?_|refine ae a6 rfl rfl ?_|refine aG rfl rfl ?_|refine aL rfl rfl rfl rfl ?_|refine bc rfl rfl rfl (fun _ => ?_) (fun _ => ?_))
  all_goals exact K _ _ rfl rfl (by clear K; grind)
 repeat' (first|refine a8 ?_)
 refine aw rfl (fun h5 => ?_) (fun h5 => ?_)
 ·have h0 := h5
  replace h5 := Gz h5
  rw [h0]
  repeat' (first|refine ah ?_|refine a7 ?_|refine au ?_|refine ar ?_|refine a8 ?_|refine aF ?_|refine aT ?_|refine aa ?_|refine ae a6 rfl rfl ?_|refine bQ rfl ?_)
  refine aA rfl rfl ?_
  rw [show kT g i a = 35 from if_pos (.inr (.inr (.inr (.inr (.inl h5)))))]
  exact ⟨rfl, fun e => absurd e (by decide)⟩
 have h0 := h5
 replace h5 := Gy h5
 rw [h0]
 clear h0
 repeat' (first|refine a7 ?_|refine ae a6 rfl rfl ?_)
 refine uq 0 (.bool false) Tryz.underlying316 zJ rfl rfl rfl (by kernel_rfl) rfl ?_
 rw [wF]
 repeat' (first|refine a8 ?_|refine aa ?_|refine ae a6 rfl rfl ?_)
 refine aw rfl (fun h6 => ?_) (fun h6 => ?_)
 ·rw [h6]
  repeat' (first|refine ah ?_|refine a7 ?_|refine ar ?_|refine a8 ?_|refine aF ?_|refine aT ?_|refine aa ?_|refine ae a6 rfl rfl ?_)
  refine aA rfl rfl ?_
  rw [show kT g i a = 35 from if_pos (.inr (.inr (.inr (.inr (.inr (Gz h6))))))]
  exact ⟨rfl, fun e => absurd e (by decide)⟩
 rw [h6]
 repeat' (first|refine ah ?_|refine a7 ?_|refine au ?_|refine a8 ?_|refine aI ?_|refine ae a6 rfl rfl ?_)
 refine re 0 (mI (g.Anchors.take (i + 1))) Tryz.underlying316 zJ rfl rfl rfl rfl (wG ha) (um ha) ?_
 repeat' (first|refine ah ?_|refine a7 ?_|refine ar ?_|refine a8 ?_|refine aa ?_|refine ae a6 rfl rfl ?_)
 refine aA rfl rfl ?_
 have h4' : [a.X, a.Y].all fN = true := by simpa using h4
 have h6' := Gy h6
 rw [show kT g i a = 0 from if_neg (by
  rintro (h | h | h | h | h | h)
  ·exact h1 h
  ·exact h2 h
  ·exact h3 h
  ·rw [h4'] at h; cases h
  ·exact h5 h
  ·exact h6' h)]
 exact ⟨rfl, fun _ => rfl⟩
def pg (a b c d : Int) : Bool := decide (a < c ∨ (a = c ∧ b < d))
theorem tH (a b c d : Int) : bO Tryz.prog 225 [.agg [aM a, aM b], .agg [aM c, aM d]] (cF (pg a b c d)) := by
 refine aP Tryz.func225 rfl Tryz.ntmps225 rfl fun B => ?_
 repeat' (first|refine ah ?_|refine a7 ?_|refine a8 ?_|refine aa ?_|refine ae a6 rfl rfl ?_|refine be ?_|fail)
 refine cZ (t := 4) [] (pg a b c d = true) rfl (fun Q' K => ?_) ?_
 ·repeat' (first|refine aa ?_|refine ae a6 rfl rfl ?_|refine aG rfl rfl ?_|refine aL rfl rfl rfl rfl ?_|refine dm rfl rfl rfl ?_|refine bc rfl rfl rfl (fun _ => ?_) (fun _ => ?_))
  all_goals exact K _ _ rfl rfl (by clear K; unfold pg; grind)
 repeat' (first|refine ar ?_|refine a8 ?_)
 refine aA rfl rfl ?_
 simp
def fy (l : List dB) (i : Nat) : Int × Int := match i with | 0 => (0, 0) | j + 1 => match l[j]? with | some b => (b.Region, b.Point) | none => (0, 0)
def oI (g : bf) (i : Nat) (d : dB) : Bool := decide (0 < i ∧ ((d.Region = (fy g.Deltas i).1 ∧ d.Point = (fy g.Deltas i).2) ∨ pg d.Region d.Point (fy g.Deltas i).1 (fy g.Deltas i).2 = true))
theorem B5 {g : bf} {i : Nat} {d : dB} (hd : g.Deltas[i]? = some d) : (match i with | 0 => false | j + 1 => match g.Deltas[j]? with | some b => decide (d.Region < b.Region ∨ (d.Region = b.Region ∧ d.Point ≤ b.Point)) | none => false) = oI g i d := by
 unfold oI
 cases i with
 | zero => simp
 | succ j =>
  have hj : j < g.Deltas.length := by have := (Gn hd).1; omega
  obtain ⟨b, hb⟩ : ∃ b, g.Deltas[j]? = some b := ⟨_, Ds hj⟩
  simp only [hb, fy, pg]
  rw [Bool.eq_iff_iff, decide_eq_true_eq, decide_eq_true_eq, decide_eq_true_eq]
  omega
theorem Ar {f : aJ} {g : bf} {i : Nat} {d : dB} (hd : g.Deltas[i]? = some d) : pD f g i d = if d.Region < 0 ∨ d.Region ≥ f.Regions.length then 61 else if (d.Point < -1 ∨ d.Point ≥ g.Points.length) ∨ [d.X, d.Y].all fN = false ∨ (d.Point = -1 ∧ d.Y ≠ 0) then 30 else if oI g i d = true then 24 else 0 := by
 unfold pD
 rw [← B5 hd]
 cases i <;> rfl
set_option maxHeartbeats 1000000 in
theorem wg (f : aJ) (g : bf) (i : Nat) (d : dB) (hd : g.Deltas[i]? = some d) (R N : Int) (hR : R = f.Regions.length) (hN : N = g.Points.length) (b : Nat) : AC Tryz.prog 224 [aM i, .agg (cW d), .iptr [aM R], .iptr [aM N], .sc (.pointer (some ⟨b, 0, none⟩))] [(b, .box [aM (fy g.Deltas i).1, aM (fy g.Deltas i).2] 321)] fun c L' => c = aM (pD f g i d) ∧ (pD f g i d = 0 → L' = [(b, .box [aM (fy g.Deltas (i + 1)).1, aM (fy g.Deltas (i + 1)).2] 321)]) := by
 refine aP Tryz.func224 rfl Tryz.ntmps224 rfl fun B => ?_
 rw [Ar hd, ← hR, ← hN]
 have hnext : fy g.Deltas (i + 1) = (d.Region, d.Point) := by simp only [fy, hd]
 rw [hnext]
 repeat' (first|refine ah ?_|refine a7 ?_|refine aq ?_|refine a8 ?_|refine aa ?_|refine ae a6 rfl rfl ?_|(apply aH; first|refine ai 8 a6 0 rfl rfl rfl rfl rfl rfl rfl rfl ?_|refine ai 8 a6 1 rfl rfl rfl rfl rfl rfl rfl rfl ?_|refine ai 8 a6 2 rfl rfl rfl rfl rfl rfl rfl rfl ?_|refine aj a6 0 rfl rfl rfl rfl rfl rfl rfl ?_|refine aj a6 1 rfl rfl rfl rfl rfl rfl rfl ?_|refine aj a6 2 rfl rfl rfl rfl rfl rfl rfl ?_|refine aj a6 3 rfl rfl rfl rfl rfl rfl rfl ?_|fail)|refine be ?_|refine b5 a6 fun _=>?_|fail)
 refine dJ [0, 3, 4, 6, 8] (d.Region < 0 ∨ d.Region ≥ R) rfl (fun Q' K => ?_) (fun h1 => ?_) (fun h1 => ?_)
 ·repeat' (first|refine aa ?_|refine ae a6 rfl rfl ?_|refine aG rfl rfl ?_|refine aL rfl rfl rfl rfl ?_|refine bc rfl rfl rfl (fun _ => ?_) (fun _ => ?_))
  all_goals exact K _ _ rfl rfl (by clear K; grind)
 ·rw [if_pos h1]
  repeat' (first|refine ah ?_|refine a7 ?_|refine ar ?_|refine a8 ?_|refine aF ?_|refine aT ?_|refine aa ?_|refine ae a6 rfl rfl ?_)
  exact aA rfl rfl ⟨rfl, fun e => absurd e (by decide)⟩
 rw [if_neg h1]
 repeat' (first|refine ah ?_|refine a7 ?_|refine ae a6 rfl rfl ?_)
 refine cZ (t := 24) [0, 4, 6, 8] (d.Point < -1 ∨ d.Point ≥ N) rfl (fun Q' K => ?_) ?_
 ·repeat' (first|refine aa ?_|refine ae a6 rfl rfl ?_|refine aG rfl rfl ?_|refine aL rfl rfl rfl rfl ?_|refine bc rfl rfl rfl (fun _ => ?_) (fun _ => ?_))
  all_goals exact K _ _ rfl rfl (by clear K; grind)
 repeat' (first|refine a8 ?_)
 refine aw rfl (fun h2 => ?_) (fun h2 => ?_)
 ·have h0 := h2
  replace h2 := Gz h2
  rw [h0]
  rw [if_pos (.inl h2)]
  repeat' (first|refine ah ?_|refine a7 ?_|refine au ?_|refine ar ?_|refine a8 ?_|refine aF ?_|refine aT ?_|refine aa ?_|refine ae a6 rfl rfl ?_|refine bQ rfl ?_)
  exact aA rfl rfl ⟨rfl, fun e => absurd e (by decide)⟩
 have h0 := h2
 replace h2 := Gy h2
 rw [h0]
 clear h0
 repeat' (first|refine ah ?_|refine a7 ?_|refine a8 ?_|refine aa ?_|refine ae a6 rfl rfl ?_|refine bz a6 ?_|(apply bA;refine bh ?_)|fail)
 refine aw rfl (fun h3 => ?_) (fun h3 => ?_)
 ·rw [if_pos (.inr (.inl (by rw [← Bool.not_eq_true', h3]))), h3]
  repeat' (first|refine ah ?_|refine a7 ?_|refine au ?_|refine ar ?_|refine a8 ?_|refine aF ?_|refine aT ?_|refine aa ?_|refine ae a6 rfl rfl ?_|refine bQ rfl ?_)
  exact aA rfl rfl ⟨rfl, fun e => absurd e (by decide)⟩
 rw [h3]
 repeat' (first|refine a7 ?_|refine ae a6 rfl rfl ?_)
 refine cZ (t := 24) [0, 4, 8] (d.Point = -1 ∧ d.Y ≠ 0) rfl (fun Q' K => ?_) ?_
 ·repeat' (first|refine aa ?_|refine ae a6 rfl rfl ?_|refine aG rfl rfl ?_|refine aL rfl rfl rfl rfl ?_|refine bc rfl rfl rfl (fun _ => ?_) (fun _ => ?_))
  all_goals exact K _ _ rfl rfl (by clear K; grind)
 repeat' (first|refine a8 ?_)
 refine aw rfl (fun h4 => ?_) (fun h4 => ?_)
 ·have h0 := h4
  replace h4 := Gz h4
  rw [h0]
  rw [if_pos (.inr (.inr h4))]
  repeat' (first|refine ah ?_|refine a7 ?_|refine ar ?_|refine a8 ?_|refine aF ?_|refine aT ?_|refine aa ?_|refine ae a6 rfl rfl ?_)
  exact aA rfl rfl ⟨rfl, fun e => absurd e (by decide)⟩
 have h0 := h4
 replace h4 := Gy h4
 rw [h0]
 clear h0
 have h3' : [d.X, d.Y].all fN = true := by simpa using h3
 rw [if_neg (by
  rintro (h | h | h)
  ·exact h2 h
  ·rw [h3'] at h; cases h
  ·exact h4 h)]
 repeat' (first|refine ah ?_|refine a7 ?_|refine ae a6 rfl rfl ?_)
 refine dJ [4, 8] (oI g i d = true) rfl (fun Q' K => ?_) (fun h5 => ?_) (fun h5 => ?_)
 ·repeat' (first|refine aa ?_|refine ae a6 rfl rfl ?_|refine aG rfl rfl ?_|refine aL rfl rfl rfl rfl ?_|refine dm rfl rfl rfl ?_|(apply bB; first|refine ak a6 0 rfl rfl rfl rfl rfl ?_|refine ak a6 1 rfl rfl rfl rfl rfl ?_|refine ak a6 2 rfl rfl rfl rfl rfl ?_|refine ak a6 3 rfl rfl rfl rfl rfl ?_|refine aD a6 0 rfl rfl rfl rfl rfl ?_|refine aD a6 1 rfl rfl rfl rfl rfl ?_|refine aD a6 2 rfl rfl rfl rfl rfl ?_|refine ak a6 1 rfl rfl rfl (by assumption) rfl ?_|refine ak a6 0 rfl rfl rfl (by assumption) rfl ?_|fail)|refine bc rfl rfl rfl (fun _ => ?_) (fun _ => ?_))
  all_goals first
   | exact K _ _ rfl rfl (by clear K; unfold oI; grind)
   | (refine yR Dq Tryz.eqGuardType321 rfl rfl rfl ?_)
  repeat' (first|refine aa ?_|refine ae a6 rfl rfl ?_|refine aG rfl rfl ?_|refine aL rfl rfl rfl rfl ?_|(apply bB; first|refine ak a6 0 rfl rfl rfl rfl rfl ?_|refine ak a6 1 rfl rfl rfl rfl rfl ?_|refine ak a6 2 rfl rfl rfl rfl rfl ?_|refine ak a6 3 rfl rfl rfl rfl rfl ?_|refine aD a6 0 rfl rfl rfl rfl rfl ?_|refine aD a6 1 rfl rfl rfl rfl rfl ?_|refine aD a6 2 rfl rfl rfl rfl rfl ?_|refine ak a6 1 rfl rfl rfl (by assumption) rfl ?_|refine ak a6 0 rfl rfl rfl (by assumption) rfl ?_|fail)|refine bc rfl rfl rfl (fun _ => ?_) (fun _ => ?_))
  all_goals first
   | exact K _ _ rfl rfl (by clear K; unfold oI; grind)
   | (refine bh (hc := ⟨tH d.Region d.Point (fy g.Deltas i).1 (fy g.Deltas i).2⟩) ?_)
  repeat' (first|refine aa ?_|refine ae a6 rfl rfl ?_|refine aG rfl rfl ?_)
  all_goals exact K _ _ rfl rfl (by clear K; unfold oI; grind)
 ·rw [if_pos h5]
  repeat' (first|refine ah ?_|refine a7 ?_|refine ar ?_|refine a8 ?_|refine aF ?_|refine aT ?_|refine aa ?_|refine ae a6 rfl rfl ?_)
  exact aA rfl rfl ⟨rfl, fun e => absurd e (by decide)⟩
 rw [if_neg h5]
 repeat' (first|refine ah ?_|refine a7 ?_|refine au ?_|refine ar ?_|refine a8 ?_|refine aI ?_|refine aa ?_|refine ae a6 rfl rfl ?_|(apply aH; first|refine ai 8 a6 0 rfl rfl rfl rfl rfl rfl rfl rfl ?_|refine ai 8 a6 1 rfl rfl rfl rfl rfl rfl rfl rfl ?_|refine ai 8 a6 2 rfl rfl rfl rfl rfl rfl rfl rfl ?_|refine aj a6 0 rfl rfl rfl rfl rfl rfl rfl ?_|refine aj a6 1 rfl rfl rfl rfl rfl rfl rfl ?_|refine aj a6 2 rfl rfl rfl rfl rfl rfl rfl ?_|refine aj a6 3 rfl rfl rfl rfl rfl rfl rfl ?_|fail))
 refine aA rfl rfl ⟨rfl, fun e => ?_⟩
 rfl
set_option maxHeartbeats 2000000 in
theorem wp (f : aJ) (g : bf) (name : Int) : bO Tryz.prog 118 [cr f, .agg (bb g), aM name] (aM (mF f g name)) := by
 refine aP Tryz.func118 rfl Tryz.ntmps118 rfl fun B => ?_
 repeat' (first|refine ah ?_|refine a7 ?_|refine a8 ?_|refine aa ?_|refine ae a6 rfl rfl ?_|refine be ?_|fail)
 refine bt 30 [(0, .v), (1, .v), (2, .v), (3, .v), (4, .v), (5, .v), (6, .v), (7, .v), (8, .v), (9, .v), (12, .v), (13, .v), (14, .v), (15, .v), (16, .v), (17, .v), (18, .v), (19, .v), (20, .v), (23, .v), (10, .e), (11, .v), (21, .e), (22, .v), (24, .v), (25, .e), (26, .v), (27, .v), (28, .v), (29, .v)] none ?_ trivial rfl (by kernel_rfl) (by kernel_rfl) (by kernel_rfl) mixed (by kernel_rfl) rfl
 repeat' (first|refine aE ?_|refine aZ a6 ?_|(apply bX;refine cm ?_)|fail)
 refine eT [] [] (tw g.Mark) rfl rfl (Gm _) trivial fun c L1 ⟨m, hc, hL⟩ => ?_
 subst hc; subst hL
 repeat' (first|refine aE ?_|(apply bX;refine cm ?_)|fail)
 refine eT [] _ (wh (f.Regions.map bo).length (g.Points.map cP).length) rfl rfl (Gm _) trivial fun c L1 ⟨b, hc, hL⟩ => ?_
 subst hc; subst hL
 repeat' (first|refine aE ?_|(apply bX;refine cm ?_)|refine ee a6 ?_|fail)
 refine eT (L := [(b, .box [aM 0, aM 0] 321), (m, gJ fun _ _ => none)]) _ [] (iH [⟨159, [.iptr [aM name]], [], name, 0⟩, ⟨160, [.iptr (bb g)], [], ii g, 0⟩, ⟨217, [.iptr [.imm 3 (g.Parts.map cn)], .iptr [aM 8], .iptr [.fn 163 [.iptr (bZ f)]]], [], (ck 8 g.Parts (kI f)).1, (ck 8 g.Parts (kI f)).2⟩, ⟨219, [.iptr [.imm 4 (g.Anchors.map ct)], .iptr [aM 16], .iptr [.fn 221 [.iptr [cF g.Mark], .iptr [.sc (.map (some m))]]]], [(m, gJ fun _ _ => none)], (ck 16 g.Anchors (kT g)).1, (ck 16 g.Anchors (kT g)).2⟩, ⟨222, [.iptr [.imm 4 (g.Deltas.map cW)], .iptr [aM 400], .iptr [.fn 224 [.iptr [aM (f.Regions.map bo).length], .iptr [aM (g.Points.map cP).length], .sc (.pointer (some ⟨b, 0, none⟩))]]], [(b, .box [aM 0, aM 0] 321)], (ck 400 g.Deltas (pD f g)).1, (ck 400 g.Deltas (pD f g)).2⟩, ⟨169, [.iptr (bb g)], [], lY g.Hint, 0⟩] ?_) rfl rfl (List.Perm.swap ..) trivial fun c L1 hc => ?_
 ·refine ⟨⟨inferInstance, u5 name⟩, fun _ => ⟨⟨inferInstance, u6 g⟩, fun _ => ⟨⟨inferInstance, BA rfl g.Parts 8 _ (fun _ _ => True) [] trivial (fun _ => dk fun i x _ => u7 f i x)⟩, fun _ => ⟨⟨inferInstance, BB rfl g.Anchors 16 (fB g.Anchors (kT g)) (fun i L => L = [(m, gJ (mI (g.Anchors.take i)))]) _ (by rw [List.take_zero, yJ]) ?_⟩, fun _ => ⟨⟨inferInstance, BC rfl g.Deltas 400 (fB g.Deltas (pD f g)) (fun i L => L = [(b, .box [aM (fy g.Deltas i).1, aM (fy g.Deltas i).2] 321)]) _ rfl ?_⟩, fun _ => ⟨⟨inferInstance, u9 g⟩, fun _ => trivial⟩⟩⟩⟩⟩⟩
  ·intro _ i x L hx hL
   subst hL
   rw [gT hx]
   exact tv g i x hx m
  ·intro _ i x L hx hL
   subst hL
   rw [gT hx]
   exact wg f g i x hx _ _ (by rw [Gu]) (by rw [Gu]) b
 ·rw [jl] at hc
  subst hc
  unfold cq
  repeat' (first|refine aE ?_|refine aZ a6 ?_|fail)
  refine br [7, 37] rfl rfl ?_
  repeat' (first|refine ah ?_|refine a7 ?_|refine ar ?_|refine a8 ?_|refine aa ?_|refine ae a6 rfl rfl ?_)
  exact aA rfl rfl rfl
instance (f : aJ) (g : bf) (name : Int) : AD Tryz.prog 118 [cr f, .agg (bb g), aM name] (aM (mF f g name)) := ⟨wp f g name⟩
section
variable {P : Program} {l : List Oper} {fr : ca} {fin : jz} {sk : lm} {acc : ca} {L : AL} {k : Nat} {dd : Option Tmp} {ty t : TypeId} {pos : String} {af : Array Edge} {g : Option (Nat × Bool)} {x y : Operand}
theorem oq (i : Nat) (v0 : Value) {b kt et : Nat} {kd : TypeDesc} {q : Value} {m : Value → Option AV} (ht : P.underlying t = some (.map kt et)) (hkt : P.underlying kt = some kd) (hx : bH (cM l.toArray acc fr af.toList) x = some (.sc (.map (some b)))) (hy : bH (cM l.toArray acc fr af.toList) y = some (.sc q)) (hk : MapKept.IsKey kd q) (hL : L[i]? = some (b, cj kd m)) (hz : ju P et v0 = true) (hg : iC ⟨dd, .lookup t x y false, ty, pos, af, g⟩ acc) (h : DA P l fr fin sk ((k, (m q).getD (.sc v0)) :: acc) L) :
  cX P l fr fin k .e ⟨dd, .lookup t x y false, ty, pos, af, g⟩ sk acc L :=
 gY hg (fun B => iF i ht hkt hx hy hk hL (fa hz) fun _ => .sc _) fun c L' ⟨h1, h2⟩ => by subst h1; subst h2; exact h
end
def s6 (f : aJ) (c : dO) (late : Bool) : Int := if c.Rune < 0 ∨ c.Rune > 1114111 then 1 else if jS f c.Glyph = false then 32 else dX late 24
theorem xT (f : aJ) (c : dO) (late : Bool) : bO Tryz.prog 125 [cr f, .agg (ci c), cF late] (aM (s6 f c late)) := by
 refine aP Tryz.func125 rfl Tryz.ntmps125 rfl fun B => ?_
 unfold s6
 repeat' (first|refine ah ?_|refine a7 ?_|refine aq ?_|refine a8 ?_|refine aa ?_|refine ae a6 rfl rfl ?_|refine be ?_|fail)
 refine dJ [2, 3, 4] (c.Rune < 0 ∨ c.Rune > 1114111) rfl (fun Q' K => ?_) (fun hC => ?_) (fun hC => ?_)
 ·repeat' (first|refine aa ?_|refine ae a6 rfl rfl ?_|refine aG rfl rfl ?_|refine aL rfl rfl rfl rfl ?_|refine bc rfl rfl rfl (fun _ => ?_) (fun _ => ?_))
  all_goals exact K _ _ rfl rfl (by clear K; grind)
 ·rw [if_pos hC]
  repeat' (first|refine ah ?_|refine a7 ?_|refine ar ?_|refine a8 ?_|refine aF ?_|refine aT ?_|refine aa ?_|refine ae a6 rfl rfl ?_)
  exact aA rfl rfl rfl
 rw [if_neg hC]
 repeat' (first|refine ah ?_|refine a7 ?_|refine a8 ?_|refine aa ?_|refine ae a6 rfl rfl ?_|(apply bA;refine bh ?_)|fail)
 refine aw rfl (fun h => ?_) (fun h => ?_)
 ·rw [if_pos (by simpa using h)]
  repeat' (first|refine ah ?_|refine a7 ?_|refine ar ?_|refine a8 ?_|refine aF ?_|refine aT ?_|refine aa ?_|refine ae a6 rfl rfl ?_)
  exact aA rfl rfl rfl
 rw [if_neg (by simpa using h)]
 repeat' (first|refine ah ?_|refine a7 ?_|refine au ?_|refine ar ?_|refine a8 ?_|refine aI ?_|refine aa ?_|refine ae a6 rfl rfl ?_|(apply bA;refine bh ?_)|fail)
 exact aA rfl rfl rfl
instance (f : aJ) (c : dO) (late : Bool) : AD Tryz.prog 125 [cr f, .agg (ci c), cF late] (aM (s6 f c late)) := ⟨xT f c late⟩
def vd (f : aJ) (i : Nat) (c : dO) : Bool := match i with | 0 => false | j + 1 => match f.Chars[j]? with | some b => decide (c.Rune ≤ b.Rune) | none => false
def gN (f : aJ) (i : Nat) (c : dO) : Int := s6 f c (vd f i c)
theorem vZ (f : aJ) (i : Nat) (c : dO) (hc : f.Chars[i]? = some c) (hm : (f.Chars.length : Int) ≤ 1000) : bO Tryz.prog 124 [aM i, .agg (ci c), .iptr (bZ f)] (aM (gN f i c)) := by
 refine aP Tryz.func124 rfl Tryz.ntmps124 rfl fun B => ?_
 have hil := (Gn hc).1
 unfold gN
 cases i with
 | zero =>
  repeat' (first|refine ah ?_|refine a7 ?_|refine a8 ?_|refine aa ?_|refine ae a6 rfl rfl ?_|refine be ?_|fail)
  refine bt 17 [(0, .v), (1, .v), (2, .v), (3, .v), (4, .v), (5, .v), (6, .v), (7, .v), (8, .v), (9, .v), (10, .v), (11, .v), (12, .v), (13, .v), (14, .v), (15, .v), (16, .v)] none ?_ trivial rfl (by kernel_rfl) (by kernel_rfl) (by kernel_rfl) mixed (by kernel_rfl) rfl
  repeat' (first|refine aE ?_|refine aZ a6 ?_|(apply bX;refine cm ?_)|refine kD rfl rfl ?_)
  refine br [22] rfl rfl ?_
  repeat' (first|refine ar ?_|refine a8 ?_|refine aa ?_|refine ae a6 rfl rfl ?_)
  exact aA rfl rfl rfl
 | succ j =>
  obtain ⟨b, hb⟩ : ∃ b, f.Chars[j]? = some b := ⟨_, Ds (by omega)⟩
  have hbg : (f.Chars.map ci)[(((j + 1 : Nat) : Int) - 1).toNat]? = some (ci b) := by rw [show (((j + 1 : Nat) : Int) - 1).toNat = j by omega]; exact bj hb
  have hl : vd f (j + 1) c = decide (c.Rune ≤ b.Rune) := by simp [vd, hb]
  have hpos : decide (0 < ((j + 1 : Nat) : Int)) = true := decide_eq_true (by omega)
  rw [hl]
  repeat' (first|refine ah ?_|refine a7 ?_|refine a8 ?_|refine aa ?_|refine ae a6 rfl rfl ?_|refine be ?_|fail)
  refine bt 17 [(0, .v), (1, .v), (2, .v), (3, .v), (4, .v), (5, .v), (6, .v), (7, .v), (8, .v), (9, .v), (10, .v), (11, .v), (12, .v), (13, .v), (14, .v), (15, .v), (16, .v)] none ?_ trivial rfl (by kernel_rfl) (by kernel_rfl) (by kernel_rfl) mixed (by kernel_rfl) rfl
  repeat' (first|refine aE ?_|refine aZ a6 ?_|fail)
  rw [hpos]
  repeat' (first|refine aE ?_|refine aZ a6 ?_|(apply eP;refine fU ?_)|(apply bP;refine c8 a6 ?_)|(apply bX;refine cm ?_)|fail)
  refine br [22] rfl rfl ?_
  repeat' (first|refine ar ?_|refine a8 ?_|refine aa ?_|refine ae a6 rfl rfl ?_)
  exact aA rfl rfl rfl
def rU (a : dY) (name : Int) : Int := if name ≠ 0 then name else dX (!(decide ([a.Min, a.Def, a.Max].all fN = true ∧ a.Min ≤ a.Def ∧ a.Def ≤ a.Max))) 60
theorem xN (a : dY) (name : Int) : bO Tryz.prog 135 [.agg (cC a), aM name] (aM (rU a name)) := by
 refine aP Tryz.func135 rfl Tryz.ntmps135 rfl fun B => ?_
 unfold rU
 repeat' (first|refine ah ?_|refine a7 ?_|refine a8 ?_|refine aa ?_|refine ae a6 rfl rfl ?_|refine be ?_|fail)
 refine aw rfl (fun h => ?_) (fun h => ?_)
 ·rw [if_pos (Gz h)]
  repeat' (first|refine ah ?_|refine a7 ?_|refine ar ?_|refine a8 ?_|refine aF ?_|refine aa ?_|refine ae a6 rfl rfl ?_)
  exact aA rfl rfl rfl
 rw [if_neg (Gy h)]
 repeat' (first|refine ah ?_|refine a7 ?_|refine au ?_|refine a8 ?_|refine ae a6 rfl rfl ?_|refine bz a6 ?_|(apply bA;refine bh ?_)|fail)
 refine cZ (t := 5) [] ([a.Min, a.Def, a.Max].all fN = true ∧ a.Min ≤ a.Def ∧ a.Def ≤ a.Max) rfl (fun Q' K => ?_) ?_
 ·repeat' (first|refine aa ?_|refine ae a6 rfl rfl ?_|refine aG rfl rfl ?_|refine aL rfl rfl rfl rfl ?_|refine bc rfl rfl rfl (fun _ => ?_) (fun _ => ?_))
  all_goals exact K _ _ rfl rfl (by clear K; grind)
 repeat' (first|refine ah ?_|refine a7 ?_|refine ar ?_|refine a8 ?_|refine aa ?_|refine ae a6 rfl rfl ?_|(apply bA;refine bh ?_)|fail)
 exact aA rfl rfl rfl
instance (a : dY) (name : Int) : AD Tryz.prog 135 [.agg (cC a), aM name] (aM (rU a name)) := ⟨xN a name⟩
def pq (_ : Nat) (t : dS) : Int := dX (decide (¬ (-64 ≤ t.Start ∧ t.Start ≤ t.Peak ∧ t.Peak ≤ t.End ∧ t.End ≤ 64) ∨ (t.Start < 0 ∧ t.End > 0 ∧ t.Peak ≠ 0))) 61
set_option maxHeartbeats 1000000 in
theorem zF (i : Nat) (t : dS) : bO Tryz.prog 195 [aM i, .agg (gH t)] (aM (pq i t)) := by
 refine aP Tryz.func195 rfl Tryz.ntmps195 rfl fun B => ?_
 repeat' (first|refine ah ?_|refine a7 ?_|refine a8 ?_|refine aa ?_|refine ae a6 rfl rfl ?_|refine be ?_|fail)
 refine cZ (t := 5) [3] (-64 ≤ t.Start ∧ t.Start ≤ t.Peak ∧ t.Peak ≤ t.End ∧ t.End ≤ 64) rfl (fun Q' K => ?_) ?_
 ·repeat' (first|refine aa ?_|refine ae a6 rfl rfl ?_|refine aG rfl rfl ?_|refine aL rfl rfl rfl rfl ?_|refine bc rfl rfl rfl (fun _ => ?_) (fun _ => ?_))
  all_goals exact K _ _ rfl rfl (by clear K; grind)
 repeat' (first|refine ah ?_|refine a7 ?_|refine a8 ?_|refine ae a6 rfl rfl ?_)
 refine cZ (t := 6) [5] (t.Start < 0 ∧ t.End > 0 ∧ t.Peak ≠ 0) rfl (fun Q' K => ?_) ?_
 ·repeat' (first|refine aa ?_|refine ae a6 rfl rfl ?_|refine aG rfl rfl ?_|refine aL rfl rfl rfl rfl ?_|refine bc rfl rfl rfl (fun _ => ?_) (fun _ => ?_))
  all_goals exact K _ _ rfl rfl (by clear K; grind)
 have ht : pq i t = dX (!(decide (-64 ≤ t.Start ∧ t.Start ≤ t.Peak ∧ t.Peak ≤ t.End ∧ t.End ≤ 64)) || decide (t.Start < 0 ∧ t.End > 0 ∧ t.Peak ≠ 0)) 61 := by unfold pq; rw [Bool.decide_or, decide_not]
 rw [ht]
 generalize decide (-64 ≤ t.Start ∧ t.Start ≤ t.Peak ∧ t.Peak ≤ t.End ∧ t.End ≤ 64) = p
 generalize decide (t.Start < 0 ∧ t.End > 0 ∧ t.Peak ≠ 0) = q
 cases p <;> cases q
 all_goals
  repeat' (first|refine ah ?_|refine a7 ?_|refine ar ?_|refine a8 ?_|refine aa ?_|refine ae a6 rfl rfl ?_|refine aG rfl rfl ?_|refine aL rfl rfl rfl rfl ?_|(apply bA;refine bh ?_)|fail)
  exact aA rfl rfl rfl
def wT (axes : Int) (r : List dS) : Int := if (r.length : Int) ≠ axes then 61 else (da r pq).1
theorem uA (r : List dS) (axes : Int) : bO Tryz.prog 138 [.agg (bo r), aM axes] (aM (wT axes r)) := by
 refine aP Tryz.func138 rfl Tryz.ntmps138 rfl fun B => ?_
 unfold wT
 repeat' (first|refine ah ?_|refine a7 ?_|refine a8 ?_|refine aa ?_|refine ae a6 rfl rfl ?_|refine be ?_|fail)
 rw [Gu]
 refine aw rfl (fun h => ?_) (fun h => ?_)
 ·rw [if_pos (Gz h)]
  repeat' (first|refine ah ?_|refine a7 ?_|refine ar ?_|refine a8 ?_|refine aF ?_|refine aa ?_|refine ae a6 rfl rfl ?_)
  exact aA rfl rfl rfl
 rw [if_neg (Gy h)]
 repeat' (first|refine ah ?_|refine a7 ?_|refine au ?_|refine a8 ?_|refine ae a6 rfl rfl ?_)
 refine b7 [] [] (AI (u := .sc (.func (.func 195) #[] #[])) (g := 195) (caps := []) rfl r _ (fun _ _ => True) [] trivial (dk (fun i x _ => zF i x))) rfl rfl (Gm _) rfl fun c L1 hc => ?_
 have hc : c = cq (da r pq) := hc
 subst hc
 unfold cq
 repeat' (first|refine ah ?_|refine a7 ?_|refine ar ?_|refine a8 ?_|refine aa ?_|refine ae a6 rfl rfl ?_)
 exact aA rfl rfl rfl
instance (r : List dS) (axes : Int) : AD Tryz.prog 138 [.agg (bo r), aM axes] (aM (wT axes r)) := ⟨uA r axes⟩
theorem sU (f : aJ) (i : Nat) (r : List dS) : bO Tryz.prog 137 [aM i, .agg (bo r), .iptr (bZ f)] (aM (wT f.Axes.length r)) := by
 refine aP Tryz.func137 rfl Tryz.ntmps137 rfl fun B => ?_
 repeat' (first|refine ah ?_|refine a7 ?_|refine ar ?_|refine a8 ?_|refine aa ?_|refine ae a6 rfl rfl ?_|refine be ?_|(apply bA;refine bh ?_)|fail)
 rw [Gu]
 repeat' (first|fail)
 exact aA rfl rfl rfl
theorem w1 (i : Nat) (l : List eb) : bO Tryz.prog 140 [aM i, .imm 2 (l.map dH)] (aM (lY l)) := by
 refine aP Tryz.func140 rfl Tryz.ntmps140 rfl fun B => ?_
 repeat' (first|refine ah ?_|refine a7 ?_|refine ar ?_|refine a8 ?_|refine aa ?_|refine ae a6 rfl rfl ?_|(apply bA;refine bh ?_)|fail)
 exact aA rfl rfl rfl
def xX (_ : Nat) (n : Int) : Int := dX (!([n].all fN)) 1
theorem xV (i : Nat) (n : Int) : bO Tryz.prog 143 [aM i, aM n] (aM (xX i n)) := by
 refine aP Tryz.func143 rfl Tryz.ntmps143 rfl fun B => ?_
 repeat' (first|refine ah ?_|refine a7 ?_|refine ar ?_|refine a8 ?_|refine aa ?_|refine ae a6 rfl rfl ?_|refine bz a6 ?_|(apply bA;refine bh ?_)|fail)
 exact aA rfl rfl rfl
def lJ (f : aJ) : Int := if f.Unit < 16 ∨ f.Unit > 4096 then 1 else if f.Glyphs.length = 0 then 32 else 0
theorem yk (f : aJ) : bO Tryz.prog 115 [cr f] (aM (lJ f)) := by
 refine aP Tryz.func115 rfl Tryz.ntmps115 rfl fun B => ?_
 unfold lJ
 repeat' (first|refine ah ?_|refine a7 ?_|refine aq ?_|refine a8 ?_|refine aa ?_|refine ae a6 rfl rfl ?_|refine be ?_|fail)
 refine dJ [1] (f.Unit < 16 ∨ f.Unit > 4096) rfl (fun Q' K => ?_) (fun hC => ?_) (fun hC => ?_)
 ·repeat' (first|refine aa ?_|refine ae a6 rfl rfl ?_|refine aG rfl rfl ?_|refine aL rfl rfl rfl rfl ?_|refine bc rfl rfl rfl (fun _ => ?_) (fun _ => ?_))
  all_goals exact K _ _ rfl rfl (by clear K; grind)
 ·rw [if_pos hC]
  repeat' (first|refine ah ?_|refine a7 ?_|refine ar ?_|refine a8 ?_|refine aF ?_|refine aT ?_|refine aa ?_|refine ae a6 rfl rfl ?_)
  exact aA rfl rfl rfl
 rw [if_neg hC]
 repeat' (first|refine ah ?_|refine a7 ?_|refine a8 ?_|refine aa ?_|refine ae a6 rfl rfl ?_)
 rw [Gu]
 refine aw rfl (fun h => ?_) (fun h => ?_)
 ·rw [if_pos (by have := Gz h; omega)]
  repeat' (first|refine ah ?_|refine a7 ?_|refine ar ?_|refine a8 ?_|refine aF ?_|refine aT ?_|refine aa ?_|refine ae a6 rfl rfl ?_)
  exact aA rfl rfl rfl
 rw [if_neg (by have := Gy h; omega)]
 repeat' (first|refine ah ?_|refine a7 ?_|refine au ?_|refine ar ?_|refine a8 ?_|refine aI ?_|refine aa ?_|refine ae a6 rfl rfl ?_)
 exact aA rfl rfl rfl
instance (f : aJ) : AD Tryz.prog 115 [cr f] (aM (lJ f)) := ⟨yk f⟩
theorem wr (f : aJ) : bO Tryz.prog 114 [.iptr (bZ f)] (cq (lJ f, 0)) := by
 refine aP Tryz.func114 rfl Tryz.ntmps114 rfl fun B => ?_
 repeat' (first|refine ah ?_|refine a7 ?_|refine ar ?_|refine a8 ?_|refine aa ?_|refine ae a6 rfl rfl ?_|(apply bA;refine bh ?_)|fail)
 exact b6 rfl rfl rfl rfl
end Go.Proofs.YtjjpkibjffmceaaGreat
namespace Go.Proofs.YtjjpkibjffmceaaGreat
open Go.RowKit
section
variable {P : Program} {tt : TT} {l : List Oper} {fr : ca} {fin : jz} {sk : lm} {acc : ca} {L : AL} {k : Nat} {dd : Option Tmp} {ty t t' : TypeId} {pos : String} {af : Array Edge} {g : Option (Nat × Bool)} {x y : Operand} {u : AV}
theorem f0 (ok : eW P tt) {e sz by_ b off n cap : Nat} {q : IntKind} {i : Int} (ht : mf tt t = some (e, sz, by_)) (hx : bH (cM l.toArray acc fr af.toList) x = some (.sc (.slice (some ⟨b, off, none⟩) n cap))) (hy : bH (cM l.toArray acc fr af.toList) y = some (.sc (.int q i))) (h0 : 0 ≤ i ∧ i < n) (hg : iC ⟨dd, .indexAddr t x y, ty, pos, af, g⟩ acc) (h : DA P l fr fin sk ((k, .sc (.pointer (some ⟨b, off + i.toNat * sz, none⟩))) :: acc) L) :
  cX P l fr fin k .v ⟨dd, .indexAddr t x y, ty, pos, af, g⟩ sk acc L := gD hg (fun _ _ => (rI (bU ok ht).1 hx hy h0).ao) h
theorem xZ (ok : eW P tt) (i : Nat) {b q n : Nat} {cs ys : List AV} {e : TypeId} (ht : Dv tt t = some n) (hx : bH (cM l.toArray acc fr af.toList) x = some (.sc (.pointer (some ⟨b, q, none⟩)))) (hy : bH (cM l.toArray acc fr af.toList) y = some u) (hu : u.cells = some ys) (hL : L[i]? = some (b, .box cs e)) (hn : Nat.beq ys.length n = true) (hk : Nat.ble (q + n) cs.length = true) (hg : iC ⟨dd, .store t x y, ty, pos, af, g⟩ acc) (h : ∀ c, DA P l fr fin sk ((k, c) :: acc) (fS L i (.box (gg cs q ys) e))) :
  cX P l fr fin k .e ⟨dd, .store t x y, ty, pos, af, g⟩ sk acc L := gY hg (fun _ => lx i (md ok ht) hx hy hu hL hn hk) fun c L' h1 => by subst h1; exact h c
theorem sd {v : Value} (ht : ic P t = true) (hx : bH (cM l.toArray acc fr af.toList) x = some (.sc (.iface t v))) (hg : iC ⟨dd, .typeAssert x t' t false, ty, pos, af, g⟩ acc) (h : DA P l fr fin sk ((k, .sc v) :: acc) L) : cX P l fr fin k .v ⟨dd, .typeAssert x t' t false, ty, pos, af, g⟩ sk acc L :=
 gD hg (fun _ _ => (rH ht hx).ao) h
theorem w9 (ok : eW P tt) (i : Nat) {e by_ b n cap : Nat} {cs : List AV} {c : AV} (ht : mf tt t = some (e, 1, by_)) (hz : zI tt e = some [.int .i64 0]) (hx : bH (cM l.toArray acc fr af.toList) x = some (.sc (.slice (some ⟨b, 0, none⟩) n cap))) (hy : bH (cM l.toArray acc fr af.toList) y = some u) (hu : il u = some (1, [[c]])) (hL : L[i]? = some (b, .box cs e)) (hcl : cs.length = cap) (hn : n ≤ cap) (h63 : n + 1 ≤ 9223372036854775807) (hby : (n + 1) * by_ ≤ 140737488355328) (hg : iC ⟨dd, .call ⟨.builtin .append, #[x, y], #[t, t]⟩, ty, pos, af, g⟩ acc)
  (h : ∀ b' cs', cs'.take (n + 1) = cs.take n ++ [c] → n + 1 ≤ cs'.length → DA P l fr fin sk ((k, .sc (.slice (some ⟨b', 0, none⟩) (n + 1) cs'.length)) :: acc) ((b', .box cs' e) :: L.eraseIdx i)) :
  cX P l fr fin k .e ⟨dd, .call ⟨.builtin .append, #[x, y], #[t, t]⟩, ty, pos, af, g⟩ sk acc L :=
 gY hg (fun _ => o5 i (bU ok ht).1 (eV ok hz) hx hy (cT hu) hL hcl hn h63 hby) fun q L' ⟨b', cs', h1, h2, h3, h4⟩ => by subst h1; subst h4; exact h b' cs' h2 h3
theorem wb (ok : eW P tt) {e by_ : Nat} {c : AV} (ht : mf tt t = some (e, 1, by_)) (hz : zI tt e = some [.int .i64 0]) (hx : bH (cM l.toArray acc fr af.toList) x = some (.sc (.slice none 0 0))) (hy : bH (cM l.toArray acc fr af.toList) y = some u) (hu : il u = some (1, [[c]])) (hby : Nat.ble by_ 140737488355328 = true) (hg : iC ⟨dd, .call ⟨.builtin .append, #[x, y], #[t, t]⟩, ty, pos, af, g⟩ acc)
  (h : ∀ b' cs', cs'.take 1 = [c] → 1 ≤ cs'.length → DA P l fr fin sk ((k, .sc (.slice (some ⟨b', 0, none⟩) 1 cs'.length)) :: acc) ((b', .box cs' e) :: L)) :
  cX P l fr fin k .e ⟨dd, .call ⟨.builtin .append, #[x, y], #[t, t]⟩, ty, pos, af, g⟩ sk acc L :=
 gY hg (fun _ => o6 (bU ok ht).1 (eV ok hz) hx hy (cT hu) (Nat.ble_eq .. ▸ hby)) fun q L' ⟨b', cs', h1, h2, h3, h4⟩ => by subst h1; subst h4; exact h b' cs' h2 h3
end
def BV (P : Program) (t : TypeId) (name : String) (f : FuncId) (ptr : Bool) (e : TypeId) : Bool := (match P.underlying t with | some (.pointer e') => Nat.beq e' e | _ => false) && match P.info? t with
 | some ti => match ti.methods.find? (·.name == name) with
  | some m => m.path.isEmpty && (match m.func with | some (f', p') => Nat.beq f' f && (p' == ptr) | none => false)
  | none => false
 | none => false
theorem i9 {P : Program} {t : TypeId} {name : String} {f : FuncId} {ptr : Bool} {e : TypeId} (h : BV P t name f ptr e = true) : lp P t name f ptr e := by
 unfold BV at h
 rw [Bool.and_eq_true] at h
 obtain ⟨h1, h2⟩ := h
 split at h1
 ·rename_i e' hu
  rw [Nat.beq_eq] at h1
  subst h1
  split at h2
  ·rename_i ti hti
   split at h2
   ·rename_i m hm
    rw [Bool.and_eq_true] at h2
    obtain ⟨h3, h4⟩ := h2
    split at h4
    ·rename_i f' p' hf
     rw [Bool.and_eq_true, Nat.beq_eq, beq_iff_eq] at h4
     refine ⟨hu, ti, m, hti, hm, ?_, by rw [hf, h4.1, h4.2]⟩
     simpa using h3
    ·cases h4
   ·cases h2
  ·cases h2
 ·cases h1
end Go.Proofs.YtjjpkibjffmceaaGreat
namespace Go.Proofs.YtjjpkibjffmceaaGreat
open Go.RowKit Go.MapKept
section
variable {P : Program} {fr : ca} {B : Bs} {L : AL}
theorem AO.as {o : Oper} {a b : AV} (h : AO P o fr B L (fun c L' => c = a ∧ L' = L)) (hv : ∀ σ v, VR σ a v → VR σ b v) : AO P o fr B L (fun c L' => c = b ∧ L' = L) :=
 fun σ ρ w hρ hw => (h σ ρ w hρ hw).mono fun _ _ ⟨τ, c, L', h1, h2, h3, h4, h5⟩ => ⟨τ, b, L', h1, hv τ _ (by rw [← h4]; exact h2), h3, rfl, h5⟩
end
section
variable {P : Program} {tt : TT} {l : List Oper} {fr : ca} {fin : jz} {sk : lm} {acc : ca} {L : AL} {k : Nat} {dd : Option Tmp} {ty t t' : TypeId} {pos : String} {af : Array Edge} {g : Option (Nat × Bool)} {x y z : Operand} {u : AV}
theorem wd (i : Nat) (v0 : Value) (a : AV) {b kt et : Nat} {kd : TypeDesc} {q : Value} {m : Value → Option AV} (ht : P.underlying t = some (.map kt et)) (hkt : P.underlying kt = some kd) (hx : bH (cM l.toArray acc fr af.toList) x = some (.sc (.map (some b)))) (hy : bH (cM l.toArray acc fr af.toList) y = some (.sc q)) (hk : IsKey kd q) (hL : L[i]? = some (b, cj kd m)) (hz : ju P et v0 = true) (ha : ∀ σ v, VR σ ((m q).getD (.sc v0)) v → VR σ a v) (hg : iC ⟨dd, .lookup t x y false, ty, pos, af, g⟩ acc) (h : DA P l fr fin sk ((k, a) :: acc) L) :
  cX P l fr fin k .e ⟨dd, .lookup t x y false, ty, pos, af, g⟩ sk acc L :=
 gY hg (fun B => (iF i ht hkt hx hy hk hL (fa hz) fun _ => .sc _).as ha) fun c L' ⟨h1, h2⟩ => by subst h1; subst h2; exact h
theorem fJ (ok : eW P tt) (L0 : AL) {e sz by_ : Nat} {q : Option (Nat × Nat)} {l1 l2 : List (List AV)} (ht : mf tt t = some (e, sz, by_)) (hx : bH (cM l.toArray acc fr af.toList) x = some (.vec q sz l1)) (hy : bH (cM l.toArray acc fr af.toList) y = some u) (hu : il u = some (sz, l2)) (hL : L.Perm (tok q e sz l1.length ++ L0)) (h63 : l1.length + l2.length ≤ 9223372036854775807) (hby : (l1.length + l2.length) * by_ ≤ 140737488355328) (hg : iC ⟨dd, .call ⟨.builtin .append, #[x, y], #[t, t]⟩, ty, pos, af, g⟩ acc)
  (h : ∀ k', DA P l fr fin sk ((k, .vec k' sz (l1 ++ l2)) :: acc) (tok k' e sz (l1 ++ l2).length ++ L0)) :
  cX P l fr fin k .e ⟨dd, .call ⟨.builtin .append, #[x, y], #[t, t]⟩, ty, pos, af, g⟩ sk acc L :=
 gY hg (fun _ => mq L0 (bU ok ht).1 (bU ok ht).2 hx hy (cT hu) hL h63 hby) fun c L' ⟨k', h1, h2⟩ => by subst h1; subst h2; exact h k'
end
section
variable {P : Program} {r : Option Nat} {ops : Array Oper} {Q : Exit → Act → World → Prop} {nt : Nat} {D : List Deferred} {fr : ca} {B : Bs} {L : AL} {rest : List Oper} {d : Nat} {ty t : TypeId} {pos : String} {af : Array Edge} {x y z : Operand} {u : AV}
theorem iN (i : Nat) (v0 : Value) (a : AV) {b kt et : Nat} {kd : TypeDesc} {k : Value} {m : Value → Option AV} (ht : P.underlying t = some (.map kt et)) (hkt : P.underlying kt = some kd) (hx : bH fr x = some (.sc (.map (some b)))) (hy : bH fr y = some (.sc k)) (hk : IsKey kd k) (hL : L[i]? = some (b, cj kd m)) (hz : ju P et v0 = true) (ha : ∀ σ v, VR σ ((m k).getD (.sc v0)) v → VR σ a v) (hd : Nat.ble nt d = false)
  (h : bT P r ops Q nt D rest ((d, a) :: fr) B L) : bT P r ops Q nt D (⟨some d, .lookup t x y false, ty, pos, af, none⟩ :: rest) fr B L :=
 dh hd rfl ((iF i ht hkt hx hy hk hL (fa hz) fun _ => .sc _).as ha) fun c L' ⟨h1, h2⟩ => by subst h1; subst h2; exact h
end
noncomputable def mJ (m : Value → Option AV) (k : Value) (c : AV) : Value → Option AV := fun q => open Classical in if q = k then some c else m q
theorem iK {m : Value → Option AV} {k : Value} {c : AV} : mJ m k c k = some c := by simp [mJ]
theorem ia {m : Value → Option AV} {k : Value} {c : AV} (q : Value) (h : q ≠ k) : mJ m k c q = m q := by simp [mJ, h]
def mo (m : Value → Option AV) (M : Int → Int) : Prop := ∀ z, m (.int .i64 z) = none ∧ M z = 0 ∨ m (.int .i64 z) = some (.sc (.int .i64 (M z)))
theorem mo.at {m : Value → Option AV} {M : Int → Int} (h : mo m M) (z : Int) : ∀ (σ : cw) (v : Value), VR σ ((m (.int .i64 z)).getD (.sc (.int .i64 0))) v → VR σ (.sc (.int .i64 (M z))) v := by
 intro σ v hv
 rcases h z with ⟨h1, h2⟩ | h1
 ·rw [h1] at hv; rw [h2]; exact hv
 ·rw [h1] at hv; exact hv
theorem mo.put {m : Value → Option AV} {M : Int → Int} (h : mo m M) (z c : Int) : mo (mJ m (.int .i64 z) (.sc (.int .i64 c))) fun q => if q = z then c else M q := by
 intro q
 by_cases e : q = z
 ·subst e; simp only [if_true, iK]; exact .inr trivial
 ·simp only [if_neg e]; rw [ia _ (by intro h; injection h with _ h; exact e h)]; exact h q
def nW (m : Value → Option AV) (K : Int → Option (Nat × Nat)) (U : Int → List Int) : Prop := ∀ z, (m (.int .i64 z) = none ∧ U z = [] ∧ K z = none) ∨ m (.int .i64 z) = some (.vec (K z) 1 (aU (U z)))
theorem nW.at {m : Value → Option AV} {K : Int → Option (Nat × Nat)} {U : Int → List Int} (h : nW m K U) (z : Int) : ∀ (σ : cw) (v : Value), VR σ ((m (.int .i64 z)).getD (.sc (.slice none 0 0))) v → VR σ (.vec (K z) 1 (aU (U z))) v := by
 intro σ v hv
 rcases h z with ⟨h1, h2, h3⟩ | h1
 ·rw [h1] at hv; rw [h2, h3]; exact co 1 hv
 ·rw [h1] at hv; exact hv
theorem nW.put {m : Value → Option AV} {K : Int → Option (Nat × Nat)} {U : Int → List Int} (h : nW m K U) (z : Int) (k : Option (Nat × Nat)) (l : List Int) : nW (mJ m (.int .i64 z) (.vec k 1 (aU l))) (fun q => if q = z then k else K q) fun q => if q = z then l else U q := by
 intro q
 by_cases e : q = z
 ·subst e; simp only [if_true, iK]; exact .inr trivial
 ·simp only [if_neg e]
  rw [ia _ (by intro h; injection h with _ h; exact e h)]
  exact h q
def li (e : TypeId) (K : Int → Option (Nat × Nat)) (U : Int → List Int) (zs : List Int) : AL := zs.flatMap fun z => tok (K z) e 1 (aU (U z)).length
theorem mS {e : TypeId} {K : Int → Option (Nat × Nat)} {U : Int → List Int} : ∀ {zs : List Int} {z : Int}, z ∈ zs → (li e K U zs).Perm (tok (K z) e 1 (aU (U z)).length ++ li e K U (zs.erase z))
 | y :: zs, z, h => by
  by_cases hz : y = z
  ·subst hz
   rw [List.erase_cons_head]
   exact Gm _
  ·have hm : z ∈ zs := by
    rcases List.mem_cons.1 h with h | h
    ·exact absurd h.symm hz
    ·exact h
   rw [List.erase_cons_tail (by simpa using hz)]
   have ih := mS (e := e) (K := K) (U := U) hm
   unfold li at ih ⊢
   rw [List.flatMap_cons, List.flatMap_cons]
   refine (List.Perm.append_left _ ih).trans ?_
   rw [← List.append_assoc, ← List.append_assoc]
   exact List.Perm.append_right _ List.perm_append_comm
theorem uM {e : TypeId} {K K' : Int → Option (Nat × Nat)} {U U' : Int → List Int} {zs : List Int} (h : ∀ z ∈ zs, K z = K' z ∧ U z = U' z) : li e K U zs = li e K' U' zs := by
 unfold li
 induction zs with
 | nil => rfl
 | cons z zs ih =>
  rw [List.flatMap_cons, List.flatMap_cons, ih fun y hy => h y (Gt _ hy), (h z (List.mem_cons_self ..)).1, (h z (List.mem_cons_self ..)).2]
theorem zH {e : TypeId} {K : Int → Option (Nat × Nat)} {U : Int → List Int} {zs : List Int} {z : Int} {k : Option (Nat × Nat)} {l : List Int} (hn : zs.Nodup) (h : z ∈ zs) : (tok k e 1 (aU l).length ++ li e K U (zs.erase z)).Perm (li e (fun q => if q = z then k else K q) (fun q => if q = z then l else U q) zs) := by
 have h1 := mS (e := e) (K := fun q => if q = z then k else K q) (U := fun q => if q = z then l else U q) h
 simp only [if_true] at h1
 refine List.Perm.trans ?_ h1.symm
 rw [uM (K := K) (U := U) (K' := fun q => if q = z then k else K q) (U' := fun q => if q = z then l else U q) fun y hy => by
  have hne : y ≠ z := fun e => by subst e; exact (List.Nodup.not_mem_erase hn) hy
  simp only [if_neg hne]
  exact ⟨trivial, trivial⟩]
theorem xi (e : TypeId) (U : Int → List Int) (zs : List Int) : li e (fun _ => none) U zs = [] := by
 unfold li tok
 induction zs with
 | nil => rfl
 | cons z zs ih => rw [List.flatMap_cons, ih]; rfl
end Go.Proofs.YtjjpkibjffmceaaGreat
namespace Go.Proofs.YtjjpkibjffmceaaGreat
open Go.RowKit
section
variable {P : Program} {r : Option Nat} {ops : Array Oper} {Q : Exit → Act → World → Prop} {nt : Nat} {D : List Deferred} {fr : ca} {B : Bs} {L : AL} {cd : Code}
def nV (nt : Nat) (B : Bs) {α : Type} (Dx : α → List Deferred) (V : α → ca) (fr0 : ca) (C : α → Prop) (Lx : α → AL) (μ : α → Nat) (x : α) (Q : Exit → Act → World → Prop) : Exit → Act → World → Prop := Exit.then (fun a w => ∃ σ x', iw σ nt (Dx x') (V x' ++ fr0) a ∧ C x' ∧ dl B σ (Lx x') w ∧ μ x' < μ x) Q
theorem xL (ks : List Nat) {α : Type} (Dx : α → List Deferred) (V : α → ca) (C : α → Prop) (Lx : α → AL) (μ : α → Nat) (x0 : α) {fr0 : ca} (hk : gq fr ks = some fr0) (hV : kQ (V x0) fr) (hD : D = Dx x0) (hC : C x0) (hL : ∀ σ w, dl B σ L w → dl B σ (Lx x0) w)
  (hb : ∀ x, C x → AT P r cd (nV nt B Dx V fr0 C Lx μ x Q) nt (Dx x) (V x ++ fr0) B (Lx x)) : AT P r (.loop cd) Q nt D fr B L := by
 intro σ a w ha hw
 subst hD
 classical
 let G : Nat → Act → World → Prop := fun m a w => ∃ σ x, iw σ nt (Dx x) (V x ++ fr0) a ∧ C x ∧ dl B σ (Lx x) w ∧ μ x = m
 let M : Act → World → Nat := fun a w => if h : ∃ m, G m a w ∧ ∀ m', G m' a w → m ≤ m' then h.choose else 0
 have least : ∀ a w, (∃ m, G m a w) → G (M a w) a w ∧ ∀ m', G m' a w → M a w ≤ m' := by
  rintro a w ⟨m0, hg0⟩
  have hex : ∃ m, G m a w ∧ ∀ m', G m' a w → m ≤ m' := by
   have : ∀ k, ∀ m, m ≤ k → G m a w → ∃ m, G m a w ∧ ∀ m', G m' a w → m ≤ m' := by
    intro k
    induction k with
    | zero => intro m hm hg; exact ⟨m, hg, fun m' _ => by omega⟩
    | succ k ih =>
     intro m hm hg
     by_cases h : ∃ m', m' < m ∧ G m' a w
     ·obtain ⟨m', hlt, hg'⟩ := h
      exact ih m' (by omega) hg'
     ·exact ⟨m, hg, fun m' hg' => by
       rcases Nat.lt_or_ge m' m with hlt | hge
       ·exact absurd ⟨m', hlt, hg'⟩ h
       ·exact hge⟩
   exact this m0 m0 (Nat.le_refl _) hg0
  have hM : M a w = hex.choose := dif_pos hex
  rw [hM]; exact hex.choose_spec
 refine wpIn_loop (fun a w => ∃ m, G m a w) M ⟨_, σ, x0, ha.weak (lu hV (dT ks hk)), hC, hL σ w hw, rfl⟩ ?_
 intro a w hI
 obtain ⟨⟨σ', x, hx, hj, hst, hm⟩, _⟩ := least a w hI
 refine wpIn_mono (hb x hj σ' a w hx hst) ?_
 intro e a' w' hq
 cases e with
 | normal =>
  obtain ⟨τ, x', hx', hj', hst', hlt⟩ := hq
  have hg : G (μ x') a' w' := ⟨τ, x', hx', hj', hst', rfl⟩
  refine ⟨⟨_, hg⟩, ?_⟩
  have := (least a' w' ⟨_, hg⟩).2 (μ x') hg
  omega
 | _ => exact hq
theorem mw {α : Type} {Dx : α → List Deferred} {V : α → ca} {fr0 : ca} {C : α → Prop} {Lx : α → AL} {μ : α → Nat} {x : α} (x' : α) (hk : gq fr (fr0.map (·.1)) = some fr0) (hV : kQ (V x') fr) (hD : D = Dx x') (hC : C x') (hm : μ x' < μ x) (hL : ∀ σ w, dl B σ L w → dl B σ (Lx x') w) :
  AX P .normal (nV nt B Dx V fr0 C Lx μ x Q) nt D fr B L := fun σ a w ha hw => by
 subst hD
 exact ⟨σ, x', ha.weak (lu hV (dT _ hk)), hC, hL _ _ hw, hm⟩
theorem pB {α : Type} {Dx : α → List Deferred} {V : α → ca} {fr0 : ca} {C : α → Prop} {Lx : α → AL} {μ : α → Nat} {x : α} {id : Nat} (h : AX P (.exit id) Q nt D fr B L) : AX P (.exit id) (nV nt B Dx V fr0 C Lx μ x Q) nt D fr B L := fun σ a w ha hw => h σ a w ha hw
end
section
variable {nt : Nat} {D : List Deferred} {B : Bs} {fr : ca} {L : AL}
theorem qB {t b e sz n : Nat} {cs : List AV} {l : List (List AV)} (i : Nat) (hl : cb fr t = some (.iptr [.sc (.slice (some ⟨b, 0, none⟩) n n)])) (hL : L[i]? = some (b, .box cs e)) (hc : cs = l.flatten) (hs : ∀ q ∈ l, q.length = sz) (hn : l.length = n) (h63 : n ≤ 9223372036854775807) : nX nt D B fr L ((t, .iptr [.imm sz l]) :: fr) ((b, .vec e sz n n) :: L.eraseIdx i) := by
 intro σ a w ha hw0
 have hw := hw0.perm (fY hL)
 obtain ⟨o, ho, vs, rfl, hvs, h1⟩ := hw.here _ (List.mem_cons_self ..)
 have hfree := hw.free _ (List.mem_cons_self ..)
 have hvl : vs.length = n * sz := by rw [← hvs.1, hc, iI l hs, hn]
 have hst : dl B σ ((b, .vec e sz 0 n) :: L.eraseIdx i) w := by
  refine ⟨hw.os, hw.tape, hw.output, hw.size, hw.old, fun p hp => ?_, fun p hp => ?_, by simpa using hw.apart, hw.froz, fun p hp off hm => ?_, hw.grow, hw.same⟩
  ·rcases List.mem_cons.1 hp with rfl | hp'
   ·exact ⟨_, ho, _, rfl, by simp [hvl], Nat.zero_le _, by unfold maxLen; omega⟩
   ·exact hw.here p (Gt _ hp')
  ·rcases List.mem_cons.1 hp with rfl | hp'
   ·exact hw.mine (b, .box cs e) (List.mem_cons_self ..)
   ·exact hw.mine p (Gt _ hp')
  ·rcases List.mem_cons.1 hp with rfl | hp'
   ·exact hfree off trivial
   ·exact hw.free p (Gt _ hp') off hm
 obtain ⟨hst', hle⟩ := hst.freezeHead (n' := n) (xs := vs) (fun j u hj => by rw [dK ho]; simpa using hj) hvl (Nat.zero_le _) (Nat.le_refl _)
 refine ⟨_, ?_, hst'⟩
 have hv : VR (σ.add b vs) (.vec (some (b, n)) sz l) (.slice (some ⟨b, 0, none⟩) n n) := by
  have := mV (σ := σ.add b vs) (b := b) (cap := n) hs (by rw [← hc]; exact hvs.mono hle) h1 (by omega) (by unfold maxLen; omega) (fun j u hj => cw.add_at hj)
  rwa [hn] at this
 have ha' := ha.mono hle
 refine ⟨ha'.size, ha'.defers, fun t' v' hl' => ?_⟩
 rw [cy] at hl'
 by_cases e : t = t'
 ·subst e
  simp only [if_true, Option.some.injEq] at hl'
  subst hl'
  have hp := ha.look t _ hl
  generalize a.tmps.getD t undef = v0 at hp
  generalize hq : AV.iptr [.sc (.slice (some ⟨b, 0, none⟩) n n)] = q at hp
  cases hp with
  | iptr cs2 b0 off hx h =>
   injection hq with hq
   subst hq
   refine .iptr _ b0 off (fun j hj => ?_) fun j c u hc hu => ?_
   ·obtain ⟨u, hu, h1⟩ := hx j hj
    exact ⟨u, hle _ _ _ hu, h1⟩
   ·have hj : j = 0 := by
     have := (Gn hc).1
     simp at this
     exact this
    subst hj
    simp at hc
    subst hc
    obtain ⟨u', hu', _⟩ := hx 0 (by simp)
    have h2 := hle _ _ _ hu'
    rw [hu] at h2
    injection h2 with h2
    subst h2
    rw [(h 0 _ u rfl hu').sc_inv]
    exact hv.im
  | _ => cases hq
 ·rw [if_neg e] at hl'
  exact ha'.look t' v' hl'
end
end Go.Proofs.YtjjpkibjffmceaaGreat
