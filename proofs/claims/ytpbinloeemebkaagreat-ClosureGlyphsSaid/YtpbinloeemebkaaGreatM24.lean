/-
  What is right by the document: how many points a glyph has with its parts.
-/
import Derived.Test.YtpbinloeemebkaaGreatM23
import Derived.Test.YtpbinloeemebkaaGreatM21
import Derived.Test.YtpbinloeemebkaaGreatM06
namespace Go.Proofs.YtpbinloeemebkaaGreat
open Go.RowKit
attribute [local irreducible] AT bN AX AO Av Kt bi dE DA d6
def kv (l : List Int) : Int := l.foldl (· + ·) 0
theorem vb (l : List Int) (z : Int) : kv (l ++ [z]) = kv l + z := by unfold kv; rw [List.foldl_append]; rfl
theorem tG {b : Int} (hb : 0 ≤ b) (l : List Int) (h : ∀ z ∈ l, 0 ≤ z ∧ z ≤ b) : 0 ≤ kv l ∧ kv l ≤ b * l.length := by
  have key : ∀ (l : List Int) (a : Int), (∀ z ∈ l, 0 ≤ z ∧ z ≤ b) → a ≤ l.foldl (· + ·) a ∧ l.foldl (· + ·) a ≤ a + b * l.length := by
    intro l
    induction l with
    | nil => intro a _; simp
    | cons x l ih =>
      intro a h
      have h1 := h x (List.mem_cons_self ..)
      have h2 := ih (a + x) fun z hz => h z (List.mem_cons_of_mem _ hz)
      rw [List.foldl_cons, List.length_cons, Int.natCast_add, Int.mul_add]
      have : b * ((1 : Nat) : Int) = b := by simp
      omega
  have := key l 0 h
  unfold kv
  omega
def dQ (f : aH) : Nat → Int → Int
 | 0, _ => 0
 | k + 1, z => match f.Glyphs[z.toNat]? with | some gl => gl.Points.length + kv (gl.Parts.map fun p : bE => dQ f k p.Glyph) | none => 0
def mL (f : aH) : Nat → Int → Prop
 | 0, _ => False
 | k + 1, z => (0 ≤ z ∧ z < f.Glyphs.length) ∧ ∀ gl, f.Glyphs[z.toNat]? = some gl → ∀ p ∈ gl.Parts, mL f k p.Glyph
def my (f : aH) : Prop := ∀ gl ∈ f.Glyphs, gl.Points.length ≤ 200 ∧ gl.Parts.length ≤ 8
theorem k9 {f : aH} {k : Nat} {z : Int} {gl : be} (h : f.Glyphs[z.toNat]? = some gl) : dQ f (k + 1) z = (gl.Points.length : Int) + kv (gl.Parts.map fun p : bE => dQ f k p.Glyph) := by
 rw [dQ, h]
theorem rX {f : aH} {k : Nat} {z : Int} (h : f.Glyphs[z.toNat]? = none) : dQ f (k + 1) z = 0 := by
 rw [dQ, h]
theorem yk (k : Nat) (h : k ≤ 10) : (9 : Int) ^ k ≤ 3486784401 := by
 have : ∀ j, j < 11 → (9 : Int) ^ j ≤ 3486784401 := by decide
 exact this k (by omega)
theorem ng {f : aH} (hf : my f) : ∀ (k : Nat) (z : Int), 0 ≤ dQ f k z ∧ dQ f k z ≤ 200 * 9 ^ k
 | 0, _ => by unfold dQ; omega
 | k + 1, z => by
  have hp : (1 : Int) ≤ 9 ^ k := by
   have : 0 < (9 : Int) ^ k := Int.pow_pos (by omega)
   omega
  have h9 : (9 : Int) ^ (k + 1) = 9 ^ k * 9 := Int.pow_succ ..
  cases hg : f.Glyphs[z.toNat]? with
  | some gl =>
   rw [k9 hg]
   have h1 := hf gl (List.mem_of_getElem? hg)
   have h2 := tG (b := 200 * 9 ^ k) (by omega) (gl.Parts.map fun p : bE => dQ f k p.Glyph) fun y hy => by
    obtain ⟨p, _, rfl⟩ := List.mem_map.1 hy
    exact ng hf k p.Glyph
   rw [List.length_map] at h2
   have h3 : (200 * 9 ^ k) * (gl.Parts.length : Int) ≤ (200 * 9 ^ k) * 8 := Int.mul_le_mul_of_nonneg_left (by omega) (by omega)
   omega
  | none =>
   rw [rX hg]
   omega
set_option maxHeartbeats 8000000 in
theorem qD (f : aH) (hf : my f) : ∀ (k : Nat), k ≤ 10 → ∀ (z : Int), mL f k z → bo Tryz.prog 196 [bw f, aQ z] (aQ (dQ f k z))
 | 0, _, _, h => by cases h
 | k + 1, hk, z, h => by
  obtain ⟨⟨h0, h1⟩, hd⟩ := h
  obtain ⟨gl, hg⟩ : ∃ g, f.Glyphs[z.toNat]? = some g := ⟨_, List.getElem?_eq_getElem (by omega)⟩
  have hgg := b5 (c := bz) hg
  have hfew := hf gl (List.mem_of_getElem? hg)
  have hd := hd gl hg
  have hb : ∀ p : bE, 0 ≤ dQ f k p.Glyph ∧ dQ f k p.Glyph ≤ 697356880200 := fun p => by
   have h1 := ng hf k p.Glyph
   have h2 := yk k (by omega)
   omega
  have hv := k9 (k := k) hg
  have hpl : (gl.Points.map dv).length = gl.Points.length := List.length_map ..
  have hql : (gl.Parts.map d7).length = gl.Parts.length := List.length_map ..
  have ih := fun p hp => qD f hf k (by omega) (bE.Glyph p) (hd p hp)
  clear hd
  refine aU Tryz.func196 rfl Tryz.ntmps196 rfl fun B => ?_
  rw [hv]
  (repeat' (first|refine ah ?_|refine a6 ?_|refine am ?_|refine a8 ?_|refine aa ?_|refine ae a7 rfl rfl ?_|(apply aP; first|refine aO a7 ?_|refine aI a7 ?_)|refine b6 ?_|fail))
  refine aL [1, 2] (α := Nat) (fun i => [(6, aQ i), (5, aQ (gl.Points.length + kv ((gl.Parts.take i).map fun p : bE => dQ f k p.Glyph)))]) (fun i => i ≤ gl.Parts.length) (fun _ => []) (fun i => gl.Parts.length - i) 0 rfl ⟨rfl, by rw [hpl, List.take_zero, List.map_nil, show kv [] = 0 from rfl, Int.add_zero]; rfl, trivial⟩ (Nat.zero_le _) (fun _ _ h => h) ?_
  intro i hi
  have hsb := tG (b := 697356880200) (by omega) ((gl.Parts.take i).map fun p : bE => dQ f k p.Glyph) fun y hy => by
   obtain ⟨p, _, rfl⟩ := List.mem_map.1 hy
   exact hb p
  rw [List.length_map, List.length_take] at hsb
  have hst : ∀ x, gl.Parts[i]? = some x → kv ((gl.Parts.take (i + 1)).map fun p : bE => dQ f k p.Glyph) = kv ((gl.Parts.take i).map fun p : bE => dQ f k p.Glyph) + dQ f k x.Glyph := fun x hx => by
   rw [List.take_add_one, hx, Option.toList_some, List.map_append, List.map_cons, List.map_nil, vb]
  generalize hgen : kv ((gl.Parts.take i).map fun p : bE => dQ f k p.Glyph) = S at hsb hst ⊢
  have hS : 0 ≤ S ∧ S ≤ 5578855041600 := by omega
  clear hsb
  try dsimp only [List.cons_append, List.nil_append, List.map_cons, List.map_nil]
  (repeat' (first|refine ah ?_|refine a6 ?_|refine a8 ?_|refine aa ?_|refine ae a7 rfl rfl ?_|(apply aP; first|refine aO a7 ?_|refine aI a7 ?_)|fail))
  refine av rfl (fun h => ?_) (fun h => ?_)
  ·have hil : i < gl.Parts.length := by have := of_decide_eq_true h; omega
   obtain ⟨x, hx⟩ : ∃ z, gl.Parts[i]? = some z := ⟨_, List.getElem?_eq_getElem hil⟩
   have hxg := b5 (c := d7) hx
   have hst := hst x hx
   have hxb := hb x
   haveI a1 : AD Tryz.prog 196 [bw f, aQ x.Glyph] (aQ (dQ f k x.Glyph)) := ⟨ih x (List.mem_of_getElem? hx)⟩
   (repeat' (first|refine ah ?_|refine am ?_|refine ak ?_|refine a8 ?_|fail))
   refine bj 14 [(0, .v), (1, .v), (2, .v), (3, .v), (4, .v), (5, .v), (6, .v), (7, .v), (8, .v), (9, .v), (10, .v), (11, .v), (12, .v), (13, .v)] none ?_ trivial rfl (by kernel_rfl) (by kernel_rfl) (by kernel_rfl) mixed (by kernel_rfl) rfl
   (repeat' (first|refine aN ?_|refine bf a7 ?_|(apply ey;refine fH ?_)|(apply bs;refine bH a7 ?_)|(apply cZ;refine dl ?_)|fail))
   refine bl [1, 2, 6, 39] rfl rfl ?_
   (repeat' (first|refine a6 ?_|refine a8 ?_|refine aJ ?_|refine aa ?_|refine ae a7 rfl rfl ?_|(apply aX; refine aW ?_)|fail))
   exact aE (i + 1) rfl ⟨by rw [Int.natCast_add]; rfl, by rw [hst, ← Int.add_assoc]; rfl, trivial⟩ (by omega) (by omega) (fun _ _ h => h)
  have hil : i = gl.Parts.length := by have := of_decide_eq_false h; omega
  subst hil
  rw [List.take_length] at hgen
  rw [hgen]
  (repeat' (first|refine ah ?_|refine a6 ?_|refine au ?_|refine aR ?_|refine a8 ?_|refine az ?_|refine aC ?_|refine aA ?_|refine aa ?_|refine ae a7 rfl rfl ?_|fail))
  exact aB rfl rfl rfl
end Go.Proofs.YtpbinloeemebkaaGreat

namespace Go.Proofs.YtpbinloeemebkaaGreat
open Go.RowKit
attribute [local irreducible] AT bN AX AO Av Kt bi dE DA d6
inductive sO (pr : Int → List Int) : Int → Int → Prop where
 | one {a b : Int} (h : b ∈ pr a) : sO pr a b
 | step {a b c : Int} (h : b ∈ pr a) (k : sO pr b c) : sO pr a c
theorem sO.rank {pr : Int → List Int} {n : Nat} (hin : ∀ g, ∀ p ∈ pr g, 0 ≤ p ∧ p < n) {r : Int → Nat} (hr : ∀ g : Int, 0 ≤ g → g < n → ∀ p ∈ pr g, r p < r g) {a b : Int} (h : sO pr a b) : 0 ≤ a → a < n → r b < r a := by
 induction h with
 | one h => intro h0 h1; exact hr _ h0 h1 _ h
 | step h k ih =>
  intro h0 h1
  have h2 := hin _ _ h
  have := hr _ h0 h1 _ h
  have := ih h2.1 h2.2
  omega
theorem fF.noRing {n : Nat} {pr : Int → List Int} (hin : ∀ g, ∀ p ∈ pr g, 0 ≤ p ∧ p < n) (h : fF n pr) {g : Int} (h0 : 0 ≤ g) (h1 : g < n) : ¬ sO pr g g := fun k => by
 obtain ⟨r, hr⟩ := h
 have := k.rank hin hr h0 h1
 omega
theorem uf {l : List Int} (hn : l.Nodup) {p q : Int → Bool} (h : ∀ z ∈ l, p z = true → q z = true) {x : Int} (hx : x ∈ l) (hp : p x = false) (hq : q x = true) : (l.filter p).length < (l.filter q).length := by
 have h1 := iA (x :: l.filter p) (l.filter q) (List.nodup_cons.2 ⟨fun hm => (by rw [List.mem_filter, hp] at hm; cases hm.2), hn.filter _⟩) fun z hz => by
  rcases List.mem_cons.1 hz with rfl | hz
  ·exact List.mem_filter.2 ⟨hx, hq⟩
  ·rw [List.mem_filter] at hz ⊢
   exact ⟨hz.1, h z hz.1 hz.2⟩
 rwa [List.length_cons] at h1
open Classical in
theorem jf {n : Nat} {pr : Int → List Int} (hin : ∀ g, ∀ p ∈ pr g, 0 ≤ p ∧ p < n) (h : ∀ g : Int, 0 ≤ g → g < n → ¬ sO pr g g) : ∃ r : Int → Nat, (∀ g : Int, 0 ≤ g → g < n → ∀ p ∈ pr g, r p < r g) ∧ ∀ g, r g ≤ n := by
 refine ⟨fun g => ((bP n).filter fun z => decide (sO pr g z)).length, fun g h0 h1 p hp => ?_, fun g => ?_⟩
 ·have hpr := hin g p hp
  refine uf (fx n) (x := p) (fun z hz hh => ?_) (d8.2 hpr) ?_ ?_
  ·exact decide_eq_true (.step hp (of_decide_eq_true hh))
  ·exact decide_eq_false (h p hpr.1 hpr.2)
  ·exact decide_eq_true (.one hp)
 ·have := List.length_filter_le (fun z => decide (sO pr g z)) (bP n)
  rw [d9] at this
  exact this
theorem qd {n : Nat} {pr : Int → List Int} (hin : ∀ g, ∀ p ∈ pr g, 0 ≤ p ∧ p < n) : fF n pr ↔ ∀ g : Int, 0 ≤ g → g < n → ¬ sO pr g g :=
 ⟨fun h _ h0 h1 => h.noRing hin h0 h1, fun h => by obtain ⟨r, hr, _⟩ := jf hin h; exact ⟨r, hr⟩⟩
def dN (f : aH) : Nat → Int → Int
 | 0, _ => 0
 | k + 1, z => match f.Glyphs[z.toNat]? with | some gl => dF (dN f k) gl.Parts | none => 0
def pN (f : aH) : Nat → Int → Int
 | 0, _ => 0
 | k + 1, z => match f.Glyphs[z.toNat]? with | some gl => pF (pN f k) gl.Parts gl.Points.length | none => 0
theorem kI {f : aH} {k : Nat} {z : Int} {gl : be} (h : f.Glyphs[z.toNat]? = some gl) : dN f (k + 1) z = dF (dN f k) gl.Parts := by rw [dN, h]
theorem pQ {f : aH} {k : Nat} {z : Int} {gl : be} (h : f.Glyphs[z.toNat]? = some gl) : pN f (k + 1) z = pF (pN f k) gl.Parts gl.Points.length := by rw [pN, h]
theorem jB {f : aH} (hf : ic f) {z : Int} {gl : be} (hg : f.Glyphs[z.toNat]? = some gl) {p : bE} (hp : p ∈ gl.Parts) : p.Glyph ∈ prt f z ∧ 0 ≤ p.Glyph ∧ p.Glyph < f.Glyphs.length :=
 ⟨by rw [l3 hf hg]; exact List.mem_map_of_mem hp, iw.1 (hf.there gl (List.mem_of_getElem? hg) p hp)⟩
theorem vU {D : Int → Int} (ps : List bE) : 0 ≤ dF D ps := by
 have : ∀ (ps : List bE) (a : Int), 0 ≤ a → 0 ≤ ps.foldl (fun a p => max a (D p.Glyph + 1)) a := by
  intro ps
  induction ps with
  | nil => intro a h; exact h
  | cons p ps ih => intro a h; exact ih (max a (D p.Glyph + 1)) (by omega)
 exact this ps 0 (Int.le_refl _)
theorem oJ {D : Int → Int} {m : Int} : ∀ {ps : List bE}, dF D ps ≤ m ↔ 0 ≤ m ∧ ∀ p ∈ ps, D p.Glyph + 1 ≤ m := by
 have : ∀ (ps : List bE) (a : Int), ps.foldl (fun a p => max a (D p.Glyph + 1)) a ≤ m ↔ a ≤ m ∧ ∀ p ∈ ps, D p.Glyph + 1 ≤ m := by
  intro ps
  induction ps with
  | nil => intro a; simp
  | cons p ps ih =>
   intro a
   rw [List.foldl_cons, ih]
   constructor
   ·rintro ⟨h, k⟩
    refine ⟨by omega, fun q hq => ?_⟩
    rcases List.mem_cons.1 hq with rfl | hq
    ·omega
    ·exact k q hq
   ·rintro ⟨h, k⟩
    have := k p (List.mem_cons_self ..)
    exact ⟨by omega, fun q hq => k q (List.mem_cons_of_mem _ hq)⟩
 intro ps
 exact this ps 0
theorem vV {f : aH} (hf : ic f) {r : Int → Nat} (hr : ∀ g : Int, 0 ≤ g → g < f.Glyphs.length → ∀ p ∈ prt f g, r p < r g) : ∀ (k : Nat) (z : Int), 0 ≤ z → z < f.Glyphs.length → r z ≤ k → dN f (k + 1) z = dN f (k + 2) z ∧ pN f (k + 1) z = pN f (k + 2) z
 | k, z, h0, h1, hk => by
  obtain ⟨gl, hg⟩ : ∃ g, f.Glyphs[z.toNat]? = some g := ⟨_, List.getElem?_eq_getElem (by omega)⟩
  have key : ∀ p ∈ gl.Parts, dN f k p.Glyph = dN f (k + 1) p.Glyph ∧ pN f k p.Glyph = pN f (k + 1) p.Glyph := fun p hp => by
   obtain ⟨h2, h3, h4⟩ := jB hf hg hp
   have h5 := hr z h0 h1 _ h2
   cases k with
   | zero => omega
   | succ j => exact vV hf hr j p.Glyph h3 h4 (by omega)
  rw [kI hg, kI hg, pQ hg, pQ hg]
  exact ⟨nd fun p hp => (key p hp).1, nK fun p hp => (key p hp).2⟩
theorem yU {f : aH} (hf : ic f) {r : Int → Nat} (hr : ∀ g : Int, 0 ≤ g → g < f.Glyphs.length → ∀ p ∈ prt f g, r p < r g) : ∀ (k : Nat) (z : Int), 0 ≤ z → z < f.Glyphs.length → dN f k z ≤ r z
 | 0, z, _, _ => by unfold dN; omega
 | k + 1, z, h0, h1 => by
  obtain ⟨gl, hg⟩ : ∃ g, f.Glyphs[z.toNat]? = some g := ⟨_, List.getElem?_eq_getElem (by omega)⟩
  rw [kI hg, oJ]
  refine ⟨by omega, fun p hp => ?_⟩
  obtain ⟨h2, h3, h4⟩ := jB hf hg hp
  have h5 := hr z h0 h1 _ h2
  have := yU hf hr k p.Glyph h3 h4
  omega
theorem xI {f : aH} (hf : ic f) (ha : fF f.Glyphs.length (prt f)) : ∃ D P, ev f D P ∧ ∀ z : Int, 0 ≤ z → z < f.Glyphs.length → 0 ≤ D z ∧ D z ≤ f.Glyphs.length := by
 obtain ⟨r, hr, hrn⟩ := jf (fun g p hp => lL (g := g) hp) ((qd fun g p hp => lL (g := g) hp).1 ha)
 refine ⟨dN f (f.Glyphs.length + 1), pN f (f.Glyphs.length + 1), fun z h0 h1 gl hg => ?_, fun z h0 h1 => ?_⟩
 ·obtain ⟨h2, h3⟩ := vV hf hr f.Glyphs.length z h0 h1 (hrn z)
  rw [h2, h3, kI hg, pQ hg]
  exact ⟨rfl, rfl⟩
 ·have h2 := yU hf hr (f.Glyphs.length + 1) z h0 h1
  have h3 := hrn z
  obtain ⟨gl, hg⟩ : ∃ g, f.Glyphs[z.toNat]? = some g := ⟨_, List.getElem?_eq_getElem (by omega)⟩
  rw [kI hg] at h2 ⊢
  have := vU (D := dN f f.Glyphs.length) gl.Parts
  omega
theorem oL {f : aH} (hf : ic f) {D P : Int → Int} (h : ev f D P) : ∀ (k : Nat) (z : Int), 0 ≤ z → z < f.Glyphs.length → D z < k → mL f k z
 | 0, z, h0, h1, hk => by
  obtain ⟨gl, hg⟩ : ∃ g, f.Glyphs[z.toNat]? = some g := ⟨_, List.getElem?_eq_getElem (by omega)⟩
  have := (h z h0 h1 gl hg).1
  have := vU (D := D) gl.Parts
  omega
 | k + 1, z, h0, h1, hk => by
  refine ⟨⟨h0, h1⟩, fun gl hg p hp => ?_⟩
  obtain ⟨h2, h3, h4⟩ := jB hf hg hp
  have h5 := (h z h0 h1 gl hg).1
  have h6 := (oJ.1 (Int.le_of_eq h5.symm)).2 p hp
  exact oL hf h k p.Glyph h3 h4 (by omega)
theorem ta {F P : bE → Int} : ∀ (ps : List bE) (a b : Int), 0 ≤ a → 0 ≤ b → min a 1001 = min b 1001 → (∀ p ∈ ps, 0 ≤ P p ∧ 0 ≤ F p ∧ min (P p) 1001 = min (F p) 1001) → min (ps.foldl (fun a p => min (a + P p) 1001) a) 1001 = min ((ps.map F).foldl (· + ·) b) 1001
  | [], a, b, _, _, h, _ => h
  | p :: ps, a, b, ha, hb, h, hp => by
    have h1 := hp p (List.mem_cons_self ..)
    rw [List.foldl_cons, List.map_cons, List.foldl_cons]
    exact ta ps _ _ (by omega) (by omega) (by omega) fun q hq => hp q (List.mem_cons_of_mem _ hq)
theorem qC {f : aH} (hf : ic f) (hw : my f) {D P : Int → Int} (h : ev f D P) : ∀ (k : Nat) (z : Int), mL f k z → 0 ≤ P z ∧ min (P z) 1001 = min (dQ f k z) 1001
  | 0, _, hd => by cases hd
  | k + 1, z, hd => by
    obtain ⟨⟨h0, h1⟩, hd⟩ := hd
    obtain ⟨gl, hg⟩ : ∃ g, f.Glyphs[z.toNat]? = some g := ⟨_, List.getElem?_eq_getElem (by omega)⟩
    have hd := hd gl hg
    have hP := (h z h0 h1 gl hg).2
    have ih := fun p hp => qC hf hw h k (bE.Glyph p) (hd p hp)
    have hnn : ∀ (ps : List bE) (a : Int), 0 ≤ a → (∀ p ∈ ps, 0 ≤ P p.Glyph) → 0 ≤ pF P ps a := by
      intro ps
      induction ps with
      | nil => intro a h _; exact h
      | cons p ps ih2 =>
        intro a h hh
        have := hh p (List.mem_cons_self ..)
        exact ih2 (min (a + P p.Glyph) 1001) (by omega) fun q hq => hh q (List.mem_cons_of_mem _ hq)
    rw [hP, k9 hg]
    refine ⟨hnn _ _ (by omega) fun p hp => (ih p hp).1, ?_⟩
    have hc := ta (F := fun p => dQ f k p.Glyph) (P := fun p => P p.Glyph) gl.Parts gl.Points.length gl.Points.length (by omega) (by omega) rfl fun p hp => ⟨(ih p hp).1, (ng hw k p.Glyph).1, (ih p hp).2⟩
    have hs : (gl.Parts.map fun p => dQ f k p.Glyph).foldl (· + ·) (gl.Points.length : Int) = gl.Points.length + kv (gl.Parts.map fun p => dQ f k p.Glyph) := by
      unfold kv
      have : ∀ (l : List Int) (a b : Int), l.foldl (· + ·) (a + b) = a + l.foldl (· + ·) b := by
        intro l
        induction l with
        | nil => intro a b; rfl
        | cons x l ih3 => intro a b; rw [List.foldl_cons, List.foldl_cons, Int.add_assoc, ih3]
      have h3 := this (gl.Parts.map fun p => dQ f k p.Glyph) gl.Points.length 0
      rwa [Int.add_zero] at h3
    rw [hs] at hc
    exact hc
theorem n8 {n : Nat} {D P : Int → Int} : (kG n D P).1 = 0 ↔ ∀ z : Int, 0 ≤ z → z < n → D z ≤ 4 ∧ P z ≤ 1000 := by
 unfold kG
 rw [cn]
 simp only [List.mem_cons, List.not_mem_nil, or_false, forall_eq_or_imp, forall_eq, dm]
 constructor
 ·rintro ⟨h1, h2⟩ z h0 hz
  have hg : (bP n)[z.toNat]? = some z := by rw [fK (by omega)]; simp; omega
  have h3 := h1 z.toNat (D z) (by rw [List.getElem?_map, hg]; rfl)
  have h4 := h2 z.toNat (P z) (by rw [List.getElem?_map, hg]; rfl)
  unfold m8 at h3
  unfold mh at h4
  rw [oe (by omega), decide_eq_false_iff_not] at h3 h4
  omega
 ·intro h
  refine ⟨fun i x hx => ?_, fun i x hx => ?_⟩
  all_goals
   rw [List.getElem?_map] at hx
   cases hu : (bP n)[i]? with
   | none => rw [hu] at hx; cases hx
   | some z =>
    rw [hu] at hx
    cases hx
    have hz := d8.1 (List.mem_of_getElem? hu)
    have := h z hz.1 hz.2
    first | unfold m8 | unfold mh
    rw [oe (by omega), decide_eq_false_iff_not]
    omega
end Go.Proofs.YtpbinloeemebkaaGreat

namespace Go.Proofs.YtpbinloeemebkaaGreat
open Go.RowKit
attribute [local irreducible] AT bN AX AO Av Kt bi dE DA d6
structure q9 where
 f : FuncId
 caps : List AV
 L : AL
 e : Int
 N : Int → Prop
def q9.ok (x : q9) : Prop := bt Tryz.prog x.f ∧ AC Tryz.prog x.f x.caps x.L fun c _ => ∃ n, x.N n ∧ c = bX (x.e, n)
def q7 : List q9 → Int
 | [] => 0
 | x :: r => if x.e = 0 then q7 r else x.e
def yg : List q9 → Int → Prop
 | [] => fun n => n = 0
 | x :: r => if x.e = 0 then yg r else x.N
def AE (l : List q9) : AL := (l.map q9.L).flatten
def qV : List q9 → Prop
 | [] => True
 | x :: r => x.ok ∧ (x.e = 0 → qV r)
def BT (x : q9) : List AV := [.fn x.f x.caps]
theorem yh {l : List q9} {i : Nat} {x : q9} (h : l[i]? = some x) : (q7 (l.drop i) = if x.e = 0 then q7 (l.drop (i + 1)) else x.e) ∧ (yg (l.drop i) = if x.e = 0 then yg (l.drop (i + 1)) else x.N) ∧ (qV (l.drop i) → x.ok ∧ (x.e = 0 → qV (l.drop (i + 1)))) ∧ AE (l.drop i) = x.L ++ AE (l.drop (i + 1)) := by
 obtain ⟨hi, hx⟩ := List.getElem?_eq_some_iff.1 h
 rw [List.drop_eq_getElem_cons hi, hx]
 exact ⟨rfl, rfl, id, rfl⟩
theorem tl : ∀ {l : List q9}, q7 l = 0 → yg l = fun n => n = 0
 | [], _ => rfl
 | x :: r, h => by
  unfold q7 at h
  unfold yg
  split
  ·rename_i h0
   rw [if_pos h0] at h
   exact tl h
  ·rename_i h0
   rw [if_neg h0] at h
   exact absurd h h0
theorem rV {σ0 : ce} {l : Nat} (ls : List q9) (hok : qV ls) (E : AL) (E' : Int → Int → AL) (hy : ∀ e n, e ≠ 0 → AY Tryz.prog σ0 l [aQ e, aQ n] E fun c L => c = c8 false ∧ L = E' e n) :
  vf Tryz.prog σ0 221 [.sc (.func (.yield l) #[] #[]), .iptr [.imm 1 (ls.map BT)]] (AE ls ++ E) fun _ L => if q7 ls = 0 then L = E else ∃ n, yg ls n ∧ L = E' (q7 ls) n := by
 refine jW Tryz.func221 rfl Tryz.ntmps221 rfl fun B hB => ?_
 (repeat' (first|refine ah ?_|refine a6 ?_|refine am ?_|refine a8 ?_|refine aa ?_|refine ae a7 rfl rfl ?_|fail))
 refine cg 7 rfl rfl fun hlen => ?_
 rw [List.length_map] at hlen
 refine aL [0, 7, 8] (α := Nat) (fun i => [(9, aQ i)]) (fun i => i ≤ ls.length ∧ q7 ls = q7 (ls.drop i) ∧ yg ls = yg (ls.drop i) ∧ qV (ls.drop i)) (fun i => AE (ls.drop i) ++ E) (fun i => ls.length - i) 0 rfl ⟨rfl, trivial⟩ ⟨Nat.zero_le _, rfl, rfl, hok⟩ (fun _ _ h => h) fun i ⟨hi, he, hN, hok⟩ => ?_
 try dsimp only [List.cons_append, List.nil_append, List.map_cons, List.map_nil]
 (repeat' (first|refine ah ?_|refine a6 ?_|refine a8 ?_|refine aa ?_|refine ae a7 rfl rfl ?_|fail))
 refine av rfl (fun h => ?_) (fun h => ?_)
 ·have hil : i < ls.length := by have := of_decide_eq_true h; simp at this; omega
  obtain ⟨x, hx⟩ : ∃ z, ls[i]? = some z := ⟨_, List.getElem?_eq_getElem hil⟩
  have hzg := b5 (c := BT) hx
  obtain ⟨h1, h2, h3, h4⟩ := yh hx
  obtain ⟨⟨hcf, hac⟩, hok⟩ := h3 hok
  rw [h1] at he
  rw [h2] at hN
  rw [h4]
  clear h1 h2 h3 h4
  (repeat' (first|refine ah ?_|refine a6 ?_|refine am ?_|refine ak ?_|refine a8 ?_|refine aa ?_|refine ae a7 rfl rfl ?_|(apply aP; first|refine aO a7 ?_|refine aI a7 ?_)|fail))
  have hac2 : AC Tryz.prog x.f ([] ++ x.caps) x.L (fun c _ => ∃ n, x.N n ∧ c = bX (x.e, n)) := hac
  refine cy (cs := []) x.L (AE (ls.drop (i + 1)) ++ E) hac2 rfl rfl rfl (by rw [List.append_assoc]) rfl rfl fun c L1 ⟨n, hn, hc⟩ => ?_
  subst hc
  refine bh (dA (List.sublist_append_right ..)) ?_
  unfold bX
  (repeat' (first|refine ah ?_|refine a6 ?_|refine a8 ?_|refine aa ?_|refine ae a7 rfl rfl ?_|fail))
  by_cases h0 : x.e = 0
  ·rw [if_pos h0] at he hN
   rw [h0]
   (repeat' (first|refine a6 ?_|refine ak ?_|refine a8 ?_|refine aJ ?_|refine aa ?_|refine ae a7 rfl rfl ?_|refine aD rfl rfl rfl rfl ?_|(apply aX; refine aW ?_)|refine bV rfl ?_|fail))
   exact aE (i + 1) rfl ⟨by rw [Int.natCast_add]; rfl, trivial⟩ ⟨by omega, he, hN, hok h0⟩ (by omega) (fun _ _ h => h)
  ·rw [if_neg h0] at he hN
   rw [show decide (x.e ≠ 0) = true from decide_eq_true h0]
   (repeat' (first|refine ae a7 rfl rfl ?_|refine aw rfl rfl ?_|fail))
   refine bh (dA (List.sublist_append_right ..)) ?_
   refine iz E [] hB (hy x.e n h0) rfl rfl rfl (bK rfl) rfl rfl fun c L1 ⟨hc, hL⟩ => ?_
   subst hc; subst hL
   rw [List.append_nil]
   (repeat' (first|refine au ?_|refine a8 ?_|refine ar ?_|refine aG ?_|refine aK ?_|refine aa ?_|refine ae a7 rfl rfl ?_|refine aw rfl rfl ?_|refine bI rfl ?_|fail))
   refine pn rfl ?_
   rw [he, hN, if_neg h0]
   exact ⟨n, hn, rfl⟩
 ·have hil : i = ls.length := by have := of_decide_eq_false h; simp at this; omega
  subst hil
  rw [List.drop_length] at he ⊢
  (repeat' (first|refine aR ?_|refine az ?_|refine aC ?_|refine aA ?_|fail))
  refine cB rfl ?_
  rw [he, show q7 [] = 0 from rfl, if_pos rfl]
  rfl
set_option maxHeartbeats 1000000 in
theorem ug (ls : List q9) (hok : qV ls) : AC Tryz.prog 80 [.imm 1 (ls.map BT)] (AE ls) fun c _ => ∃ n, yg ls n ∧ c = bX (q7 ls, n) := by
 refine iS Tryz.func80 rfl Tryz.ntmps80 rfl fun B => ?_
 (repeat' (first|refine ah ?_|refine a6 ?_|refine am ?_|refine a8 ?_|refine aa ?_|refine ae a7 rfl rfl ?_|refine bb a7 fun _=>?_|(apply ba;refine aY ?_)|fail))
 rename_i b2 b3
 refine eY (ps := [8, 9]) rfl fun σ0 l db rec hrec => ?_
 have hy : ∀ e n : Int, e ≠ 0 → AY Tryz.prog σ0 l [aQ e, aQ n] ([(b3, .box [aQ 0] 3), (b2, .box [aQ 0] 40), (db, dO)] ++ [(l, dV rec)]) fun c L => c = c8 false ∧ L = [(b3, .box [aQ n] 3), (b2, .box [aQ e] 40), (db, dO)] ++ [(l, dV { ({ rec with state := .busy } : Loop) with state := .done, pending := some .ret })] := by
  intro e n he
  refine kE hrec rfl rfl fun B1 hB1 => ?_
  (repeat' (first|refine ah ?_|refine a6 ?_|refine a8 ?_|refine aa ?_|refine ae a7 rfl rfl ?_|fail))
  refine eZ hrec.state ?_
  (repeat' (first|refine ah ?_|refine a6 ?_|refine am ?_|refine au ?_|refine a8 ?_|refine aG ?_|refine aa ?_|refine ae a7 rfl rfl ?_|(apply aT; first|refine aj a7 0 rfl rfl rfl rfl rfl rfl rfl ?_|refine aj a7 1 rfl rfl rfl rfl rfl rfl rfl ?_|refine aj a7 2 rfl rfl rfl rfl rfl rfl rfl ?_|refine aj a7 3 rfl rfl rfl rfl rfl rfl rfl ?_|fail)|fail))
  refine k6 (L := [(b3, .box [aQ n] 3), (b2, .box [aQ e] 40), (db, dO)]) ?_
  exact ⟨rfl, rfl⟩
 refine ⟨_, (rV ls hok _ _ hy).perm ?_, fun c L' hL' => ?_⟩
 ·simp only [List.append_assoc, List.cons_append, List.nil_append]
  exact r5
 ·by_cases h0 : q7 ls = 0
  ·rw [if_pos h0] at hL'
   subst hL'
   refine ⟨rec, _, List.Perm.refl _, (by rw [hrec.state]; intro h; cases h), ?_⟩
   rw [hrec.pending]
   show AX _ _ _ _ _ _ _ _
   (repeat' (first|refine ah ?_|refine a6 ?_|refine au ?_|refine a8 ?_|refine aJ ?_|refine aa ?_|(apply aT; first|refine aj a7 0 rfl rfl rfl rfl rfl rfl rfl ?_|refine aj a7 1 rfl rfl rfl rfl rfl rfl rfl ?_|refine aj a7 2 rfl rfl rfl rfl rfl rfl rfl ?_|refine aj a7 3 rfl rfl rfl rfl rfl rfl rfl ?_|fail)|fail))
   refine eI (cs := [aQ 0, aQ 0]) [db] [(b3, .box [aQ 0] 3), (b2, .box [aQ 0] 40)] rfl (List.Perm.refl _) ?_ ?_
   ·exact ⟨⟨b2, 1, _, _, rfl, rfl, .inl ⟨co a7 rfl, rfl⟩⟩, ⟨b3, 0, _, _, rfl, rfl, .inl ⟨co a7 rfl, rfl⟩⟩, trivial⟩
   ·rw [h0, tl h0]
    exact ⟨0, rfl, rfl⟩
  ·rw [if_neg h0] at hL'
   obtain ⟨n, hn, hL'⟩ := hL'
   subst hL'
   refine ⟨_, _, List.Perm.refl _, (by intro h; cases h), ?_⟩
   show AX _ _ _ _ _ _ _ _
   (repeat' (first|refine ar ?_|refine aG ?_|fail))
   refine eI (cs := [aQ (q7 ls), aQ n]) [db] [(b3, .box [aQ n] 3), (b2, .box [aQ (q7 ls)] 40)] rfl (List.Perm.refl _) ?_ ⟨n, hn, rfl⟩
   exact ⟨⟨b2, 1, _, _, rfl, rfl, .inl ⟨co a7 rfl, rfl⟩⟩, ⟨b3, 0, _, _, rfl, rfl, .inl ⟨co a7 rfl, rfl⟩⟩, trivial⟩
end Go.Proofs.YtpbinloeemebkaaGreat

namespace Go.Proofs.YtpbinloeemebkaaGreat
open Go.RowKit
attribute [local irreducible] AT bN AX AO Av Kt bi dE DA d6
structure jK (f : aH) (to : Int) (S T : List Int) (done : List Int) : Prop where
 nodup : T.Nodup
 dom : ∀ z ∈ T, 0 ≤ z ∧ z < f.Glyphs.length
 sub : ∀ z ∈ S, z ∈ T
 done : ∀ p ∈ done, p ≠ to ∧ p ∈ T
 new : ∀ x ∈ T, x ∉ S → ∀ p ∈ prt f x, p ≠ to ∧ p ∈ T
theorem r7 {f : aH} (hf : ic f) {gl : be} {i : Nat} {p : bE} (hp : gl.Parts[i]? = some p) : (gl.Parts.take (i + 1)).map bE.Glyph = (gl.Parts.take i).map bE.Glyph ++ [p.Glyph] := by
 rw [List.take_add_one, hp, Option.toList_some, List.map_append]; rfl
theorem jK.more {f : aH} {to : Int} {S T done : List Int} (h : jK f to S T done) {p : Int} (h1 : p ≠ to) (h2 : p ∈ T) : jK f to S T (done ++ [p]) :=
 ⟨h.nodup, h.dom, h.sub, fun q hq => by
  rcases List.mem_append.1 hq with hq | hq
  ·exact h.done q hq
  ·rw [List.mem_singleton] at hq; subst hq; exact ⟨h1, h2⟩, h.new⟩
theorem jK.deep {f : aH} {to : Int} {S T T' done : List Int} {p : Int} (h : jK f to S T done) (hp : p ≠ to) (hT : p ∉ T) (k : jK f to (T ++ [p]) T' (prt f p)) : jK f to S T' (done ++ [p]) := by
 have hsub : ∀ z ∈ T, z ∈ T' := fun z hz => k.sub z (List.mem_append.2 (.inl hz))
 have hpT : p ∈ T' := k.sub p (List.mem_append.2 (.inr (List.mem_singleton.2 rfl)))
 refine ⟨k.nodup, k.dom, fun z hz => hsub z (h.sub z hz), fun q hq => ?_, fun x hx hS q hq => ?_⟩
 ·rcases List.mem_append.1 hq with hq | hq
  ·exact ⟨(h.done q hq).1, hsub q (h.done q hq).2⟩
  ·rw [List.mem_singleton] at hq; subst hq; exact ⟨hp, hpT⟩
 ·by_cases hxT : x ∈ T
  ·have := h.new x hxT hS q hq
   exact ⟨this.1, hsub q this.2⟩
  ·by_cases e : x = p
   ·subst e; exact k.done q hq
   ·exact k.new x hx (fun hm => by
     rcases List.mem_append.1 hm with hm | hm
     ·exact hxT hm
     ·exact e (List.mem_singleton.1 hm)) q hq
set_option maxHeartbeats 4000000 in
theorem nN (f : aH) (hf : ic f) (to : Int) (b : Nat) : ∀ (k : Nat) (S : List Int) (g : Int), S.Nodup → (∀ z ∈ S, 0 ≤ z ∧ z < f.Glyphs.length) → f.Glyphs.length < S.length + k → 0 ≤ g ∧ g < f.Glyphs.length → AC Tryz.prog 194 [bw f, aQ g, aQ to, .sc (.slice (some ⟨b, 0, none⟩) f.Glyphs.length f.Glyphs.length)] [(b, .box (dZ S f.Glyphs.length) 4)] fun c L => ∃ (r : Bool) (T : List Int), c = c8 r ∧ L = [(b, .box (dZ T f.Glyphs.length) 4)] ∧ (r = true → sO (prt f) g to) ∧ (r = false → jK f to S T (prt f g))
 | 0, S, g, hS, hSd, hk, _ => by
  have := eb hS hSd
  omega
 | k + 1, S, g, hS, hSd, hk, hg => by
  obtain ⟨hg0, hg1⟩ := hg
  obtain ⟨gl, hgl⟩ : ∃ x, f.Glyphs[g.toNat]? = some x := ⟨_, List.getElem?_eq_getElem (by omega)⟩
  have hgg := b5 (c := bz) hgl
  have hgm := List.mem_of_getElem? hgl
  have hn := hf.n
  have hpl : (gl.Parts.map d7).length = gl.Parts.length := List.length_map ..
  have hpc := hf.parts gl hgm
  have hall := l3 hf hgl
  have ih := nN f hf to b k
  refine aU Tryz.func194 rfl Tryz.ntmps194 rfl fun B => ?_
  (repeat' (first|refine ah ?_|refine a6 ?_|refine am ?_|refine a8 ?_|refine aa ?_|refine ae a7 rfl rfl ?_|refine b6 ?_|fail))
  refine aL [1, 2, 3, 4] (α := Nat × List Int) (fun x => [(9, aQ x.1)]) (fun x => x.1 ≤ gl.Parts.length ∧ S.length ≤ x.2.length ∧ jK f to S x.2 ((gl.Parts.take x.1).map bE.Glyph)) (fun x => [(b, .box (dZ x.2 f.Glyphs.length) 4)]) (fun x => gl.Parts.length - x.1) (0, S) rfl ⟨rfl, trivial⟩ ⟨Nat.zero_le _, Nat.le_refl _, hS, hSd, fun _ h => h, fun p hp => (by cases hp), fun x hx hh => absurd hx hh⟩ (fun _ _ h => h) ?_
  rintro ⟨i, T⟩ ⟨hi, hTl, hP⟩
  dsimp only at hi hTl hP ⊢
  try dsimp only [List.cons_append, List.nil_append, List.map_cons, List.map_nil]
  (repeat' (first|refine ah ?_|refine a6 ?_|refine a8 ?_|refine aa ?_|refine ae a7 rfl rfl ?_|(apply aP; first|refine aO a7 ?_|refine aI a7 ?_)|fail))
  refine av rfl (fun h => ?_) (fun h => ?_)
  ·have hil : i < gl.Parts.length := by have := of_decide_eq_true h; omega
   obtain ⟨p, hp⟩ : ∃ z, gl.Parts[i]? = some z := ⟨_, List.getElem?_eq_getElem hil⟩
   have hpg := b5 (c := d7) hp
   obtain ⟨hpp, hp0, hp1⟩ := jB hf hgl (List.mem_of_getElem? hp)
   clear h
   (repeat' (first|refine ah ?_|refine a6 ?_|refine am ?_|refine ak ?_|refine a8 ?_|refine aa ?_|refine ae a7 rfl rfl ?_|(apply aP; first|refine aO a7 ?_|refine aI a7 ?_)|fail))
   refine av rfl (fun h => ?_) (fun h => ?_)
   ·have h := of_decide_eq_true h
    (repeat' (first|refine ah ?_|refine a6 ?_|refine au ?_|refine a8 ?_|refine ar ?_|refine aG ?_|refine aK ?_|refine aa ?_|refine ae a7 rfl rfl ?_|fail))
    exact aB rfl rfl ⟨true, T, rfl, rfl, fun _ => h ▸ .one hpp, fun h => by cases h⟩
   have h := of_decide_eq_false h
   have hfg := jv T f.Glyphs.length hp0 hp1
   (repeat' (first|refine ah ?_|refine a6 ?_|refine ak ?_|refine a8 ?_|refine aa ?_|refine ae a7 rfl rfl ?_|(apply bn; first|refine aq a7 0 rfl rfl rfl rfl rfl ?_|refine aq a7 1 rfl rfl rfl rfl rfl ?_|refine aq a7 2 rfl rfl rfl rfl rfl ?_|refine aq a7 3 rfl rfl rfl rfl rfl ?_|refine aF a7 0 rfl rfl rfl rfl rfl ?_|refine aF a7 1 rfl rfl rfl rfl rfl ?_|refine aF a7 2 rfl rfl rfl rfl rfl ?_|refine aq a7 1 rfl rfl rfl (by assumption) rfl ?_|refine aq a7 0 rfl rfl rfl (by assumption) rfl ?_|fail)|(apply aP; first|refine aO a7 ?_|refine aI a7 ?_)|fail))
   refine av rfl (fun h2 => ?_) (fun h2 => ?_)
   ·have hpT : p.Glyph ∉ T := fun hm => by
     have : T.contains p.Glyph = true := List.contains_iff_mem.2 hm
     rw [this] at h2
     cases h2
    clear h2
    (repeat' (first|refine ah ?_|refine a6 ?_|refine ae a7 rfl rfl ?_|(apply aP; first|refine aO a7 ?_|refine aI a7 ?_)|fail))
    refine aj a7 0 rfl rfl rfl rfl rfl rfl (by rw [Nat.ble_eq, jw]; show _ + 1 ≤ _; omega) ?_
    rw [dU, lA T f.Glyphs.length hp0 hp1]
    (repeat' (first|refine ah ?_|refine a6 ?_|refine a8 ?_|refine aa ?_|refine ae a7 rfl rfl ?_|fail))
    refine aZ [(b, .box (dZ (T ++ [p.Glyph]) f.Glyphs.length) 4)] [] (ih (T ++ [p.Glyph]) p.Glyph ?_ ?_ ?_ ⟨hp0, hp1⟩) rfl rfl (List.Perm.refl _) rfl fun c L1 ⟨r, T', hc, hL, hr, hP'⟩ => ?_
    ·exact List.nodup_append.2 ⟨hP.nodup, by simp, fun x hx y hy e => by rw [List.mem_singleton] at hy; subst hy; subst e; exact hpT hx⟩
    ·intro z hz
     rcases List.mem_append.1 hz with hz | hz
     ·exact hP.dom z hz
     ·rw [List.mem_singleton] at hz; subst hz; exact ⟨hp0, hp1⟩
    ·rw [List.length_append, List.length_singleton]; omega
    subst hc; subst hL
    cases r with
    | true =>
     (repeat' (first|refine ah ?_|refine a6 ?_|refine au ?_|refine a8 ?_|refine ar ?_|refine aG ?_|refine aK ?_|refine aa ?_|refine ae a7 rfl rfl ?_|refine bI rfl ?_|fail))
     exact aB rfl rfl ⟨true, T', rfl, rfl, fun _ => .step hpp (hr rfl), fun h => by cases h⟩
    | false =>
     have hP2 := hP.deep h hpT (hP' rfl)
     have hTl2 := lJ hP.nodup fun z hz => (hP' rfl).sub z (List.mem_append.2 (.inl hz))
     (repeat' (first|refine ah ?_|refine a6 ?_|refine ak ?_|refine a8 ?_|refine aJ ?_|refine aa ?_|refine ae a7 rfl rfl ?_|(apply aX; refine aW ?_)|refine bV rfl ?_|fail))
     exact aE (i + 1, T') rfl ⟨by rw [Int.natCast_add]; rfl, trivial⟩ ⟨by dsimp only; omega, by dsimp only; omega, by dsimp only; rw [r7 hf hp]; exact hP2⟩ (by dsimp only; omega) (fun _ _ h => h)
   ·have hpT : p.Glyph ∈ T := by
     have h2 : T.contains p.Glyph = true := by simpa using h2
     exact List.contains_iff_mem.1 h2
    (repeat' (first|refine a6 ?_|refine ak ?_|refine a8 ?_|refine aJ ?_|refine aa ?_|refine ae a7 rfl rfl ?_|(apply aX; refine aW ?_)|fail))
    exact aE (i + 1, T) rfl ⟨by rw [Int.natCast_add]; rfl, trivial⟩ ⟨by dsimp only; omega, hTl, by dsimp only; rw [r7 hf hp]; exact hP.more h hpT⟩ (by dsimp only; omega) (fun _ _ h => h)
  have hil : i = gl.Parts.length := by have := of_decide_eq_false h; omega
  subst hil
  rw [List.take_length, ← hall] at hP
  (repeat' (first|refine ah ?_|refine a6 ?_|refine au ?_|refine aR ?_|refine a8 ?_|refine az ?_|refine aC ?_|refine aA ?_|refine aa ?_|refine ae a7 rfl rfl ?_|fail))
  exact aB rfl rfl ⟨false, T, rfl, rfl, fun h => (by cases h), fun _ => hP⟩
theorem Ab {f : aH} {g : Int} {T : List Int} (h : jK f g [] T (prt f g)) : ¬ sO (prt f) g g := by
 have key : ∀ {a c : Int}, sO (prt f) a c → (a = g ∨ a ∈ T) → c = g → False := by
  intro a c hp
  induction hp with
  | @one a c hc =>
   rintro (rfl | ha) rfl
   ·exact (h.done _ hc).1 rfl
   ·exact (h.new _ ha (by simp) _ hc).1 rfl
  | @step a b c hb _ ih =>
   rintro (rfl | ha) hc
   ·exact ih (.inr (h.done _ hb).2) hc
   ·exact ih (.inr (h.new _ ha (by simp) _ hb).2) hc
 exact fun hp => key hp (.inl rfl) rfl
def rz (f : aH) (d : Int → Int) (k : Int) (i : Nat) (D : Int → Int) : Prop := ∀ z : Int, 0 ≤ z → z < f.Glyphs.length → (0 ≤ D z ∧ D z ≤ d z) ∧ (d z ≤ k → D z = d z) ∧ (z < i → d z ≤ k + 1 → D z = d z)
def Az (f : aH) (d : Int → Int) (k : Int) (ps : List bE) (i : Nat) (D : Int → Int) : Prop := rz f d k i D ∧ ∀ p ∈ ps, d p.Glyph ≤ k → d p.Glyph + 1 ≤ D i
theorem rz.next {f : aH} {d D : Int → Int} {k : Int} (h : rz f d k f.Glyphs.length D) : rz f d (k + 1) 0 D := fun z h0 h1 => by
 have := h z h0 h1
 exact ⟨this.1, fun hk => this.2.2 (by omega) hk, fun h => by omega⟩
theorem Az.step {f : aH} (hf : ic f) {d D P : Int → Int} (hd : ev f d P) {k : Int} {i j : Nat} {gl : be} (hg : f.Glyphs[i]? = some gl) {p : bE} (hp : gl.Parts[j]? = some p) (h : Az f d k (gl.Parts.take j) i D) : Az f d k (gl.Parts.take (j + 1)) i (fN D i (max (D i) (D p.Glyph + 1))) ∧ (0 ≤ max (D i) (D p.Glyph + 1)) := by
 obtain ⟨h1, h2⟩ := h
 have hin := (List.getElem?_eq_some_iff.1 hg).1
 have hg' : f.Glyphs[(i : Int).toNat]? = some gl := by rw [Int.toNat_natCast]; exact hg
 obtain ⟨_, hp0, hp1⟩ := jB hf hg' (List.mem_of_getElem? hp)
 have hdi := (hd i (by omega) (by omega) gl hg').1
 have hle := (oJ.1 (Int.le_of_eq hdi.symm)).2 p (List.mem_of_getElem? hp)
 have hi := h1 i (by omega) (by omega)
 have hpz := h1 p.Glyph hp0 hp1
 refine ⟨⟨fun z z0 z1 => ?_, fun q hq hk => ?_⟩, by omega⟩
 ·by_cases e : z = i
  ·subst e
   rw [fX]
   refine ⟨by omega, fun hk => by omega, fun hk => by omega⟩
  ·rw [gH e]
   exact h1 z z0 z1
 ·rw [fX]
  rw [List.take_add_one, hp, Option.toList_some] at hq
  rcases List.mem_append.1 hq with hq | hq
  ·have := h2 q hq hk
   omega
  ·rw [List.mem_singleton] at hq
   subst hq
   have := hpz.2.1 hk
   omega
theorem Az.done {f : aH} {d D P : Int → Int} (hd : ev f d P) {k : Int} {i : Nat} {gl : be} (hg : f.Glyphs[i]? = some gl) (h : Az f d k gl.Parts i D) : rz f d k (i + 1) D := by
 obtain ⟨h1, h2⟩ := h
 have hin := (List.getElem?_eq_some_iff.1 hg).1
 have hg' : f.Glyphs[(i : Int).toNat]? = some gl := by rw [Int.toNat_natCast]; exact hg
 have hdi := (hd i (by omega) (by omega) gl hg').1
 intro z h0 hz
 have hz1 := h1 z h0 hz
 refine ⟨hz1.1, hz1.2.1, fun hzi hk => ?_⟩
 by_cases e : z = i
 ·subst e
  have : d (i : Int) ≤ D i := by
   rw [hdi, oJ]
   refine ⟨hz1.1.1, fun p hp => h2 p hp ?_⟩
   have := (oJ.1 (Int.le_of_eq hdi.symm)).2 p hp
   omega
  omega
 ·exact hz1.2.2 (by omega) hk
set_option maxHeartbeats 4000000 in
theorem vX (f : aH) (hf : ic f) (d P : Int → Int) (hd : ev f d P) (hb : ∀ z : Int, 0 ≤ z → z < f.Glyphs.length → 0 ≤ d z ∧ d z ≤ f.Glyphs.length) : bo Tryz.prog 195 [bw f] (.imm 1 (aV ((bP f.Glyphs.length).map d))) := by
 refine aU Tryz.func195 rfl Tryz.ntmps195 rfl fun B => ?_
 have hn := hf.n
 have hml : (f.Glyphs.map bz).length = f.Glyphs.length := List.length_map ..
 (repeat' (first|refine ah ?_|refine a6 ?_|refine a8 ?_|refine aa ?_|refine ae a7 rfl rfl ?_|refine b6 ?_|fail))
 rw [hml]
 refine jb a7 f.Glyphs.length rfl rfl rfl rfl rfl rfl rfl (by omega) (by omega) rfl fun b => ?_
 rw [show (List.replicate f.Glyphs.length (List.map AV.sc [Value.int .i64 0])).flatten = cA f.Glyphs.length fun _ => 0 from iV _]
 (repeat' (first|refine ah ?_|refine a6 ?_|refine am ?_|refine a8 ?_|refine aa ?_|refine ae a7 rfl rfl ?_|fail))
 refine aL [1, 3] (α := Nat × (Int → Int)) (fun x => [(4, aQ x.1)]) (fun x => x.1 ≤ f.Glyphs.length ∧ rz f d x.1 0 x.2) (fun x => [(b, .box (cA f.Glyphs.length x.2) 3)]) (fun x => f.Glyphs.length - x.1) (0, (fun _ => 0)) rfl ⟨rfl, trivial⟩ ⟨Nat.zero_le _, fun z h0 h1 => ⟨by have := hb z h0 h1; dsimp only; omega, fun h => by have := hb z h0 h1; dsimp only at h ⊢; omega, fun h => by omega⟩⟩ (fun _ _ h => h) ?_
 rintro ⟨r, D⟩ ⟨hr, hM⟩
 dsimp only at hr hM ⊢
 try dsimp only [List.cons_append, List.nil_append, List.map_cons, List.map_nil]
 (repeat' (first|refine ah ?_|refine a6 ?_|refine a8 ?_|refine aa ?_|refine ae a7 rfl rfl ?_|fail))
 refine av rfl (fun h => ?_) (fun h => ?_)
 ·have hrl : r < f.Glyphs.length := by have := of_decide_eq_true h; omega
  clear h
  (repeat' (first|refine ah ?_|refine a6 ?_|refine am ?_|refine ak ?_|refine a8 ?_|refine aa ?_|refine ae a7 rfl rfl ?_|fail))
  refine aL [1, 3, 4] (α := Nat × (Int → Int)) (fun x => [(5, aQ x.1)]) (fun x => x.1 ≤ f.Glyphs.length ∧ rz f d r x.1 x.2) (fun x => [(b, .box (cA f.Glyphs.length x.2) 3)]) (fun x => f.Glyphs.length - x.1) (0, D) rfl ⟨rfl, trivial⟩ ⟨Nat.zero_le _, hM⟩ (fun _ _ h => h) ?_
  clear hM
  rintro ⟨i, D⟩ ⟨hi, hM⟩
  dsimp only at hi hM ⊢
  try dsimp only [List.cons_append, List.nil_append, List.map_cons, List.map_nil]
  (repeat' (first|refine ah ?_|refine a6 ?_|refine a8 ?_|refine aa ?_|refine ae a7 rfl rfl ?_|fail))
  refine av rfl (fun h => ?_) (fun h => ?_)
  ·have hil : i < f.Glyphs.length := by have := of_decide_eq_true h; omega
   obtain ⟨gl, hgl⟩ : ∃ x, f.Glyphs[i]? = some x := ⟨_, List.getElem?_eq_getElem (by omega)⟩
   have hgg := b5 (c := bz) hgl
   have hpl : (gl.Parts.map d7).length = gl.Parts.length := List.length_map ..
   have hpc := hf.parts gl (List.mem_of_getElem? hgl)
   clear h
   (repeat' (first|refine ah ?_|refine a6 ?_|refine am ?_|refine ak ?_|refine a8 ?_|refine aa ?_|refine ae a7 rfl rfl ?_|fail))
   refine aL [1, 3, 4, 5] (α := Nat × (Int → Int)) (fun x => [(6, aQ x.1)]) (fun x => x.1 ≤ gl.Parts.length ∧ Az f d r (gl.Parts.take x.1) i x.2) (fun x => [(b, .box (cA f.Glyphs.length x.2) 3)]) (fun x => gl.Parts.length - x.1) (0, D) rfl ⟨rfl, trivial⟩ ⟨Nat.zero_le _, hM, fun p hp => (by cases hp)⟩ (fun _ _ h => h) ?_
   clear hM
   rintro ⟨j, D⟩ ⟨hj, hI⟩
   dsimp only at hj hI ⊢
   try dsimp only [List.cons_append, List.nil_append, List.map_cons, List.map_nil]
   (repeat' (first|refine ah ?_|refine a6 ?_|refine a8 ?_|refine aa ?_|refine ae a7 rfl rfl ?_|(apply aP; first|refine aO a7 ?_|refine aI a7 ?_)|fail))
   refine av rfl (fun h => ?_) (fun h => ?_)
   ·have hjl : j < gl.Parts.length := by have := of_decide_eq_true h; omega
    obtain ⟨p, hp⟩ : ∃ z, gl.Parts[j]? = some z := ⟨_, List.getElem?_eq_getElem hjl⟩
    have hpg := b5 (c := d7) hp
    have hgl' : f.Glyphs[(i : Int).toNat]? = some gl := by rw [Int.toNat_natCast]; exact hgl
    obtain ⟨_, hp0, hp1⟩ := jB hf hgl' (List.mem_of_getElem? hp)
    have hst := hI.step hf hd hgl hp
    have hDp := hI.1 p.Glyph hp0 hp1
    have hDb := hb p.Glyph hp0 hp1
    have hc1 : (cA f.Glyphs.length D)[0 + (i : Int).toNat * 1]? = some (aQ (D i)) := fi (by omega) (by omega)
    have hc2 : (cA f.Glyphs.length D)[0 + p.Glyph.toNat * 1]? = some (aQ (D p.Glyph)) := fi hp0 hp1
    clear h
    (repeat' (first|refine ah ?_|refine am ?_|refine ak ?_|refine a8 ?_|fail))
    refine bj 21 [(0, .v), (1, .v), (2, .v), (3, .v), (4, .v), (5, .l), (6, .v), (7, .v), (8, .v), (9, .v), (10, .v), (11, .v), (12, .v), (13, .v), (14, .v), (15, .v), (16, .v), (17, .v), (18, .l), (19, .v), (20, .v)] none ?_ trivial rfl (by kernel_rfl) (by kernel_rfl) (by kernel_rfl) mixed (by kernel_rfl) rfl
    (repeat' (first|refine aN ?_|refine bf a7 ?_|fail))
    refine e9 a7 rfl rfl rfl (by omega) trivial ?_
    (repeat' (first|refine aN ?_|fail))
    refine dI a7 0 rfl rfl rfl hc1 trivial ?_
    (repeat' (first|refine aN ?_|refine bf a7 ?_|(apply bs;refine bH a7 ?_)|fail))
    refine e9 a7 rfl rfl rfl ⟨hp0, hp1⟩ trivial ?_
    (repeat' (first|refine aN ?_|fail))
    refine dI a7 0 rfl rfl rfl hc2 trivial ?_
    (repeat' (first|refine aN ?_|refine bf a7 ?_|(apply ey;refine fH ?_)|fail))
    refine bl [1, 3, 4, 5, 6, 36, 37, 56] rfl rfl ?_
    (repeat' (first|(apply aP; first|refine aO a7 ?_|refine aI a7 ?_)|fail))
    refine aj a7 0 rfl rfl rfl rfl rfl rfl (by rw [Nat.ble_eq, gc]; show _ + 1 ≤ _; omega) ?_
    rw [dU, il (by omega) (by omega)]
    (repeat' (first|refine a6 ?_|refine a8 ?_|refine aJ ?_|refine aa ?_|refine ae a7 rfl rfl ?_|(apply aX; refine aW ?_)|fail))
    exact aE (j + 1, _) rfl ⟨by rw [Int.natCast_add]; rfl, trivial⟩ ⟨by dsimp only; omega, hst.1⟩ (by dsimp only; omega) (fun _ _ h => h)
   have hjl : j = gl.Parts.length := by have := of_decide_eq_false h; omega
   subst hjl
   rw [List.take_length] at hI
   (repeat' (first|refine a6 ?_|refine aR ?_|refine a8 ?_|refine az ?_|refine aJ ?_|refine aC ?_|refine aA ?_|refine aa ?_|refine ae a7 rfl rfl ?_|(apply aX; refine aW ?_)|fail))
   exact aE (i + 1, D) rfl ⟨by rw [Int.natCast_add]; rfl, trivial⟩ ⟨by dsimp only; omega, hI.done hd hgl⟩ (by dsimp only; omega) (fun _ _ h => h)
  have hil : i = f.Glyphs.length := by have := of_decide_eq_false h; omega
  subst hil
  (repeat' (first|refine a6 ?_|refine aR ?_|refine a8 ?_|refine az ?_|refine aJ ?_|refine aC ?_|refine aA ?_|refine aa ?_|refine ae a7 rfl rfl ?_|(apply aX; refine aW ?_)|fail))
  exact aE (r + 1, D) rfl ⟨by rw [Int.natCast_add]; rfl, trivial⟩ ⟨by dsimp only; omega, by dsimp only; rw [Int.natCast_add]; exact hM.next⟩ (by dsimp only; omega) (fun _ _ h => h)
 have hil : r = f.Glyphs.length := by have := of_decide_eq_false h; omega
 subst hil
 have hDd : cA f.Glyphs.length D = cA f.Glyphs.length d := by
  unfold cA
  refine List.map_congr_left fun z hz => ?_
  obtain ⟨h0, h1⟩ := d8.1 hz
  rw [(hM z h0 h1).2.1 (hb z h0 h1).2]
 rw [hDd]
 have hcd : cA f.Glyphs.length d = (aV ((bP f.Glyphs.length).map d)).flatten := by rw [gS]; unfold cA; rw [List.map_map]; rfl
 have hcl : (aV ((bP f.Glyphs.length).map d)).length = f.Glyphs.length := by rw [aM, List.length_map, d9]
 clear h
 (repeat' (first|refine ah ?_|refine a6 ?_|refine au ?_|refine aR ?_|refine a8 ?_|refine az ?_|refine aC ?_|refine aA ?_|refine aa ?_|refine ae a7 rfl rfl ?_|fail))
 refine bU (lb (t := 2) (sz := 1) (l := aV ((bP f.Glyphs.length).map d)) 0 rfl rfl hcd (by simp [aV]) hcl (by omega)) ?_
 refine bU (cw (t := 2) (c' := .imm 1 (aV ((bP f.Glyphs.length).map d))) rfl fun σ v h => VR.im h) ?_
 exact aB rfl rfl rfl
end Go.Proofs.YtpbinloeemebkaaGreat

namespace Go.Proofs.YtpbinloeemebkaaGreat
open Go.RowKit
section
variable {P : Program} {fr : c9} {B : Bs} {L : AL} {d : Option Tmp} {ty t t' : TypeId} {pos : String} {af : Array Edge} {g : Option (Nat × Bool)} {x y z q : Operand} {u : AV}
theorem CZ.cells {e : TypeId} {i : TypeInfo} {zz : Value} {zs : List Value} (hz : CZ P e zs) (hi : P.info? e = some i) (hzz : i.zero = some zz) (w : World) : zz.cells = zs.toArray := by
 obtain ⟨v, hv, hr⟩ := hz.run
 have := hr w
 simp [zeroValue, typeInfo, hi, hzz] at this
 rw [this, hv]
theorem tJ {σ : ce} (l : List Value) : d4 σ (l.map .sc) l := by
 refine ⟨by simp, fun i c u hc hu => ?_⟩
 rw [List.getElem?_map, hu] at hc
 cases hc
 exact .sc _
theorem jT {zs : Array Value} {n : Nat} {v : Value} (h : v ∈ (Builtin.zeroCells zs n).toList) : v ∈ zs.toList := by
 obtain ⟨i, hi, rfl⟩ := List.getElem_of_mem h
 simp only [Builtin.zeroCells] at hi ⊢
 by_cases h0 : zs.size = 0
 ·simp [h0] at hi
 ·have : i % zs.size < zs.size := Nat.mod_lt _ (by omega)
  simp [this]
theorem rH (i : Nat) {e sz by_ b n cap : Nat} {cs es : List AV} {zs : List Value} (hc : mo P t e sz by_) (hs0 : 0 < sz) (hz : CZ P e zs) (hz1 : zs.all (·.oneCell') = true) (hx : bB fr x = some (.sc (.slice (some ⟨b, 0, none⟩) n cap))) (hy : bB fr y = some u) (hu : u.im = .imm sz [es]) (hL : L[i]? = some (b, .box cs e)) (hcl : cs.length = cap * sz) (hn : n ≤ cap) (hcm : cap ≤ maxLen) (h63 : n + 1 ≤ maxLen) (hby : (n + 1) * by_ ≤ 140737488355328) :
  AO P ⟨d, .call ⟨.builtin .append, #[x, y], #[t, t]⟩, ty, pos, af, g⟩ fr B L (fun r L' => ∃ b' cs' cap', r = .sc (.slice (some ⟨b', 0, none⟩) (n + 1) cap') ∧ cs'.length = cap' * sz ∧ cs'.take ((n + 1) * sz) = cs.take (n * sz) ++ es ∧ n + 1 ≤ cap' ∧ cap' ≤ maxLen ∧ L' = (b', .box cs' e) :: L.eraseIdx i) := by
 intro σ ρ w hρ hw0
 have hw := hw0.perm (fh hL)
 have hxv := (hρ x _ hx).sc_inv
 have hyv := (hρ y u hy).im
 rw [hu] at hyv
 obtain ⟨A2, c2, hA2, _⟩ := hyv.imm_inv
 rw [hA2] at hyv
 obtain ⟨_, _, _, hs2, ys, hyl, hyr, hy1, hyc⟩ := hyv.row
 obtain ⟨b2, off2, rfl, hycc⟩ := hyc (by simp)
 haveI := hc
 obtain ⟨inf, zz, hi, hsz, rfl, hzz, hzs⟩ := hc.info
 have hzc := hz.cells hi hzz w
 obtain ⟨o, ho, vs, rfl, hvs, h1⟩ := hw.here _ (List.mem_cons_self ..)
 have hl := hvs.1
 have hel : es.length = sz := hs2 es (by simp)
 have hyl0 : ys.length = sz := by simpa [hel] using hyl
 have hyl' : ys.length = 1 * inf.size := by rw [hsz]; omega
 have hyr' : d4 σ es ys := by simpa using hyr
 have hnews : ∀ j v, ys[j]? = some v → w.cell? ((⟨b2, off2, none⟩ : Addr).add j) = some v := fun j v hj => by rw [eO]; exact hw.froz _ _ _ (hycc j v hj)
 have hA2' : ρ y = .slice (some ⟨b2, off2, none⟩) 1 c2 := hA2
 have hmul : (n + 1) * sz = n * sz + sz := by rw [Nat.add_mul, Nat.one_mul]
 have hnc : n * sz ≤ cap * sz := Nat.mul_le_mul_right _ hn
 unfold maxLen at hcm h63
 unfold ia
 by_cases hroom : n + 1 ≤ cap
 ·have hnc1 : (n + 1) * sz ≤ cap * sz := Nat.mul_le_mul_right _ hroom
  have hr := run_append_room (P := P) w t ty e inf hc.under hi b n cap vs.toArray ho ⟨b2, off2, none⟩ 1 c2 ys hyl' hnews hy1 hroom (by rw [hsz]; simp; omega)
  rw [show (execOp ρ ⟨d, .call ⟨.builtin .append, #[x, y], #[t, t]⟩, ty, pos, af, g⟩).run P w = .ok (.value (.slice (some ⟨b, 0, none⟩) (n + 1) cap)) (w.setRow b (vs.toArray.toList.take (n * inf.size) ++ ys ++ vs.toArray.toList.drop (n * inf.size + ys.length)).toArray) by
   simp [execOp, resolve, hxv, hA2', invoke, builtin, hr]]
  rw [hsz, hyl0]
  have hcl' : (cs.take (n * sz) ++ es ++ cs.drop (n * sz + sz)).length = cap * sz := by simp; omega
  refine ⟨σ, .sc _, _, ce.le_refl _, .sc _, hw.put (a' := .box (cs.take (n * sz) ++ es ++ cs.drop (n * sz + sz)) e) (fun _ => trivial) ⟨rfl, rfl, rfl, by simp, fun k _ hk => setRow_other w b k _ (fun e => hk (by simp [e]))⟩ (setRow_heap w b _ _ e _ ho) ⟨_, rfl, fE (fE (ru hvs _) hyr') (rt hvs _), fun u hu => ?_⟩, b, _, cap, rfl, hcl', ?_, hroom, by unfold maxLen; omega, rfl⟩
  ·rcases List.mem_append.1 hu with hu | hu
   ·rcases List.mem_append.1 hu with hu | hu
    ·exact h1 _ (List.mem_of_mem_take hu)
    ·exact hy1 _ hu
   ·exact h1 _ (List.mem_of_mem_drop hu)
  ·rw [List.take_append_of_le_length (by simp; omega), List.take_of_length_le (by simp; omega)]
 ·have hncap : n = cap := by omega
  subst hncap
  have holds : ∀ j v, vs[j]? = some v → w.cell? ((⟨b, 0, none⟩ : Addr).add j) = some v := fun j v hj => by
   rw [eO, Nat.zero_add, da ho]
   simpa using hj
  have hr := run_append_grow (P := P) w t ty e inf zz hc.under hi hzz ⟨b, 0, none⟩ n n vs (by rw [hsz]; omega) holds ⟨b2, off2, none⟩ 1 c2 ys hyl' hnews (by omega) (by omega) (growslice_fits (by omega) hby)
  rw [show (execOp ρ ⟨d, .call ⟨.builtin .append, #[x, y], #[t, t]⟩, ty, pos, af, g⟩).run P w = .ok (.value (.slice (some ⟨w.heap.size, 0, none⟩) (n + 1) (grownCap w (n + 1) n e))) (w.drew.alloc (.cells (vs.toArray ++ ys.toArray ++ Builtin.zeroCells zz.cells (grownCap w (n + 1) n e - (n + 1))) e)) by
   simp [execOp, resolve, hxv, hA2', invoke, builtin, hr]]
  have hge := grownCap_ge w (n + 1) n e
  have hgm := grownCap_le_maxLen w (n + 1) n e (by unfold maxLen; omega)
  have hzl : ∀ k, (Builtin.zeroCells zz.cells k).toList.length = k * sz := fun k => by rw [Array.length_toList, size_zeroCells, hzs]
  have hzm : ∀ k, ∀ v ∈ (Builtin.zeroCells zz.cells k).toList, v.oneCell' = true := fun k v hv => by
   have := jT hv
   rw [hzc] at this
   exact List.all_eq_true.1 hz1 v (by simpa using this)
  generalize grownCap w (n + 1) n e = cap' at *
  have hmc : cap' * sz = (n + 1) * sz + (cap' - (n + 1)) * sz := by rw [← Nat.add_mul]; congr 1; omega
  have hzl' := hzl (cap' - (n + 1))
  have hzm' := hzm (cap' - (n + 1))
  generalize Builtin.zeroCells zz.cells (cap' - (n + 1)) = zc at *
  have hlen : (cs ++ es ++ zc.toList.map AV.sc).length = cap' * sz := by simp only [List.length_append, List.length_map, hzl']; omega
  refine ⟨σ, .sc _, _, ce.le_refl _, .sc _, ((hw.sublist (List.sublist_cons_self ..)).drew _).alloc _ (.box (cs ++ es ++ zc.toList.map AV.sc) e) ⟨vs ++ ys ++ zc.toList, by simp, fE (fE hvs hyr') (tJ _), fun u hu => ?_⟩, w.heap.size, _, cap', rfl, hlen, ?_, hge, hgm, rfl⟩
  ·rcases List.mem_append.1 hu with hu | hu
   ·rcases List.mem_append.1 hu with hu | hu
    ·exact h1 _ hu
    ·exact hy1 _ hu
   ·exact hzm' u hu
  ·rw [List.take_append_of_le_length (by simp; omega), List.take_of_length_le (by simp; omega), List.take_of_length_le (by omega)]
theorem qg {e sz by_ : Nat} {es : List AV} {zs : List Value} (hc : mo P t e sz by_) (hs0 : 0 < sz) (hz : CZ P e zs) (hz1 : zs.all (·.oneCell') = true) (hx : bB fr x = some (.sc (.slice none 0 0))) (hy : bB fr y = some u) (hu : u.im = .imm sz [es]) (hby : by_ ≤ 140737488355328) :
  AO P ⟨d, .call ⟨.builtin .append, #[x, y], #[t, t]⟩, ty, pos, af, g⟩ fr B L (fun r L' => ∃ b' cs' cap', r = .sc (.slice (some ⟨b', 0, none⟩) 1 cap') ∧ cs'.length = cap' * sz ∧ cs'.take (1 * sz) = es ∧ 1 ≤ cap' ∧ cap' ≤ maxLen ∧ L' = (b', .box cs' e) :: L) := by
 intro σ ρ w hρ hw
 have hxv := (hρ x _ hx).sc_inv
 have hyv := (hρ y u hy).im
 rw [hu] at hyv
 obtain ⟨A2, c2, hA2, _⟩ := hyv.imm_inv
 rw [hA2] at hyv
 obtain ⟨_, _, _, hs2, ys, hyl, hyr, hy1, hyc⟩ := hyv.row
 obtain ⟨b2, off2, rfl, hycc⟩ := hyc (by simp)
 haveI := hc
 obtain ⟨inf, zz, hi, hsz, rfl, hzz, hzs⟩ := hc.info
 have hzc := hz.cells hi hzz w
 have hel : es.length = sz := hs2 es (by simp)
 have hyl0 : ys.length = sz := by simpa [hel] using hyl
 have hyl' : ys.length = 1 * inf.size := by rw [hsz]; omega
 have hyr' : d4 σ es ys := by simpa using hyr
 have hnews : ∀ j v, ys[j]? = some v → w.cell? ((⟨b2, off2, none⟩ : Addr).add j) = some v := fun j v hj => by rw [eO]; exact hw.froz _ _ _ (hycc j v hj)
 have hA2' : ρ y = .slice (some ⟨b2, off2, none⟩) 1 c2 := hA2
 have hr := run_append_nil (P := P) w t ty e inf zz hc.under hi hzz ⟨b2, off2, none⟩ 1 c2 ys hyl' hnews (by omega) (by omega) (by omega)
 unfold ia
 rw [show (execOp ρ ⟨d, .call ⟨.builtin .append, #[x, y], #[t, t]⟩, ty, pos, af, g⟩).run P w = .ok (.value (.slice (some ⟨w.heap.size, 0, none⟩) 1 (grownCap w 1 0 e))) (w.drew.alloc (.cells (ys.toArray ++ Builtin.zeroCells zz.cells (grownCap w 1 0 e - 1)) e)) by
  simp [execOp, resolve, hxv, hA2', invoke, builtin, hr]]
 have hge := grownCap_ge w 1 0 e
 have hgm := grownCap_le_maxLen w 1 0 e (by unfold maxLen; omega)
 have hzl : ∀ k, (Builtin.zeroCells zz.cells k).toList.length = k * sz := fun k => by rw [Array.length_toList, size_zeroCells, hzs]
 have hzm : ∀ k, ∀ v ∈ (Builtin.zeroCells zz.cells k).toList, v.oneCell' = true := fun k v hv => by
  have := jT hv
  rw [hzc] at this
  exact List.all_eq_true.1 hz1 v (by simpa using this)
 generalize grownCap w 1 0 e = cap' at *
 have hmc : cap' * sz = sz + (cap' - 1) * sz := by
  have : cap' = 1 + (cap' - 1) := by omega
  rw [this, Nat.add_mul]
  simp
 have hzl' := hzl (cap' - 1)
 have hzm' := hzm (cap' - 1)
 generalize Builtin.zeroCells zz.cells (cap' - 1) = zc at *
 have hlen : (es ++ zc.toList.map AV.sc).length = cap' * sz := by simp only [List.length_append, List.length_map, hzl']; omega
 refine ⟨σ, .sc _, _, ce.le_refl _, .sc _, (hw.drew _).alloc _ (.box (es ++ zc.toList.map AV.sc) e) ⟨ys ++ zc.toList, by simp, fE hyr' (tJ _), fun u hu => ?_⟩, w.heap.size, _, cap', rfl, hlen, ?_, hge, hgm, rfl⟩
 ·rcases List.mem_append.1 hu with hu | hu
  ·exact hy1 _ hu
  ·exact hzm' u hu
 ·rw [List.take_append_of_le_length (by simp; omega), List.take_of_length_le (by simp; omega)]
end
section
variable {P : Program} {tt : TT} {r : Option Nat} {ops : Array Oper} {Q : Exit → Act → World → Prop} {nt : Nat} {D : List Deferred} {fr : c9} {B : Bs} {L : AL} {rest : List Oper} {d : Nat} {ty t t' : TypeId} {pos : String} {af : Array Edge} {x y z : Operand} {u : AV}
theorem uD (ok : eW P tt) (i : Nat) {e sz by_ b n cap : Nat} {cs es : List AV} {zs : List Value} (ht : mj tt t = some (e, sz, by_)) (hz : zI tt e = some zs) (hz1 : zs.all (·.oneCell') = true) (hx : bB fr x = some (.sc (.slice (some ⟨b, 0, none⟩) n cap))) (hy : bB fr y = some u) (hu : j7 u = some (sz, [es])) (hL : L[i]? = some (b, .box cs e)) (hcl : cs.length = cap * sz) (hn : n ≤ cap) (hcm : cap ≤ maxLen) (h63 : n + 1 ≤ maxLen) (hby : (n + 1) * by_ ≤ 140737488355328) (hd : Nat.ble nt d = false)
  (h : ∀ b' cs' cap', cs'.length = cap' * sz → cs'.take ((n + 1) * sz) = cs.take (n * sz) ++ es → n + 1 ≤ cap' → cap' ≤ maxLen → bN P r ops Q nt D rest ((d, .sc (.slice (some ⟨b', 0, none⟩) (n + 1) cap')) :: fr) B ((b', .box cs' e) :: L.eraseIdx i)) :
  bN P r ops Q nt D (⟨some d, .call ⟨.builtin .append, #[x, y], #[t, t]⟩, ty, pos, af, none⟩ :: rest) fr B L := cT hd rfl (rH i (bL ok ht).1 (bL ok ht).2 (eN ok hz) hz1 hx hy (df hu) hL hcl hn hcm h63 hby) fun c L' ⟨b', cs', cap', h1, h2, h3, h4, h5, h6⟩ => by subst h1; subst h6; exact h b' cs' cap' h2 h3 h4 h5
theorem si (ok : eW P tt) {e sz by_ : Nat} {es : List AV} {zs : List Value} (ht : mj tt t = some (e, sz, by_)) (hz : zI tt e = some zs) (hz1 : zs.all (·.oneCell') = true) (hx : bB fr x = some (.sc (.slice none 0 0))) (hy : bB fr y = some u) (hu : j7 u = some (sz, [es])) (hby : Nat.ble by_ 140737488355328 = true) (hd : Nat.ble nt d = false)
  (h : ∀ b' cs' cap', cs'.length = cap' * sz → cs'.take (1 * sz) = es → 1 ≤ cap' → cap' ≤ maxLen → bN P r ops Q nt D rest ((d, .sc (.slice (some ⟨b', 0, none⟩) 1 cap')) :: fr) B ((b', .box cs' e) :: L)) :
  bN P r ops Q nt D (⟨some d, .call ⟨.builtin .append, #[x, y], #[t, t]⟩, ty, pos, af, none⟩ :: rest) fr B L := cT hd rfl (qg (bL ok ht).1 (bL ok ht).2 (eN ok hz) hz1 hx hy (df hu) (Nat.ble_eq .. ▸ hby)) fun c L' ⟨b', cs', cap', h1, h2, h3, h4, h5, h6⟩ => by subst h1; subst h6; exact h b' cs' cap' h2 h3 h4 h5
end
end Go.Proofs.YtpbinloeemebkaaGreat

namespace Go.Proofs.YtpbinloeemebkaaGreat
open Go.RowKit
section
variable {P : Program} {tt : TT} {r : Option Nat} {ops : Array Oper} {Q : Exit → Act → World → Prop} {nt : Nat} {D : List Deferred} {fr : c9} {B : Bs} {L : AL} {rest : List Oper} {d : Nat} {ty t t' : TypeId} {pos : String} {af : Array Edge} {g : Option (Nat × Bool)} {x y z : Operand} {u : AV}
theorem zq {dd : Option Tmp} {e sz by_ b n cap hi : Nat} {k : IntKind} {a : Int} (hc : mo P t e sz by_) (hx : bB fr x = some (.sc (.slice (some ⟨b, 0, none⟩) n cap))) (hy : bB fr y = some (.sc (.int k a))) (ha : a = (hi : Int)) (h : hi ≤ cap) (h0 : 0 < cap) : Av P ⟨dd, .slice t x none (some y) none, ty, pos, af, g⟩ fr (.sc (.slice (some ⟨b, 0, none⟩) hi cap)) := by
 intro σ ρ w hρ _
 subst ha
 haveI := hc
 refine ⟨_, ?_, .sc _⟩
 have h3 : cap ≠ 0 := by omega
 simp [execOp, (hρ x _ hx).sc_inv, (hρ y _ hy).sc_inv, Instr.sliceAt, Instr.slice, Instr.sliceBounds, Instr.sliceBound, asIntOf, run_underlying hc.under, ee (t := t), h, h3, eO]
theorem A8 (ok : eW P tt) (hi : Nat) {e sz by_ b n cap : Nat} {k : IntKind} {a : Int} (ht : mj tt t = some (e, sz, by_)) (hx : bB fr x = some (.sc (.slice (some ⟨b, 0, none⟩) n cap))) (hy : bB fr y = some (.sc (.int k a))) (ha : a = (hi : Int)) (h1 : hi ≤ cap) (h0 : 0 < cap) (hd : Nat.ble nt d = false) (h : bN P r ops Q nt D rest ((d, .sc (.slice (some ⟨b, 0, none⟩) hi cap)) :: fr) B L) :
  bN P r ops Q nt D (⟨some d, .slice t x none (some y) none, ty, pos, af, none⟩ :: rest) fr B L := eh (zq (bL ok ht).1 hx hy ha h1 h0) hd rfl h
end
section
variable {P : Program} {tt : TT} {l : List Oper} {fr : c9} {fin : lj} {sk : mx} {acc : c9} {L : AL} {k : Nat} {dd : Option Tmp} {ty t : TypeId} {pos : String} {af : Array Edge} {g : Option (Nat × Bool)} {x y : Operand}
theorem zK (ok : eW P tt) (n : Nat) {e sz by_ : Nat} {k1 k2 : IntKind} {a b : Int} {zs : List Value} (ht : mj tt t = some (e, sz, by_)) (hz : zI tt e = some zs) (h1 : zs.all (·.oneCell') = true) (hx : bB (dp l.toArray acc fr af.toList) x = some (.sc (.int k1 a))) (hy : bB (dp l.toArray acc fr af.toList) y = some (.sc (.int k2 b))) (ha : a = (n : Int)) (hb : b = (n : Int)) (hby : by_ * n ≤ 281474976710656) (h63 : n ≤ 9223372036854775807) (hg : mp ⟨dd, .makeSlice t x y, ty, pos, af, g⟩ acc)
  (h : ∀ b, DA P l fr fin sk ((k, .sc (.slice (some ⟨b, 0, none⟩) n n)) :: acc) ((b, .box ((List.replicate n (zs.map .sc)).flatten) e) :: L)) : d6 P l fr fin k .e ⟨dd, .makeSlice t x y, ty, pos, af, g⟩ sk acc L :=
 io hg (fun _ => sY (bL ok ht).1 (eN ok hz) h1 (bL ok ht).2 hx hy ha hb hby h63) fun c L' ⟨b, h1, h2⟩ => by subst h1; subst h2; exact h b
end
end Go.Proofs.YtpbinloeemebkaaGreat
