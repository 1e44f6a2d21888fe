/-
  The program: check.Font.
-/
import Derived.Test.YtjjpkibjffmceaaGreatM17
namespace Go.Proofs.YtjjpkibjffmceaaGreat
open Go.RowKit
attribute [local irreducible] AT bV AX AO Av Kt bC eH DA dl
theorem jR {err : Nat → Int} : ∀ (k i : Nat), (dy err k i).1 = 0 ↔ ∀ j, i ≤ j → j < i + k → err j = 0
 | 0, i => by simp only [dy, true_iff]; intro j h1 h2; omega
 | k + 1, i => by
  simp only [dy]
  by_cases h : err i = 0
  ·rw [if_pos h, jR k (i + 1)]
   constructor
   ·intro hh j h1 h2
    by_cases e : j = i
    ·subst e; exact h
    ·exact hh j (by omega) (by omega)
   ·intro hh j h1 h2; exact hh j (by omega) (by omega)
  ·rw [if_neg h]
   constructor
   ·intro hh; exact absurd hh h
   ·intro hh; exact hh i (Nat.le_refl _) (by omega)
theorem pa {α : Type} {l : List α} {w : Nat → α → Int} : (du l w).1 = 0 ↔ ∀ i x, l[i]? = some x → w i x = 0 := by
 unfold du dE
 rw [jR]
 constructor
 ·intro h i x hx
  have := h i (Nat.zero_le _) (by have := (Gn hx).1; omega)
  rwa [i8 hx] at this
 ·intro h j _ hj
  obtain ⟨x, hx⟩ : ∃ x, l[j]? = some x := ⟨_, Ee (by omega)⟩
  rw [i8 hx]
  exact h j x hx
theorem iE {α : Type} {most : Int} {l : List α} {w : Nat → α → Int} : (cr most l w).1 = 0 ↔ (l.length : Int) ≤ most ∧ ∀ i x, l[i]? = some x → w i x = 0 := by
 have h := pa (l := l) (w := w)
 unfold du at h
 unfold cr dv
 by_cases hm : (l.length : Int) > most
 ·rw [if_pos hm]
  constructor
  ·intro hh; cases hh
  ·intro hh; omega
 ·rw [if_neg hm, h]
  exact ⟨fun hh => ⟨by omega, hh⟩, fun hh => hh.2⟩
theorem dT : ∀ {l : List (Int × Int)}, (gt l).1 = 0 ↔ ∀ x ∈ l, x.1 = 0
 | [] => by simp [gt]
 | x :: r => by
  unfold gt
  by_cases h : x.1 = 0
  ·rw [if_pos h, dT]
   constructor
   ·intro hh y hy
    rcases List.mem_cons.1 hy with rfl | hy
    ·exact h
    ·exact hh y hy
   ·intro hh y hy; exact hh y (Gt _ hy)
  ·rw [if_neg h]
   constructor
   ·intro hh; exact absurd hh h
   ·intro hh; exact hh x (List.mem_cons_self ..)
theorem iP {f : aI} (h : (cr 400 f.Glyphs (ei f)).1 = 0) : tZ f := by
 obtain ⟨h1, h2⟩ := iE.1 h
 have hg : ∀ gl ∈ f.Glyphs, ∃ name, n5 f gl name = 0 := fun gl hgl => by
  obtain ⟨i, hi⟩ := List.mem_iff_getElem?.1 hgl
  exact ⟨_, h2 i gl hi⟩
 have hgl : ∀ gl ∈ f.Glyphs, iD gl = 0 ∧ (cr 8 gl.Parts (kW f)).1 = 0 := fun gl hm => by
  obtain ⟨name, hn⟩ := hg gl hm
  unfold n5 at hn
  rw [dT] at hn
  exact ⟨hn (iD gl, 0) (by simp), hn (cr 8 gl.Parts (kW f)) (by simp)⟩
 refine ⟨⟨by omega, fun gl hm => ?_⟩, fun gl hm => ?_, fun gl hm p hp => ?_⟩
 ·have := (iE.1 (hgl gl hm).2).1; omega
 ·have h3 := (hgl gl hm).1
  unfold iD at h3
  split at h3
  ·cases h3
  ·split at h3
   ·cases h3
   ·omega
 ·obtain ⟨i, hi⟩ := List.mem_iff_getElem?.1 hp
  have h3 := (iE.1 (hgl gl hm).2).2 i p hi
  unfold kW at h3
  split at h3
  ·cases h3
  ·rename_i hh
   simpa using hh
theorem wR {f : aI} (hf : tZ f) (ha : jV f.Glyphs.length (prt f)) {D P D' P' : Int → Int} (h : jl f D P) (h' : jl f D' P') : ∀ z : Int, 0 ≤ z → z < f.Glyphs.length → D z = D' z ∧ P z = P' z := by
 obtain ⟨r, hr⟩ := ha
 have : ∀ (k : Nat) (z : Int), r z < k → 0 ≤ z → z < f.Glyphs.length → D z = D' z ∧ P z = P' z := by
  intro k
  induction k with
  | zero => intro z hk; exact absurd hk (Nat.not_lt_zero _)
  | succ k ih =>
   intro z hk h0 h1
   obtain ⟨gl, hgl⟩ : ∃ g, f.Glyphs[z.toNat]? = some g := ⟨_, Ee (by omega)⟩
   have hsm : ∀ p ∈ gl.Parts, D p.Glyph = D' p.Glyph ∧ P p.Glyph = P' p.Glyph := fun p hp => by
    have hin := ot.1 (hf.there gl (Gx hgl) p hp)
    have := hr z h0 h1 p.Glyph (by rw [rY hf hgl]; exact List.mem_map_of_mem hp)
    exact ih p.Glyph (by omega) hin.1 hin.2
   obtain ⟨h2, h3⟩ := h z h0 h1 gl hgl
   obtain ⟨h4, h5⟩ := h' z h0 h1 gl hgl
   rw [h2, h3, h4, h5]
   exact ⟨sQ fun p hp => (hsm p hp).1, tG fun p hp => (hsm p hp).2⟩
 intro z h0 h1
 exact this (r z + 1) z (by omega) h0 h1
theorem ur {n : Nat} {D P D' P' : Int → Int} (h : ∀ z : Int, 0 ≤ z → z < n → D z = D' z ∧ P z = P' z) : nL n D P = nL n D' P' := by
 unfold nL
 rw [List.map_congr_left (f := D) (g := D') fun z hz => (h z (fj.1 hz).1 (fj.1 hz).2).1, List.map_congr_left (f := P) (g := P') fun z hz => (h z (fj.1 hz).1 (fj.1 hz).2).2]
open Classical in
noncomputable def lO (f : aI) : Int × Int := if h : ∃ q : (Int → Int) × (Int → Int), jl f q.1 q.2 then nL f.Glyphs.length h.choose.1 h.choose.2 else (33, 0)
theorem oV {f : aI} (hf : tZ f) (ha : jV f.Glyphs.length (prt f)) {D P : Int → Int} (h : jl f D P) : lO f = nL f.Glyphs.length D P := by
 unfold lO
 have hex : ∃ q : (Int → Int) × (Int → Int), jl f q.1 q.2 := ⟨(D, P), h⟩
 rw [dif_pos hex]
 exact ur (wR hf ha hex.choose_spec h)
theorem Bl (f : aI) (hf : tZ f) (ha : jV f.Glyphs.length (prt f)) : AC Tryz.prog 121 [.iptr (ce f)] [] fun c _ => c = cA ((lO f).1, (lO f).2) := by
 refine aQ Tryz.func121 rfl Tryz.ntmps121 rfl fun B => ?_
 repeat' (first|refine ae ?_|refine a6 ?_|refine a7 ?_|refine a8 ?_|refine aa a2 rfl rfl ?_)
 refine bb [] [] (sN f hf (.inl ha)) rfl rfl (Gm _) rfl fun c L1 hc => ?_
 rcases hc with ⟨D, P, h1, h2, hc⟩ | ⟨hna, _⟩
 ·rw [← oV hf ha h1] at hc
  subst hc
  unfold cA
  repeat' (first|refine aq ?_|refine a7 ?_|refine a8 ?_|refine aa a2 rfl rfl ?_)
  exact b9 rfl rfl rfl rfl
 ·exact absurd ha hna
def vQ (_ : Nat) (l : List ew) : Int := mo l
def ni (f : aI) (_ : Nat) (r : List ea) : Int := xC f.Axes.length r
def kJ (f : aI) (_ : Nat) (l : ba) : Int := kK f l
noncomputable def zb (f : aI) : List (Int × Int) := [(lY f, 0), cr 400 f.Glyphs (ei f), lO f, cr 1000 f.Chars (i3 f), cr 40 f.Lookups (kJ f), cr 20 f.Features (jA f), cr 3 f.Axes (jv f), cr 16 f.Regions (ni f), cr 20 f.Funcs vQ, cr 64 f.Cvt yL]
noncomputable def kR (f : aI) : Int × Int := gt (zb f)
noncomputable def vP (f : aI) (m1 m2 m3 : Nat) : List Lk := [⟨114, [.iptr (ce f)], [], lY f, 0⟩,
 ⟨157, [.iptr [.imm 9 (f.Glyphs.map bA)], .iptr [aM 400], .iptr [.fn 117 [.iptr (ce f), .iptr [.sc (.map (some m1))]]]], [(m1, cq .string (cU (jE f)))], (cr 400 f.Glyphs (ei f)).1, (cr 400 f.Glyphs (ei f)).2⟩,
 ⟨121, [.iptr (ce f)], [], (lO f).1, (lO f).2⟩,
 ⟨177, [.iptr [.imm 2 (f.Chars.map cw)], .iptr [aM 1000], .iptr [.fn 124 [.iptr (ce f)]]], [], (cr 1000 f.Chars (i3 f)).1, (cr 1000 f.Chars (i3 f)).2⟩,
 ⟨179, [.iptr [.imm 3 (f.Lookups.map bj)], .iptr [aM 40], .iptr [.fn 127 [.iptr (ce f)]]], [], (cr 40 f.Lookups (kJ f)).1, (cr 40 f.Lookups (kJ f)).2⟩,
 ⟨187, [.iptr [.imm 2 (f.Features.map bw)], .iptr [aM 20], .iptr [.fn 130 [.iptr (ce f), .iptr [.sc (.map (some m2))]]]], [(m2, cq .string (cU (kz f)))], (cr 20 f.Features (jA f)).1, (cr 20 f.Features (jA f)).2⟩,
 ⟨190, [.iptr [.imm 4 (f.Axes.map cu)], .iptr [aM 3], .iptr [.fn 134 [.iptr [.sc (.map (some m3))]]]], [(m3, cq .string (cU (ie f)))], (cr 3 f.Axes (jv f)).1, (cr 3 f.Axes (jv f)).2⟩,
 ⟨192, [.iptr [.imm 1 (f.Regions.map bk)], .iptr [aM 16], .iptr [.fn 137 [.iptr (ce f)]]], [], (cr 16 f.Regions (ni f)).1, (cr 16 f.Regions (ni f)).2⟩,
 ⟨196, [.iptr [.imm 1 (f.Funcs.map cM)], .iptr [aM 20], .iptr [.sc (.func (.func 140) #[] #[])]], [], (cr 20 f.Funcs vQ).1, (cr 20 f.Funcs vQ).2⟩,
 ⟨200, [.iptr [.imm 1 (f.Cvt.map gi)], .iptr [aM 64], .iptr [.sc (.func (.func 143) #[] #[])]], [], (cr 64 f.Cvt yL).1, (cr 64 f.Cvt yL).2⟩]
theorem uC (f : aI) (m1 m2 m3 : Nat) (hA : (cr 400 f.Glyphs (ei f)).1 = 0 → jV f.Glyphs.length (prt f)) : uR (vP f m1 m2 m3) := by
 refine ⟨⟨inferInstance, x7 f⟩, fun _ => ⟨⟨inferInstance, ?_⟩, fun h1 => ⟨⟨inferInstance, Bl f (iP h1) (hA h1)⟩, fun _ => ⟨⟨inferInstance, ?_⟩, fun _ => ⟨⟨inferInstance, ?_⟩, fun _ => ⟨⟨inferInstance, ?_⟩, fun _ => ⟨⟨inferInstance, ?_⟩, fun _ => ⟨⟨inferInstance, ?_⟩, fun _ => ⟨⟨inferInstance, ?_⟩, fun _ => ⟨⟨inferInstance, ?_⟩, fun _ => trivial⟩⟩⟩⟩⟩⟩⟩⟩⟩⟩
 ·exact Cg (u := .fn 117 [.iptr (ce f), .iptr [.sc (.map (some m1))]]) rfl f.Glyphs 400 (fP f.Glyphs (ei f)) (fun _ L => L = [(m1, cq .string (cU (jE f)))]) _ rfl fun _ => qb fun i x _ => uI f i x m1
 ·exact Ci (u := .fn 124 [.iptr (ce f)]) rfl f.Chars 1000 (fP f.Chars (i3 f)) (fun _ _ => True) [] trivial fun hm => dA fun i x hx => wG f i x hx hm
 ·exact Cj (u := .fn 127 [.iptr (ce f)]) rfl f.Lookups 40 (fP f.Lookups (kJ f)) (fun _ _ => True) [] trivial fun _ => dA fun i x _ => rL f i x
 ·exact Ck (u := .fn 130 [.iptr (ce f), .iptr [.sc (.map (some m2))]]) rfl f.Features 20 (fP f.Features (jA f)) (fun _ L => L = [(m2, cq .string (cU (kz f)))]) _ rfl fun _ => qb fun i x _ => wY f i x m2
 ·exact Cl (u := .fn 134 [.iptr [.sc (.map (some m3))]]) rfl f.Axes 3 (fP f.Axes (jv f)) (fun _ L => L = [(m3, cq .string (cU (ie f)))]) _ rfl fun _ => qb fun i x _ => wB f i x m3
 ·exact Cm (u := .fn 137 [.iptr (ce f)]) rfl f.Regions 16 (fP f.Regions (ni f)) (fun _ _ => True) [] trivial fun _ => dA fun i x _ => tM f i x
 ·exact Co (u := .sc (.func (.func 140) #[] #[])) (g := 140) (caps := []) rfl f.Funcs 20 (fP f.Funcs vQ) (fun _ _ => True) [] trivial fun _ => dA fun i x _ => wH i x
 ·exact Cp (u := .sc (.func (.func 143) #[] #[])) (g := 143) (caps := []) rfl f.Cvt 64 (fP f.Cvt yL) (fun _ _ => True) [] trivial fun _ => dA fun i x _ => yJ i x
set_option maxHeartbeats 4000000 in
theorem BO (f : aI) (hA : (cr 400 f.Glyphs (ei f)).1 = 0 → jV f.Glyphs.length (prt f)) : AC Tryz.prog 82 [ct f] [] fun c _ => c = cA (kR f) := by
 refine aQ Tryz.func82 rfl Tryz.ntmps82 rfl fun B => ?_
 repeat' (first|refine ae ?_|refine a6 ?_|refine a7 ?_|refine a8 ?_|refine aa a2 rfl rfl ?_|refine bg ?_|fail)
 refine bb [] _ (yY f.Glyphs) rfl rfl (Gm _) rfl fun c L1 ⟨m1, hc, hL⟩ => ?_
 subst hc; subst hL
 repeat' (first|refine ae ?_|refine a6 ?_|refine a7 ?_|refine a8 ?_|refine aa a2 rfl rfl ?_|(apply aG; first|refine ah 4 a2 0 rfl rfl rfl rfl rfl rfl rfl rfl ?_|refine ah 4 a2 1 rfl rfl rfl rfl rfl rfl rfl rfl ?_|refine ah 4 a2 2 rfl rfl rfl rfl rfl rfl rfl rfl ?_|refine ah 5 a2 0 rfl rfl rfl rfl rfl rfl rfl rfl ?_|refine ah 5 a2 1 rfl rfl rfl rfl rfl rfl rfl rfl ?_|refine ah 5 a2 2 rfl rfl rfl rfl rfl rfl rfl rfl ?_|refine ah 6 a2 0 rfl rfl rfl rfl rfl rfl rfl rfl ?_|refine ah 6 a2 1 rfl rfl rfl rfl rfl rfl rfl rfl ?_|refine ah 6 a2 2 rfl rfl rfl rfl rfl rfl rfl rfl ?_|refine ai a2 0 rfl rfl rfl rfl rfl rfl rfl ?_|refine ai a2 1 rfl rfl rfl rfl rfl rfl rfl ?_|refine ai a2 2 rfl rfl rfl rfl rfl rfl rfl ?_|refine ai a2 3 rfl rfl rfl rfl rfl rfl rfl ?_|fail)|refine b7 a2 fun _=>?_|fail)
 refine bb [] _ (yZ f.Features) rfl rfl (Gm _) rfl fun c L1 ⟨m2, hc, hL⟩ => ?_
 subst hc; subst hL
 repeat' (first|refine ae ?_|refine a6 ?_|refine a7 ?_|refine a8 ?_|refine aa a2 rfl rfl ?_|(apply aG; first|refine ah 4 a2 0 rfl rfl rfl rfl rfl rfl rfl rfl ?_|refine ah 4 a2 1 rfl rfl rfl rfl rfl rfl rfl rfl ?_|refine ah 4 a2 2 rfl rfl rfl rfl rfl rfl rfl rfl ?_|refine ah 5 a2 0 rfl rfl rfl rfl rfl rfl rfl rfl ?_|refine ah 5 a2 1 rfl rfl rfl rfl rfl rfl rfl rfl ?_|refine ah 5 a2 2 rfl rfl rfl rfl rfl rfl rfl rfl ?_|refine ah 6 a2 0 rfl rfl rfl rfl rfl rfl rfl rfl ?_|refine ah 6 a2 1 rfl rfl rfl rfl rfl rfl rfl rfl ?_|refine ah 6 a2 2 rfl rfl rfl rfl rfl rfl rfl rfl ?_|refine ai a2 0 rfl rfl rfl rfl rfl rfl rfl ?_|refine ai a2 1 rfl rfl rfl rfl rfl rfl rfl ?_|refine ai a2 2 rfl rfl rfl rfl rfl rfl rfl ?_|refine ai a2 3 rfl rfl rfl rfl rfl rfl rfl ?_|fail)|refine b7 a2 fun _=>?_|fail)
 refine bb [] _ (z7 f.Axes) rfl rfl (Gm _) rfl fun c L1 ⟨m3, hc, hL⟩ => ?_
 subst hc; subst hL
 repeat' (first|refine ae ?_|refine a7 ?_|refine a8 ?_|(apply aG; first|refine ah 4 a2 0 rfl rfl rfl rfl rfl rfl rfl rfl ?_|refine ah 4 a2 1 rfl rfl rfl rfl rfl rfl rfl rfl ?_|refine ah 4 a2 2 rfl rfl rfl rfl rfl rfl rfl rfl ?_|refine ah 5 a2 0 rfl rfl rfl rfl rfl rfl rfl rfl ?_|refine ah 5 a2 1 rfl rfl rfl rfl rfl rfl rfl rfl ?_|refine ah 5 a2 2 rfl rfl rfl rfl rfl rfl rfl rfl ?_|refine ah 6 a2 0 rfl rfl rfl rfl rfl rfl rfl rfl ?_|refine ah 6 a2 1 rfl rfl rfl rfl rfl rfl rfl rfl ?_|refine ah 6 a2 2 rfl rfl rfl rfl rfl rfl rfl rfl ?_|refine ai a2 0 rfl rfl rfl rfl rfl rfl rfl ?_|refine ai a2 1 rfl rfl rfl rfl rfl rfl rfl ?_|refine ai a2 2 rfl rfl rfl rfl rfl rfl rfl ?_|refine ai a2 3 rfl rfl rfl rfl rfl rfl rfl ?_|fail)|refine b7 a2 fun _=>?_|fail)
 refine bt 36 [(0, .v), (1, .v), (2, .v), (3, .v), (4, .v), (5, .v), (6, .v), (7, .v), (8, .v), (9, .v), (10, .v), (11, .v), (12, .v), (13, .v), (14, .v), (15, .v), (16, .v), (17, .v), (18, .v), (19, .v), (20, .v), (21, .v), (22, .v), (23, .v), (24, .v), (25, .v), (26, .v), (27, .v), (28, .v), (29, .v), (30, .v), (31, .v), (32, .v), (33, .e), (34, .v), (35, .v)] none ?_ trivial rfl (by kernel_rfl) (by kernel_rfl) (by kernel_rfl) mixed (by kernel_rfl) rfl
 repeat' (first|refine aC ?_|refine aZ a2 ?_|(apply bB;refine bP ?_)|fail)
 refine bP (hc := ⟨DO f.Cvt 64⟩) ?_
 repeat' (first|refine aC ?_|refine eh a2 ?_|fail)
 refine f7 (L := [(m3, cq .string (cU (ie f))), (m2, cq .string (cU (kz f))), (m1, cq .string (cU (jE f)))]) _ [] (iX (vP f m1 m2 m3) (uC f m1 m2 m3 hA)) rfl rfl (by rw [List.append_nil]; exact (List.reverse_perm _).symm) trivial fun c L1 hc => ?_
 rw [jH] at hc
 have hc : c = cA (kR f) := hc
 subst hc
 unfold cA
 repeat' (first|refine aC ?_|refine aZ a2 ?_|fail)
 refine bq [50, 51] rfl rfl ?_
 repeat' (first|refine aq ?_|refine a7 ?_|refine a8 ?_|refine aa a2 rfl rfl ?_)
 exact b9 rfl rfl rfl rfl
theorem A8 (f : aI) (hA : (cr 400 f.Glyphs (ei f)).1 = 0 → jV f.Glyphs.length (prt f)) : bQ Tryz.prog 41 [ct f] (cO (decide ((kR f).1 = 0))) := by
 refine aQ Tryz.func41 rfl Tryz.ntmps41 rfl fun B => ?_
 repeat' (first|refine ae ?_|refine a6 ?_|refine a7 ?_|refine a8 ?_|refine aa a2 rfl rfl ?_|refine bg ?_|fail)
 refine bb [] [] (BO f hA) rfl rfl (Gm _) rfl fun c L1 hc => ?_
 subst hc
 unfold cA
 repeat' (first|refine ae ?_|refine a6 ?_|refine aq ?_|refine a7 ?_|refine a8 ?_|refine aa a2 rfl rfl ?_)
 exact aA rfl rfl rfl
end Go.Proofs.YtjjpkibjffmceaaGreat
namespace Go.Proofs.YtjjpkibjffmceaaGreat
open Go.RowKit
attribute [local irreducible] AT bV AX AO Av Kt bC eH DA dl
theorem zY {α : Type} {σ0 : cD} {l p b n : Nat} (S : α → List Int) (K : α → Option (Nat × Nat)) (E : α → AL) (J : Nat → α → Prop) (hn : n ≤ 1000000) (hJ : ∀ i x, J i x → i ≤ (S x).length ∧ (S x).length ≤ n)
  (hy : ∀ i x z, J i x → (S x)[i]? = some z → AY Tryz.prog σ0 l [aM z] (dK p b n (K x) (S x) ++ E x) fun c L => c = cO true ∧ ∃ x', J (i + 1) x' ∧ L = dK p b n (K x') (S x') ++ E x') (x0 : α) (h0 : J 0 x0) :
  AH Tryz.prog σ0 91 [.sc (.func (.yield l) #[] #[]), .iptr [fJ p]] (dK p b n (K x0) (S x0) ++ E x0) fun _ L => ∃ x, J (S x).length x ∧ L = dK p b n (K x) (S x) ++ E x := by
 refine rf Tryz.func91 rfl Tryz.ntmps91 rfl fun B hB => ?_
 repeat' (first|refine ae ?_|refine a6 ?_|refine ak ?_|refine a7 ?_|refine a8 ?_|refine aa a2 rfl rfl ?_)
 refine aJ [0, 1] (α := Nat × α) (fun y => [(3, aM y.1)]) (fun y => J y.1 y.2) (fun y => dK p b n (K y.2) (S y.2) ++ E y.2) (fun y => n - y.1) (0, x0) rfl ⟨rfl, trivial⟩ h0 (fun _ _ h => h) ?_
 rintro ⟨i, x⟩ hj
 dsimp only at hj ⊢
 obtain ⟨hi, hl⟩ := hJ i x hj
 try dsimp only [Gr, Gq, Gp, Gj]
 repeat' (first|refine ae ?_|refine a6 ?_|refine a7 ?_|refine a8 ?_|refine aa a2 rfl rfl ?_|(apply bK; first|refine aj a2 0 rfl rfl rfl rfl rfl ?_|refine aj a2 1 rfl rfl rfl rfl rfl ?_|refine aj a2 2 rfl rfl rfl rfl rfl ?_|refine aj a2 3 rfl rfl rfl rfl rfl ?_|refine aD a2 0 rfl rfl rfl rfl rfl ?_|refine aD a2 1 rfl rfl rfl rfl rfl ?_|refine aD a2 2 rfl rfl rfl rfl rfl ?_|refine aj a2 1 rfl rfl rfl (by assumption) rfl ?_|refine aj a2 0 rfl rfl rfl (by assumption) rfl ?_|fail)|fail)
 refine aw rfl (fun h => ?_) (fun h => ?_)
 ·have hil : i < (S x).length := by have := Gz h; simp [aR] at this; omega
  obtain ⟨z, hz⟩ : ∃ z, (S x)[i]? = some z := ⟨_, Ee hil⟩
  have hzg := bW hz
  repeat' (first|refine ae ?_|refine a6 ?_|refine ak ?_|refine ar ?_|refine a7 ?_|refine aa a2 rfl rfl ?_|(apply bK; first|refine aj a2 0 rfl rfl rfl rfl rfl ?_|refine aj a2 1 rfl rfl rfl rfl rfl ?_|refine aj a2 2 rfl rfl rfl rfl rfl ?_|refine aj a2 3 rfl rfl rfl rfl rfl ?_|refine aD a2 0 rfl rfl rfl rfl rfl ?_|refine aD a2 1 rfl rfl rfl rfl rfl ?_|refine aD a2 2 rfl rfl rfl rfl rfl ?_|refine aj a2 1 rfl rfl rfl (by assumption) rfl ?_|refine aj a2 0 rfl rfl rfl (by assumption) rfl ?_|fail)|(apply aX; first|refine aW a2 ?_|refine aP a2 ?_)|fail)
  refine ov (dK p b n (K x) (S x) ++ E x) [] hB (hy i x z hj hz) rfl rfl rfl (by rw [List.append_nil]) rfl rfl fun c L1 ⟨hc, x', hj', hL⟩ => ?_
  subst hc; subst hL
  rw [List.append_nil]
  repeat' (first|refine a6 ?_|refine ar ?_|refine a7 ?_|refine aH ?_|refine a8 ?_|refine aa a2 rfl rfl ?_|(apply aV; refine aU ?_)|refine bN rfl ?_)
  have := hJ _ _ hj'
  exact aB (i + 1, x') rfl ⟨by rw [Gw]; rfl, trivial⟩ hj' (by dsimp only; omega) (fun _ _ h => h)
 ·have hil : i = (S x).length := by have := Gy h; simp [aR] at this; omega
  subst hil
  repeat' (first|refine aO ?_|refine au ?_|refine ay ?_|refine av ?_)
  exact dL rfl ⟨x, hj, rfl⟩
theorem xB (p : Nat) : bQ Tryz.prog 49 [fJ p] (.fn 91 [.iptr [fJ p]]) := by
 refine aQ Tryz.func49 rfl Tryz.ntmps49 rfl fun B => ?_
 repeat' (first|refine ae ?_|refine a6 ?_|refine aq ?_|refine a7 ?_|refine a8 ?_|refine aa a2 rfl rfl ?_|refine bg ?_|fail)
 exact aA rfl rfl rfl
instance (p : Nat) : AD Tryz.prog 49 [fJ p] (.fn 91 [.iptr [fJ p]]) := ⟨xB p⟩
def bM (p b n : Nat) (k : Option (Nat × Nat)) (l : List Int) : AL := (p, .box [.sc (.slice (some ⟨b, 0, none⟩) n n), .vec k 1 (aT l)] 131) :: (b, .box (gj l n) 4) :: tok k 124 1 (aT l).length
theorem CO (n : Nat) (hn : n ≤ 1000000) : AC Tryz.prog 83 [aM n] [] fun c L => ∃ p b, c = fJ p ∧ L = bM p b n none [] := by
 refine aQ Tryz.func83 rfl Tryz.ntmps83 rfl fun B => ?_
 repeat' (first|refine ae ?_|refine a6 ?_|refine a7 ?_|refine a8 ?_|refine aa a2 rfl rfl ?_)
 refine lm a2 n rfl rfl rfl rfl rfl rfl rfl (by omega) (by omega) rfl fun b => ?_
 rw [show (List.replicate n (List.map AV.sc [Value.bool false])).flatten = gj [] n from qM n]
 repeat' (first|refine aq ?_|refine a7 ?_|refine a8 ?_|refine aa a2 rfl rfl ?_|refine tq fun _=>?_|fail)
 refine be (br 0 (cs' := [.sc (.slice (some ⟨b, 0, none⟩) n n), .vec none 1 []]) rfl fun σ vs h => ?_) (aA rfl rfl ⟨_, b, rfl, rfl⟩)
 obtain ⟨v, ws, rfl, h1, h2⟩ := h.inv
 obtain ⟨v', ws', rfl, h3, h4⟩ := h2.inv
 exact .cons h1 (.cons (cy 1 h3) h4)
theorem lF (p b n : Nat) (k : Option (Nat × Nat)) (l ns : List Int) (hn : n ≤ 1000000) (hl : co n l) : AC Tryz.prog 43 [fJ p, .imm 1 (aT ns)] (bM p b n k l) fun _ L => ∃ k', L = bM p b n k' (da n l ns) := by
 refine aQ Tryz.func43 rfl Tryz.ntmps43 rfl fun B => ?_
 refine cG 1 rfl rfl fun hlen => ?_
 rw [aR] at hlen
 repeat' (first|refine ae ?_|refine a6 ?_|refine ak ?_|refine a7 ?_|refine a8 ?_|refine aa a2 rfl rfl ?_)
 refine aJ [0, 6, 7] (α := Nat × Option (Nat × Nat)) (fun x => [(8, aM x.1)]) (fun x => x.1 ≤ ns.length) (fun x => bM p b n x.2 (da n l (ns.take x.1))) (fun x => ns.length - x.1) (0, k) rfl ⟨rfl, trivial⟩ (Nat.zero_le _) (fun _ _ h => h) ?_
 rintro ⟨i, k⟩ hi
 dsimp only at hi ⊢
 have hok := hl.add (ns.take i)
 have hok1 := hok.len
 try dsimp only [Gr, Gq, Gp, Gj]
 repeat' (first|refine ae ?_|refine a6 ?_|refine a7 ?_|refine a8 ?_|refine aa a2 rfl rfl ?_)
 refine aw rfl (fun h => ?_) (fun h => ?_)
 ·have hil : i < ns.length := by have := Gz h; simp [aR] at this; omega
  obtain ⟨z, hz⟩ : ∃ z, ns[i]? = some z := ⟨_, Ee hil⟩
  have hzg := bW hz
  have had := qx (n := n) (l := l) hz
  generalize da n l (ns.take i) = l1 at *
  repeat' (first|refine ae ?_|refine a6 ?_|refine ak ?_|refine ar ?_|refine a7 ?_|refine a8 ?_|refine aa a2 rfl rfl ?_|(apply aX; first|refine aW a2 ?_|refine aP a2 ?_)|fail)
  refine dV [0, 5, 6, 7, 8] (0 ≤ z ∧ z < n ∧ z ∉ l1) rfl (fun Q' K => ?_) (fun hC => ?_) (fun hC => ?_)
  ·by_cases hin : 0 ≤ z ∧ z < n
   ·obtain ⟨hz0, hz1⟩ := hin
    have hfg := mV l1 n hz0 hz1
    clear had hok hl
    repeat' (first|refine a8 ?_|refine aa a2 rfl rfl ?_|refine aF rfl rfl ?_|refine aL rfl rfl rfl rfl ?_|(apply bK; first|refine aj a2 0 rfl rfl rfl rfl rfl ?_|refine aj a2 1 rfl rfl rfl rfl rfl ?_|refine aj a2 2 rfl rfl rfl rfl rfl ?_|refine aj a2 3 rfl rfl rfl rfl rfl ?_|refine aD a2 0 rfl rfl rfl rfl rfl ?_|refine aD a2 1 rfl rfl rfl rfl rfl ?_|refine aD a2 2 rfl rfl rfl rfl rfl ?_|refine aj a2 1 rfl rfl rfl (by assumption) rfl ?_|refine aj a2 0 rfl rfl rfl (by assumption) rfl ?_|fail)|(apply aX; first|refine aW a2 ?_|refine aP a2 ?_)|refine bf rfl rfl rfl (fun _ => ?_) (fun _ => ?_))
    all_goals exact K _ _ rfl rfl (by simp_all)
   ·clear had hok hl
    repeat' (first|refine a8 ?_|refine aa a2 rfl rfl ?_|refine aF rfl rfl ?_|refine aL rfl rfl rfl rfl ?_|(apply bK; first|refine aj a2 0 rfl rfl rfl rfl rfl ?_|refine aj a2 1 rfl rfl rfl rfl rfl ?_|refine aj a2 2 rfl rfl rfl rfl rfl ?_|refine aj a2 3 rfl rfl rfl rfl rfl ?_|refine aD a2 0 rfl rfl rfl rfl rfl ?_|refine aD a2 1 rfl rfl rfl rfl rfl ?_|refine aD a2 2 rfl rfl rfl rfl rfl ?_|refine aj a2 1 rfl rfl rfl (by assumption) rfl ?_|refine aj a2 0 rfl rfl rfl (by assumption) rfl ?_|fail)|refine bf rfl rfl rfl (fun _ => ?_) (fun _ => ?_))
    all_goals first
     | (refine K _ _ rfl rfl ?_; exact ⟨fun e => (by cases e), fun hh => absurd (And.intro hh.1 hh.2.1) hin⟩)
     | (rename_i e1 e2; exact absurd ⟨Gz e1, Gz e2⟩ hin)
  ·obtain ⟨hz0, hz1, hz2⟩ := hC
   have had' : da n l (ns.take (i + 1)) = l1 ++ [z] := by rw [had]; unfold addOne; rw [if_pos ⟨hz0, hz1, hz2⟩]
   repeat' (first|refine ae ?_|refine a6 ?_|refine aa a2 rfl rfl ?_|(apply bK; first|refine aj a2 0 rfl rfl rfl rfl rfl ?_|refine aj a2 1 rfl rfl rfl rfl rfl ?_|refine aj a2 2 rfl rfl rfl rfl rfl ?_|refine aj a2 3 rfl rfl rfl rfl rfl ?_|refine aD a2 0 rfl rfl rfl rfl rfl ?_|refine aD a2 1 rfl rfl rfl rfl rfl ?_|refine aD a2 2 rfl rfl rfl rfl rfl ?_|refine aj a2 1 rfl rfl rfl (by assumption) rfl ?_|refine aj a2 0 rfl rfl rfl (by assumption) rfl ?_|fail)|(apply aX; first|refine aW a2 ?_|refine aP a2 ?_)|fail)
   refine ai a2 1 rfl rfl rfl rfl rfl rfl (by rw [Nat.ble_eq, mW]; show _ + 1 ≤ n; omega) ?_
   rw [gM, qN l1 n hz0 hz1]
   repeat' (first|refine a6 ?_|refine a7 ?_|refine a8 ?_|refine aa a2 rfl rfl ?_|(apply bK; first|refine aj a2 0 rfl rfl rfl rfl rfl ?_|refine aj a2 1 rfl rfl rfl rfl rfl ?_|refine aj a2 2 rfl rfl rfl rfl rfl ?_|refine aj a2 3 rfl rfl rfl rfl rfl ?_|refine aD a2 0 rfl rfl rfl rfl rfl ?_|refine aD a2 1 rfl rfl rfl rfl rfl ?_|refine aD a2 2 rfl rfl rfl rfl rfl ?_|refine aj a2 1 rfl rfl rfl (by assumption) rfl ?_|refine aj a2 0 rfl rfl rfl (by assumption) rfl ?_|fail)|refine bG a2 ?_|fail)
   refine bE a2 [(p, .box [.sc (.slice (some ⟨b, 0, none⟩) n n), .vec k 1 (aT l1)] 131), (b, .box (gj (l1 ++ [z]) n) 4)] rfl rfl rfl rfl (List.perm_append_comm (l₁ := [(p, AB.box [.sc (.slice (some ⟨b, 0, none⟩) n n), .vec k 1 (aT l1)] 131), (b, AB.box (gj (l1 ++ [z]) n) 4)])) (by rw [aR]; simp; omega) (by rw [aR]; simp; omega) rfl fun k' => ?_
   refine aN (aK List.perm_append_comm) ?_
   repeat' (first|refine a6 ?_|refine a7 ?_|refine aH ?_|refine a8 ?_|refine aa a2 rfl rfl ?_|(apply aV; refine aU ?_)|(apply aG; first|refine ai a2 0 rfl rfl rfl rfl rfl rfl rfl ?_|refine ai a2 1 rfl rfl rfl rfl rfl rfl rfl ?_|refine ai a2 2 rfl rfl rfl rfl rfl rfl rfl ?_|refine ai a2 3 rfl rfl rfl rfl rfl rfl rfl ?_|fail))
   rw [show aT l1 ++ [[aM z]] = aT (l1 ++ [z]) from j3 l1 [z], ← had']
   refine aB (i + 1, k') rfl ⟨by rw [Gw]; rfl, trivial⟩ (by dsimp only; omega) (by dsimp only; omega) (fun _ _ h => h)
  ·have had' : da n l (ns.take (i + 1)) = l1 := by rw [had]; unfold addOne; rw [if_neg hC]
   repeat' (first|refine a6 ?_|refine ar ?_|refine a7 ?_|refine aH ?_|refine a8 ?_|refine aa a2 rfl rfl ?_|(apply aV; refine aU ?_)|fail)
   refine aB (i + 1, k) rfl ⟨by rw [Gw]; rfl, trivial⟩ (by dsimp only; omega) (by dsimp only; omega) (fun _ _ h => by dsimp only; rw [had']; exact h)
 ·have hil : i = ns.length := by have := Gy h; simp [aR] at this; omega
  subst hil
  rw [List.take_length]
  repeat' (first|refine aO ?_|refine au ?_|refine ay ?_|refine av ?_)
  exact dL rfl ⟨k, rfl⟩
theorem A9 (p b n : Nat) (k : Option (Nat × Nat)) (l : List Int) (hl : l.length ≤ 1000000) : AC Tryz.prog 46 [fJ p] (bM p b n k l) fun c L => c = .imm 1 (aT (dY l)) ∧ L = bM p b n k l := by
 refine aQ Tryz.func46 rfl Tryz.ntmps46 rfl fun B => ?_
 repeat' (first|refine ae ?_|refine a6 ?_|refine a7 ?_|refine a8 ?_|refine aa a2 rfl rfl ?_|(apply bK; first|refine aj a2 0 rfl rfl rfl rfl rfl ?_|refine aj a2 1 rfl rfl rfl rfl rfl ?_|refine aj a2 2 rfl rfl rfl rfl rfl ?_|refine aj a2 3 rfl rfl rfl rfl rfl ?_|refine aD a2 0 rfl rfl rfl rfl rfl ?_|refine aD a2 1 rfl rfl rfl rfl rfl ?_|refine aD a2 2 rfl rfl rfl rfl rfl ?_|refine aj a2 1 rfl rfl rfl (by assumption) rfl ?_|refine aj a2 0 rfl rfl rfl (by assumption) rfl ?_|fail)|fail)
 refine lm a2 l.length rfl rfl rfl rfl rfl (by rw [aR]) (by rw [aR]) (by omega) (by omega) rfl fun b3 => ?_
 rw [show (List.replicate l.length (List.map AV.sc [Value.int .i64 0])).flatten = eS l 0 from oo l _ rfl]
 repeat' (first|refine ae ?_|refine a6 ?_|refine ak ?_|refine a7 ?_|refine a8 ?_|refine aa a2 rfl rfl ?_|(apply bK; first|refine aj a2 0 rfl rfl rfl rfl rfl ?_|refine aj a2 1 rfl rfl rfl rfl rfl ?_|refine aj a2 2 rfl rfl rfl rfl rfl ?_|refine aj a2 3 rfl rfl rfl rfl rfl ?_|refine aD a2 0 rfl rfl rfl rfl rfl ?_|refine aD a2 1 rfl rfl rfl rfl rfl ?_|refine aD a2 2 rfl rfl rfl rfl rfl ?_|refine aj a2 1 rfl rfl rfl (by assumption) rfl ?_|refine aj a2 0 rfl rfl rfl (by assumption) rfl ?_|fail)|fail)
 refine aJ [3, 15, 16] (α := Nat) (fun i => [(17, aM i)]) (fun i => i ≤ l.length) (fun i => (b3, .box (eS l i) 3) :: bM p b n k l) (fun i => l.length - i) 0 rfl ⟨rfl, trivial⟩ (Nat.zero_le _) (fun _ _ h => h) fun i hi => ?_
 try dsimp only [Gr, Gq, Gp, Gj]
 repeat' (first|refine ae ?_|refine a6 ?_|refine a7 ?_|refine a8 ?_|refine aa a2 rfl rfl ?_)
 refine aw rfl (fun h => ?_) (fun h => ?_)
 ·have hil : i < l.length := by have := Gz h; simp [aR] at this; omega
  obtain ⟨z, hz⟩ : ∃ z, l[i]? = some z := ⟨_, Ee hil⟩
  have hzg := bW hz
  repeat' (first|refine ae ?_|refine a6 ?_|refine ak ?_|refine ar ?_|refine a7 ?_|refine a8 ?_|refine aa a2 rfl rfl ?_|(apply aX; first|refine aW a2 ?_|refine aP a2 ?_)|fail)
  refine ai a2 0 rfl rfl rfl rfl rfl rfl (by rw [Nat.ble_eq, rz l hi]; show _ + 1 ≤ l.length; omega) ?_
  rw [gM, rA hz]
  repeat' (first|refine a6 ?_|refine a7 ?_|refine aH ?_|refine a8 ?_|refine aa a2 rfl rfl ?_|(apply aV; refine aU ?_)|fail)
  exact aB (i + 1) rfl ⟨by rw [Gw]; rfl, trivial⟩ (by omega) (by omega) (fun _ _ h => h)
 ·have hil : i = l.length := by have := Gy h; simp [aR] at this; omega
  subst hil
  rw [ry]
  repeat' (first|refine ae ?_|refine a6 ?_|refine aO ?_|refine a7 ?_|refine au ?_|refine ay ?_|refine av ?_|refine aa a2 rfl rfl ?_)
  refine bb [(b3, .box (l.map aM) 3)] (bM p b n k l) (wg b3 l.length l rfl hl) rfl rfl (Gm _) rfl fun c L1 hL1 => ?_
  subst hL1
  repeat' (first|refine ae ?_|refine a6 ?_|refine aq ?_|refine a7 ?_|refine a8 ?_|refine aa a2 rfl rfl ?_)
  refine be (q9 (t := 2) (sz := 1) (l := aT (dY l)) 0 rfl rfl (kI _).symm (by simp [aT]) (by rw [aR, jK]) (by omega)) ?_
  exact cY (List.sublist_cons_self ..) (oO rfl rfl rfl ⟨rfl, rfl⟩)
theorem DY {α : Type} {σ0 : cD} {l p b n : Nat} (S : α → List Int) (K : α → Option (Nat × Nat)) (E : α → AL) (J : Nat → α → Prop) (hn : n ≤ 1000000) (hJ : ∀ i x, J i x → i ≤ (S x).length ∧ (S x).length ≤ n)
  (hy : ∀ i x z, J i x → (S x)[i]? = some z → AY Tryz.prog σ0 l [aM z] (bM p b n (K x) (S x) ++ E x) fun c L => c = cO true ∧ ∃ x', J (i + 1) x' ∧ L = bM p b n (K x') (S x') ++ E x') (x0 : α) (h0 : J 0 x0) :
  AH Tryz.prog σ0 147 [.sc (.func (.yield l) #[] #[]), .iptr [fJ p]] (bM p b n (K x0) (S x0) ++ E x0) fun _ L => ∃ x, J (S x).length x ∧ L = bM p b n (K x) (S x) ++ E x := by
 refine rf Tryz.func147 rfl Tryz.ntmps147 rfl fun B hB => ?_
 repeat' (first|refine ae ?_|refine a6 ?_|refine ak ?_|refine a7 ?_|refine a8 ?_|refine aa a2 rfl rfl ?_)
 refine aJ [0, 1] (α := Nat × α) (fun y => [(3, aM y.1)]) (fun y => J y.1 y.2) (fun y => bM p b n (K y.2) (S y.2) ++ E y.2) (fun y => n - y.1) (0, x0) rfl ⟨rfl, trivial⟩ h0 (fun _ _ h => h) ?_
 rintro ⟨i, x⟩ hj
 dsimp only at hj ⊢
 obtain ⟨hi, hl⟩ := hJ i x hj
 try dsimp only [Gr, Gq, Gp, Gj]
 repeat' (first|refine ae ?_|refine a6 ?_|refine a7 ?_|refine a8 ?_|refine aa a2 rfl rfl ?_|(apply bK; first|refine aj a2 0 rfl rfl rfl rfl rfl ?_|refine aj a2 1 rfl rfl rfl rfl rfl ?_|refine aj a2 2 rfl rfl rfl rfl rfl ?_|refine aj a2 3 rfl rfl rfl rfl rfl ?_|refine aD a2 0 rfl rfl rfl rfl rfl ?_|refine aD a2 1 rfl rfl rfl rfl rfl ?_|refine aD a2 2 rfl rfl rfl rfl rfl ?_|refine aj a2 1 rfl rfl rfl (by assumption) rfl ?_|refine aj a2 0 rfl rfl rfl (by assumption) rfl ?_|fail)|fail)
 refine aw rfl (fun h => ?_) (fun h => ?_)
 ·have hil : i < (S x).length := by have := Gz h; simp [aR] at this; omega
  obtain ⟨z, hz⟩ : ∃ z, (S x)[i]? = some z := ⟨_, Ee hil⟩
  have hzg := bW hz
  repeat' (first|refine ae ?_|refine a6 ?_|refine ak ?_|refine ar ?_|refine a7 ?_|refine aa a2 rfl rfl ?_|(apply bK; first|refine aj a2 0 rfl rfl rfl rfl rfl ?_|refine aj a2 1 rfl rfl rfl rfl rfl ?_|refine aj a2 2 rfl rfl rfl rfl rfl ?_|refine aj a2 3 rfl rfl rfl rfl rfl ?_|refine aD a2 0 rfl rfl rfl rfl rfl ?_|refine aD a2 1 rfl rfl rfl rfl rfl ?_|refine aD a2 2 rfl rfl rfl rfl rfl ?_|refine aj a2 1 rfl rfl rfl (by assumption) rfl ?_|refine aj a2 0 rfl rfl rfl (by assumption) rfl ?_|fail)|(apply aX; first|refine aW a2 ?_|refine aP a2 ?_)|fail)
  refine ov (bM p b n (K x) (S x) ++ E x) [] hB (hy i x z hj hz) rfl rfl rfl (by rw [List.append_nil]) rfl rfl fun c L1 ⟨hc, x', hj', hL⟩ => ?_
  subst hc; subst hL
  rw [List.append_nil]
  repeat' (first|refine a6 ?_|refine ar ?_|refine a7 ?_|refine aH ?_|refine a8 ?_|refine aa a2 rfl rfl ?_|(apply aV; refine aU ?_)|refine bN rfl ?_)
  have := hJ _ _ hj'
  exact aB (i + 1, x') rfl ⟨by rw [Gw]; rfl, trivial⟩ hj' (by dsimp only; omega) (fun _ _ h => h)
 ·have hil : i = (S x).length := by have := Gy h; simp [aR] at this; omega
  subst hil
  repeat' (first|refine aO ?_|refine au ?_|refine ay ?_|refine av ?_)
  exact dL rfl ⟨x, hj, rfl⟩
theorem xA (p : Nat) : bQ Tryz.prog 85 [fJ p] (.fn 147 [.iptr [fJ p]]) := by
 refine aQ Tryz.func85 rfl Tryz.ntmps85 rfl fun B => ?_
 repeat' (first|refine ae ?_|refine a6 ?_|refine aq ?_|refine a7 ?_|refine a8 ?_|refine aa a2 rfl rfl ?_|refine bg ?_|fail)
 exact aA rfl rfl rfl
instance (p : Nat) : AD Tryz.prog 85 [fJ p] (.fn 147 [.iptr [fJ p]]) := ⟨xA p⟩
end Go.Proofs.YtjjpkibjffmceaaGreat
