/-
  The program: check.Font.
-/
import Derived.Test.YtjjpkibjffmceaaGreatM17
namespace Go.Proofs.YtjjpkibjffmceaaGreat
open Go.RowKit
attribute [local irreducible] AT bT AX AO Av Kt bk ej DA cX
theorem jw {err : Nat → Int} : ∀ (k i : Nat), (di err k i).1 = 0 ↔ ∀ j, i ≤ j → j < i + k → err j = 0
 | 0, i => by simp only [di, true_iff]; intro j h1 h2; omega
 | k + 1, i => by
  simp only [di]
  by_cases h : err i = 0
  ·rw [if_pos h, jw k (i + 1)]
   constructor
   ·intro hh j h1 h2
    by_cases e : j = i
    ·subst e; exact h
    ·exact hh j (by omega) (by omega)
   ·intro hh j h1 h2; exact hh j (by omega) (by omega)
  ·rw [if_neg h]
   constructor
   ·intro hh; exact absurd hh h
   ·intro hh; exact hh i (Nat.le_refl _) (by omega)
theorem ox {α : Type} {l : List α} {w : Nat → α → Int} : (da l w).1 = 0 ↔ ∀ i x, l[i]? = some x → w i x = 0 := by
 unfold da dp
 rw [jw]
 constructor
 ·intro h i x hx
  have := h i (Nat.zero_le _) (by have := (Gn hx).1; omega)
  rwa [gT hx] at this
 ·intro h j _ hj
  obtain ⟨x, hx⟩ : ∃ x, l[j]? = some x := ⟨_, Ds (by omega)⟩
  rw [gT hx]
  exact h j x hx
theorem ij {α : Type} {most : Int} {l : List α} {w : Nat → α → Int} : (ck most l w).1 = 0 ↔ (l.length : Int) ≤ most ∧ ∀ i x, l[i]? = some x → w i x = 0 := by
 have h := ox (l := l) (w := w)
 unfold da at h
 unfold ck dc
 by_cases hm : (l.length : Int) > most
 ·rw [if_pos hm]
  constructor
  ·intro hh; cases hh
  ·intro hh; omega
 ·rw [if_neg hm, h]
  exact ⟨fun hh => ⟨by omega, hh⟩, fun hh => hh.2⟩
theorem dI : ∀ {l : List (Int × Int)}, (g9 l).1 = 0 ↔ ∀ x ∈ l, x.1 = 0
 | [] => by simp [g9]
 | x :: r => by
  unfold g9
  by_cases h : x.1 = 0
  ·rw [if_pos h, dI]
   constructor
   ·intro hh y hy
    rcases List.mem_cons.1 hy with rfl | hy
    ·exact h
    ·exact hh y hy
   ·intro hh y hy; exact hh y (Gt _ hy)
  ·rw [if_neg h]
   constructor
   ·intro hh; exact absurd hh h
   ·intro hh; exact hh x (List.mem_cons_self ..)
theorem iy {f : aJ} (h : (ck 400 f.Glyphs (dU f)).1 = 0) : to f := by
 obtain ⟨h1, h2⟩ := ij.1 h
 have hg : ∀ gl ∈ f.Glyphs, ∃ name, mF f gl name = 0 := fun gl hgl => by
  obtain ⟨i, hi⟩ := List.mem_iff_getElem?.1 hgl
  exact ⟨_, h2 i gl hi⟩
 have hgl : ∀ gl ∈ f.Glyphs, ii gl = 0 ∧ (ck 8 gl.Parts (kI f)).1 = 0 := fun gl hm => by
  obtain ⟨name, hn⟩ := hg gl hm
  unfold mF at hn
  rw [dI] at hn
  exact ⟨hn (ii gl, 0) (by simp), hn (ck 8 gl.Parts (kI f)) (by simp)⟩
 refine ⟨⟨by omega, fun gl hm => ?_⟩, fun gl hm => ?_, fun gl hm p hp => ?_⟩
 ·have := (ij.1 (hgl gl hm).2).1; omega
 ·have h3 := (hgl gl hm).1
  unfold ii at h3
  split at h3
  ·cases h3
  ·split at h3
   ·cases h3
   ·omega
 ·obtain ⟨i, hi⟩ := List.mem_iff_getElem?.1 hp
  have h3 := (ij.1 (hgl gl hm).2).2 i p hi
  unfold kI at h3
  split at h3
  ·cases h3
  ·rename_i hh
   simpa using hh
theorem we {f : aJ} (hf : to f) (ha : jA f.Glyphs.length (prt f)) {D P D' P' : Int → Int} (h : iW f D P) (h' : iW f D' P') : ∀ z : Int, 0 ≤ z → z < f.Glyphs.length → D z = D' z ∧ P z = P' z := by
 obtain ⟨r, hr⟩ := ha
 have : ∀ (k : Nat) (z : Int), r z < k → 0 ≤ z → z < f.Glyphs.length → D z = D' z ∧ P z = P' z := by
  intro k
  induction k with
  | zero => intro z hk; exact absurd hk (Nat.not_lt_zero _)
  | succ k ih =>
   intro z hk h0 h1
   obtain ⟨gl, hgl⟩ : ∃ g, f.Glyphs[z.toNat]? = some g := ⟨_, Ds (by omega)⟩
   have hsm : ∀ p ∈ gl.Parts, D p.Glyph = D' p.Glyph ∧ P p.Glyph = P' p.Glyph := fun p hp => by
    have hin := nP.1 (hf.there gl (Gx hgl) p hp)
    have := hr z h0 h1 p.Glyph (by rw [rq hf hgl]; exact List.mem_map_of_mem hp)
    exact ih p.Glyph (by omega) hin.1 hin.2
   obtain ⟨h2, h3⟩ := h z h0 h1 gl hgl
   obtain ⟨h4, h5⟩ := h' z h0 h1 gl hgl
   rw [h2, h3, h4, h5]
   exact ⟨sb fun p hp => (hsm p hp).1, sP fun p hp => (hsm p hp).2⟩
 intro z h0 h1
 exact this (r z + 1) z (by omega) h0 h1
theorem tP {n : Nat} {D P D' P' : Int → Int} (h : ∀ z : Int, 0 ≤ z → z < n → D z = D' z ∧ P z = P' z) : nc n D P = nc n D' P' := by
 unfold nc
 rw [List.map_congr_left (f := D) (g := D') fun z hz => (h z (f7.1 hz).1 (f7.1 hz).2).1, List.map_congr_left (f := P) (g := P') fun z hz => (h z (f7.1 hz).1 (f7.1 hz).2).2]
open Classical in
noncomputable def lC (f : aJ) : Int × Int := if h : ∃ q : (Int → Int) × (Int → Int), iW f q.1 q.2 then nc f.Glyphs.length h.choose.1 h.choose.2 else (33, 0)
theorem oh {f : aJ} (hf : to f) (ha : jA f.Glyphs.length (prt f)) {D P : Int → Int} (h : iW f D P) : lC f = nc f.Glyphs.length D P := by
 unfold lC
 have hex : ∃ q : (Int → Int) × (Int → Int), iW f q.1 q.2 := ⟨(D, P), h⟩
 rw [dif_pos hex]
 exact tP (we hf ha hex.choose_spec h)
theorem Ao (f : aJ) (hf : to f) (ha : jA f.Glyphs.length (prt f)) : AC Tryz.prog 121 [.iptr (bZ f)] [] fun c _ => c = cq ((lC f).1, (lC f).2) := by
 refine aP Tryz.func121 rfl Tryz.ntmps121 rfl fun B => ?_
 repeat' (first|refine ah ?_|refine a7 ?_|refine a8 ?_|refine aa ?_|refine ae a6 rfl rfl ?_)
 refine b7 [] [] (s8 f hf (.inl ha)) rfl rfl (Gm _) rfl fun c L1 hc => ?_
 rcases hc with ⟨D, P, h1, h2, hc⟩ | ⟨hna, _⟩
 ·rw [← oh hf ha h1] at hc
  subst hc
  unfold cq
  repeat' (first|refine ar ?_|refine a8 ?_|refine aa ?_|refine ae a6 rfl rfl ?_)
  exact b6 rfl rfl rfl rfl
 ·exact absurd ha hna
def vb (_ : Nat) (l : List eb) : Int := lY l
def mP (f : aJ) (_ : Nat) (r : List dS) : Int := wT f.Axes.length r
def kr (f : aJ) (_ : Nat) (l : b9) : Int := ku f l
noncomputable def yh (f : aJ) : List (Int × Int) := [(lJ f, 0), ck 400 f.Glyphs (dU f), lC f, ck 1000 f.Chars (gN f), ck 40 f.Lookups (kr f), ck 20 f.Features (jb f), ck 3 f.Axes (j7 f), ck 16 f.Regions (mP f), ck 20 f.Funcs vb, ck 64 f.Cvt xX]
noncomputable def kE (f : aJ) : Int × Int := g9 (yh f)
noncomputable def va (f : aJ) (m1 m2 m3 : Nat) : List Lk := [⟨114, [.iptr (bZ f)], [], lJ f, 0⟩,
 ⟨157, [.iptr [.imm 9 (f.Glyphs.map bb)], .iptr [aM 400], .iptr [.fn 117 [.iptr (bZ f), .iptr [.sc (.map (some m1))]]]], [(m1, cj .string (cL (ji f)))], (ck 400 f.Glyphs (dU f)).1, (ck 400 f.Glyphs (dU f)).2⟩,
 ⟨121, [.iptr (bZ f)], [], (lC f).1, (lC f).2⟩,
 ⟨177, [.iptr [.imm 2 (f.Chars.map ci)], .iptr [aM 1000], .iptr [.fn 124 [.iptr (bZ f)]]], [], (ck 1000 f.Chars (gN f)).1, (ck 1000 f.Chars (gN f)).2⟩,
 ⟨179, [.iptr [.imm 3 (f.Lookups.map bn)], .iptr [aM 40], .iptr [.fn 127 [.iptr (bZ f)]]], [], (ck 40 f.Lookups (kr f)).1, (ck 40 f.Lookups (kr f)).2⟩,
 ⟨187, [.iptr [.imm 2 (f.Features.map bw)], .iptr [aM 20], .iptr [.fn 130 [.iptr (bZ f), .iptr [.sc (.map (some m2))]]]], [(m2, cj .string (cL (k7 f)))], (ck 20 f.Features (jb f)).1, (ck 20 f.Features (jb f)).2⟩,
 ⟨190, [.iptr [.imm 4 (f.Axes.map cC)], .iptr [aM 3], .iptr [.fn 134 [.iptr [.sc (.map (some m3))]]]], [(m3, cj .string (cL (gW f)))], (ck 3 f.Axes (j7 f)).1, (ck 3 f.Axes (j7 f)).2⟩,
 ⟨192, [.iptr [.imm 1 (f.Regions.map bo)], .iptr [aM 16], .iptr [.fn 137 [.iptr (bZ f)]]], [], (ck 16 f.Regions (mP f)).1, (ck 16 f.Regions (mP f)).2⟩,
 ⟨196, [.iptr [.imm 1 (f.Funcs.map cQ)], .iptr [aM 20], .iptr [.sc (.func (.func 140) #[] #[])]], [], (ck 20 f.Funcs vb).1, (ck 20 f.Funcs vb).2⟩,
 ⟨200, [.iptr [.imm 1 (f.Cvt.map fT)], .iptr [aM 64], .iptr [.sc (.func (.func 143) #[] #[])]], [], (ck 64 f.Cvt xX).1, (ck 64 f.Cvt xX).2⟩]
theorem u3 (f : aJ) (m1 m2 m3 : Nat) (hA : (ck 400 f.Glyphs (dU f)).1 = 0 → jA f.Glyphs.length (prt f)) : ui (va f m1 m2 m3) := by
 refine ⟨⟨inferInstance, wr f⟩, fun _ => ⟨⟨inferInstance, ?_⟩, fun h1 => ⟨⟨inferInstance, Ao f (iy h1) (hA h1)⟩, fun _ => ⟨⟨inferInstance, ?_⟩, fun _ => ⟨⟨inferInstance, ?_⟩, fun _ => ⟨⟨inferInstance, ?_⟩, fun _ => ⟨⟨inferInstance, ?_⟩, fun _ => ⟨⟨inferInstance, ?_⟩, fun _ => ⟨⟨inferInstance, ?_⟩, fun _ => ⟨⟨inferInstance, ?_⟩, fun _ => trivial⟩⟩⟩⟩⟩⟩⟩⟩⟩⟩
 ·exact Br (u := .fn 117 [.iptr (bZ f), .iptr [.sc (.map (some m1))]]) rfl f.Glyphs 400 (fB f.Glyphs (dU f)) (fun _ L => L = [(m1, cj .string (cL (ji f)))]) _ rfl fun _ => pv fun i x _ => ua f i x m1
 ·exact Bt (u := .fn 124 [.iptr (bZ f)]) rfl f.Chars 1000 (fB f.Chars (gN f)) (fun _ _ => True) [] trivial fun hm => dk fun i x hx => vZ f i x hx hm
 ·exact Bu (u := .fn 127 [.iptr (bZ f)]) rfl f.Lookups 40 (fB f.Lookups (kr f)) (fun _ _ => True) [] trivial fun _ => dk fun i x _ => ra f i x
 ·exact Bv (u := .fn 130 [.iptr (bZ f), .iptr [.sc (.map (some m2))]]) rfl f.Features 20 (fB f.Features (jb f)) (fun _ L => L = [(m2, cj .string (cL (k7 f)))]) _ rfl fun _ => pv fun i x _ => wm f i x m2
 ·exact Bw (u := .fn 134 [.iptr [.sc (.map (some m3))]]) rfl f.Axes 3 (fB f.Axes (j7 f)) (fun _ L => L = [(m3, cj .string (cL (gW f)))]) _ rfl fun _ => pv fun i x _ => vT f i x m3
 ·exact Bx (u := .fn 137 [.iptr (bZ f)]) rfl f.Regions 16 (fB f.Regions (mP f)) (fun _ _ => True) [] trivial fun _ => dk fun i x _ => sU f i x
 ·exact By (u := .sc (.func (.func 140) #[] #[])) (g := 140) (caps := []) rfl f.Funcs 20 (fB f.Funcs vb) (fun _ _ => True) [] trivial fun _ => dk fun i x _ => w1 i x
 ·exact Bz (u := .sc (.func (.func 143) #[] #[])) (g := 143) (caps := []) rfl f.Cvt 64 (fB f.Cvt xX) (fun _ _ => True) [] trivial fun _ => dk fun i x _ => xV i x
set_option maxHeartbeats 4000000 in
theorem AU (f : aJ) (hA : (ck 400 f.Glyphs (dU f)).1 = 0 → jA f.Glyphs.length (prt f)) : AC Tryz.prog 82 [cr f] [] fun c _ => c = cq (kE f) := by
 refine aP Tryz.func82 rfl Tryz.ntmps82 rfl fun B => ?_
 repeat' (first|refine ah ?_|refine a7 ?_|refine a8 ?_|refine aa ?_|refine ae a6 rfl rfl ?_|refine be ?_|fail)
 refine b7 [] _ (yc f.Glyphs) rfl rfl (Gm _) rfl fun c L1 ⟨m1, hc, hL⟩ => ?_
 subst hc; subst hL
 repeat' (first|refine ah ?_|refine a7 ?_|refine a8 ?_|refine aa ?_|refine ae a6 rfl rfl ?_|(apply aH; first|refine ai 4 a6 0 rfl rfl rfl rfl rfl rfl rfl rfl ?_|refine ai 4 a6 1 rfl rfl rfl rfl rfl rfl rfl rfl ?_|refine ai 4 a6 2 rfl rfl rfl rfl rfl rfl rfl rfl ?_|refine ai 5 a6 0 rfl rfl rfl rfl rfl rfl rfl rfl ?_|refine ai 5 a6 1 rfl rfl rfl rfl rfl rfl rfl rfl ?_|refine ai 5 a6 2 rfl rfl rfl rfl rfl rfl rfl rfl ?_|refine ai 6 a6 0 rfl rfl rfl rfl rfl rfl rfl rfl ?_|refine ai 6 a6 1 rfl rfl rfl rfl rfl rfl rfl rfl ?_|refine ai 6 a6 2 rfl rfl rfl rfl rfl rfl rfl rfl ?_|refine aj a6 0 rfl rfl rfl rfl rfl rfl rfl ?_|refine aj a6 1 rfl rfl rfl rfl rfl rfl rfl ?_|refine aj a6 2 rfl rfl rfl rfl rfl rfl rfl ?_|refine aj a6 3 rfl rfl rfl rfl rfl rfl rfl ?_|fail)|refine b5 a6 fun _=>?_|fail)
 refine b7 [] _ (yd f.Features) rfl rfl (Gm _) rfl fun c L1 ⟨m2, hc, hL⟩ => ?_
 subst hc; subst hL
 repeat' (first|refine ah ?_|refine a7 ?_|refine a8 ?_|refine aa ?_|refine ae a6 rfl rfl ?_|(apply aH; first|refine ai 4 a6 0 rfl rfl rfl rfl rfl rfl rfl rfl ?_|refine ai 4 a6 1 rfl rfl rfl rfl rfl rfl rfl rfl ?_|refine ai 4 a6 2 rfl rfl rfl rfl rfl rfl rfl rfl ?_|refine ai 5 a6 0 rfl rfl rfl rfl rfl rfl rfl rfl ?_|refine ai 5 a6 1 rfl rfl rfl rfl rfl rfl rfl rfl ?_|refine ai 5 a6 2 rfl rfl rfl rfl rfl rfl rfl rfl ?_|refine ai 6 a6 0 rfl rfl rfl rfl rfl rfl rfl rfl ?_|refine ai 6 a6 1 rfl rfl rfl rfl rfl rfl rfl rfl ?_|refine ai 6 a6 2 rfl rfl rfl rfl rfl rfl rfl rfl ?_|refine aj a6 0 rfl rfl rfl rfl rfl rfl rfl ?_|refine aj a6 1 rfl rfl rfl rfl rfl rfl rfl ?_|refine aj a6 2 rfl rfl rfl rfl rfl rfl rfl ?_|refine aj a6 3 rfl rfl rfl rfl rfl rfl rfl ?_|fail)|refine b5 a6 fun _=>?_|fail)
 refine b7 [] _ (ye f.Axes) rfl rfl (Gm _) rfl fun c L1 ⟨m3, hc, hL⟩ => ?_
 subst hc; subst hL
 repeat' (first|refine ah ?_|refine a8 ?_|refine aa ?_|(apply aH; first|refine ai 4 a6 0 rfl rfl rfl rfl rfl rfl rfl rfl ?_|refine ai 4 a6 1 rfl rfl rfl rfl rfl rfl rfl rfl ?_|refine ai 4 a6 2 rfl rfl rfl rfl rfl rfl rfl rfl ?_|refine ai 5 a6 0 rfl rfl rfl rfl rfl rfl rfl rfl ?_|refine ai 5 a6 1 rfl rfl rfl rfl rfl rfl rfl rfl ?_|refine ai 5 a6 2 rfl rfl rfl rfl rfl rfl rfl rfl ?_|refine ai 6 a6 0 rfl rfl rfl rfl rfl rfl rfl rfl ?_|refine ai 6 a6 1 rfl rfl rfl rfl rfl rfl rfl rfl ?_|refine ai 6 a6 2 rfl rfl rfl rfl rfl rfl rfl rfl ?_|refine aj a6 0 rfl rfl rfl rfl rfl rfl rfl ?_|refine aj a6 1 rfl rfl rfl rfl rfl rfl rfl ?_|refine aj a6 2 rfl rfl rfl rfl rfl rfl rfl ?_|refine aj a6 3 rfl rfl rfl rfl rfl rfl rfl ?_|fail)|refine b5 a6 fun _=>?_|fail)
 refine bt 36 [(0, .v), (1, .v), (2, .v), (3, .v), (4, .v), (5, .v), (6, .v), (7, .v), (8, .v), (9, .v), (10, .v), (11, .v), (12, .v), (13, .v), (14, .v), (15, .v), (16, .v), (17, .v), (18, .v), (19, .v), (20, .v), (21, .v), (22, .v), (23, .v), (24, .v), (25, .v), (26, .v), (27, .v), (28, .v), (29, .v), (30, .v), (31, .v), (32, .v), (33, .e), (34, .v), (35, .v)] none ?_ trivial rfl (by kernel_rfl) (by kernel_rfl) (by kernel_rfl) mixed (by kernel_rfl) rfl
 repeat' (first|refine aE ?_|refine aZ a6 ?_|(apply bX;refine cm ?_)|fail)
 refine cm (hc := ⟨CU f.Cvt 64⟩) ?_
 repeat' (first|refine aE ?_|refine ee a6 ?_|fail)
 refine eT (L := [(m3, cj .string (cL (gW f))), (m2, cj .string (cL (k7 f))), (m1, cj .string (cL (ji f)))]) _ [] (iH (va f m1 m2 m3) (u3 f m1 m2 m3 hA)) rfl rfl (by rw [List.append_nil]; exact (List.reverse_perm _).symm) trivial fun c L1 hc => ?_
 rw [jl] at hc
 have hc : c = cq (kE f) := hc
 subst hc
 unfold cq
 repeat' (first|refine aE ?_|refine aZ a6 ?_|fail)
 refine br [50, 51] rfl rfl ?_
 repeat' (first|refine ar ?_|refine a8 ?_|refine aa ?_|refine ae a6 rfl rfl ?_)
 exact b6 rfl rfl rfl rfl
theorem zi (f : aJ) (hA : (ck 400 f.Glyphs (dU f)).1 = 0 → jA f.Glyphs.length (prt f)) : bO Tryz.prog 41 [cr f] (cF (decide ((kE f).1 = 0))) := by
 refine aP Tryz.func41 rfl Tryz.ntmps41 rfl fun B => ?_
 repeat' (first|refine ah ?_|refine a7 ?_|refine a8 ?_|refine aa ?_|refine ae a6 rfl rfl ?_|refine be ?_|fail)
 refine b7 [] [] (AU f hA) rfl rfl (Gm _) rfl fun c L1 hc => ?_
 subst hc
 unfold cq
 repeat' (first|refine ah ?_|refine a7 ?_|refine ar ?_|refine a8 ?_|refine aa ?_|refine ae a6 rfl rfl ?_)
 exact aA rfl rfl rfl
end Go.Proofs.YtjjpkibjffmceaaGreat
namespace Go.Proofs.YtjjpkibjffmceaaGreat
open Go.RowKit
attribute [local irreducible] AT bT AX AO Av Kt bk ej DA cX
theorem z8 {α : Type} {σ0 : cw} {l p b n : Nat} (S : α → List Int) (K : α → Option (Nat × Nat)) (E : α → AL) (J : Nat → α → Prop) (hn : n ≤ 1000000) (hJ : ∀ i x, J i x → i ≤ (S x).length ∧ (S x).length ≤ n)
  (hy : ∀ i x z, J i x → (S x)[i]? = some z → AY Tryz.prog σ0 l [aM z] (du p b n (K x) (S x) ++ E x) fun c L => c = cF true ∧ ∃ x', J (i + 1) x' ∧ L = du p b n (K x') (S x') ++ E x') (x0 : α) (h0 : J 0 x0) :
  zP Tryz.prog σ0 91 [.sc (.func (.yield l) #[] #[]), .iptr [fp p]] (du p b n (K x0) (S x0) ++ E x0) fun _ L => ∃ x, J (S x).length x ∧ L = du p b n (K x) (S x) ++ E x := by
 refine qI Tryz.func91 rfl Tryz.ntmps91 rfl fun B hB => ?_
 repeat' (first|refine ah ?_|refine a7 ?_|refine aq ?_|refine a8 ?_|refine aa ?_|refine ae a6 rfl rfl ?_)
 refine aN [0, 1] (α := Nat × α) (fun y => [(3, aM y.1)]) (fun y => J y.1 y.2) (fun y => du p b n (K y.2) (S y.2) ++ E y.2) (fun y => n - y.1) (0, x0) rfl ⟨rfl, trivial⟩ h0 (fun _ _ h => h) ?_
 rintro ⟨i, x⟩ hj
 dsimp only at hj ⊢
 obtain ⟨hi, hl⟩ := hJ i x hj
 try dsimp only [Gr, Gq, Gp, Gj]
 repeat' (first|refine ah ?_|refine a7 ?_|refine a8 ?_|refine aa ?_|refine ae a6 rfl rfl ?_|(apply bB; first|refine ak a6 0 rfl rfl rfl rfl rfl ?_|refine ak a6 1 rfl rfl rfl rfl rfl ?_|refine ak a6 2 rfl rfl rfl rfl rfl ?_|refine ak a6 3 rfl rfl rfl rfl rfl ?_|refine aD a6 0 rfl rfl rfl rfl rfl ?_|refine aD a6 1 rfl rfl rfl rfl rfl ?_|refine aD a6 2 rfl rfl rfl rfl rfl ?_|refine ak a6 1 rfl rfl rfl (by assumption) rfl ?_|refine ak a6 0 rfl rfl rfl (by assumption) rfl ?_|fail)|fail)
 refine aw rfl (fun h => ?_) (fun h => ?_)
 ·have hil : i < (S x).length := by have := Gz h; simp [aQ] at this; omega
  obtain ⟨z, hz⟩ : ∃ z, (S x)[i]? = some z := ⟨_, Ds hil⟩
  have hzg := bN hz
  repeat' (first|refine ah ?_|refine a7 ?_|refine aq ?_|refine au ?_|refine a8 ?_|refine ae a6 rfl rfl ?_|(apply bB; first|refine ak a6 0 rfl rfl rfl rfl rfl ?_|refine ak a6 1 rfl rfl rfl rfl rfl ?_|refine ak a6 2 rfl rfl rfl rfl rfl ?_|refine ak a6 3 rfl rfl rfl rfl rfl ?_|refine aD a6 0 rfl rfl rfl rfl rfl ?_|refine aD a6 1 rfl rfl rfl rfl rfl ?_|refine aD a6 2 rfl rfl rfl rfl rfl ?_|refine ak a6 1 rfl rfl rfl (by assumption) rfl ?_|refine ak a6 0 rfl rfl rfl (by assumption) rfl ?_|fail)|(apply aY; first|refine aX a6 ?_|refine aS a6 ?_)|fail)
  refine nQ (du p b n (K x) (S x) ++ E x) [] hB (hy i x z hj hz) rfl rfl rfl (by rw [List.append_nil]) rfl rfl fun c L1 ⟨hc, x', hj', hL⟩ => ?_
  subst hc; subst hL
  rw [List.append_nil]
  repeat' (first|refine a7 ?_|refine au ?_|refine a8 ?_|refine aI ?_|refine aa ?_|refine ae a6 rfl rfl ?_|(apply aW; refine aV ?_)|refine bv rfl ?_)
  have := hJ _ _ hj'
  exact aC (i + 1, x') rfl ⟨by rw [Gw]; rfl, trivial⟩ hj' (by dsimp only; omega) (fun _ _ h => h)
 ·have hil : i = (S x).length := by have := Gy h; simp [aQ] at this; omega
  subst hil
  repeat' (first|refine aR ?_|refine av ?_|refine aB ?_|refine ay ?_)
  exact dz rfl ⟨x, hj, rfl⟩
theorem wS (p : Nat) : bO Tryz.prog 49 [fp p] (.fn 91 [.iptr [fp p]]) := by
 refine aP Tryz.func49 rfl Tryz.ntmps49 rfl fun B => ?_
 repeat' (first|refine ah ?_|refine a7 ?_|refine ar ?_|refine a8 ?_|refine aa ?_|refine ae a6 rfl rfl ?_|refine be ?_|fail)
 exact aA rfl rfl rfl
instance (p : Nat) : AD Tryz.prog 49 [fp p] (.fn 91 [.iptr [fp p]]) := ⟨wS p⟩
def bJ (p b n : Nat) (k : Option (Nat × Nat)) (l : List Int) : AL := (p, .box [.sc (.slice (some ⟨b, 0, none⟩) n n), .vec k 1 (aU l)] 131) :: (b, .box (fV l n) 4) :: tok k 124 1 (aU l).length
theorem BW (n : Nat) (hn : n ≤ 1000000) : AC Tryz.prog 83 [aM n] [] fun c L => ∃ p b, c = fp p ∧ L = bJ p b n none [] := by
 refine aP Tryz.func83 rfl Tryz.ntmps83 rfl fun B => ?_
 repeat' (first|refine ah ?_|refine a7 ?_|refine a8 ?_|refine aa ?_|refine ae a6 rfl rfl ?_)
 refine l6 a6 n rfl rfl rfl rfl rfl rfl rfl (by omega) (by omega) rfl fun b => ?_
 rw [show (List.replicate n (List.map AV.sc [Value.bool false])).flatten = fV [] n from qd n]
 repeat' (first|refine ar ?_|refine a8 ?_|refine aa ?_|refine ae a6 rfl rfl ?_|refine sD fun _=>?_|fail)
 refine ba (bi 0 (cs' := [.sc (.slice (some ⟨b, 0, none⟩) n n), .vec none 1 []]) rfl fun σ vs h => ?_) (aA rfl rfl ⟨_, b, rfl, rfl⟩)
 obtain ⟨v, ws, rfl, h1, h2⟩ := h.inv
 obtain ⟨v', ws', rfl, h3, h4⟩ := h2.inv
 exact .cons h1 (.cons (co 1 h3) h4)
theorem lr (p b n : Nat) (k : Option (Nat × Nat)) (l ns : List Int) (hn : n ≤ 1000000) (hl : ce n l) : AC Tryz.prog 43 [fp p, .imm 1 (aU ns)] (bJ p b n k l) fun _ L => ∃ k', L = bJ p b n k' (cS n l ns) := by
 refine aP Tryz.func43 rfl Tryz.ntmps43 rfl fun B => ?_
 refine cz 1 rfl rfl fun hlen => ?_
 rw [aQ] at hlen
 repeat' (first|refine ah ?_|refine a7 ?_|refine aq ?_|refine a8 ?_|refine aa ?_|refine ae a6 rfl rfl ?_)
 refine aN [0, 6, 7] (α := Nat × Option (Nat × Nat)) (fun x => [(8, aM x.1)]) (fun x => x.1 ≤ ns.length) (fun x => bJ p b n x.2 (cS n l (ns.take x.1))) (fun x => ns.length - x.1) (0, k) rfl ⟨rfl, trivial⟩ (Nat.zero_le _) (fun _ _ h => h) ?_
 rintro ⟨i, k⟩ hi
 dsimp only at hi ⊢
 have hok := hl.add (ns.take i)
 have hok1 := hok.len
 try dsimp only [Gr, Gq, Gp, Gj]
 repeat' (first|refine ah ?_|refine a7 ?_|refine a8 ?_|refine aa ?_|refine ae a6 rfl rfl ?_)
 refine aw rfl (fun h => ?_) (fun h => ?_)
 ·have hil : i < ns.length := by have := Gz h; simp [aQ] at this; omega
  obtain ⟨z, hz⟩ : ∃ z, ns[i]? = some z := ⟨_, Ds hil⟩
  have hzg := bN hz
  have had := pS (n := n) (l := l) hz
  generalize cS n l (ns.take i) = l1 at *
  repeat' (first|refine ah ?_|refine a7 ?_|refine aq ?_|refine au ?_|refine a8 ?_|refine aa ?_|refine ae a6 rfl rfl ?_|(apply aY; first|refine aX a6 ?_|refine aS a6 ?_)|fail)
  refine dJ [0, 5, 6, 7, 8] (0 ≤ z ∧ z < n ∧ z ∉ l1) rfl (fun Q' K => ?_) (fun hC => ?_) (fun hC => ?_)
  ·by_cases hin : 0 ≤ z ∧ z < n
   ·obtain ⟨hz0, hz1⟩ := hin
    have hfg := mA l1 n hz0 hz1
    clear had hok hl
    repeat' (first|refine aa ?_|refine ae a6 rfl rfl ?_|refine aG rfl rfl ?_|refine aL rfl rfl rfl rfl ?_|(apply bB; first|refine ak a6 0 rfl rfl rfl rfl rfl ?_|refine ak a6 1 rfl rfl rfl rfl rfl ?_|refine ak a6 2 rfl rfl rfl rfl rfl ?_|refine ak a6 3 rfl rfl rfl rfl rfl ?_|refine aD a6 0 rfl rfl rfl rfl rfl ?_|refine aD a6 1 rfl rfl rfl rfl rfl ?_|refine aD a6 2 rfl rfl rfl rfl rfl ?_|refine ak a6 1 rfl rfl rfl (by assumption) rfl ?_|refine ak a6 0 rfl rfl rfl (by assumption) rfl ?_|fail)|(apply aY; first|refine aX a6 ?_|refine aS a6 ?_)|refine bc rfl rfl rfl (fun _ => ?_) (fun _ => ?_))
    all_goals exact K _ _ rfl rfl (by simp_all)
   ·clear had hok hl
    repeat' (first|refine aa ?_|refine ae a6 rfl rfl ?_|refine aG rfl rfl ?_|refine aL rfl rfl rfl rfl ?_|(apply bB; first|refine ak a6 0 rfl rfl rfl rfl rfl ?_|refine ak a6 1 rfl rfl rfl rfl rfl ?_|refine ak a6 2 rfl rfl rfl rfl rfl ?_|refine ak a6 3 rfl rfl rfl rfl rfl ?_|refine aD a6 0 rfl rfl rfl rfl rfl ?_|refine aD a6 1 rfl rfl rfl rfl rfl ?_|refine aD a6 2 rfl rfl rfl rfl rfl ?_|refine ak a6 1 rfl rfl rfl (by assumption) rfl ?_|refine ak a6 0 rfl rfl rfl (by assumption) rfl ?_|fail)|refine bc rfl rfl rfl (fun _ => ?_) (fun _ => ?_))
    all_goals first
     | (refine K _ _ rfl rfl ?_; exact ⟨fun e => (by cases e), fun hh => absurd (And.intro hh.1 hh.2.1) hin⟩)
     | (rename_i e1 e2; exact absurd ⟨Gz e1, Gz e2⟩ hin)
  ·obtain ⟨hz0, hz1, hz2⟩ := hC
   have had' : cS n l (ns.take (i + 1)) = l1 ++ [z] := by rw [had]; unfold addOne; rw [if_pos ⟨hz0, hz1, hz2⟩]
   repeat' (first|refine ah ?_|refine a7 ?_|refine ae a6 rfl rfl ?_|(apply bB; first|refine ak a6 0 rfl rfl rfl rfl rfl ?_|refine ak a6 1 rfl rfl rfl rfl rfl ?_|refine ak a6 2 rfl rfl rfl rfl rfl ?_|refine ak a6 3 rfl rfl rfl rfl rfl ?_|refine aD a6 0 rfl rfl rfl rfl rfl ?_|refine aD a6 1 rfl rfl rfl rfl rfl ?_|refine aD a6 2 rfl rfl rfl rfl rfl ?_|refine ak a6 1 rfl rfl rfl (by assumption) rfl ?_|refine ak a6 0 rfl rfl rfl (by assumption) rfl ?_|fail)|(apply aY; first|refine aX a6 ?_|refine aS a6 ?_)|fail)
   refine aj a6 1 rfl rfl rfl rfl rfl rfl (by rw [Nat.ble_eq, mB]; show _ + 1 ≤ n; omega) ?_
   rw [gy, qe l1 n hz0 hz1]
   repeat' (first|refine a7 ?_|refine a8 ?_|refine aa ?_|refine ae a6 rfl rfl ?_|(apply bB; first|refine ak a6 0 rfl rfl rfl rfl rfl ?_|refine ak a6 1 rfl rfl rfl rfl rfl ?_|refine ak a6 2 rfl rfl rfl rfl rfl ?_|refine ak a6 3 rfl rfl rfl rfl rfl ?_|refine aD a6 0 rfl rfl rfl rfl rfl ?_|refine aD a6 1 rfl rfl rfl rfl rfl ?_|refine aD a6 2 rfl rfl rfl rfl rfl ?_|refine ak a6 1 rfl rfl rfl (by assumption) rfl ?_|refine ak a6 0 rfl rfl rfl (by assumption) rfl ?_|fail)|refine bz a6 ?_|fail)
   refine bF a6 [(p, .box [.sc (.slice (some ⟨b, 0, none⟩) n n), .vec k 1 (aU l1)] 131), (b, .box (fV (l1 ++ [z]) n) 4)] rfl rfl rfl rfl (List.perm_append_comm (l₁ := [(p, AB.box [.sc (.slice (some ⟨b, 0, none⟩) n n), .vec k 1 (aU l1)] 131), (b, AB.box (fV (l1 ++ [z]) n) 4)])) (by rw [aQ]; simp; omega) (by rw [aQ]; simp; omega) rfl fun k' => ?_
   refine aO (aK List.perm_append_comm) ?_
   repeat' (first|refine a7 ?_|refine a8 ?_|refine aI ?_|refine aa ?_|refine ae a6 rfl rfl ?_|(apply aW; refine aV ?_)|(apply aH; first|refine aj a6 0 rfl rfl rfl rfl rfl rfl rfl ?_|refine aj a6 1 rfl rfl rfl rfl rfl rfl rfl ?_|refine aj a6 2 rfl rfl rfl rfl rfl rfl rfl ?_|refine aj a6 3 rfl rfl rfl rfl rfl rfl rfl ?_|fail))
   rw [show aU l1 ++ [[aM z]] = aU (l1 ++ [z]) from jQ l1 [z], ← had']
   refine aC (i + 1, k') rfl ⟨by rw [Gw]; rfl, trivial⟩ (by dsimp only; omega) (by dsimp only; omega) (fun _ _ h => h)
  ·have had' : cS n l (ns.take (i + 1)) = l1 := by rw [had]; unfold addOne; rw [if_neg hC]
   repeat' (first|refine a7 ?_|refine au ?_|refine a8 ?_|refine aI ?_|refine aa ?_|refine ae a6 rfl rfl ?_|(apply aW; refine aV ?_)|fail)
   refine aC (i + 1, k) rfl ⟨by rw [Gw]; rfl, trivial⟩ (by dsimp only; omega) (by dsimp only; omega) (fun _ _ h => by dsimp only; rw [had']; exact h)
 ·have hil : i = ns.length := by have := Gy h; simp [aQ] at this; omega
  subst hil
  rw [List.take_length]
  repeat' (first|refine aR ?_|refine av ?_|refine aB ?_|refine ay ?_)
  exact dz rfl ⟨k, rfl⟩
theorem zj (p b n : Nat) (k : Option (Nat × Nat)) (l : List Int) (hl : l.length ≤ 1000000) : AC Tryz.prog 46 [fp p] (bJ p b n k l) fun c L => c = .imm 1 (aU (dM l)) ∧ L = bJ p b n k l := by
 refine aP Tryz.func46 rfl Tryz.ntmps46 rfl fun B => ?_
 repeat' (first|refine ah ?_|refine a7 ?_|refine a8 ?_|refine aa ?_|refine ae a6 rfl rfl ?_|(apply bB; first|refine ak a6 0 rfl rfl rfl rfl rfl ?_|refine ak a6 1 rfl rfl rfl rfl rfl ?_|refine ak a6 2 rfl rfl rfl rfl rfl ?_|refine ak a6 3 rfl rfl rfl rfl rfl ?_|refine aD a6 0 rfl rfl rfl rfl rfl ?_|refine aD a6 1 rfl rfl rfl rfl rfl ?_|refine aD a6 2 rfl rfl rfl rfl rfl ?_|refine ak a6 1 rfl rfl rfl (by assumption) rfl ?_|refine ak a6 0 rfl rfl rfl (by assumption) rfl ?_|fail)|fail)
 refine l6 a6 l.length rfl rfl rfl rfl rfl (by rw [aQ]) (by rw [aQ]) (by omega) (by omega) rfl fun b3 => ?_
 rw [show (List.replicate l.length (List.map AV.sc [Value.int .i64 0])).flatten = eE l 0 from nN l _ rfl]
 repeat' (first|refine ah ?_|refine a7 ?_|refine aq ?_|refine a8 ?_|refine aa ?_|refine ae a6 rfl rfl ?_|(apply bB; first|refine ak a6 0 rfl rfl rfl rfl rfl ?_|refine ak a6 1 rfl rfl rfl rfl rfl ?_|refine ak a6 2 rfl rfl rfl rfl rfl ?_|refine ak a6 3 rfl rfl rfl rfl rfl ?_|refine aD a6 0 rfl rfl rfl rfl rfl ?_|refine aD a6 1 rfl rfl rfl rfl rfl ?_|refine aD a6 2 rfl rfl rfl rfl rfl ?_|refine ak a6 1 rfl rfl rfl (by assumption) rfl ?_|refine ak a6 0 rfl rfl rfl (by assumption) rfl ?_|fail)|fail)
 refine aN [3, 15, 16] (α := Nat) (fun i => [(17, aM i)]) (fun i => i ≤ l.length) (fun i => (b3, .box (eE l i) 3) :: bJ p b n k l) (fun i => l.length - i) 0 rfl ⟨rfl, trivial⟩ (Nat.zero_le _) (fun _ _ h => h) fun i hi => ?_
 try dsimp only [Gr, Gq, Gp, Gj]
 repeat' (first|refine ah ?_|refine a7 ?_|refine a8 ?_|refine aa ?_|refine ae a6 rfl rfl ?_)
 refine aw rfl (fun h => ?_) (fun h => ?_)
 ·have hil : i < l.length := by have := Gz h; simp [aQ] at this; omega
  obtain ⟨z, hz⟩ : ∃ z, l[i]? = some z := ⟨_, Ds hil⟩
  have hzg := bN hz
  repeat' (first|refine ah ?_|refine a7 ?_|refine aq ?_|refine au ?_|refine a8 ?_|refine aa ?_|refine ae a6 rfl rfl ?_|(apply aY; first|refine aX a6 ?_|refine aS a6 ?_)|fail)
  refine aj a6 0 rfl rfl rfl rfl rfl rfl (by rw [Nat.ble_eq, qW l hi]; show _ + 1 ≤ l.length; omega) ?_
  rw [gy, qX hz]
  repeat' (first|refine a7 ?_|refine a8 ?_|refine aI ?_|refine aa ?_|refine ae a6 rfl rfl ?_|(apply aW; refine aV ?_)|fail)
  exact aC (i + 1) rfl ⟨by rw [Gw]; rfl, trivial⟩ (by omega) (by omega) (fun _ _ h => h)
 ·have hil : i = l.length := by have := Gy h; simp [aQ] at this; omega
  subst hil
  rw [qV]
  repeat' (first|refine ah ?_|refine a7 ?_|refine aR ?_|refine a8 ?_|refine av ?_|refine aB ?_|refine ay ?_|refine ae a6 rfl rfl ?_)
  refine b7 [(b3, .box (l.map aM) 3)] (bJ p b n k l) (vx b3 l.length l rfl hl) rfl rfl (Gm _) rfl fun c L1 hL1 => ?_
  subst hL1
  repeat' (first|refine ah ?_|refine a7 ?_|refine ar ?_|refine a8 ?_|refine aa ?_|refine ae a6 rfl rfl ?_)
  refine ba (pt (t := 2) (sz := 1) (l := aU (dM l)) 0 rfl rfl (kp _).symm (by simp [aU]) (by rw [aQ, jo]) (by omega)) ?_
  exact cO (List.sublist_cons_self ..) (o9 rfl rfl rfl ⟨rfl, rfl⟩)
theorem D3 {α : Type} {σ0 : cw} {l p b n : Nat} (S : α → List Int) (K : α → Option (Nat × Nat)) (E : α → AL) (J : Nat → α → Prop) (hn : n ≤ 1000000) (hJ : ∀ i x, J i x → i ≤ (S x).length ∧ (S x).length ≤ n)
  (hy : ∀ i x z, J i x → (S x)[i]? = some z → AY Tryz.prog σ0 l [aM z] (bJ p b n (K x) (S x) ++ E x) fun c L => c = cF true ∧ ∃ x', J (i + 1) x' ∧ L = bJ p b n (K x') (S x') ++ E x') (x0 : α) (h0 : J 0 x0) :
  zP Tryz.prog σ0 147 [.sc (.func (.yield l) #[] #[]), .iptr [fp p]] (bJ p b n (K x0) (S x0) ++ E x0) fun _ L => ∃ x, J (S x).length x ∧ L = bJ p b n (K x) (S x) ++ E x := by
 refine qI Tryz.func147 rfl Tryz.ntmps147 rfl fun B hB => ?_
 repeat' (first|refine ah ?_|refine a7 ?_|refine aq ?_|refine a8 ?_|refine aa ?_|refine ae a6 rfl rfl ?_)
 refine aN [0, 1] (α := Nat × α) (fun y => [(3, aM y.1)]) (fun y => J y.1 y.2) (fun y => bJ p b n (K y.2) (S y.2) ++ E y.2) (fun y => n - y.1) (0, x0) rfl ⟨rfl, trivial⟩ h0 (fun _ _ h => h) ?_
 rintro ⟨i, x⟩ hj
 dsimp only at hj ⊢
 obtain ⟨hi, hl⟩ := hJ i x hj
 try dsimp only [Gr, Gq, Gp, Gj]
 repeat' (first|refine ah ?_|refine a7 ?_|refine a8 ?_|refine aa ?_|refine ae a6 rfl rfl ?_|(apply bB; first|refine ak a6 0 rfl rfl rfl rfl rfl ?_|refine ak a6 1 rfl rfl rfl rfl rfl ?_|refine ak a6 2 rfl rfl rfl rfl rfl ?_|refine ak a6 3 rfl rfl rfl rfl rfl ?_|refine aD a6 0 rfl rfl rfl rfl rfl ?_|refine aD a6 1 rfl rfl rfl rfl rfl ?_|refine aD a6 2 rfl rfl rfl rfl rfl ?_|refine ak a6 1 rfl rfl rfl (by assumption) rfl ?_|refine ak a6 0 rfl rfl rfl (by assumption) rfl ?_|fail)|fail)
 refine aw rfl (fun h => ?_) (fun h => ?_)
 ·have hil : i < (S x).length := by have := Gz h; simp [aQ] at this; omega
  obtain ⟨z, hz⟩ : ∃ z, (S x)[i]? = some z := ⟨_, Ds hil⟩
  have hzg := bN hz
  repeat' (first|refine ah ?_|refine a7 ?_|refine aq ?_|refine au ?_|refine a8 ?_|refine ae a6 rfl rfl ?_|(apply bB; first|refine ak a6 0 rfl rfl rfl rfl rfl ?_|refine ak a6 1 rfl rfl rfl rfl rfl ?_|refine ak a6 2 rfl rfl rfl rfl rfl ?_|refine ak a6 3 rfl rfl rfl rfl rfl ?_|refine aD a6 0 rfl rfl rfl rfl rfl ?_|refine aD a6 1 rfl rfl rfl rfl rfl ?_|refine aD a6 2 rfl rfl rfl rfl rfl ?_|refine ak a6 1 rfl rfl rfl (by assumption) rfl ?_|refine ak a6 0 rfl rfl rfl (by assumption) rfl ?_|fail)|(apply aY; first|refine aX a6 ?_|refine aS a6 ?_)|fail)
  refine nQ (bJ p b n (K x) (S x) ++ E x) [] hB (hy i x z hj hz) rfl rfl rfl (by rw [List.append_nil]) rfl rfl fun c L1 ⟨hc, x', hj', hL⟩ => ?_
  subst hc; subst hL
  rw [List.append_nil]
  repeat' (first|refine a7 ?_|refine au ?_|refine a8 ?_|refine aI ?_|refine aa ?_|refine ae a6 rfl rfl ?_|(apply aW; refine aV ?_)|refine bv rfl ?_)
  have := hJ _ _ hj'
  exact aC (i + 1, x') rfl ⟨by rw [Gw]; rfl, trivial⟩ hj' (by dsimp only; omega) (fun _ _ h => h)
 ·have hil : i = (S x).length := by have := Gy h; simp [aQ] at this; omega
  subst hil
  repeat' (first|refine aR ?_|refine av ?_|refine aB ?_|refine ay ?_)
  exact dz rfl ⟨x, hj, rfl⟩
theorem wR (p : Nat) : bO Tryz.prog 85 [fp p] (.fn 147 [.iptr [fp p]]) := by
 refine aP Tryz.func85 rfl Tryz.ntmps85 rfl fun B => ?_
 repeat' (first|refine ah ?_|refine a7 ?_|refine ar ?_|refine a8 ?_|refine aa ?_|refine ae a6 rfl rfl ?_|refine be ?_|fail)
 exact aA rfl rfl rfl
instance (p : Nat) : AD Tryz.prog 85 [fp p] (.fn 147 [.iptr [fp p]]) := ⟨wR p⟩
end Go.Proofs.YtjjpkibjffmceaaGreat
