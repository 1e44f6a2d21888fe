/-
  The program: check.Font.
-/
import Derived.Test.YtpbinloeemebkaaGreatM15
import Derived.Test.YtpbinloeemebkaaGreatM11
namespace Go.Proofs.YtpbinloeemebkaaGreat
open Go.RowKit
attribute [local irreducible] AT ATL AX AO Av Kt ALoopK OkA DA DA1
theorem eachGo_zero_iff {err : Nat → Int} : ∀ (k i : Nat), (eachGo err k i).1 = 0 ↔ ∀ j, i ≤ j → j < i + k → err j = 0
  | 0, i => by simp only [eachGo, true_iff]; intro j h1 h2; omega
  | k + 1, i => by
    simp only [eachGo]
    by_cases h : err i = 0
    · rw [if_pos h, eachGo_zero_iff k (i + 1)]
      constructor
      · intro hh j h1 h2
        by_cases e : j = i
        · subst e; exact h
        · exact hh j (by omega) (by omega)
      · intro hh j h1 h2; exact hh j (by omega) (by omega)
    · rw [if_neg h]
      constructor
      · intro hh; exact absurd hh h
      · intro hh; exact hh i (Nat.le_refl _) (by omega)
theorem eachL_zero_iff {α : Type} {l : List α} {w : Nat → α → Int} : (eachL l w).1 = 0 ↔ ∀ i x, l[i]? = some x → w i x = 0 := by
  unfold eachL eachE
  rw [eachGo_zero_iff]
  constructor
  · intro h i x hx
    have := h i (Nat.zero_le _) (by have := (List.getElem?_eq_some_iff.1 hx).1; omega)
    rwa [errAt_get hx] at this
  · intro h j _ hj
    obtain ⟨x, hx⟩ : ∃ x, l[j]? = some x := ⟨_, List.getElem?_eq_getElem (by omega)⟩
    rw [errAt_get hx]
    exact h j x hx
theorem someL_zero_iff {α : Type} {most : Int} {l : List α} {w : Nat → α → Int} : (someL most l w).1 = 0 ↔ (l.length : Int) ≤ most ∧ ∀ i x, l[i]? = some x → w i x = 0 := by
  have h := eachL_zero_iff (l := l) (w := w)
  unfold eachL at h
  unfold someL someE
  by_cases hm : (l.length : Int) > most
  · rw [if_pos hm]
    constructor
    · intro hh; cases hh
    · intro hh; omega
  · rw [if_neg hm, h]
    exact ⟨fun hh => ⟨by omega, hh⟩, fun hh => hh.2⟩
theorem firstE_zero_iff : ∀ {l : List (Int × Int)}, (firstE l).1 = 0 ↔ ∀ x ∈ l, x.1 = 0
  | [] => by simp [firstE]
  | x :: r => by
    unfold firstE
    by_cases h : x.1 = 0
    · rw [if_pos h, firstE_zero_iff]
      constructor
      · intro hh y hy
        rcases List.mem_cons.1 hy with rfl | hy
        · exact h
        · exact hh y hy
      · intro hh y hy; exact hh y (List.mem_cons_of_mem _ hy)
    · rw [if_neg h]
      constructor
      · intro hh; exact absurd hh h
      · intro hh; exact hh x (List.mem_cons_self ..)
theorem few_of_glyphs {f : FFont} (h : (someL 400 f.Glyphs (glyphAtE f)).1 = 0) : Few2 f := by
  obtain ⟨h1, h2⟩ := someL_zero_iff.1 h
  have hg : ∀ gl ∈ f.Glyphs, ∃ name, glyphE f gl name = 0 := fun gl hgl => by
    obtain ⟨i, hi⟩ := List.mem_iff_getElem?.1 hgl
    exact ⟨_, h2 i gl hi⟩
  have hgl : ∀ gl ∈ f.Glyphs, shapeE gl = 0 ∧ (someL 8 gl.Parts (partE f)).1 = 0 := fun gl hm => by
    obtain ⟨name, hn⟩ := hg gl hm
    unfold glyphE at hn
    rw [firstE_zero_iff] at hn
    exact ⟨hn (shapeE gl, 0) (by simp), hn (someL 8 gl.Parts (partE f)) (by simp)⟩
  refine ⟨⟨by omega, fun gl hm => ?_⟩, fun gl hm => ?_, fun gl hm p hp => ?_⟩
  · have := (someL_zero_iff.1 (hgl gl hm).2).1; omega
  · have h3 := (hgl gl hm).1
    unfold shapeE at h3
    split at h3
    · cases h3
    · split at h3
      · cases h3
      · omega
  · obtain ⟨i, hi⟩ := List.mem_iff_getElem?.1 hp
    have h3 := (someL_zero_iff.1 (hgl gl hm).2).2 i p hi
    unfold partE at h3
    split at h3
    · cases h3
    · rename_i hh
      simpa using hh
theorem deep_same {f : FFont} (hf : Few2 f) (ha : Acyc f.Glyphs.length (prt f)) {D P D' P' : Int → Int} (h : DeepOk f D P) (h' : DeepOk f D' P') : ∀ z : Int, 0 ≤ z → z < f.Glyphs.length → D z = D' z ∧ P z = P' z := by
  obtain ⟨r, hr⟩ := ha
  have : ∀ (k : Nat) (z : Int), r z < k → 0 ≤ z → z < f.Glyphs.length → D z = D' z ∧ P z = P' z := by
    intro k
    induction k with
    | zero => intro z hk; exact absurd hk (Nat.not_lt_zero _)
    | succ k ih =>
      intro z hk h0 h1
      obtain ⟨gl, hgl⟩ : ∃ g, f.Glyphs[z.toNat]? = some g := ⟨_, List.getElem?_eq_getElem (by omega)⟩
      have hsm : ∀ p ∈ gl.Parts, D p.Glyph = D' p.Glyph ∧ P p.Glyph = P' p.Glyph := fun p hp => by
        have hin := isG_iff.1 (hf.there gl (List.mem_of_getElem? hgl) p hp)
        have := hr z h0 h1 p.Glyph (by rw [prt_all hf hgl]; exact List.mem_map_of_mem hp)
        exact ih p.Glyph (by omega) hin.1 hin.2
      obtain ⟨h2, h3⟩ := h z h0 h1 gl hgl
      obtain ⟨h4, h5⟩ := h' z h0 h1 gl hgl
      rw [h2, h3, h4, h5]
      exact ⟨dF_congr fun p hp => (hsm p hp).1, pF_congr fun p hp => (hsm p hp).2⟩
  intro z h0 h1
  exact this (r z + 1) z (by omega) h0 h1
theorem compE_same {n : Nat} {D P D' P' : Int → Int} (h : ∀ z : Int, 0 ≤ z → z < n → D z = D' z ∧ P z = P' z) : compE n D P = compE n D' P' := by
  unfold compE
  rw [List.map_congr_left (f := D) (g := D') fun z hz => (h z (mem_upTo.1 hz).1 (mem_upTo.1 hz).2).1, List.map_congr_left (f := P) (g := P') fun z hz => (h z (mem_upTo.1 hz).1 (mem_upTo.1 hz).2).2]
open Classical in
noncomputable def compV (f : FFont) : Int × Int := if h : ∃ q : (Int → Int) × (Int → Int), DeepOk f q.1 q.2 then compE f.Glyphs.length h.choose.1 h.choose.2 else (0, 0)
theorem compV_eq {f : FFont} (hf : Few2 f) (ha : Acyc f.Glyphs.length (prt f)) {D P : Int → Int} (h : DeepOk f D P) : compV f = compE f.Glyphs.length D P := by
  unfold compV
  have hex : ∃ q : (Int → Int) × (Int → Int), DeepOk f q.1 q.2 := ⟨(D, P), h⟩
  rw [dif_pos hex]
  exact compE_same (deep_same hf ha hex.choose_spec h)
theorem comp_ac (f : FFont) (hf : Few2 f) (ha : Acyc f.Glyphs.length (prt f)) : AC Tryz.prog 88 [.iptr (cFont f)] [] fun c _ => c = tup2 ((compV f).1, (compV f).2) := by
  refine ac_of Tryz.func88 rfl Tryz.ntmps88 rfl fun B => ?_
  (repeat' (first|refine at_seq ?_|refine at_region ?_|refine ax_then ?_|refine atl_nil ?_|refine n_run ttok rfl rfl ?_|fail))
  refine n_callA [] [] (composed_ac f hf (.inl ha)) rfl rfl (List.Perm.refl _) rfl fun c L1 hc => ?_
  rcases hc with ⟨D, P, h1, h2, hc⟩ | ⟨hna, _⟩
  · rw [← compV_eq hf ha h1] at hc
    subst hc
    unfold tup2
    (repeat' (first|refine at_ret ?_|refine ax_then ?_|refine atl_nil ?_|refine n_run ttok rfl rfl ?_|fail))
    exact ax_ret2 rfl rfl rfl rfl
  · exact absurd ha hna
def funcE (_ : Nat) (l : List FIns) : Int := progE l
def regAtE (f : FFont) (_ : Nat) (r : List FTent) : Int := regE f.Axes.length r
def lookAtE (f : FFont) (_ : Nat) (l : FLookup) : Int := lookupE f l
noncomputable def fontL (f : FFont) : List (Int × Int) := [(headE f, 0), someL 400 f.Glyphs (glyphAtE f), compV f, someL 1000 f.Chars (charAtE f), someL 40 f.Lookups (lookAtE f), someL 20 f.Features (featAtE f), someL 3 f.Axes (axisAtE f), someL 16 f.Regions (regAtE f), someL 20 f.Funcs funcE, someL 64 f.Cvt cvtE]
noncomputable def fontE (f : FFont) : Int × Int := firstE (fontL f)
noncomputable def fontLks (f : FFont) (m1 m2 m3 : Nat) : List Lk := [⟨81, [.iptr (cFont f)], [], headE f, 0⟩,
  ⟨148, [.iptr [.imm 9 (f.Glyphs.map cGlyph)], .iptr [I64 400], .iptr [.fn 84 [.iptr (cFont f), .iptr [.sc (.map (some m1))]]]], [(m1, mapB .string (firstM (gNames f)))], (someL 400 f.Glyphs (glyphAtE f)).1, (someL 400 f.Glyphs (glyphAtE f)).2⟩,
  ⟨88, [.iptr (cFont f)], [], (compV f).1, (compV f).2⟩,
  ⟨168, [.iptr [.imm 2 (f.Chars.map cChar)], .iptr [I64 1000], .iptr [.fn 91 [.iptr (cFont f)]]], [], (someL 1000 f.Chars (charAtE f)).1, (someL 1000 f.Chars (charAtE f)).2⟩,
  ⟨170, [.iptr [.imm 3 (f.Lookups.map cLookup)], .iptr [I64 40], .iptr [.fn 94 [.iptr (cFont f)]]], [], (someL 40 f.Lookups (lookAtE f)).1, (someL 40 f.Lookups (lookAtE f)).2⟩,
  ⟨178, [.iptr [.imm 2 (f.Features.map cFeature)], .iptr [I64 20], .iptr [.fn 97 [.iptr (cFont f), .iptr [.sc (.map (some m2))]]]], [(m2, mapB .string (firstM (tNames f)))], (someL 20 f.Features (featAtE f)).1, (someL 20 f.Features (featAtE f)).2⟩,
  ⟨181, [.iptr [.imm 4 (f.Axes.map cAxis)], .iptr [I64 3], .iptr [.fn 101 [.iptr [.sc (.map (some m3))]]]], [(m3, mapB .string (firstM (aNames f)))], (someL 3 f.Axes (axisAtE f)).1, (someL 3 f.Axes (axisAtE f)).2⟩,
  ⟨183, [.iptr [.imm 1 (f.Regions.map cRegion)], .iptr [I64 16], .iptr [.fn 104 [.iptr (cFont f)]]], [], (someL 16 f.Regions (regAtE f)).1, (someL 16 f.Regions (regAtE f)).2⟩,
  ⟨187, [.iptr [.imm 1 (f.Funcs.map cCode)], .iptr [I64 20], .iptr [.sc (.func (.func 107) #[] #[])]], [], (someL 20 f.Funcs funcE).1, (someL 20 f.Funcs funcE).2⟩,
  ⟨191, [.iptr [.imm 1 (f.Cvt.map cInt)], .iptr [I64 64], .iptr [.sc (.func (.func 110) #[] #[])]], [], (someL 64 f.Cvt cvtE).1, (someL 64 f.Cvt cvtE).2⟩]
theorem fontLks_ok (f : FFont) (m1 m2 m3 : Nat) (hA : (someL 400 f.Glyphs (glyphAtE f)).1 = 0 → Acyc f.Glyphs.length (prt f)) : lkOk (fontLks f m1 m2 m3) := by
  refine ⟨⟨inferInstance, head1_det f⟩, fun _ => ⟨⟨inferInstance, ?_⟩, fun h1 => ⟨⟨inferInstance, comp_ac f (few_of_glyphs h1) (hA h1)⟩, fun _ => ⟨⟨inferInstance, ?_⟩, fun _ => ⟨⟨inferInstance, ?_⟩, fun _ => ⟨⟨inferInstance, ?_⟩, fun _ => ⟨⟨inferInstance, ?_⟩, fun _ => ⟨⟨inferInstance, ?_⟩, fun _ => ⟨⟨inferInstance, ?_⟩, fun _ => ⟨⟨inferInstance, ?_⟩, fun _ => trivial⟩⟩⟩⟩⟩⟩⟩⟩⟩⟩
  · exact some148 (u := .fn 84 [.iptr (cFont f), .iptr [.sc (.map (some m1))]]) rfl f.Glyphs 400 (errAt f.Glyphs (glyphAtE f)) (fun _ L => L = [(m1, mapB .string (firstM (gNames f)))]) _ rfl fun _ => wrong_st fun i x _ => glyphAt_ac f i x m1
  · exact some168 (u := .fn 91 [.iptr (cFont f)]) rfl f.Chars 1000 (errAt f.Chars (charAtE f)) (fun _ _ => True) [] trivial fun hm => wrong_det fun i x hx => char1_det f i x hx hm
  · exact some170 (u := .fn 94 [.iptr (cFont f)]) rfl f.Lookups 40 (errAt f.Lookups (lookAtE f)) (fun _ _ => True) [] trivial fun _ => wrong_det fun i x _ => lookupAt_det f i x
  · exact some178 (u := .fn 97 [.iptr (cFont f), .iptr [.sc (.map (some m2))]]) rfl f.Features 20 (errAt f.Features (featAtE f)) (fun _ L => L = [(m2, mapB .string (firstM (tNames f)))]) _ rfl fun _ => wrong_st fun i x _ => featAt_ac f i x m2
  · exact some181 (u := .fn 101 [.iptr [.sc (.map (some m3))]]) rfl f.Axes 3 (errAt f.Axes (axisAtE f)) (fun _ L => L = [(m3, mapB .string (firstM (aNames f)))]) _ rfl fun _ => wrong_st fun i x _ => axisAt_ac f i x m3
  · exact some183 (u := .fn 104 [.iptr (cFont f)]) rfl f.Regions 16 (errAt f.Regions (regAtE f)) (fun _ _ => True) [] trivial fun _ => wrong_det fun i x _ => region1_det f i x
  · exact some187 (u := .sc (.func (.func 107) #[] #[])) (g := 107) (caps := []) rfl f.Funcs 20 (errAt f.Funcs funcE) (fun _ _ => True) [] trivial fun _ => wrong_det fun i x _ => code1_det i x
  · exact some191 (u := .sc (.func (.func 110) #[] #[])) (g := 110) (caps := []) rfl f.Cvt 64 (errAt f.Cvt cvtE) (fun _ _ => True) [] trivial fun _ => wrong_det fun i x _ => cvt1_det i x
set_option maxHeartbeats 4000000 in
theorem font_ac (f : FFont) (hA : (someL 400 f.Glyphs (glyphAtE f)).1 = 0 → Acyc f.Glyphs.length (prt f)) : AC Tryz.prog 53 [aFont f] [] fun c _ => c = tup2 (fontE f) := by
  refine ac_of Tryz.func53 rfl Tryz.ntmps53 rfl fun B => ?_
  (repeat' (first|refine at_seq ?_|refine at_region ?_|refine ax_then ?_|refine atl_nil ?_|refine n_run ttok rfl rfl ?_|refine n_boxI ?_|fail))
  refine n_callA [] _ (firsts74 f.Glyphs) rfl rfl (List.Perm.refl _) rfl fun c L1 ⟨m1, hc, hL⟩ => ?_
  subst hc; subst hL
  (repeat' (first|refine at_seq ?_|refine at_region ?_|refine ax_then ?_|refine atl_nil ?_|refine n_run ttok rfl rfl ?_|(apply s_store; first|refine n_storeF 4 ttok 0 rfl rfl rfl rfl rfl rfl rfl rfl ?_|refine n_storeF 4 ttok 1 rfl rfl rfl rfl rfl rfl rfl rfl ?_|refine n_storeF 4 ttok 2 rfl rfl rfl rfl rfl rfl rfl rfl ?_|refine n_storeF 5 ttok 0 rfl rfl rfl rfl rfl rfl rfl rfl ?_|refine n_storeF 5 ttok 1 rfl rfl rfl rfl rfl rfl rfl rfl ?_|refine n_storeF 5 ttok 2 rfl rfl rfl rfl rfl rfl rfl rfl ?_|refine n_storeF 6 ttok 0 rfl rfl rfl rfl rfl rfl rfl rfl ?_|refine n_storeF 6 ttok 1 rfl rfl rfl rfl rfl rfl rfl rfl ?_|refine n_storeF 6 ttok 2 rfl rfl rfl rfl rfl rfl rfl rfl ?_|refine n_store ttok 0 rfl rfl rfl rfl rfl rfl rfl ?_|refine n_store ttok 1 rfl rfl rfl rfl rfl rfl rfl ?_|refine n_store ttok 2 rfl rfl rfl rfl rfl rfl rfl ?_|refine n_store ttok 3 rfl rfl rfl rfl rfl rfl rfl ?_|fail)|refine n_alloc ttok fun _=>?_|fail))
  refine n_callA [] _ (firsts76 f.Features) rfl rfl (List.Perm.refl _) rfl fun c L1 ⟨m2, hc, hL⟩ => ?_
  subst hc; subst hL
  (repeat' (first|refine at_seq ?_|refine at_region ?_|refine ax_then ?_|refine atl_nil ?_|refine n_run ttok rfl rfl ?_|(apply s_store; first|refine n_storeF 4 ttok 0 rfl rfl rfl rfl rfl rfl rfl rfl ?_|refine n_storeF 4 ttok 1 rfl rfl rfl rfl rfl rfl rfl rfl ?_|refine n_storeF 4 ttok 2 rfl rfl rfl rfl rfl rfl rfl rfl ?_|refine n_storeF 5 ttok 0 rfl rfl rfl rfl rfl rfl rfl rfl ?_|refine n_storeF 5 ttok 1 rfl rfl rfl rfl rfl rfl rfl rfl ?_|refine n_storeF 5 ttok 2 rfl rfl rfl rfl rfl rfl rfl rfl ?_|refine n_storeF 6 ttok 0 rfl rfl rfl rfl rfl rfl rfl rfl ?_|refine n_storeF 6 ttok 1 rfl rfl rfl rfl rfl rfl rfl rfl ?_|refine n_storeF 6 ttok 2 rfl rfl rfl rfl rfl rfl rfl rfl ?_|refine n_store ttok 0 rfl rfl rfl rfl rfl rfl rfl ?_|refine n_store ttok 1 rfl rfl rfl rfl rfl rfl rfl ?_|refine n_store ttok 2 rfl rfl rfl rfl rfl rfl rfl ?_|refine n_store ttok 3 rfl rfl rfl rfl rfl rfl rfl ?_|fail)|refine n_alloc ttok fun _=>?_|fail))
  refine n_callA [] _ (firsts78 f.Axes) rfl rfl (List.Perm.refl _) rfl fun c L1 ⟨m3, hc, hL⟩ => ?_
  subst hc; subst hL
  (repeat' (first|refine at_seq ?_|refine ax_then ?_|refine atl_nil ?_|(apply s_store; first|refine n_storeF 4 ttok 0 rfl rfl rfl rfl rfl rfl rfl rfl ?_|refine n_storeF 4 ttok 1 rfl rfl rfl rfl rfl rfl rfl rfl ?_|refine n_storeF 4 ttok 2 rfl rfl rfl rfl rfl rfl rfl rfl ?_|refine n_storeF 5 ttok 0 rfl rfl rfl rfl rfl rfl rfl rfl ?_|refine n_storeF 5 ttok 1 rfl rfl rfl rfl rfl rfl rfl rfl ?_|refine n_storeF 5 ttok 2 rfl rfl rfl rfl rfl rfl rfl rfl ?_|refine n_storeF 6 ttok 0 rfl rfl rfl rfl rfl rfl rfl rfl ?_|refine n_storeF 6 ttok 1 rfl rfl rfl rfl rfl rfl rfl rfl ?_|refine n_storeF 6 ttok 2 rfl rfl rfl rfl rfl rfl rfl rfl ?_|refine n_store ttok 0 rfl rfl rfl rfl rfl rfl rfl ?_|refine n_store ttok 1 rfl rfl rfl rfl rfl rfl rfl ?_|refine n_store ttok 2 rfl rfl rfl rfl rfl rfl rfl ?_|refine n_store ttok 3 rfl rfl rfl rfl rfl rfl rfl ?_|fail)|refine n_alloc ttok fun _=>?_|fail))
  refine at_draw 36 [(0, .v), (1, .v), (2, .v), (3, .v), (4, .v), (5, .v), (6, .v), (7, .v), (8, .v), (9, .v), (10, .v), (11, .v), (12, .v), (13, .v), (14, .v), (15, .v), (16, .v), (17, .v), (18, .v), (19, .v), (20, .v), (21, .v), (22, .v), (23, .v), (24, .v), (25, .v), (26, .v), (27, .v), (28, .v), (29, .v), (30, .v), (31, .v), (32, .v), (33, .e), (34, .v), (35, .v)] none ?_ trivial rfl (by kernel_rfl) (by kernel_rfl) (by kernel_rfl) mixed (by kernel_rfl) rfl
  (repeat' (first|refine da_open ?_|refine d_run ttok ?_|(apply ds_call;refine d_call ?_)|fail))
  refine d_call (hc := ⟨mkF109 f.Cvt 64⟩) ?_
  (repeat' (first|refine da_open ?_|refine d_lit ttok ?_|fail))
  refine d_callA (L := [(m3, mapB .string (firstM (aNames f))), (m2, mapB .string (firstM (tNames f))), (m1, mapB .string (firstM (gNames f)))]) _ [] (first_ac (fontLks f m1 m2 m3) (fontLks_ok f m1 m2 m3 hA)) rfl rfl (by rw [List.append_nil]; exact (List.reverse_perm _).symm) trivial fun c L1 hc => ?_
  rw [lkE_map] at hc
  have hc : c = tup2 (fontE f) := hc
  subst hc
  unfold tup2
  (repeat' (first|refine da_open ?_|refine d_run ttok ?_|fail))
  refine da_end [50, 51] rfl rfl ?_
  (repeat' (first|refine at_ret ?_|refine ax_then ?_|refine atl_nil ?_|refine n_run ttok rfl rfl ?_|fail))
  exact ax_ret2 rfl rfl rfl rfl
theorem right_ac (f : FFont) (hA : (someL 400 f.Glyphs (glyphAtE f)).1 = 0 → Acyc f.Glyphs.length (prt f)) : ADet Tryz.prog 34 [aFont f] (Bol (decide ((fontE f).1 = 0))) := by
  refine ac_of Tryz.func34 rfl Tryz.ntmps34 rfl fun B => ?_
  (repeat' (first|refine at_seq ?_|refine at_region ?_|refine ax_then ?_|refine atl_nil ?_|refine n_run ttok rfl rfl ?_|refine n_boxI ?_|fail))
  refine n_callA [] [] (font_ac f hA) rfl rfl (List.Perm.refl _) rfl fun c L1 hc => ?_
  subst hc
  unfold tup2
  (repeat' (first|refine at_seq ?_|refine at_region ?_|refine at_ret ?_|refine ax_then ?_|refine atl_nil ?_|refine n_run ttok rfl rfl ?_|fail))
  exact ax_ret1 rfl rfl rfl
end Go.Proofs.YtpbinloeemebkaaGreat

namespace Go.Proofs.YtpbinloeemebkaaGreat
section
variable {α β : Type}
def DOk (g : DM α) (P : α → Prop) : Prop := ∀ m, P (g m).1
theorem DOk.ret {x : α} {P : α → Prop} (h : P x) : DOk (ret x) P := fun _ => h
theorem DOk.bnd {g : DM α} {k : α → DM β} {P : α → Prop} {Q : β → Prop} (h : DOk g P) (hk : ∀ x, P x → DOk (k x) Q) : DOk (bnd g k) Q := fun m => hk _ (h m) _
theorem DOk.mono {g : DM α} {P Q : α → Prop} (h : DOk g P) (hq : ∀ x, P x → Q x) : DOk g Q := fun m => hq _ (h m)
theorem DOk.any (g : DM α) : DOk g fun _ => True := fun _ => trivial
theorem DOk.runs {g : Nat → β → DM β} (I : Nat → β → Prop) {b : β} : ∀ (k : Nat), I 0 b → (∀ i l, i < k → I i l → DOk (g i l) (I (i + 1))) → DOk (runs g b k) (I k)
  | 0, h0, _ => DOk.ret h0
  | k + 1, h0, hs => DOk.bnd (DOk.runs I k h0 fun i l hi hl => hs i l (by omega) hl) fun l hl => hs k l (by omega) hl
theorem DOk.ite {c : Prop} [Decidable c] {g k : DM α} {P : α → Prop} (h : c → DOk g P) (h' : ¬ c → DOk k P) : DOk (if c then g else k) P := by
  split
  · exact h ‹_›
  · exact h' ‹_›
end
variable (s : List Int)
theorem draw_ok (a : Nat) {n : Int} (hn : 0 < n) : 0 ≤ draw s a n ∧ draw s a n < n := by
  unfold draw
  split
  · rename_i x _
    exact ⟨Int.emod_nonneg x (by omega), Int.emod_lt_of_pos x hn⟩
  · omega
theorem dr_ok {n : Int} (hn : 0 < n) : DOk (dr s n) fun z => 0 ≤ z ∧ z < n := fun m => draw_ok s m.a hn
def ptOk (p : FPoint) : Prop := -100 ≤ p.X ∧ p.X ≤ 900 ∧ -200 ≤ p.Y ∧ p.Y ≤ 800
theorem ptD_ok (p : Nat) : DOk (ptD s p) ptOk := by
  refine (dr_ok s (by omega)).bnd fun x hx => (dr_ok s (by omega)).bnd fun y hy => DOk.ite (fun _ => DOk.ret ?_) fun _ => (DOk.any _).bnd fun z _ => DOk.ret ?_
  all_goals (unfold ptOk; dsimp only; omega)
theorem ptsD_ok (l : List FPoint) (hl : ∀ p ∈ l, ptOk p) (k : Nat) : DOk (ptsD s l k) fun q => q.length = l.length + k ∧ ∀ p ∈ q, ptOk p := by
  refine DOk.runs (fun i (q : List FPoint) => q.length = l.length + i ∧ ∀ p ∈ q, ptOk p) k ⟨rfl, hl⟩ fun i q _ ⟨h1, h2⟩ => (ptD_ok s i).bnd fun t ht => DOk.ret ⟨by simp; omega, fun p hp => ?_⟩
  rcases List.mem_append.1 hp with hp | hp
  · exact h2 p hp
  · rw [List.mem_singleton.1 hp]; exact ht
theorem ends_snoc {n m : Int} (h : n + 2 ≤ m) : ∀ (l : List Int) (last : Int), endsOk n last l = true → endsOk m last (l ++ [m - 1]) = true
  | [], last, hl => by
    have : last = n - 1 := of_decide_eq_true hl
    rw [List.nil_append, endsOk, if_neg (by omega), endsOk]
    simp
  | e :: l, last, hl => by
    rw [endsOk] at hl
    split at hl
    · cases hl
    · rw [List.cons_append, endsOk, if_neg (by omega)]
      exact ends_snoc h l e hl
structure OutOk (n : Nat) (o : List FPoint × List Int) : Prop where
  pts : ∀ p ∈ o.1, ptOk p
  len : o.1.length ≤ 5 * n
  ends : endsOk o.1.length (-1) o.2 = true
  endl : o.2.length = n
theorem outsD_ok (n : Nat) : DOk (outsD s n) (OutOk n) := by
  refine DOk.runs (fun i o => OutOk i o) n ⟨fun p hp => (by cases hp), Nat.le_refl _, rfl, rfl⟩ fun i o _ h => (dr_ok s (by omega)).bnd fun k hk => (ptsD_ok s o.1 h.pts _).bnd fun l hl => DOk.ret ?_
  refine ⟨hl.2, by have := h.len; dsimp only; omega, ?_, by simp [h.endl]⟩
  dsimp only
  exact ends_snoc (by omega) _ _ h.ends
theorem outlineD_ok : DOk (outlineD s) fun o => ∃ n, n ≤ 2 ∧ OutOk n o := by
  refine (dr_ok s (by omega)).bnd fun n hn => (outsD_ok s _).mono fun o ho => ⟨_, by omega, ho⟩
def insOk (i : FIns) : Prop := 1 ≤ i.Op ∧ i.Op ≤ 39 ∧ -100000 ≤ i.A ∧ i.A ≤ 100000
def codeOk (k : Nat) (l : List FIns) : Prop := l.length ≤ k ∧ ∀ i ∈ l, insOk i
theorem pieceD_ok {n funcs : Int} (hn : 0 ≤ n ∧ n ≤ 1000) (hf : funcs ≤ 1000) : DOk (pieceD s n funcs) (codeOk 9) := by
  have hsz : ∀ q, 0 ≤ q → q < n + 1 → DOk (sizesD q) (codeOk 9) := fun q h0 h1 => DOk.ret ⟨by simp, by simp only [List.mem_cons, List.not_mem_nil, or_false, forall_eq_or_imp, forall_eq, insOk]; omega⟩
  unfold pieceD
  refine (dr_ok s (by omega)).bnd fun p hp => (dr_ok s (by omega)).bnd fun q hq => (dr_ok s (by omega)).bnd fun a ha => (dr_ok s (by omega)).bnd fun k hk => ?_
  refine DOk.ite (fun _ => DOk.ret ?_) fun _ => ?_
  · exact ⟨by simp, by simp only [List.mem_cons, List.not_mem_nil, or_false, forall_eq_or_imp, forall_eq, insOk]; omega⟩
  refine DOk.ite (fun _ => (dr_ok s (by omega)).bnd fun z hz => DOk.ret ?_) fun _ => ?_
  · exact ⟨by simp, by simp only [List.mem_cons, List.not_mem_nil, or_false, forall_eq, insOk]; omega⟩
  refine DOk.ite (fun _ => DOk.ret ?_) fun _ => ?_
  · exact ⟨by simp, by simp only [List.mem_cons, List.not_mem_nil, or_false, forall_eq_or_imp, forall_eq, insOk]; omega⟩
  refine DOk.ite (fun _ => (dr_ok s (by omega)).bnd fun z hz => DOk.ret ?_) fun _ => ?_
  · exact ⟨by simp, by simp only [List.mem_cons, List.not_mem_nil, or_false, forall_eq_or_imp, forall_eq, insOk]; omega⟩
  refine DOk.ite (fun _ => DOk.ret ?_) fun _ => ?_
  · exact ⟨by simp, by simp only [List.mem_cons, List.not_mem_nil, or_false, forall_eq_or_imp, forall_eq, insOk]; omega⟩
  refine DOk.ite (fun _ => DOk.ret ?_) fun _ => ?_
  · exact ⟨by simp, by simp only [List.mem_cons, List.not_mem_nil, or_false, forall_eq, insOk]; omega⟩
  refine DOk.ite (fun _ => DOk.ret ?_) fun _ => ?_
  · exact ⟨by simp, by simp only [List.mem_cons, List.not_mem_nil, or_false, forall_eq_or_imp, forall_eq, insOk]; omega⟩
  refine DOk.ite (fun _ => DOk.ite (fun _ => (dr_ok s (by omega)).bnd fun z hz => DOk.ret ?_) fun _ => hsz q hq.1 hq.2) fun _ => ?_
  · exact ⟨by simp, by simp only [List.mem_cons, List.not_mem_nil, or_false, forall_eq, insOk]; omega⟩
  refine DOk.ite (fun _ => DOk.ite (fun _ => (DOk.any _).bnd fun lo _ => DOk.ite (fun _ => (DOk.any _).bnd fun _ _ => (dr_ok s (by omega)).bnd fun y hy => (dr_ok s (by omega)).bnd fun z hz => DOk.ret ?_) fun _ => hsz q hq.1 hq.2) fun _ => hsz q hq.1 hq.2) fun _ => ?_
  · exact ⟨by simp, by simp only [List.mem_cons, List.not_mem_nil, or_false, forall_eq_or_imp, forall_eq, insOk]; omega⟩
  refine DOk.ite (fun _ => DOk.ret ?_) fun _ => hsz q hq.1 hq.2
  exact ⟨by simp, by simp only [List.mem_cons, List.not_mem_nil, or_false, forall_eq_or_imp, forall_eq, insOk]; omega⟩
theorem hintD_ok {n funcs most : Int} (hn : 0 ≤ n ∧ n ≤ 1000) (hf : funcs ≤ 1000) (hm : 0 < most ∧ most ≤ 6) : DOk (hintD s n funcs most) (codeOk 45) := by
  refine (dr_ok s hm.1).bnd fun k hk => ?_
  refine (DOk.runs (fun i l => codeOk (9 * i) l) k.toNat ⟨Nat.le_refl _, fun i hi => by cases hi⟩ fun i l _ h => (pieceD_ok s hn hf).bnd fun p hp => DOk.ret ⟨by rw [List.length_append]; have := h.1; have := hp.1; omega, fun x hx => ?_⟩).mono fun l h => ⟨by have := h.1; omega, h.2⟩
  rcases List.mem_append.1 hx with hx | hx
  · exact h.2 x hx
  · exact hp.2 x hx
structure SetG (n : Int) (l : List Int) : Prop where
  ne : l ≠ []
  few : l.length ≤ 4
  up : l.Pairwise (· < ·)
  dom : ∀ z ∈ l, 0 ≤ z ∧ z < n
theorem setD_ok {n : Int} (hn : 0 < n) : DOk (setD s n) (SetG n) := by
  refine (dr_ok s hn).bnd fun a ha => ?_
  refine (DOk.runs (fun i (l : List Int) => (l ≠ [] ∧ l.length ≤ 4 ∧ l.Pairwise (· < ·)) ∧ ∀ z ∈ l, 0 ≤ z ∧ z ≤ a + i) (n - (a + 1)).toNat ⟨⟨by simp, by simp, by simp⟩, fun z hz => ?_⟩ fun i l hi ⟨⟨h1, h2, h3⟩, h4⟩ => ?_).mono fun l ⟨⟨h1, h2, h3⟩, h4⟩ => ⟨h1, h2, h3, fun z hz => by have := h4 z hz; omega⟩
  · rw [List.mem_singleton.1 hz]; omega
  · refine DOk.ite (fun h5 => (DOk.any _).bnd fun z _ => DOk.ret ?_) fun _ => DOk.ret ⟨⟨h1, h2, h3⟩, fun z hz => by have := h4 z hz; omega⟩
    split
    · refine ⟨⟨by simp, by simp; omega, ?_⟩, fun z hz => ?_⟩
      · rw [List.pairwise_append]
        exact ⟨h3, List.pairwise_singleton .., fun x hx y hy => by rw [List.mem_singleton.1 hy]; have := h4 x hx; omega⟩
      · rcases List.mem_append.1 hz with hz | hz
        · have := h4 z hz; omega
        · rw [List.mem_singleton.1 hz]; omega
    · exact ⟨⟨h1, h2, h3⟩, fun z hz => by have := h4 z hz; omega⟩
def rowOk (n : Int) (k : Nat) (l : List (List Int)) : Prop := l.length ≤ k ∧ ∀ q ∈ l, SetG n q
theorem rowD_ok {n : Int} (hn : 0 < n) : DOk (rowD s n 2) (rowOk n 2) := by
  refine (dr_ok s (by omega)).bnd fun k hk => ?_
  refine (DOk.runs (fun i l => rowOk n i l) k.toNat ⟨Nat.le_refl _, fun i hi => by cases hi⟩ fun i l _ h => (setD_ok s hn).bnd fun p hp => DOk.ret ⟨by rw [List.length_append]; have := h.1; simp; omega, fun x hx => ?_⟩).mono fun l h => ⟨by have := h.1; omega, h.2⟩
  rcases List.mem_append.1 hx with hx | hx
  · exact h.2 x hx
  · rw [List.mem_singleton.1 hx]; exact hp
theorem outD_ok {n : Int} (hn : 0 < n) (k : Nat) : DOk (outD s n k) fun l => l.length = k ∧ ∀ z ∈ l, 0 ≤ z ∧ z < n := by
  refine DOk.runs (fun i (l : List Int) => l.length = i ∧ ∀ z ∈ l, 0 ≤ z ∧ z < n) k ⟨rfl, fun z hz => by cases hz⟩ fun i l _ ⟨h1, h2⟩ => (dr_ok s hn).bnd fun x hx => DOk.ret ⟨by simp [h1], fun z hz => ?_⟩
  rcases List.mem_append.1 hz with hz | hz
  · exact h2 z hz
  · rw [List.mem_singleton.1 hz]; exact hx
structure RuleG (n kind : Int) (calls : List Int) (r : FRule) : Prop where
  back : rowOk n 2 r.Back
  ahead : rowOk n 2 r.Ahead
  ins : rowOk n 3 r.In
  rows : wrongRows kind r = false
  out : outB kind r = true
  outs : r.Out.length ≤ 4 ∧ ∀ z ∈ r.Out, 0 ≤ z ∧ z < n
  callsN : r.Calls.length ≤ 2
  callsK : kind ≠ 4 → r.Calls = []
  callsIn : ∀ c ∈ r.Calls, (0 ≤ c.At ∧ c.At < r.In.length) ∧ c.Lookup ∈ calls
  x : -200 ≤ r.X ∧ r.X ≤ 200
  x0 : kind ≠ 6 → r.X = 0
theorem rowOk.nil (n : Int) (k : Nat) : rowOk n k [] := ⟨Nat.zero_le _, fun q hq => by cases hq⟩
theorem rowOk.one {n : Int} {a : List Int} (h : SetG n a) : rowOk n 3 [a] := ⟨by simp, fun q hq => by rw [List.mem_singleton.1 hq]; exact h⟩
theorem rowOk.cons {n : Int} {a : List Int} (h : SetG n a) {l : List (List Int)} (hl : rowOk n 2 l) : rowOk n 3 (a :: l) := ⟨by have := hl.1; simp; omega, fun q hq => by
  rcases List.mem_cons.1 hq with rfl | hq
  · exact h
  · exact hl.2 q hq⟩
theorem callsD_ok {n : Int} (hn : 0 < n) (calls : List Int) (k : Nat) : DOk (callsD s n calls (if calls.length = 0 then 0 else k)) fun c => c.length ≤ k ∧ ∀ x ∈ c, (0 ≤ x.At ∧ x.At < n) ∧ x.Lookup ∈ calls := by
  by_cases h0 : calls.length = 0
  · rw [if_pos h0]
    exact DOk.ret ⟨Nat.zero_le _, fun x hx => by cases hx⟩
  rw [if_neg h0]
  refine (DOk.runs (fun i (l : List FCall) => l.length = i ∧ ∀ x ∈ l, (0 ≤ x.At ∧ x.At < n) ∧ x.Lookup ∈ calls) k ⟨rfl, fun z hz => by cases hz⟩ fun i l _ ⟨h1, h2⟩ => (dr_ok s hn).bnd fun a ha => (dr_ok s (by omega)).bnd fun z hz => DOk.ret ⟨by simp [h1], fun x hx => ?_⟩).mono fun l h => ⟨Nat.le_of_eq h.1, h.2⟩
  rcases List.mem_append.1 hx with hx | hx
  · exact h2 x hx
  · rw [List.mem_singleton.1 hx]
    refine ⟨ha, ?_⟩
    have hlt : z.toNat < calls.length := by omega
    rw [List.getD_eq_getElem?_getD, List.getElem?_eq_getElem hlt]
    exact List.getElem_mem hlt
theorem ruleD_ok {n kind : Int} (hn : 0 < n) (hk : 1 ≤ kind ∧ kind ≤ 6) (calls : List Int) : DOk (ruleD s n kind calls) (RuleG n kind calls) := by
  have hsides : DOk (sidesD s n) fun e => rowOk n 2 e.1 ∧ rowOk n 2 e.2 := by
    refine (DOk.any _).bnd fun z _ => DOk.ite (fun _ => (rowD_ok s hn).bnd fun b hb => (rowD_ok s hn).bnd fun c hc => DOk.ret ⟨hb, hc⟩) fun _ => DOk.ret ⟨rowOk.nil .., rowOk.nil ..⟩
  refine (setD_ok s hn).bnd fun a ha => DOk.ite (fun hk6 => (setD_ok s hn).bnd fun b hb => (dr_ok s (by omega)).bnd fun x hx => DOk.ret ?_) fun hk6 => hsides.bnd fun e he => ?_
  · subst hk6
    exact ⟨rowOk.nil .., rowOk.nil .., ⟨by simp, by simp [ha, hb]⟩, by simp [wrongRows], by simp [outB], ⟨by simp, by simp⟩, by simp, fun _ => rfl, by simp, by dsimp only; omega, fun h => absurd rfl h⟩
  refine DOk.ite (fun h15 => (outD_ok s hn _).bnd fun o ho => DOk.ret ?_) fun h15 => ?_
  · refine ⟨he.1, he.2, rowOk.one ha, ?_, ?_, ⟨by rw [ho.1]; exact ha.few, ho.2⟩, by simp, fun _ => rfl, by simp, by simp, fun _ => rfl⟩
    · unfold wrongRows; rw [if_pos (by omega)]; simp
    · unfold outB; rw [if_pos h15]; simp [ho.1]
  refine DOk.ite (fun h2 => (dr_ok s (by omega)).bnd fun k hk => (outD_ok s hn _).bnd fun o ho => DOk.ret ?_) fun h2 => ?_
  · subst h2
    exact ⟨he.1, he.2, rowOk.one ha, by simp [wrongRows], by simp only [outB]; simp; omega, ⟨by dsimp only; omega, ho.2⟩, by simp, fun _ => rfl, by simp, by simp, fun _ => rfl⟩
  refine DOk.ite (fun h3 => (rowD_ok s hn).bnd fun m hm => (dr_ok s hn).bnd fun o ho => DOk.ret ?_) fun h3 => ?_
  · subst h3
    exact ⟨he.1, he.2, rowOk.cons ha hm, by simp [wrongRows]; omega, by simp [outB], ⟨by simp, fun z hz => by rw [List.mem_singleton.1 hz]; exact ho⟩, by simp, fun _ => rfl, by simp, by simp, fun _ => rfl⟩
  have h4 : kind = 4 := by omega
  subst h4
  refine (rowD_ok s hn).bnd fun m hm => (dr_ok s (by omega)).bnd fun k hk => (callsD_ok s (by simp) calls _).bnd fun c hc => DOk.ret ?_
  exact ⟨he.1, he.2, rowOk.cons ha hm, by simp [wrongRows]; omega, by simp [outB], ⟨by simp, by simp⟩, by have := hc.1; dsimp only; omega, fun h => absurd rfl h, fun x hx => hc.2 x hx, by simp, fun _ => rfl⟩
theorem kinds_ok {z : Int} (h : 0 ≤ z ∧ z < 10) : 1 ≤ kindsL.getD z.toNat 0 ∧ kindsL.getD z.toNat 0 ≤ 8 := by
  have : ∀ k < 10, 1 ≤ kindsL.getD k 0 ∧ kindsL.getD k 0 ≤ 8 := by decide
  exact this _ (by omega)
structure HeadG (k : Nat) (o : List FLookup × List Int) : Prop where
  len : o.1.length = k
  kinds : ∀ l ∈ o.1, 1 ≤ l.Kind ∧ l.Kind ≤ 8
  none : ∀ l ∈ o.1, l.Rules = []
  calls : ∀ c ∈ o.2, ∃ (i : Nat) (l : FLookup), c = i ∧ o.1[i]? = some l ∧ l.Kind ≤ 4
theorem headsD_ok (k : Nat) : DOk (headsD s k) (HeadG k) := by
  refine DOk.runs (fun i o => HeadG i o) k ⟨rfl, fun l hl => (by cases hl), fun l hl => (by cases hl), fun c hc => (by cases hc)⟩ fun i o hi h => (dr_ok s (by omega)).bnd fun z hz => (DOk.any _).bnd fun y _ => DOk.ret ?_
  have hkz := kinds_ok hz
  have hold : ∀ c ∈ o.2, ∃ (i : Nat) (l : FLookup), c = i ∧ (o.1 ++ [⟨kindsL.getD z.toNat 0, decide (y = 0), []⟩])[i]? = some l ∧ l.Kind ≤ 4 := fun c hc => by
    obtain ⟨j, l, h1, h2, h3⟩ := h.calls c hc
    exact ⟨j, l, h1, by rw [List.getElem?_append_left (List.getElem?_eq_some_iff.1 h2).1]; exact h2, h3⟩
  refine ⟨by simp [h.len], fun l hl => ?_, fun l hl => ?_, fun c hc => ?_⟩
  · rcases List.mem_append.1 hl with hl | hl
    · exact h.kinds l hl
    · rw [List.mem_singleton.1 hl]; exact hkz
  · rcases List.mem_append.1 hl with hl | hl
    · exact h.none l hl
    · rw [List.mem_singleton.1 hl]
  · dsimp only at hc ⊢
    split at hc
    · rename_i h4
      rcases List.mem_append.1 hc with hc | hc
      · exact hold c hc
      · exact ⟨i, _, List.mem_singleton.1 hc, by rw [← h.len, List.getElem?_append_right (Nat.le_refl _), Nat.sub_self]; rfl, h4⟩
    · exact hold c hc
structure LookG (n : Int) (calls : List Int) (kinds : List Int) (l : List FLookup) : Prop where
  kind : l.map FLookup.Kind = kinds
  few : ∀ q ∈ l, q.Rules.length ≤ 3
  none : ∀ q ∈ l, 7 ≤ q.Kind → q.Rules = []
  rule : ∀ q ∈ l, ∀ r ∈ q.Rules, RuleG n q.Kind calls r
theorem fillD_ok {n : Int} (hn : 0 < n) (calls kinds : List Int) (hkd : ∀ z ∈ kinds, 1 ≤ z ∧ z ≤ 8) {l : List FLookup} (hl : LookG n calls kinds l) (hno : ∀ q ∈ l, q.Rules = []) (k : Nat) : DOk (fillD s n calls l k) (LookG n calls kinds) := by
  refine (DOk.runs (fun i q => LookG n calls kinds q ∧ ∀ (j : Nat) x, i ≤ j → q[j]? = some x → x.Rules = []) k ⟨hl, fun j x _ hx => hno x (List.mem_of_getElem? hx)⟩ fun i q hi ⟨h, h0⟩ => ?_).mono fun _ h => h.1
  cases hq : q[i]? with
  | none => exact DOk.ret ⟨h, fun j x hj hx => h0 j x (by omega) hx⟩
  | some x =>
    dsimp only
    refine DOk.ite (fun h7 => DOk.ret ⟨h, fun j x hj hx => h0 j x (by omega) hx⟩) fun h7 => (dr_ok s (by omega)).bnd fun c hc => ?_
    have hxm := List.mem_of_getElem? hq
    have hxk : x.Kind ∈ kinds := by rw [← h.kind]; exact List.mem_map_of_mem hxm
    have hxk := hkd _ hxk
    have hr : DOk (rulesD s n x.Kind calls (1 + c).toNat) fun rs => rs.length ≤ 3 ∧ ∀ r ∈ rs, RuleG n x.Kind calls r := by
      refine (DOk.runs (fun i rs => rs.length = i ∧ ∀ r ∈ rs, RuleG n x.Kind calls r) (1 + c).toNat ⟨rfl, fun r hr => by cases hr⟩ fun i rs _ ⟨h1, h2⟩ => (ruleD_ok s hn (by omega) calls).bnd fun r hr => DOk.ret ⟨by simp [h1], fun y hy => ?_⟩).mono fun rs ⟨h1, h2⟩ => ⟨by omega, h2⟩
      rcases List.mem_append.1 hy with hy | hy
      · exact h2 y hy
      · rw [List.mem_singleton.1 hy]; exact hr
    refine hr.bnd fun rs ⟨hr1, hr2⟩ => DOk.ret ⟨⟨?_, fun y hy => ?_, fun y hy h7' => ?_, fun y hy r hr => ?_⟩, fun j y hj hy => ?_⟩
    · rw [← h.kind]
      apply List.ext_getElem?
      intro j
      rw [List.getElem?_map, List.getElem?_map]
      by_cases e : i = j
      · subst e
        rw [List.getElem?_set_self (List.getElem?_eq_some_iff.1 hq).1, hq]
        rfl
      · rw [List.getElem?_set_ne e]
    · rcases List.mem_or_eq_of_mem_set hy with hy | hy
      · exact h.few y hy
      · rw [hy]; exact hr1
    · rcases List.mem_or_eq_of_mem_set hy with hy | hy
      · exact h.none y hy h7'
      · rw [hy] at h7'; exact absurd h7' h7
    · rcases List.mem_or_eq_of_mem_set hy with hy | hy
      · exact h.rule y hy r hr
      · rw [hy] at hr ⊢; exact hr2 r hr
    · rw [List.getElem?_set_ne (by omega)] at hy
      exact h0 j y (by omega) hy
structure LooksG (n : Int) (l : List FLookup) : Prop where
  len : l.length ≤ 6
  kinds : ∀ q ∈ l, 1 ≤ q.Kind ∧ q.Kind ≤ 8
  few : ∀ q ∈ l, q.Rules.length ≤ 3
  none : ∀ q ∈ l, 7 ≤ q.Kind → q.Rules = []
  rule : ∀ q ∈ l, ∀ r ∈ q.Rules, ∃ calls, RuleG n q.Kind calls r ∧ ∀ c ∈ calls, ∃ (i : Nat) (x : FLookup), c = i ∧ l[i]? = some x ∧ x.Kind ≤ 4
theorem lookupsD_ok {n : Int} (hn : 0 < n) : DOk (lookupsD s n) (LooksG n) := by
  refine (dr_ok s (by omega)).bnd fun k hk => (headsD_ok s k.toNat).bnd fun o ho => ?_
  refine (fillD_ok s hn o.2 (o.1.map FLookup.Kind) (fun z hz => ?_) (l := o.1) ⟨rfl, fun q hq => by rw [ho.none q hq]; exact Nat.zero_le _, fun q hq _ => ho.none q hq, fun q hq r hr => by rw [ho.none q hq] at hr; cases hr⟩ ho.none k.toNat).mono fun l hl => ?_
  · obtain ⟨q, hq, rfl⟩ := List.mem_map.1 hz
    exact ho.kinds q hq
  have hlen : l.length = o.1.length := by have := congrArg List.length hl.kind; simpa using this
  have hat : ∀ (i : Nat) (y : FLookup), o.1[i]? = some y → ∃ x, l[i]? = some x ∧ x.Kind = y.Kind := fun i y hy => by
    have hi : i < l.length := by rw [hlen]; exact (List.getElem?_eq_some_iff.1 hy).1
    refine ⟨_, List.getElem?_eq_getElem hi, ?_⟩
    have := congrArg (fun q : List Int => q[i]?) hl.kind
    simp only [List.getElem?_map, hy, List.getElem?_eq_getElem hi, Option.map_some] at this
    exact Option.some.inj this
  refine ⟨by rw [hlen, ho.len]; omega, fun q hq => ?_, hl.few, hl.none, fun q hq r hr => ⟨o.2, hl.rule q hq r hr, fun c hc => ?_⟩⟩
  · have : q.Kind ∈ o.1.map FLookup.Kind := by rw [← hl.kind]; exact List.mem_map_of_mem hq
    obtain ⟨y, hy, he⟩ := List.mem_map.1 this
    rw [← he]
    exact ho.kinds y hy
  · obtain ⟨i, y, h1, h2, h3⟩ := ho.calls c hc
    obtain ⟨x, h4, h5⟩ := hat i y h2
    exact ⟨i, x, h1, h4, by omega⟩
end Go.Proofs.YtpbinloeemebkaaGreat

namespace Go.Proofs.YtpbinloeemebkaaGreat
open Go.RowKit
attribute [local irreducible] AT ATL AX AO Av Kt ALoopK OkA DA DA1
variable (s : List Int) (hs : s.length ≤ 1000000) (F : MF)
include hs
set_option maxHeartbeats 2000000 in
theorem hint_mdet (n fn most : Int) (hn : 0 ≤ n ∧ n ≤ 1000) (hf : fn ≤ 1000) (hm : 0 < most ∧ most ≤ 6) : MDet 63 [I64 n, I64 fn, I64 most] s F (hintD s n fn most) insA := by
  intro b m
  refine ac_of Tryz.func63 rfl Tryz.ntmps63 rfl fun B => ?_
  (repeat' (first|refine at_seq ?_|refine at_region ?_|refine ax_then ?_|refine atl_nil ?_|refine n_run ttok rfl rfl ?_|fail))
  refine n_next ?_
  have hk := draw_bd s hs m.a (n := most) (by omega)
  have hk : 0 ≤ (dr s most m).1 ∧ (dr s most m).1 < most := hk
  generalize e1 : dr s most m = p1 at hk ⊢
  obtain ⟨k, hkk⟩ : ∃ k : Nat, p1.1 = k := ⟨p1.1.toNat, by omega⟩
  have hlen : ∀ i, (piecesD s n fn i p1.2).1.length ≤ 9 * i := fun i => (DOk.runs (fun i l => codeOk (9 * i) l) i ⟨Nat.le_refl _, fun i hi => by cases hi⟩ (fun i l _ h => (pieceD_ok s hn hf).bnd fun p hp => DOk.ret ⟨by rw [List.length_append]; have := h.1; have := hp.1; omega, fun x hx => by
    rcases List.mem_append.1 hx with hx | hx
    · exact h.2 x hx
    · exact hp.2 x hx⟩) p1.2).1
  rw [hkk]
  (repeat' (first|refine at_seq ?_|refine at_region ?_|refine at_block ?_|refine ax_then ?_|refine atl_nil ?_|refine n_run ttok rfl rfl ?_|fail))
  refine at_turn (turn_val (t := 9) (c' := .vec none 2 []) rfl fun σ v h => vr_nil 2 h) ?_
  refine at_loopK [0, 1, 2, 10] (α := Nat × Option (Nat × Nat)) (fun x => [(11, I64 x.1), (9, .vec x.2 2 ((piecesD s n fn x.1 p1.2).1.map cIns))]) (fun x => x.1 ≤ k) (fun x => mkB b s F (piecesD s n fn x.1 p1.2).2 :: tok x.2 273 2 ((piecesD s n fn x.1 p1.2).1.map cIns).length) (fun x => k - x.1) (0, none) rfl ⟨rfl, rfl, trivial⟩ (Nat.zero_le _) (fun _ _ h => h) ?_
  rintro ⟨i, q⟩ hi
  dsimp only at hi ⊢
  try dsimp only [List.cons_append, List.nil_append, List.map_cons, List.map_nil]
  (repeat' (first|refine at_seq ?_|refine at_region ?_|refine ax_then ?_|refine atl_nil ?_|refine n_run ttok rfl rfl ?_|fail))
  refine at_cond rfl (fun h => ?_) (fun h => ?_)
  · have hil : i < k := by have := of_decide_eq_true h; omega
    have hstep : piecesD s n fn (i + 1) p1.2 = ((piecesD s n fn i p1.2).1 ++ (pieceD s n fn (piecesD s n fn i p1.2).2).1, (pieceD s n fn (piecesD s n fn i p1.2).2).2) := rfl
    have hl1 := hlen i
    have hl2 := hlen (i + 1)
    rw [hstep] at hl2
    rw [List.length_append] at hl2
    generalize piecesD s n fn i p1.2 = st at hl1 hl2 hstep ⊢
    (repeat' (first|refine at_seq ?_|refine at_region ?_|refine at_block ?_|refine at_skip ?_|refine ax_then ?_|refine n_run ttok rfl rfl ?_|fail))
    refine n_md (piece_mdet s hs F n fn (by omega) (by omega)) ?_
    generalize pieceD s n fn st.2 = pc at hl2 hstep ⊢
    unfold insA
    refine n_append ttok [mkB b s F pc.2] rfl rfl rfl rfl (List.perm_append_comm (l₁ := [mkB b s F pc.2])) (by simp; omega) (by simp; omega) rfl fun q' => ?_
    refine atl_turn (turn_perm List.perm_append_comm) ?_
    rw [← List.map_append]
    (repeat' (first|refine at_region ?_|refine ax_then ?_|refine ax_blk ?_|refine atl_nil ?_|refine n_run ttok rfl rfl ?_|(apply s_bin; refine n_bin ?_)|fail))
    exact ax_roundK (i + 1, q') rfl ⟨by rw [Int.natCast_add]; rfl, by rw [hstep]; rfl, trivial⟩ (by dsimp only; omega) (by dsimp only; omega) (fun _ _ h => by dsimp only; rw [hstep]; exact h)
  have hil : i = k := by have := of_decide_eq_false h; omega
  subst hil
  (repeat' (first|refine at_seq ?_|refine at_region ?_|refine at_ret ?_|refine at_exit ?_|refine ax_then ?_|refine ax_then_exit ?_|refine ax_blk_exit ?_|refine ax_loop_exit ?_|refine atl_nil ?_|refine n_run ttok rfl rfl ?_|fail))
  refine ax_turn (turn_sub (L' := [mkB b s F (piecesD s n fn i p1.2).2]) (List.Sublist.cons_cons _ (List.nil_sublist _))) ?_
  refine ax_turn (turn_val (t := 8) (c' := .imm 2 ((piecesD s n fn i p1.2).1.map cIns)) rfl fun σ v h => VR.im h) (ax_ret1 rfl rfl ?_)
  have hv : hintD s n fn most m = piecesD s n fn i p1.2 := by
    unfold hintD bnd
    rw [e1]
    dsimp only
    rw [hkk]
    rfl
  rw [hv]
  exact ⟨rfl, rfl⟩
end Go.Proofs.YtpbinloeemebkaaGreat

namespace Go.Proofs.YtpbinloeemebkaaGreat
open Go.RowKit
attribute [local irreducible] AT ATL AX AO Av Kt ALoopK OkA DA DA1
theorem pendLk {α : Type} {σ0 : Mem} {l p b n : Nat} (S : α → List Int) (K : α → Option (Nat × Nat)) (E : α → AL) (J : Nat → α → Prop) (hn : n ≤ 1000000) (hJ : ∀ i x, J i x → i ≤ (S x).length ∧ (S x).length ≤ n)
    (hy : ∀ i x z, J i x → (S x)[i]? = some z → AY Tryz.prog σ0 l [I64 z] (setLk p b n (K x) (S x) ++ E x) fun c L => c = Bol true ∧ ∃ x', J (i + 1) x' ∧ L = setLk p b n (K x') (S x') ++ E x') (x0 : α) (h0 : J 0 x0) :
    ACs Tryz.prog σ0 51 [.sc (.func (.yield l) #[] #[]), .iptr [Ptr p]] (setLk p b n (K x0) (S x0) ++ E x0) fun _ L => ∃ x, J (S x).length x ∧ L = setLk p b n (K x) (S x) ++ E x := by
  refine acs_of Tryz.func51 rfl Tryz.ntmps51 rfl fun B hB => ?_
  (repeat' (first|refine at_seq ?_|refine at_region ?_|refine at_block ?_|refine ax_then ?_|refine atl_nil ?_|refine n_run ttok rfl rfl ?_|fail))
  refine at_loopK [0, 1] (α := Nat × α) (fun y => [(3, I64 y.1)]) (fun y => J y.1 y.2) (fun y => setLk p b n (K y.2) (S y.2) ++ E y.2) (fun y => n - y.1) (0, x0) rfl ⟨rfl, trivial⟩ h0 (fun _ _ h => h) ?_
  rintro ⟨i, x⟩ hj
  dsimp only at hj ⊢
  obtain ⟨hi, hl⟩ := hJ i x hj
  try dsimp only [List.cons_append, List.nil_append, List.map_cons, List.map_nil]
  (repeat' (first|refine at_seq ?_|refine at_region ?_|refine ax_then ?_|refine atl_nil ?_|refine n_run ttok rfl rfl ?_|(apply s_load; first|refine n_load ttok 0 rfl rfl rfl rfl rfl ?_|refine n_load ttok 1 rfl rfl rfl rfl rfl ?_|refine n_load ttok 2 rfl rfl rfl rfl rfl ?_|refine n_load ttok 3 rfl rfl rfl rfl rfl ?_|refine n_loadA ttok 0 rfl rfl rfl rfl rfl ?_|refine n_loadA ttok 1 rfl rfl rfl rfl rfl ?_|refine n_loadA ttok 2 rfl rfl rfl rfl rfl ?_|refine n_load ttok 1 rfl rfl rfl (by assumption) rfl ?_|refine n_load ttok 0 rfl rfl rfl (by assumption) rfl ?_|fail)|fail))
  refine at_cond rfl (fun h => ?_) (fun h => ?_)
  · have hil : i < (S x).length := by have := of_decide_eq_true h; simp [ints_len] at this; omega
    obtain ⟨z, hz⟩ : ∃ z, (S x)[i]? = some z := ⟨_, List.getElem?_eq_getElem hil⟩
    have hzg := ints_get hz
    (repeat' (first|refine at_seq ?_|refine at_region ?_|refine at_block ?_|refine at_skip ?_|refine ax_then ?_|refine n_run ttok rfl rfl ?_|(apply s_load; first|refine n_load ttok 0 rfl rfl rfl rfl rfl ?_|refine n_load ttok 1 rfl rfl rfl rfl rfl ?_|refine n_load ttok 2 rfl rfl rfl rfl rfl ?_|refine n_load ttok 3 rfl rfl rfl rfl rfl ?_|refine n_loadA ttok 0 rfl rfl rfl rfl rfl ?_|refine n_loadA ttok 1 rfl rfl rfl rfl rfl ?_|refine n_loadA ttok 2 rfl rfl rfl rfl rfl ?_|refine n_load ttok 1 rfl rfl rfl (by assumption) rfl ?_|refine n_load ttok 0 rfl rfl rfl (by assumption) rfl ?_|fail)|(apply s_index; first|refine n_index ttok ?_|refine n_indexP ttok ?_)|fail))
    refine n_yield (setLk p b n (K x) (S x) ++ E x) [] hB (hy i x z hj hz) rfl rfl rfl (by rw [List.append_nil]) rfl rfl fun c L1 ⟨hc, x', hj', hL⟩ => ?_
    subst hc; subst hL
    rw [List.append_nil]
    (repeat' (first|refine at_region ?_|refine at_skip ?_|refine ax_then ?_|refine ax_blk ?_|refine atl_nil ?_|refine n_run ttok rfl rfl ?_|(apply s_bin; refine n_bin ?_)|refine n_condF rfl ?_|fail))
    have := hJ _ _ hj'
    exact ax_roundK (i + 1, x') rfl ⟨by rw [Int.natCast_add]; rfl, trivial⟩ hj' (by dsimp only; omega) (fun _ _ h => h)
  · have hil : i = (S x).length := by have := of_decide_eq_false h; simp [ints_len] at this; omega
    subst hil
    (repeat' (first|refine at_exit ?_|refine ax_then_exit ?_|refine ax_blk_exit ?_|refine ax_loop_exit ?_|fail))
    exact ax_end0 rfl ⟨x, hj, rfl⟩
theorem pendingLk (p : Nat) : ADet Tryz.prog 28 [Ptr p] (.fn 51 [.iptr [Ptr p]]) := by
  refine ac_of Tryz.func28 rfl Tryz.ntmps28 rfl fun B => ?_
  (repeat' (first|refine at_seq ?_|refine at_region ?_|refine at_ret ?_|refine ax_then ?_|refine atl_nil ?_|refine n_run ttok rfl rfl ?_|refine n_boxI ?_|fail))
  exact ax_ret1 rfl rfl rfl
instance (p : Nat) : AD Tryz.prog 28 [Ptr p] (.fn 51 [.iptr [Ptr p]]) := ⟨pendingLk p⟩
end Go.Proofs.YtpbinloeemebkaaGreat
