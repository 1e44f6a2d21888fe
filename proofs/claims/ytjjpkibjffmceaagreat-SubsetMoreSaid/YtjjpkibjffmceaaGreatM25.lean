/-
  Fonts of plain numbers may be: glyphs, and the font.
-/
import Derived.Test.YtjjpkibjffmceaaGreatM24
import Derived.Test.YtjjpkibjffmceaaGreatM13
import Derived.Test.YtjjpkibjffmceaaGreatM23
namespace Go.Proofs.YtjjpkibjffmceaaGreat
variable (s : List Int)
def jT (a : dH) : Int × Int := (a.Kind, a.Class)
structure AI (cl : Int) (mark : Bool) (l : List dH) : Prop where
 sub : (l.map jT).Sublist (f6 cl)
 at' : ∀ a ∈ l, (0 ≤ a.X ∧ a.X ≤ 1000) ∧ (-200 ≤ a.Y ∧ a.Y ≤ 800) ∧ (a.Kind = 2 → mark = true)
theorem su {cl : Int} {i : Nat} (h : i < 5) : (f6 cl)[i]? = some ((f6 cl).getD i (0, 0)) := by
 rw [List.getD_eq_getElem?_getD, Ee (show i < (f6 cl).length from h)]
 rfl
theorem sv (mark : Bool) (cl : Int) : bU (eX s mark cl 5) (AI cl mark) := by
 refine (bU.runs (b := []) (fun i (l : List dH) => (l.map jT).Sublist ((f6 cl).take i) ∧ ∀ a ∈ l, (0 ≤ a.X ∧ a.X ≤ 1000) ∧ (-200 ≤ a.Y ∧ a.Y ≤ 800) ∧ (a.Kind = 2 → mark = true)) 5 ⟨List.nil_sublist _, fun a ha => by cases ha⟩ fun i l hi ⟨h1, h2⟩ => (bU.any _).bnd fun z _ => bU.ite (fun h3 => (cW s (by omega)).bnd fun x hx => (cW s (by omega)).bnd fun y hy => bU.ret ⟨?_, fun a ha => ?_⟩) fun _ => bU.ret ⟨?_, h2⟩).mono fun l ⟨h1, h2⟩ => ⟨h1, h2⟩
 ·rw [List.take_add_one, su hi, List.map_append]
  exact h1.append (List.Sublist.refl _)
 ·rcases Gl ha with ha | ha
  ·exact h2 a ha
  ·rw [Gk ha]
   refine ⟨by dsimp only; omega, by dsimp only; omega, fun hk => ?_⟩
   rcases h3.2 with h4 | h4
   ·exact absurd hk h4
   ·exact h4
 ·rw [List.take_add_one]
  exact h1.trans (List.sublist_append_left _ _)
def Fh (a b : dN) : Prop := a.Region < b.Region ∨ (a.Region = b.Region ∧ a.Point < b.Point)
structure AM (R pts : Nat) (l : List dN) : Prop where
 up : l.Pairwise Fh
 len : l.length ≤ R * (pts + 1)
 dom : ∀ d ∈ l, (0 ≤ d.Region ∧ d.Region < R) ∧ (-1 ≤ d.Point ∧ d.Point < pts) ∧ (-20 ≤ d.X ∧ d.X ≤ 20) ∧ (-20 ≤ d.Y ∧ d.Y ≤ 20) ∧ (d.Point = -1 → d.Y = 0)
structure sl (r p pts : Nat) (l : List dN) : Prop where
 up : l.Pairwise Fh
 len : l.length ≤ r * (pts + 1) + p
 dom : ∀ d ∈ l, (0 ≤ d.Region ∧ (d.Region < r ∨ (d.Region = r ∧ d.Point < (p : Int) - 1))) ∧ (-1 ≤ d.Point ∧ d.Point < pts) ∧ (-20 ≤ d.X ∧ d.X ≤ 20) ∧ (-20 ≤ d.Y ∧ d.Y ≤ 20) ∧ (d.Point = -1 → d.Y = 0)
theorem sl.more {r p pts : Nat} {l : List dN} (h : sl r p pts l) : sl r (p + 1) pts l := ⟨h.up, by have := h.len; omega, fun d hd => by have := h.dom d hd; omega⟩
theorem sl.add {r p pts : Nat} {l : List dN} (h : sl r p pts l) {x y : Int} (hp : p ≤ pts) (hx : -20 ≤ x ∧ x ≤ 20) (hy : -20 ≤ y ∧ y ≤ 20) (h0 : p = 0 → y = 0) : sl r (p + 1) pts (l ++ [⟨r, (p : Int) - 1, x, y⟩]) := by
 refine ⟨?_, by have := h.len; simp; omega, fun d hd => ?_⟩
 ·rw [List.pairwise_append]
  refine ⟨h.up, List.pairwise_singleton .., fun a ha b hb => ?_⟩
  rw [Gk hb]
  have := h.dom a ha
  unfold Fh
  dsimp only
  omega
 ·rcases Gl hd with hd | hd
  ·have := h.dom d hd; omega
  ·rw [Gk hd]
   dsimp only
   refine ⟨by omega, by omega, hx, hy, fun hq => h0 (by omega)⟩
theorem p8 (pts R : Nat) : bU (fZ s pts R) (AM R pts) := by
 refine (bU.runs (fun r l => sl r 0 pts l) R ⟨.nil, by simp, fun d hd => by cases hd⟩ fun r l _ h => ?_).mono fun l h => ⟨h.up, h.len, fun d hd => by have := h.dom d hd; omega⟩
 refine (bU.runs (fun p l => sl r p pts l) (pts + 1) h fun p l hp h => (bU.any _).bnd fun z _ => bU.ite (fun _ => (cW s (by omega)).bnd fun x hx => bU.ite (fun h0 => bU.ret ?_) fun h0 => (cW s (by omega)).bnd fun y hy => bU.ret ?_) fun _ => bU.ret h.more).mono fun l h => ⟨h.up, by have := h.len; rw [Nat.add_mul]; omega, fun d hd => by have := h.dom d hd; omega⟩
 ·subst h0
  exact h.add (by omega) (by omega) (by omega) fun _ => rfl
 ·exact h.add (by omega) (by omega) (by omega) fun e => absurd e h0
structure wo (R n : Nat) (g : bo) : Prop where
 name : g.Name = cL n
 adv : 100 ≤ g.Advance ∧ g.Advance ≤ 1000
 out : ∃ k, k ≤ 2 ∧ sn k (g.Points, g.Ends)
 parts : g.Parts = [] ∨ (1 < n ∧ ∃ x y : Int, g.Parts = [⟨1, x, y⟩] ∧ (-200 ≤ x ∧ x ≤ 200) ∧ 0 ≤ y ∧ y ≤ 200)
 anch : ∃ cl, (0 ≤ cl ∧ cl < 2) ∧ AI cl g.Mark g.Anchors
 dels : AM R g.Points.length g.Deltas
 hint : gq 45 g.Hint
theorem x3 {R fn n : Nat} (hf : fn ≤ 1000) : bU (jF s R fn n) (wo R n) := by
 have hparts : bU (iC s n) fun ps => ps = [] ∨ (1 < n ∧ ∃ x y : Int, ps = [⟨1, x, y⟩] ∧ (-200 ≤ x ∧ x ≤ 200) ∧ 0 ≤ y ∧ y ≤ 200) := by
  refine bU.ite (fun h1 => (bU.any _).bnd fun z _ => bU.ite (fun _ => (cW s (by omega)).bnd fun x hx => (cW s (by omega)).bnd fun y hy => bU.ret (.inr ⟨h1, _, _, rfl, by omega, by omega⟩)) fun _ => bU.ret (.inl rfl)) fun _ => bU.ret (.inl rfl)
 refine (cW s (by omega)).bnd fun ad had => (bU.any _).bnd fun mk _ => (nU s).bnd fun o ho => hparts.bnd fun ps hps => (cW s (by omega)).bnd fun cl hcl => (sv s _ cl).bnd fun an han => (p8 s _ R).bnd fun de hde => (bU.any _).bnd fun _ _ => ?_
 have hl : o.1.length ≤ 10 := by obtain ⟨k, h1, h2⟩ := ho; have := h2.len; omega
 exact (te s (n := o.1.length) (funcs := fn) (most := 6) (by omega) (by omega) (by omega)).bnd fun h hh => bU.ret ⟨rfl, by dsimp only; omega, ho, hps, ⟨cl, hcl, han⟩, hde, hh⟩
def ly (t : ea) : Prop := q8 0 t = 0
structure eN (f : aI) : Prop where
  unit : 16 ≤ f.Unit ∧ f.Unit ≤ 4096
  glyN : 2 ≤ f.Glyphs.length ∧ f.Glyphs.length ≤ 10
  gly : ∀ (i : Nat) g, f.Glyphs[i]? = some g → wo f.Regions.length i g
  chars : f.Chars.length ≤ 16
  charR : (f.Chars.map ep.Rune).Sublist eV
  charG : ∀ c ∈ f.Chars, 0 ≤ c.Glyph ∧ c.Glyph < f.Glyphs.length
  looks : ya f.Glyphs.length f.Lookups
  featN : (f.Features.map bO.Name).Sublist dU
  featL : ∀ t ∈ f.Features, t.Lookups.Pairwise (· < ·) ∧ t.Lookups.length ≤ 6 ∧ ∀ z ∈ t.Lookups, 0 ≤ z ∧ z < f.Lookups.length
  axes : f.Axes.length ≤ 2
  axisN : f.Axes.map eo.Name = (List.range f.Axes.length).map (iv rk)
  axis : ∀ a ∈ f.Axes, (-200 ≤ a.Min ∧ a.Min ≤ 0) ∧ a.Def = 0 ∧ 0 ≤ a.Max ∧ a.Max ≤ 300
  regs : f.Regions.length ≤ 3
  reg : ∀ r ∈ f.Regions, r.length = f.Axes.length ∧ ∀ t ∈ r, ly t
  funcs : f.Funcs.length ≤ 2
  func : ∀ c ∈ f.Funcs, gq 45 c
  cvt : f.Cvt.length ≤ 3
  cvtM : ∀ z ∈ f.Cvt, -100 ≤ z ∧ z < 400
theorem t8 {α : Type} {l : List α} {i : Nat} (h : i < l.length) (d : α) : l.getD i d ∈ l := by
 rw [List.getD_eq_getElem?_getD, Ee h]
 exact List.getElem_mem h
theorem kH {α : Type} {l : List α} {i : Nat} (h : i < l.length) (d : α) : l[i]? = some (l.getD i d) := by
 rw [List.getD_eq_getElem?_getD, Ee h]
 rfl
theorem zA : bU (zy s) eN := by
  have hax : ∀ k : Nat, bU (jZ s k) fun l => l.length = k ∧ l.map eo.Name = (List.range k).map (iv rk) ∧ ∀ a ∈ l, (-200 ≤ a.Min ∧ a.Min ≤ 0) ∧ a.Def = 0 ∧ 0 ≤ a.Max ∧ a.Max ≤ 300 := fun k => by
    refine bU.runs (fun i (l : List eo) => l.length = i ∧ l.map eo.Name = (List.range i).map (iv rk) ∧ ∀ a ∈ l, (-200 ≤ a.Min ∧ a.Min ≤ 0) ∧ a.Def = 0 ∧ 0 ≤ a.Max ∧ a.Max ≤ 300) k ⟨rfl, rfl, fun a ha => by cases ha⟩ fun i l _ ⟨h1, h2, h3⟩ => (cW s (by omega)).bnd fun a ha => (cW s (by omega)).bnd fun b hb => bU.ret ⟨by simp [h1], by simp [h2, List.range_succ], fun x hx => ?_⟩
    rcases Gl hx with hx | hx
    · exact h3 x hx
    · rw [Gk hx]; dsimp only; omega
  have hrg : ∀ k : Nat, bU (fG s k) fun l => l.length ≤ 3 ∧ ∀ r ∈ l, r.length = k ∧ ∀ t ∈ r, ly t := fun k => by
    refine bU.ite (fun _ => bU.ret ⟨Nat.zero_le _, fun r hr => by cases hr⟩) fun _ => (cW s (by omega)).bnd fun n hn => ?_
    refine (bU.runs (fun i (l : List (List ea)) => l.length = i ∧ ∀ r ∈ l, r.length = k ∧ ∀ t ∈ r, ly t) n.toNat ⟨rfl, fun a ha => by cases ha⟩ fun i l _ ⟨h1, h2⟩ => ?_).mono fun l ⟨h1, h2⟩ => ⟨by omega, h2⟩
    refine (bU.runs (fun i (r : List ea) => r.length = i ∧ ∀ t ∈ r, ly t) k ⟨rfl, fun a ha => by cases ha⟩ fun i r _ ⟨h1, h2⟩ => (cW s (by omega)).bnd fun z hz => bU.ret ⟨by simp [h1], fun x hx => ?_⟩).bnd fun r hr => bU.ret ⟨by simp [h1], fun x hx => ?_⟩
    · rcases Gl hx with hx | hx
      · exact h2 x hx
      · rw [Gk hx]
        have : ∀ t ∈ jM, ly t := by unfold ly; decide
        exact this _ (t8 (by simp only [jM, List.length_cons, List.length_nil]; omega) _)
    · rcases Gl hx with hx | hx
      · exact h2 x hx
      · rw [Gk hx]; exact hr
  have hfu : ∀ k : Nat, k ≤ 1000 → bU (ir s k) fun l => l.length = k ∧ ∀ c ∈ l, gq 45 c := fun k hk => by
    refine bU.runs (fun i (l : List (List ew)) => l.length = i ∧ ∀ c ∈ l, gq 45 c) k ⟨rfl, fun a ha => by cases ha⟩ fun i l hi ⟨h1, h2⟩ => (bU.any _).bnd fun _ _ => (te s (by omega) (by omega) (by omega)).bnd fun h hh => bU.ret ⟨by simp [h1], fun x hx => ?_⟩
    rcases Gl hx with hx | hx
    · exact h2 x hx
    · rw [Gk hx]; exact hh
  have hcv : ∀ k : Nat, bU (oZ s k) fun l => l.length = k ∧ ∀ z ∈ l, -100 ≤ z ∧ z < 400 := fun k => by
    refine bU.runs (fun i (l : List Int) => l.length = i ∧ ∀ z ∈ l, -100 ≤ z ∧ z < 400) k ⟨rfl, fun a ha => by cases ha⟩ fun i l hi ⟨h1, h2⟩ => (cW s (by omega)).bnd fun z hz => bU.ret ⟨by simp [h1], fun x hx => ?_⟩
    rcases Gl hx with hx | hx
    · exact h2 x hx
    · rw [Gk hx]; omega
  have hgl : ∀ R fn k : Nat, fn ≤ 1000 → bU (g8 s R fn k) fun l => l.length = k ∧ ∀ (i : Nat) g, l[i]? = some g → wo R i g := fun R fn k hf => by
    refine bU.runs (fun i (l : List bo) => l.length = i ∧ ∀ (j : Nat) g, l[j]? = some g → wo R j g) k ⟨rfl, fun j g h => by simp at h⟩ fun i l hi ⟨h1, h2⟩ => (x3 s hf).bnd fun g hg => bU.ret ⟨by simp [h1], fun j x hx => ?_⟩
    rcases Nat.lt_or_ge j l.length with h | h
    · rw [List.getElem?_append_left h] at hx
      exact h2 j x hx
    · have hj := (Gn hx).1
      have : j = l.length := by simp at hj; omega
      subst this
      rw [List.getElem?_append_right (Nat.le_refl _), Nat.sub_self] at hx
      cases hx
      rw [h1]
      exact hg
  have hch : ∀ n : Int, 0 < n → bU (gR s n 16) fun l => (l.map ep.Rune).Sublist eV ∧ ∀ c ∈ l, 0 ≤ c.Glyph ∧ c.Glyph < n := fun n hn => by
    refine (bU.runs (b := []) (fun i (l : List ep) => (l.map ep.Rune).Sublist (eV.take i) ∧ ∀ c ∈ l, 0 ≤ c.Glyph ∧ c.Glyph < n) 16 ⟨List.nil_sublist _, fun a ha => by cases ha⟩ fun i l hi ⟨h1, h2⟩ => (bU.any _).bnd fun z _ => bU.ite (fun _ => (cW s hn).bnd fun g hg => bU.ret ⟨?_, fun x hx => ?_⟩) fun _ => bU.ret ⟨?_, h2⟩).mono fun l h => h
    · rw [List.take_add_one, kH (l := eV) (i := i) hi 0, List.map_append]
      exact h1.append (List.Sublist.refl _)
    · rcases Gl hx with hx | hx
      · exact h2 x hx
      · rw [Gk hx]; exact hg
    · rw [List.take_add_one]
      exact h1.trans (List.sublist_append_left _ _)
  have hft : ∀ n : Nat, n ≤ 6 → bU (gU s n 8) fun l => (l.map bO.Name).Sublist dU ∧ ∀ t ∈ l, t.Lookups.Pairwise (· < ·) ∧ t.Lookups.length ≤ 6 ∧ ∀ z ∈ t.Lookups, 0 ≤ z ∧ z < n := fun n hn => by
    have hask : bU (mP s n) fun l => l.Pairwise (· < ·) ∧ l.length ≤ n ∧ ∀ z ∈ l, 0 ≤ z ∧ z < n := by
      refine bU.runs (fun i (l : List Int) => l.Pairwise (· < ·) ∧ l.length ≤ i ∧ ∀ z ∈ l, 0 ≤ z ∧ z < i) n ⟨.nil, Nat.le_refl _, fun a ha => by cases ha⟩ fun i l hi ⟨h1, h2, h3⟩ => (bU.any _).bnd fun z _ => bU.ret ?_
      split
      · refine ⟨?_, by simp; omega, fun x hx => ?_⟩
        · rw [List.pairwise_append]
          exact ⟨h1, List.pairwise_singleton .., fun a ha b hb => by rw [Gk hb]; have := h3 a ha; omega⟩
        · rcases Gl hx with hx | hx
          · have := h3 x hx; omega
          · rw [Gk hx]; omega
      · exact ⟨h1, by omega, fun x hx => by have := h3 x hx; omega⟩
    refine (bU.runs (b := []) (fun i (l : List bO) => (l.map bO.Name).Sublist (dU.take i) ∧ ∀ t ∈ l, t.Lookups.Pairwise (· < ·) ∧ t.Lookups.length ≤ 6 ∧ ∀ z ∈ t.Lookups, 0 ≤ z ∧ z < n) 8 ⟨List.nil_sublist _, fun a ha => by cases ha⟩ fun i l hi ⟨h1, h2⟩ => hask.bnd fun r hr => (bU.any _).bnd fun z _ => bU.ret ?_).mono fun l h => h
    split
    · refine ⟨?_, fun x hx => ?_⟩
      · rw [List.take_add_one, kH (l := dU) (i := i) hi ByteArray.empty, List.map_append]
        exact h1.append (List.Sublist.refl _)
      · rcases Gl hx with hx | hx
        · exact h2 x hx
        · rw [Gk hx]; exact ⟨hr.1, by have := hr.2.1; dsimp only; omega, hr.2.2⟩
    · rw [List.take_add_one]
      exact ⟨h1.trans (List.sublist_append_left _ _), h2⟩
  refine (cW s (by omega)).bnd fun u hu => (cW s (by omega)).bnd fun k hk => (hax _).bnd fun ax ⟨ha1, ha2, ha3⟩ => (hrg _).bnd fun rg ⟨hr1, hr2⟩ => (cW s (by omega)).bnd fun k2 hk2 => (hfu _ (by omega)).bnd fun fu ⟨hf1, hf2⟩ => (cW s (by omega)).bnd fun k3 hk3 => (hcv _).bnd fun cv ⟨hc1, hc2⟩ => (cW s (by omega)).bnd fun k4 hk4 => (hgl _ _ _ (by omega)).bnd fun gl ⟨hg1, hg2⟩ => (hch gl.length (by omega)).bnd fun ch ⟨hh1, hh2⟩ => (nS s (n := gl.length) (by omega)).bnd fun lk hlk => (hft lk.length hlk.len).bnd fun ft ⟨ht1, ht2⟩ => bU.ret ?_
  refine ⟨?_, by dsimp only; omega, hg2, ?_, hh1, hh2, hlk, ht1, ht2, by dsimp only; omega, by dsimp only; rw [ha1]; exact ha2, ha3, hr1, fun r hr => ⟨by dsimp only; rw [ha1]; exact (hr2 r hr).1, (hr2 r hr).2⟩, by dsimp only; omega, hf2, by dsimp only; omega, hc2⟩
  · have : ∀ j < 4, 16 ≤ lA.getD j 0 ∧ lA.getD j 0 ≤ 4096 := by decide
    exact this _ (by omega)
  · have := hh1.length_le
    simpa [eV] using this
theorem BZ : eN (md s) := zA s ⟨0, 0⟩
end Go.Proofs.YtjjpkibjffmceaaGreat
namespace Go.Proofs.YtjjpkibjffmceaaGreat
theorem tA {α : Type} {l : List α} (h : l.Nodup) {i j : Nat} {a : α} (hi : l[i]? = some a) (hj : l[j]? = some a) : i = j := by
 obtain ⟨i1, i2⟩ := Gn hi
 obtain ⟨j1, j2⟩ := Gn hj
 have hp := List.pairwise_iff_getElem.1 (List.nodup_iff_pairwise_ne.1 h)
 rcases Nat.lt_trichotomy i j with hlt | hlt | hlt
 ·exact absurd (i2.trans j2.symm) (hp i j i1 j1 hlt)
 ·exact hlt
 ·exact absurd (j2.trans i2.symm) (hp j i j1 i1 hlt)
theorem pZ {names : List ByteArray} (hn : names.Nodup) {i : Nat} {s : ByteArray} (h : names[i]? = some s) : jL names i s = false := by
 have hf : dt names s = some i := by
  unfold dt
  obtain ⟨h1, h2⟩ := Gn h
  rw [List.findIdx?_eq_some_iff_getElem]
  refine ⟨h1, by simpa using h2, fun j hj => ?_⟩
  have : names[j] ≠ s := fun e => by
   have := tA hn h (show names[j]? = some s by rw [← e]; exact Ee (by omega))
   omega
  simpa using this
 unfold jL
 rw [hf]
 simp
theorem lw {α : Type} {g : α → Nat} {l : List α} {k : Nat} (h : ∀ a ∈ l, g a ≤ k) : (l.map g).sum ≤ l.length * k := by
 induction l with
 | nil => simp
 | cons b l ih =>
  rw [Gp, List.sum_cons, List.length_cons, Nat.succ_mul]
  have := ih fun a ha => h a (Gt _ ha)
  have := h b (List.mem_cons_self ..)
  omega
theorem gw {z : Int} (h : -16384 ≤ z ∧ z ≤ 16384) : ga z = true := decide_eq_true h
theorem rF {f : aI} {z : Int} (h : 0 ≤ z ∧ z < f.Glyphs.length) : km f z = true := decide_eq_true h
theorem dZ {b : Bool} {e : Int} (h : b = false) : ek b e = 0 := by rw [h]; rfl
section
variable {f : aI}
theorem rD : ((List.range 10).map cL).Nodup := by decide
theorem pe : ∀ n < 10, g9 (cL n) = true ∧ (cL n).size ≤ 16 := by decide
theorem wo.shape {R n : Nat} {g : bo} (h : wo R n g) : iD g = 0 := by
 obtain ⟨k, hk, ho⟩ := h.out
 have ha := h.adv
 have hl := ho.len
 have he := ho.endl
 dsimp only at hl he
 have hp : ∀ p ∈ g.Points, nV p = true := fun p hp => by
  have := ho.pts p hp
  unfold tK at this
  unfold nV
  rw [gw (by omega), gw (by omega)]
  rfl
 unfold iD
 rw [if_neg (by omega), if_neg (by omega), if_neg, dZ]
 ·have : gL g.Points g.Ends = true := by
   unfold gL
   rw [Bool.and_eq_true, Bool.and_eq_true]
   exact ⟨decide_eq_true (by omega), List.all_eq_true.2 hp, ho.ends⟩
  rw [this]
  rfl
 ·rw [fx fun i p hi => ?_]
  ·simp
  ·have := hp p (Gx hi)
   unfold nV at this
   rw [Bool.and_eq_true] at this
   unfold F1
   exact dZ (by simp [this.1, this.2])
theorem gq.prog {k : Nat} {l : List ew} (h : gq k l) (hk : k ≤ 200) : mo l = 0 := by
 unfold mo
 rw [ee (by have := h.1; omega) fun i x hi => ?_]
 have := h.2 x (Gx hi)
 unfold iI at this
 unfold zk
 rw [if_neg (by omega), if_neg (by omega)]
theorem AI.right {cl : Int} (hcl : 0 ≤ cl ∧ cl < 2) {g : bo} (h : AI cl g.Mark g.Anchors) : cr 16 g.Anchors (l9 g) = (0, 0) := by
 have hlen := h.sub.length_le
 simp only [Gu, f6, List.length_cons, List.length_nil] at hlen
 have hnd : (g.Anchors.map jT).Nodup := h.sub.nodup (by simp [f6])
 refine ee (by omega) fun i a hi => ?_
 have ham := Gx hi
 obtain ⟨h1, h2, h3⟩ := h.at' a ham
 have hp : jT a ∈ f6 cl := h.sub.subset (List.mem_map_of_mem ham)
 have hpc : (a.Kind, a.Class) = (1, 0) ∨ (a.Kind, a.Class) = (1, 1) ∨ (a.Kind, a.Class) = (3, 0) ∨ (a.Kind, a.Class) = (4, 0) ∨ (a.Kind, a.Class) = (2, cl) := by
  simpa [jT, f6] using hp
 simp only [Prod.mk.injEq] at hpc
 unfold l9
 rw [if_neg]
 rintro (h4 | h4 | h4 | h4 | h4 | ⟨b, hb, h5, h6⟩)
 ·omega
 ·omega
 ·omega
 ·simp [gw (show -16384 ≤ a.X ∧ a.X ≤ 16384 by omega), gw (show -16384 ≤ a.Y ∧ a.Y ≤ 16384 by omega)] at h4
 ·rw [h3 h4.1] at h4
  exact absurd h4.2 (by simp)
 ·obtain ⟨j, hj⟩ := List.mem_iff_getElem?.1 hb
  rw [List.getElem?_take] at hj
  split at hj
  ·rename_i hji
   have e1 : (g.Anchors.map jT)[j]? = some (jT a) := by rw [List.getElem?_map, hj]; simp [jT, h5, h6]
   have e2 : (g.Anchors.map jT)[i]? = some (jT a) := by rw [List.getElem?_map, hi]; rfl
   have := tA hnd e1 e2
   omega
  ·cases hj
theorem AM.right {g : bo} (h : AM f.Regions.length g.Points.length g.Deltas) (hl : g.Deltas.length ≤ 400) : cr 400 g.Deltas (qj f g) = (0, 0) := by
 refine ee (by omega) fun i d hi => ?_
 obtain ⟨h1, h2, h3, h4, h5⟩ := h.dom d (Gx hi)
 unfold qj
 rw [if_neg (by omega), if_neg, if_neg]
 ·cases i with
  | zero => simp
  | succ j =>
   dsimp only
   cases hj : g.Deltas[j]? with
   | none => simp
   | some b =>
    dsimp only
    obtain ⟨k1, k2⟩ := Gn hj
    obtain ⟨k3, k4⟩ := Gn hi
    have := List.pairwise_iff_getElem.1 h.up j (j + 1) k1 k3 (by omega)
    rw [k2, k4] at this
    unfold Fh at this
    simp only [decide_eq_true_eq]
    omega
 ·rintro (h6 | h6 | h6)
  ·omega
  ·simp [gw (show -16384 ≤ d.X ∧ d.X ≤ 16384 by omega), gw (show -16384 ≤ d.Y ∧ d.Y ≤ 16384 by omega)] at h6
  ·exact h6.2 (h5 h6.1)
end
variable {f : aI} (h : eN f)
include h
theorem eN.names : jE f = (List.range f.Glyphs.length).map cL := by
 apply List.ext_getElem?
 intro i
 unfold jE
 rw [List.getElem?_map, List.getElem?_map]
 cases hi : f.Glyphs[i]? with
 | none => rw [List.getElem?_eq_none (by rw [List.length_range]; exact List.getElem?_eq_none_iff.1 hi)]; rfl
 | some g =>
  rw [List.getElem?_range (Gn hi).1]
  simp [(h.gly i g hi).name]
theorem eN.del {i : Nat} {g : bo} (hi : f.Glyphs[i]? = some g) : g.Points.length ≤ 10 ∧ g.Deltas.length ≤ 33 := by
 have hg := h.gly i g hi
 obtain ⟨k, hk, ho⟩ := hg.out
 have h1 := ho.len
 have h2 := hg.dels.len
 have h3 := h.regs
 dsimp only at h1
 refine ⟨by omega, Nat.le_trans h2 ?_⟩
 exact Nat.le_trans (Nat.mul_le_mul h3 (show g.Points.length + 1 ≤ 11 by omega)) (by omega)
theorem eN.glyph {i : Nat} {g : bo} (hi : f.Glyphs[i]? = some g) : ei f i g = 0 := by
 have hg := h.gly i g hi
 have hil := (Gn hi).1
 have hn := h.glyN
 have hd := h.del hi
 have hfa : k6 (g9 g.Name) (jL (jE f) i g.Name) = 0 := by
  rw [hg.name, (pe i (by omega)).1, h.names, pZ]
  ·rfl
  ·refine List.Nodup.sublist ?_ rD
   exact (List.range_sublist.2 hn.2).map _
  ·rw [List.getElem?_map, List.getElem?_range hil]; rfl
 unfold ei
 rw [hfa]
 unfold n5
 rw [dT]
 obtain ⟨cl, hcl, han⟩ := hg.anch
 have hpa : cr 8 g.Parts (kW f) = (0, 0) := by
  rcases hg.parts with e | ⟨h1, x, y, e, hx, hy⟩
  ·rw [e]; exact ee (by simp) fun i x hx => by simp at hx
  ·rw [e]
   refine ee (by simp) fun j p hp => ?_
   cases j with
   | zero =>
    simp at hp
    subst hp
    unfold kW
    rw [if_neg (by rw [rF (by dsimp only; omega)]; simp)]
    exact dZ (by simp [gw (show -16384 ≤ x ∧ x ≤ 16384 by omega), gw (show -16384 ≤ y ∧ y ≤ 16384 by omega)])
   | succ j => simp at hp
 intro x hx
 simp only [List.mem_cons, List.not_mem_nil, or_false] at hx
 rcases hx with rfl | rfl | rfl | rfl | rfl | rfl
 ·rfl
 ·exact hg.shape
 ·rw [hpa]
 ·rw [han.right hcl]
 ·rw [hg.dels.right (by omega)]
 ·exact hg.hint.prog (by omega)
theorem eN.glyphs : cr 400 f.Glyphs (ei f) = (0, 0) := ee (by have := h.glyN; omega) fun _ _ hi => h.glyph hi
theorem eN.prt {z : Int} {p : Int} (hp : p ∈ prt f z) : ∃ g, f.Glyphs[z.toNat]? = some g ∧ p = 1 ∧ 1 < z.toNat ∧ g.Parts.length = 1 := by
 unfold Go.Proofs.YtjjpkibjffmceaaGreat.prt at hp
 cases hg : f.Glyphs[z.toNat]? with
 | none => rw [hg] at hp; cases hp
 | some g =>
  rw [hg] at hp
  have hp := (List.mem_filter.1 hp).1
  rcases (h.gly _ g hg).parts with e | ⟨h1, x, y, e, _⟩
  ·rw [e] at hp; cases hp
  ·rw [e] at hp
   exact ⟨g, rfl, by simpa using hp, h1, by rw [e]; rfl⟩
def kw (f : aI) (z : Int) : Nat := match f.Glyphs[z.toNat]? with | some g => g.Parts.length | none => 0
def ng (f : aI) (z : Int) : Nat := match f.Glyphs[z.toNat]? with | some g => g.Points.length | none => 0
theorem eN.one : kw f 1 = 0 := by
 unfold kw
 cases hg : f.Glyphs[(1 : Int).toNat]? with
 | none => rfl
 | some g =>
  dsimp only
  rcases (h.gly _ g hg).parts with e | ⟨h1, _⟩
  ·rw [e]; rfl
  ·exact absurd h1 (by decide)
theorem eN.acyc : jV f.Glyphs.length (Go.Proofs.YtjjpkibjffmceaaGreat.prt f) := by
 refine ⟨kw f, fun z h0 h1 p hp => ?_⟩
 obtain ⟨g, hg, rfl, _, h2⟩ := h.prt hp
 rw [h.one]
 unfold kw
 rw [hg]
 dsimp only
 omega
theorem eN.points (z : Int) : ng f z ≤ 10 := by
 unfold ng
 cases hg : f.Glyphs[z.toNat]? with
 | none => exact Nat.zero_le _
 | some g => exact (h.del hg).1
theorem eN.comp : lO f = (0, 0) := by
 have hall : (cr 400 f.Glyphs (ei f)).1 = 0 := by rw [h.glyphs]
 have hd : jl f (fun z => (kw f z : Int)) (fun z => (ng f z + (if kw f z = 0 then 0 else ng f 1) : Nat)) := by
  intro z h0 h1 gl hg
  have hone := h.one
  have hp1 := h.points 1
  have hpz := h.points z
  have e1 : kw f z = gl.Parts.length := by unfold kw; rw [hg]
  have e2 : ng f z = gl.Points.length := by unfold ng; rw [hg]
  rcases (h.gly _ gl hg).parts with e | ⟨_, x, y, e, _⟩
  ·rw [e] at e1
   dsimp only
   rw [e1, e2, e]
   exact ⟨rfl, rfl⟩
  ·rw [e] at e1
   have e1 : kw f z = 1 := e1
   dsimp only
   rw [e1, e2, e]
   simp only [dF, pF, List.foldl_cons, List.foldl_nil, hone]
   refine ⟨by decide, ?_⟩
   simp
   omega
 rw [oV (iP hall) h.acyc hd]
 unfold nL
 refine pd fun x hx => ?_
 simp only [List.mem_cons, List.not_mem_nil, or_false] at hx
 rcases hx with rfl | rfl
 ·rw [fx fun i n hn => ?_]
  obtain ⟨z, hz, rfl⟩ := List.mem_map.1 (Gx hn)
  unfold p7
  refine dZ (decide_eq_false ?_)
  have : kw f z ≤ 1 := by
   unfold kw
   split
   ·rename_i g hg
    rcases (h.gly _ g hg).parts with e | ⟨_, x, y, e, _⟩
    ·rw [e]; simp
    ·rw [e]; simp
   ·omega
  omega
 ·rw [fx fun i n hn => ?_]
  obtain ⟨z, hz, rfl⟩ := List.mem_map.1 (Gx hn)
  unfold pt
  refine dZ (decide_eq_false ?_)
  have h1 := h.points z
  have h2 := h.points 1
  split <;> omega
omit h in
theorem rd.right {n : Int} (hn : n = f.Glyphs.length) {l : List Int} (h : rd n l) : lj f l = true := by
 have hpos := List.length_pos_iff.2 h.ne
 have hat : ∀ i, i < l.length → km f (l.getD i 0) = true := fun i hi => rF (by rw [← hn]; exact h.dom _ (t8 hi 0))
 unfold lj
 rw [Bool.and_eq_true, Bool.and_eq_true, Bool.and_eq_true]
 refine ⟨decide_eq_true hpos, decide_eq_true fun i hi => ?_, hat 0 hpos, hat _ (by omega)⟩
 have := List.pairwise_iff_getElem.1 h.up i (i + 1) (by omega) (by omega) (by omega)
 rw [List.getD_eq_getElem?_getD, List.getD_eq_getElem?_getD, Ee (show i < l.length by omega), Ee (show i + 1 < l.length by omega)]
 exact this
omit h in
theorem lE.right {kind : Int} {calls : List Int} {r : bX} (h : lE f.Glyphs.length kind calls r) (hc : ∀ c ∈ calls, ∃ (i : Nat) (x : ba), c = i ∧ f.Lookups[i]? = some x ∧ 1 ≤ x.Kind ∧ x.Kind ≤ 4) : jh f kind r = 0 := by
 unfold jh
 rw [dT]
 intro x hx
 simp only [List.mem_cons, List.not_mem_nil, or_false] at hx
 rcases hx with rfl | rfl | rfl | rfl | rfl | rfl | rfl
 ·have h1 := h.back.1
  have h2 := h.ahead.1
  have h3 := h.ins.1
  show kY kind r = 0
  unfold kY
  rw [if_neg (by omega)]
  exact dZ h.rows
 ·rw [fx fun i q hq => ?_]
  have hq := Gx hq
  have hs : rd f.Glyphs.length q := by
   rcases Gl hq with hq | hq
   ·exact h.back.2 q hq
   ·rcases Gl hq with hq | hq
    ·exact h.ins.2 q hq
    ·exact h.ahead.2 q hq
  exact dZ (by rw [hs.right rfl]; rfl)
 ·exact dZ (by rw [h.out]; rfl)
 ·rw [fx fun i q hq => ?_]
  exact dZ (by rw [rF (h.outs.2 q (Gx hq))]; rfl)
 ·show k5 f kind r = 0
  have h1 := h.callsN
  unfold k5
  rw [if_neg (by omega), if_neg, fx fun i c hi => ?_]
  ·have hcm := Gx hi
   obtain ⟨h2, h3⟩ := h.callsIn c hcm
   obtain ⟨j, x, h4, h5, h6, h7⟩ := hc _ h3
   have hj := (Gn h5).1
   unfold sK
   rw [if_neg (by omega), if_neg (by omega)]
   refine dZ (decide_eq_false ?_)
   unfold pj
   rw [h4, show ((j : Int)).toNat = j by omega, h5]
   dsimp only
   omega
  ·rintro ⟨h2, h3⟩
   rw [h.callsK h3] at h2
   simp at h2
 ·have := h.x
  exact dZ (by simp [gw (show -16384 ≤ r.X ∧ r.X ≤ 16384 by omega)])
 ·exact dZ (decide_eq_false fun hh => hh.1 (h.x0 hh.2))
theorem eN.lookups : cr 40 f.Lookups (kJ f) = (0, 0) := by
 have hl := h.looks
 refine ee (by have := hl.len; omega) fun i l hi => ?_
 have hm := Gx hi
 have hk := hl.kinds l hm
 unfold kJ kK
 rw [if_neg (by omega), dT]
 intro x hx
 simp only [List.mem_cons, List.not_mem_nil, or_false] at hx
 rcases hx with rfl | rfl | rfl
 ·exact dZ (decide_eq_false (by have := hl.few l hm; omega))
 ·show oI l = 0
  unfold oI
  by_cases h7 : 7 ≤ l.Kind
  ·rw [hl.none l hm h7]; exact dZ (by simp)
  ·exact dZ (by simp; omega)
 ·rw [fx fun j r hr => ?_]
  obtain ⟨calls, h1, h2⟩ := hl.rule l hm r (Gx hr)
  refine h1.right fun c hc => ?_
  obtain ⟨i, x, h3, h4, h5⟩ := h2 c hc
  exact ⟨i, x, h3, h4, (hl.kinds x (Gx h4)).1, h5⟩
omit h in
theorem kq : ∀ s ∈ dU, fi s = true ∧ s.size ≤ 8 := by decide
omit h in
theorem tz : dU.Nodup := by decide
theorem eN.features : cr 20 f.Features (jA f) = (0, 0) := by
 have hlen := h.featN.length_le
 simp only [Gu, dU, List.length_cons, List.length_nil] at hlen
 refine ee (by omega) fun i t hi => ?_
 have hm := Gx hi
 obtain ⟨h1, h2, h3⟩ := h.featL t hm
 have hn : t.Name ∈ dU := h.featN.subset (List.mem_map_of_mem hm)
 have hfa : k6 (fi t.Name) (jL (kz f) i t.Name) = 0 := by
  rw [(kq _ hn).1, show jL (kz f) i t.Name = false from pZ (h.featN.nodup tz) (by rw [List.getElem?_map, hi]; rfl)]
  rfl
 unfold jA
 rw [hfa]
 unfold sV
 rw [if_neg (by simp), fx fun j z hj => ?_]
 have hz := h3 z (Gx hj)
 refine dZ ?_
 rw [Bool.or_eq_false_iff]
 refine ⟨decide_eq_false (by omega), ?_⟩
 unfold tj
 cases j with
 | zero => rfl
 | succ j =>
  dsimp only
  cases hb : t.Lookups[j]? with
  | none => rfl
  | some b =>
   dsimp only
   obtain ⟨k1, k2⟩ := Gn hb
   obtain ⟨k3, k4⟩ := Gn hj
   have := List.pairwise_iff_getElem.1 h1 j (j + 1) k1 k3 (by omega)
   rw [k2, k4] at this
   exact decide_eq_false (by omega)
omit h in
theorem oQ : ((List.range 2).map (iv rk)).Nodup ∧ ∀ n < 2, g9 (iv rk n) = true := by decide
theorem eN.axesR : cr 3 f.Axes (jv f) = (0, 0) := by
 have hlen := h.axes
 refine ee (by omega) fun i a hi => ?_
 have hil := (Gn hi).1
 obtain ⟨h1, h2, h3, h4⟩ := h.axis a (Gx hi)
 have hn : (ie f)[i]? = some a.Name := by unfold ie; rw [List.getElem?_map, hi]; rfl
 have hn2 : a.Name = iv rk i := by
  have := hn
  unfold ie at this
  rw [h.axisN, List.getElem?_map, List.getElem?_range hil] at this
  exact (Option.some.inj this).symm
 have hfa : k6 (g9 a.Name) (jL (ie f) i a.Name) = 0 := by
  rw [pZ ?_ hn, hn2, oQ.2 i (by omega)]
  ·rfl
  ·unfold ie
   rw [h.axisN]
   refine List.Nodup.sublist ?_ oQ.1
   exact (List.range_sublist.2 hlen).map _
 unfold jv
 rw [hfa]
 unfold sF
 rw [if_neg (by simp)]
 refine dZ ?_
 have : [a.Min, a.Def, a.Max].all ga = true := by
  simp [gw (show -16384 ≤ a.Min ∧ a.Min ≤ 16384 by omega), gw (show -16384 ≤ a.Def ∧ a.Def ≤ 16384 by omega), gw (show -16384 ≤ a.Max ∧ a.Max ≤ 16384 by omega)]
 rw [decide_eq_true (⟨this, by omega, by omega⟩ : _ ∧ _ ∧ _)]
 rfl
theorem eN.regions : cr 16 f.Regions (ni f) = (0, 0) := by
 refine ee (by have := h.regs; omega) fun i r hi => ?_
 obtain ⟨h1, h2⟩ := h.reg r (Gx hi)
 unfold ni xC
 rw [if_neg (by omega), fx fun j t ht => ?_]
 exact h2 t (Gx ht)
omit h in
theorem pK : eV.Pairwise (· < ·) ∧ ∀ z ∈ eV, 0 ≤ z ∧ z ≤ 1114111 := by decide
theorem eN.charsR : cr 1000 f.Chars (i3 f) = (0, 0) := by
 refine ee (by have := h.chars; omega) fun i c hi => ?_
 have hm := Gx hi
 have hr := pK.2 _ (h.charR.subset (List.mem_map_of_mem hm))
 unfold i3 sM
 rw [if_neg (by omega), if_neg (by rw [rF (h.charG c hm)]; simp)]
 refine dZ ?_
 unfold vS
 cases i with
 | zero => rfl
 | succ j =>
  dsimp only
  cases hb : f.Chars[j]? with
  | none => rfl
  | some b =>
   dsimp only
   have hp := List.Pairwise.sublist h.charR pK.1
   rw [List.pairwise_map] at hp
   obtain ⟨k1, k2⟩ := Gn hb
   obtain ⟨k3, k4⟩ := Gn hi
   have := List.pairwise_iff_getElem.1 hp j (j + 1) k1 k3 (by omega)
   rw [k2, k4] at this
   exact decide_eq_false (by omega)
theorem eN.right : (kR f).1 = 0 := by
 have hu := h.unit
 have hn := h.glyN
 unfold kR
 rw [dT]
 intro x hx
 simp only [zb, List.mem_cons, List.not_mem_nil, or_false] at hx
 rcases hx with rfl | rfl | rfl | rfl | rfl | rfl | rfl | rfl | rfl | rfl
 ·show lY f = 0
  unfold lY
  rw [if_neg (by omega), if_neg (by omega)]
 ·rw [h.glyphs]
 ·rw [h.comp]
 ·rw [h.charsR]
 ·rw [h.lookups]
 ·rw [h.features]
 ·rw [h.axesR]
 ·rw [h.regions]
 ·rw [ee (by have := h.funcs; omega) fun i c hi => ?_]
  exact (h.func c (Gx hi)).prog (by omega)
 ·rw [ee (by have := h.cvt; omega) fun i z hi => ?_]
  have := h.cvtM z (Gx hi)
  exact dZ (by simp [gw (show -16384 ≤ z ∧ z ≤ 16384 by omega)])
omit h in
theorem eO.sets {n : Int} {k : Nat} {l : List (List Int)} (h : eO n k l) : pN l ≤ k * 5 := by
 unfold pN
 refine Nat.le_trans (lw (k := 5) fun q hq => ?_) (Nat.mul_le_mul_right _ h.1)
 have := (h.2 q hq).few
 omega
theorem eN.size : kT f ≤ 1950 := by
 have hg : (f.Glyphs.map n6).sum ≤ 10 * 95 := by
  refine Nat.le_trans (lw (k := 95) fun g hg => ?_) (Nat.mul_le_mul_right _ h.glyN.2)
  obtain ⟨i, hi⟩ := List.mem_iff_getElem?.1 hg
  have h1 := h.del hi
  have h2 := h.gly i g hi
  have h3 := h2.hint.1
  have h4 : g.Parts.length ≤ 1 := by
   rcases h2.parts with e | ⟨_, x, y, e, _⟩
   ·rw [e]; simp
   ·rw [e]; simp
  obtain ⟨cl, _, han⟩ := h2.anch
  have h5 := han.sub.length_le
  simp only [Gu, f6, List.length_cons, List.length_nil] at h5
  have h6 : g.Name.size ≤ 16 := by rw [h2.name]; exact (pe i (by have := (Gn hi).1; have := h.glyN; omega)).2
  unfold n6
  omega
 have hl : (f.Lookups.map fun l => lq l.Rules).sum ≤ 6 * 126 := by
  refine Nat.le_trans (lw (k := 126) fun l hl => ?_) (Nat.mul_le_mul_right _ h.looks.len)
  have h1 := h.looks.few l hl
  have : (l.Rules.map nX).sum ≤ 3 * 41 := by
   refine Nat.le_trans (lw (k := 41) fun r hr => ?_) (Nat.mul_le_mul_right _ h1)
   obtain ⟨calls, h2, _⟩ := h.looks.rule l hl r hr
   have h3 := h2.back.sets
   have h4 := h2.ahead.sets
   have h5 := h2.ins.sets
   have h6 := h2.outs.1
   have h7 := h2.callsN
   unfold nX
   omega
  unfold lq
  omega
 have hf : (f.Funcs.map (·.length)).sum ≤ 2 * 45 := Nat.le_trans (lw (k := 45) fun c hc => (h.func c hc).1) (Nat.mul_le_mul_right _ h.funcs)
 have hfl := h.featN.length_le
 simp only [Gu, dU, List.length_cons, List.length_nil] at hfl
 have ht : (f.Features.map Go.Proofs.YtjjpkibjffmceaaGreat.featN).sum ≤ 8 * 6 := by
  refine Nat.le_trans (lw (k := 6) fun t ht => ?_) (Nat.mul_le_mul_right _ hfl)
  have h1 := (h.featL t ht).2.1
  have h2 := (kq _ (h.featN.subset (List.mem_map_of_mem ht))).2
  unfold Go.Proofs.YtjjpkibjffmceaaGreat.featN
  omega
 have hr : (f.Regions.map (·.length)).sum ≤ 3 * 2 := Nat.le_trans (lw (k := 2) fun r hr => by rw [(h.reg r hr).1]; exact h.axes) (Nat.mul_le_mul_right _ h.regs)
 have := h.glyN
 have := h.chars
 have := h.looks.len
 have := h.axes
 have := h.regs
 have := h.funcs
 have := h.cvt
 unfold kT
 omega
theorem eN.small : er f := Nat.le_trans h.size (by decide)
end Go.Proofs.YtjjpkibjffmceaaGreat
namespace Go.Proofs.YtjjpkibjffmceaaGreat
open Go.RowKit
attribute [local irreducible] AT bV AX AO Av Kt bC eH DA dl
theorem kP {l : List Int} {z n : Int} (hl : l.length ≤ 1000) (h : eG l z = some n) : NB n := by
 unfold eG at h
 split at h
 ·rename_i hz
  cases h
  have := List.idxOf_lt_length_of_mem hz
  exact ⟨by omega, by omega⟩
 ·cases h
theorem rd.rpr {n : Int} {l : List Int} (h : rd n l) (hn : n ≤ 1000) : yb l := ⟨by have := h.few; omega, fun z hz => by have := h.dom z hz; exact ⟨by omega, by omega⟩⟩
theorem eO.rspr {n : Int} {k : Nat} {l : List (List Int)} (h : eO n k l) (hn : n ≤ 1000) (hk : k ≤ 16) : oD l := ⟨by have := h.1; omega, fun q hq => (h.2 q hq).rpr hn⟩
theorem lE.rupr {n kind : Int} {calls : List Int} {r : bX} (h : lE n kind calls r) (hn : n ≤ 1000) (hc : ∀ c ∈ calls, NB c) : o8 r where
 back := h.back.rspr hn (by omega)
 ins := h.ins.rspr hn (by omega)
 ahead := h.ahead.rspr hn (by omega)
 out := ⟨by have := h.outs.1; omega, fun z hz => by have := h.outs.2 z hz; exact ⟨by omega, by omega⟩⟩
 calls := ⟨by have := h.callsN; omega, fun c hcm => ⟨by have := (h.callsIn c hcm).1; have := h.ins.1; exact ⟨by omega, by omega⟩, hc _ (h.callsIn c hcm).2⟩⟩
 x := by have := h.x; exact ⟨by omega, by omega⟩
theorem gq.cpr {k : Nat} {l : List ew} (h : gq k l) (hk : k ≤ 50) : Ed l := ⟨by have := h.1; omega, fun x hx => by
 have := h.2 x hx
 unfold iI at this
 exact ⟨⟨by omega, by omega⟩, ⟨by omega, by omega⟩⟩⟩
theorem uK {n : Nat} (h : n < 10) : (cL n).size ≤ 50 := by have := (pe n h).2; omega
theorem sG : ∀ n < 2, (iv rk n).size ≤ 50 := by decide
theorem qI (n : Int) (hn : n ≤ 1000) : ∀ (l : List Int) (last : Int), -1 ≤ last → fg n last l = true → ∀ z ∈ l, NB z
 | [], _, _, _, z, hz => by cases hz
 | e :: r, last, hl, h, z, hz => by
  rw [fg] at h
  split at h
  ·cases h
  ·rename_i hc
   rcases List.mem_cons.1 hz with rfl | hz
   ·exact ⟨by omega, by omega⟩
   ·exact qI n hn r e (by omega) h z hz
section
variable {f : aI} (h : eN f)
include h
theorem eN.gpr {g : bo} (hg : g ∈ f.Glyphs) : sm g := by
 obtain ⟨i, hi⟩ := List.mem_iff_getElem?.1 hg
 have k := h.gly i g hi
 have hd := h.del hi
 have hN := h.glyN
 have hil : i < f.Glyphs.length := (Gn hi).1
 obtain ⟨c, hc, ho⟩ := k.out
 obtain ⟨cl, hcl, ha⟩ := k.anch
 refine ⟨by rw [k.name]; exact uK (by omega), by have := k.adv; exact ⟨by omega, by omega⟩, ⟨by omega, fun p hp => ?_⟩, ?_, ?_, ⟨?_, fun p hp => ?_⟩, ⟨by omega, fun p hp => ?_⟩, k.hint.cpr (by omega)⟩
 ·have := ho.pts p hp
  unfold tK at this
  exact ⟨⟨by omega, by omega⟩, ⟨by omega, by omega⟩⟩
 ·have he := ho.endl
  dsimp only at he
  have hk := qI (g.Points.length) (by omega) g.Ends (-1) (by omega) ho.ends
  exact ⟨by omega, hk⟩
 ·rcases k.parts with e | ⟨_, x, y, e, hx, hy⟩
  ·rw [e]; exact ⟨Nat.zero_le _, fun p hp => by cases hp⟩
  ·rw [e]
   exact ⟨by simp, fun p hp => by rw [Gk hp]; exact ⟨⟨by dsimp only; omega, by dsimp only; omega⟩, ⟨by dsimp only; omega, by dsimp only; omega⟩, ⟨by dsimp only; omega, by dsimp only; omega⟩⟩⟩
 ·have := ha.sub.length_le
  simp [f6] at this
  omega
 ·have hp' := ha.at' p hp
  have hm : jT p ∈ f6 cl := ha.sub.subset (List.mem_map_of_mem hp)
  have hb : ∀ q ∈ f6 cl, (0 ≤ q.1 ∧ q.1 ≤ 4) ∧ 0 ≤ q.2 ∧ q.2 ≤ 1 := by
   intro q hq
   simp only [f6, List.mem_cons, List.not_mem_nil, or_false] at hq
   rcases hq with rfl | rfl | rfl | rfl | rfl <;> simp <;> omega
  have := hb _ hm
  unfold jT at this
  dsimp only at this
  exact ⟨⟨by omega, by omega⟩, ⟨by omega, by omega⟩, ⟨by omega, by omega⟩, ⟨by omega, by omega⟩⟩
 ·have := k.dels.dom p hp
  have := h.regs
  exact ⟨⟨by omega, by omega⟩, ⟨by omega, by omega⟩, ⟨by omega, by omega⟩, ⟨by omega, by omega⟩⟩
theorem eN.fpr : mE f := by
 have hN := h.glyN
 refine ⟨by have := h.unit; exact ⟨by omega, by omega⟩, ⟨by omega, fun g hg => h.gpr hg⟩, ⟨by have := h.chars; omega, fun c hc => ⟨?_, by have := h.charG c hc; exact ⟨by omega, by omega⟩⟩⟩, ⟨by have := h.looks.len; omega, fun l hl => ⟨by have := h.looks.kinds l hl; exact ⟨by omega, by omega⟩, by have := h.looks.few l hl; omega, fun r hr => ?_⟩⟩, ⟨?_, fun t ht => ⟨?_, ?_⟩⟩, ⟨by have := h.axes; omega, fun a ha => ⟨?_, ?_⟩⟩, ⟨by have := h.regs; omega, fun r hr => ⟨by have := (h.reg r hr).1; have := h.axes; omega, fun t ht => ?_⟩⟩, ⟨by have := h.funcs; omega, fun c hc => (h.func c hc).cpr (by omega)⟩, ⟨by have := h.cvt; omega, fun z hz => by have := h.cvtM z hz; exact ⟨by omega, by omega⟩⟩⟩
 ·have := pK.2 _ (h.charR.subset (List.mem_map_of_mem hc))
  exact ⟨by omega, by omega⟩
 ·obtain ⟨calls, hr', hc⟩ := h.looks.rule l hl r hr
  refine hr'.rupr (by omega) fun c hcm => ?_
  obtain ⟨i, x, rfl, hx, _⟩ := hc c hcm
  have := (Gn hx).1
  have := h.looks.len
  exact ⟨by omega, by omega⟩
 ·have := h.featN.length_le
  simp [dU] at this
  omega
 ·have := (kq _ (h.featN.subset (List.mem_map_of_mem ht))).2
  omega
 ·obtain ⟨_, h2, h3⟩ := h.featL t ht
  exact ⟨by omega, fun z hz => by have := h3 z hz; have := h.looks.len; exact ⟨by omega, by omega⟩⟩
 ·have hm : a.Name ∈ f.Axes.map eo.Name := List.mem_map_of_mem ha
  rw [h.axisN] at hm
  obtain ⟨i, hi, e⟩ := List.mem_map.1 hm
  rw [← e]
  exact sG i (by have := h.axes; have := List.mem_range.1 hi; omega)
 ·obtain ⟨h1, h2, h3⟩ := h.axis a ha
  exact ⟨⟨by omega, by omega⟩, ⟨by omega, by omega⟩, ⟨by omega, by omega⟩⟩
 ·have ht' := (h.reg r hr).2 t ht
  unfold ly q8 ek at ht'
  have : -64 ≤ t.Start ∧ t.Start ≤ t.Peak ∧ t.Peak ≤ t.End ∧ t.End ≤ 64 := by
   by_cases hc : -64 ≤ t.Start ∧ t.Start ≤ t.Peak ∧ t.Peak ≤ t.End ∧ t.End ≤ 64
   ·exact hc
   ·rw [decide_eq_true (.inl hc)] at ht'
    cases ht'
  exact ⟨⟨by omega, by omega⟩, ⟨by omega, by omega⟩, ⟨by omega, by omega⟩⟩
end
theorem vN {α β : Type} {w v : α → Option β} {l : List α} (h : ∀ x ∈ l, w x = v x) : l.filterMap w = l.filterMap v := by
 induction l with
 | nil => rfl
 | cons a r ih => rw [List.filterMap_cons, List.filterMap_cons, h a (List.mem_cons_self ..), ih fun x hx => h x (Gt _ hx)]
theorem kc {α β : Type} {w : α → Option β} {l : List α} {y : β} (h : y ∈ l.filterMap w) : ∃ x ∈ l, w x = some y := List.mem_filterMap.1 h
theorem uA {l G : List Int} {w : Int → Option Int} (hl : l.length ≤ 16) (hw : ∀ z n, w z = some n → NB n) : yb (l.filterMap w) := ⟨Nat.le_trans (List.length_filterMap_le ..) hl, fun z hz => by
 obtain ⟨x, _, hx⟩ := kc hz
 exact hw x z hx⟩
theorem sP {f : aI} {G : List Int} {ig : Bool} {z n : Int} (h : dX f G ig z = some n) : eG G z = some n := by
 unfold dX at h
 split at h
 ·cases h
 ·exact h
theorem lb {f : aI} {G : List Int} {ig : Bool} {l : List (List Int)} (h : oD l) (hG : G.length ≤ 1000) : oD (cZ f G ig l) := ⟨by unfold cZ; rw [Gu]; exact h.1, fun q hq => by
 obtain ⟨s, hs, rfl⟩ := List.mem_map.1 hq
 exact uA (G := G) (h.2 s hs).1 fun z n hz => kP hG (sP hz)⟩
theorem ut {f : aI} {G K : List Int} {l : ba} {r q : bX} (hr : o8 r) (hG : G.length ≤ 1000) (hK : K.length ≤ 1000) (h : fX f G K l r = some q) : o8 q := by
 unfold fX at h
 split at h
 ·cases h
 ·cases h
  refine ⟨lb hr.back hG, lb hr.ins hG, lb hr.ahead hG, uA (G := G) ?_ fun z n hz => kP hG hz, ⟨Nat.le_trans (List.length_filterMap_le ..) hr.calls.1, fun c hc => ?_⟩, hr.x⟩
  ·unfold fK
   split
   ·rw [Gu]
    refine Nat.le_trans (List.length_filter_le ..) ?_
    rw [List.length_zip]
    have := hr.out.1
    omega
   ·exact hr.out.1
  ·obtain ⟨x, hx, e⟩ := kc hc
   unfold kF at e
   obtain ⟨n, hn, rfl⟩ := Option.map_eq_some_iff.1 e
   exact ⟨(hr.calls.2 x hx).1, kP hK hn⟩
theorem Bm {f : aI} {rs : List Int} {fs : List ByteArray} {G K : List Int} (h : mE f) (hG : G.length ≤ f.Glyphs.length) (hK : K.length ≤ f.Lookups.length) : mE (oY f rs fs G K) := by
 have hg := h.glyphs.1
 have hl := h.looks.1
 refine ⟨h.unit, ⟨Nat.le_trans (List.length_filterMap_le ..) (by omega), fun g hgm => ?_⟩, ⟨Nat.le_trans (List.length_filterMap_le ..) h.chars.1, fun c hc => ?_⟩, ⟨Nat.le_trans (List.length_filterMap_le ..) (by omega), fun l hlm => ?_⟩, ⟨Nat.le_trans (List.length_filterMap_le ..) h.feats.1, fun t ht => ?_⟩, h.axes, h.regs, h.funcs, h.cvt⟩
 ·obtain ⟨n, _, e⟩ := kc hgm
  obtain ⟨x, hx, rfl⟩ := Option.map_eq_some_iff.1 e
  have k := h.glyphs.2 x (Gx hx)
  refine ⟨k.name, k.adv, k.pts, k.ends, ⟨Nat.le_trans (List.length_filterMap_le ..) k.parts.1, fun p hp => ?_⟩, k.anchors, k.deltas, k.hint⟩
  obtain ⟨y, hy, e⟩ := kc hp
  unfold lP at e
  obtain ⟨n, hn, rfl⟩ := Option.map_eq_some_iff.1 e
  have := k.parts.2 y hy
  exact ⟨kP (by omega) hn, this.2⟩
 ·obtain ⟨y, hy, e⟩ := kc hc
  unfold gA at e
  split at e
  ·obtain ⟨n, hn, rfl⟩ := Option.map_eq_some_iff.1 e
   exact ⟨(h.chars.2 y hy).1, kP (by omega) hn⟩
  ·cases e
 ·obtain ⟨n, _, e⟩ := kc hlm
  obtain ⟨x, hx, rfl⟩ := Option.map_eq_some_iff.1 e
  have k := h.looks.2 x (Gx hx)
  refine ⟨k.kind, Nat.le_trans (List.length_filterMap_le ..) k.rules.1, fun r hr => ?_⟩
  obtain ⟨y, hy, e⟩ := kc hr
  exact ut (k.rules.2 y hy) (by omega) (by omega) e
 ·obtain ⟨y, hy, e⟩ := kc ht
  unfold eQ at e
  split at e
  ·cases e
   have k := h.feats.2 y hy
   exact ⟨k.1, uA (G := K) k.2.1 fun z n hz => kP (by omega) hz⟩
  ·cases e
theorem f4.cut {f : aI} {rs rt : List Int} {fs ft : List ByteArray} (h : f4 f rs rt fs ft) (G K : List Int) : oY f rs fs G K = oY f rt ft G K := by
 unfold oY
 have h1 : f.Chars.filterMap (gA G rs) = f.Chars.filterMap (gA G rt) := vN fun c hc => by
  unfold gA
  by_cases hr : c.Rune ∈ rs
  ·rw [if_pos hr, if_pos ((h.runes c hc).1 hr)]
  ·rw [if_neg hr, if_neg fun k => hr ((h.runes c hc).2 k)]
 have h2 : f.Features.filterMap (eQ K fs) = f.Features.filterMap (eQ K ft) := vN fun t ht => by
  unfold eQ
  rw [h.names t ht]
 rw [h1, h2]
end Go.Proofs.YtjjpkibjffmceaaGreat
