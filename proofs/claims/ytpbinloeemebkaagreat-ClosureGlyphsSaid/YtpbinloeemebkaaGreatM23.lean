/-
  What is right by the document: a lookup.
-/
import Derived.Test.YtpbinloeemebkaaGreatM22
namespace Go.Proofs.YtpbinloeemebkaaGreat
open Go.RowKit
attribute [local irreducible] AT bN AX AO Av Kt bi dE DA d6
theorem lw {α : Type} {l : List α} {w : Nat → α → Int} {p : α → Prop} (h : ∀ i x, w i x = 0 ↔ p x) : (cC l w).1 = 0 ↔ ∀ x ∈ l, p x := by
 rw [dm]
 constructor
 ·intro k x hx
  obtain ⟨i, hi⟩ := List.mem_iff_getElem?.1 hx
  exact (h i x).1 (k i x hi)
 ·intro k i x hi
  exact (h i x).2 (k x (List.mem_of_getElem? hi))
theorem l8 (f : aH) (kind : Int) (r : bJ) : ff f kind r = 0 ↔ iN kind r = 0 ∧ (∀ l ∈ fQ r, ez f l = true) ∧ (hY kind r = true ∧ (∀ n ∈ r.Out, eG f n = true) ∧ eP f kind r = 0 ∧ cx r.X = true ∧ xE kind r = 0) := by
 unfold ff
 rw [cn]
 simp only [List.mem_cons, List.not_mem_nil, or_false, forall_eq_or_imp, forall_eq]
 rw [lw (p := fun l => ez f l = true) fun i x => by unfold sD; rw [cO (by omega), Bool.not_eq_false'], lw (p := fun n => eG f n = true) fun i x => by unfold sr; rw [cO (by omega), Bool.not_eq_false'], cO (by omega), cO (by omega), Bool.not_eq_false', Bool.not_eq_false']
 simp only [List.all_cons, List.all_nil, Bool.and_true]
theorem sf (f : aH) (l : bC) : eL f l = 0 ↔ (1 ≤ l.Kind ∧ l.Kind ≤ 8) ∧ l.Rules.length ≤ 60 ∧ ¬ (l.Rules.length > 0 ∧ l.Kind ≥ 7) ∧ ∀ r ∈ l.Rules, ff f l.Kind r = 0 := by
 unfold eL
 by_cases h : l.Kind < 1 ∨ l.Kind > 8
 ·rw [if_pos h]
  exact ⟨fun k => absurd k (by omega), fun k => by omega⟩
 rw [if_neg h, cn]
 simp only [List.mem_cons, List.not_mem_nil, or_false, forall_eq_or_imp, forall_eq]
 unfold oD
 rw [lw (p := fun r => ff f l.Kind r = 0) fun i x => Iff.rfl, cO (by omega), cO (by omega), decide_eq_false_iff_not, Bool.and_eq_false_iff, decide_eq_false_iff_not, decide_eq_false_iff_not]
 constructor
 ·rintro ⟨h1, h2, h3⟩
  exact ⟨by omega, by omega, by omega, h3⟩
 ·rintro ⟨h1, h2, h3, h4⟩
  exact ⟨by omega, by omega, h4⟩
set_option maxHeartbeats 8000000 in
theorem uw (f : aH) (hs : ck f) (n : Nat) (l : bC) (hg : f.Lookups[n]? = some l) : vi 197 [bw f, aQ n] (eL f l = 0) := by
 refine aU Tryz.func197 rfl Tryz.ntmps197 rfl fun B => ?_
 rw [sf]
 have hml : (f.Lookups.map bq).length = f.Lookups.length := List.length_map ..
 have hrl : (l.Rules.map ca).length = l.Rules.length := List.length_map ..
 have hn : n < f.Lookups.length := (List.getElem?_eq_some_iff.1 hg).1
 have hgg := b5 (c := bq) hg
 have hlm := List.mem_of_getElem? hg
 have hL := hs.lookups
 have hR := hs.rulesL hlm
 (repeat' (first|refine ah ?_|refine a6 ?_|refine a8 ?_|refine aa ?_|refine ae a7 rfl rfl ?_|refine aw rfl rfl ?_|refine b6 ?_|fail))
 refine av rfl (fun h => absurd (of_decide_eq_true h) (by rw [hml]; omega)) (fun h => ?_)
 clear h
 (repeat' (first|refine ah ?_|refine a6 ?_|refine ak ?_|refine a8 ?_|refine aa ?_|refine ae a7 rfl rfl ?_|(apply aP; first|refine aO a7 ?_|refine aI a7 ?_)|(apply aT; first|refine ai 5 a7 0 rfl rfl rfl rfl rfl rfl rfl rfl ?_|refine ai 5 a7 1 rfl rfl rfl rfl rfl rfl rfl rfl ?_|refine ai 5 a7 2 rfl rfl rfl rfl rfl rfl rfl rfl ?_|refine aj a7 0 rfl rfl rfl rfl rfl rfl rfl ?_|refine aj a7 1 rfl rfl rfl rfl rfl rfl rfl ?_|refine aj a7 2 rfl rfl rfl rfl rfl rfl rfl ?_|refine aj a7 3 rfl rfl rfl rfl rfl rfl rfl ?_|fail)|refine bb a7 fun _=>?_|fail))
 refine bv (t := 29) [2, 5] (l.Kind < 1 ∨ l.Kind > 8) rfl (fun Q' K => ?_) ?_
 ·(repeat' (first|refine aa ?_|refine ae a7 rfl rfl ?_|refine aw rfl rfl ?_|refine aD rfl rfl rfl rfl ?_|refine aS rfl rfl rfl (fun _ => ?_) (fun _ => ?_)|fail))
  all_goals exact K _ _ rfl rfl (by clear K; simp_all <;> omega)
 (repeat' (first|refine a8 ?_|fail))
 refine av rfl (fun h => ?_) (fun h => ?_)
 ·have h := of_decide_eq_true h
  (repeat' (first|refine ah ?_|refine a6 ?_|refine au ?_|refine a8 ?_|refine ar ?_|refine aa ?_|refine ae a7 rfl rfl ?_|fail))
  exact aB rfl rfl ⟨rfl, 42, rfl, bF (by omega) fun k => by omega⟩
 have hk := of_decide_eq_false h
 clear h
 (repeat' (first|refine ah ?_|refine a6 ?_|refine ak ?_|refine a8 ?_|refine aa ?_|refine ae a7 rfl rfl ?_|fail))
 refine av rfl (fun h => ?_) (fun h => ?_)
 ·have h := of_decide_eq_true h
  (repeat' (first|refine ah ?_|refine a6 ?_|refine au ?_|refine a8 ?_|refine ar ?_|refine aa ?_|refine ae a7 rfl rfl ?_|fail))
  exact aB rfl rfl ⟨rfl, 2, rfl, bF (by omega) fun k => by omega⟩
 have h60 := of_decide_eq_false h
 clear h
 (repeat' (first|refine ah ?_|refine a6 ?_|refine ak ?_|refine a8 ?_|refine ae a7 rfl rfl ?_|fail))
 refine bv (t := 42) [2, 5] (l.Rules.length > 0 ∧ l.Kind ≥ 7) rfl (fun Q' K => ?_) ?_
 ·(repeat' (first|refine aa ?_|refine ae a7 rfl rfl ?_|refine aw rfl rfl ?_|refine aD rfl rfl rfl rfl ?_|refine aS rfl rfl rfl (fun _ => ?_) (fun _ => ?_)|fail))
  all_goals exact K _ _ rfl rfl (by clear K; simp_all <;> omega)
 (repeat' (first|refine a8 ?_|fail))
 refine av rfl (fun h => ?_) (fun h => ?_)
 ·have h := of_decide_eq_true h
  (repeat' (first|refine ah ?_|refine a6 ?_|refine au ?_|refine a8 ?_|refine ar ?_|refine aa ?_|refine ae a7 rfl rfl ?_|fail))
  exact aB rfl rfl ⟨rfl, 40, rfl, bF (by omega) fun k => k.2.2.1 h⟩
 have h7 := of_decide_eq_false h
 clear h
 (repeat' (first|refine ah ?_|refine a6 ?_|refine am ?_|refine ak ?_|refine a8 ?_|refine aa ?_|refine ae a7 rfl rfl ?_|fail))
 refine aL [2, 5] (α := Nat) (fun i => [(6, aQ i)]) (fun i => i ≤ l.Rules.length ∧ ∀ r ∈ l.Rules.take i, ff f l.Kind r = 0) (fun _ => []) (fun i => l.Rules.length - i) 0 rfl ⟨rfl, trivial⟩ ⟨Nat.zero_le _, fun x hx => by cases hx⟩ (fun _ _ h => h) ?_
 rintro i ⟨hi, ha⟩
 try dsimp only [List.cons_append, List.nil_append, List.map_cons, List.map_nil]
 (repeat' (first|refine ah ?_|refine a6 ?_|refine a8 ?_|refine aa ?_|refine ae a7 rfl rfl ?_|fail))
 refine av rfl (fun h => ?_) (fun h => ?_)
 ·have hil : i < l.Rules.length := by have := of_decide_eq_true h; omega
  obtain ⟨x, hx⟩ : ∃ z, l.Rules[i]? = some z := ⟨_, List.getElem?_eq_getElem hil⟩
  have hxg := b5 (c := ca) hx
  have hxm := List.mem_of_getElem? hx
  (repeat' (first|refine ah ?_|refine am ?_|refine ak ?_|refine a8 ?_|fail))
  refine bj 7 [(0, .v), (1, .v), (2, .v), (3, .v), (4, .v), (5, .v), (6, .v)] none ?_ trivial rfl (by kernel_rfl) (by kernel_rfl) (by kernel_rfl) mixed (by kernel_rfl) rfl
  (repeat' (first|refine aN ?_|refine bf a7 ?_|(apply bs;refine bH a7 ?_)|fail))
  refine bl [2, 5, 6, 51, 56] rfl rfl ?_
  (repeat' (first|fail))
  refine aZ [] [] (yw l.Kind x) rfl rfl (List.Perm.refl _) rfl fun c L1 ⟨hL, e1, hc, he1⟩ => ?_
  subst hc; subst hL
  rw [List.append_nil]
  (repeat' (first|refine ah ?_|refine a6 ?_|refine a8 ?_|refine aa ?_|refine ae a7 rfl rfl ?_|fail))
  have hno : ¬ ff f l.Kind x = 0 → ¬ ((1 ≤ l.Kind ∧ l.Kind ≤ 8) ∧ l.Rules.length ≤ 60 ∧ ¬ (l.Rules.length > 0 ∧ l.Kind ≥ 7) ∧ ∀ r ∈ l.Rules, ff f l.Kind r = 0) := fun h k => h (k.2.2.2 x hxm)
  refine av rfl (fun h1 => ?_) (fun h1 => ?_)
  ·have h1 := of_decide_eq_true h1
   have hrow := he1.1 h1
   have hin : x.In ≠ [] := by
    intro e
    have := ((ra _ _).1 hrow).2
    exact this (.inl (by rw [e]; rfl))
   have hsum := hs.ruleSets hlm hxm
   have hsum : x.Back.length + x.In.length + x.Ahead.length ≤ 1000000 := by
    unfold eB at hsum
    simp only [List.map_cons, List.map_nil, List.sum_cons, List.sum_nil] at hsum
    omega
   have hout := hs.out hlm hxm
   have hcal := hs.calls hlm hxm
   (repeat' (first|fail))
   refine bj 6 [(0, .v), (1, .v), (2, .v), (3, .v), (4, .v), (5, .v)] none ?_ trivial rfl (by kernel_rfl) (by kernel_rfl) (by kernel_rfl) mixed (by kernel_rfl) rfl
   (repeat' (first|refine aN ?_|refine bf a7 ?_|(apply bs;refine bH a7 ?_)|fail))
   refine bl [2, 5, 6, 60, 65] rfl rfl ?_
   (repeat' (first|fail))
   refine aZ [] [] (yA f x hsum) rfl rfl (List.Perm.refl _) rfl fun c L1 ⟨hL, e2, hc, he2⟩ => ?_
   subst hc; subst hL
   rw [List.append_nil]
   (repeat' (first|refine ah ?_|refine a6 ?_|refine a8 ?_|refine aa ?_|refine ae a7 rfl rfl ?_|fail))
   refine av rfl (fun h2 => ?_) (fun h2 => ?_)
   ·have h2 := of_decide_eq_true h2
    (repeat' (first|fail))
    refine bj 8 [(0, .v), (1, .v), (2, .v), (3, .v), (4, .v), (5, .v), (6, .v), (7, .v)] none ?_ trivial rfl (by kernel_rfl) (by kernel_rfl) (by kernel_rfl) mixed (by kernel_rfl) rfl
    (repeat' (first|refine aN ?_|refine bf a7 ?_|(apply bs;refine bH a7 ?_)|fail))
    refine bl [2, 5, 6, 69, 71, 76] rfl rfl ?_
    (repeat' (first|fail))
    refine aZ [] [] (yo f l.Kind x hin (by omega) (by omega)) rfl rfl (List.Perm.refl _) rfl fun c L1 ⟨hL, e3, hc, he3⟩ => ?_
    subst hc; subst hL
    rw [List.append_nil]
    (repeat' (first|refine ah ?_|refine a6 ?_|refine a8 ?_|refine aa ?_|refine ae a7 rfl rfl ?_|fail))
    refine av rfl (fun h3 => ?_) (fun h3 => ?_)
    ·have h3 : ¬ e3 = 0 := by simpa using h3
     (repeat' (first|refine ah ?_|refine a6 ?_|refine au ?_|refine a8 ?_|refine ar ?_|refine aG ?_|refine aK ?_|refine aa ?_|refine ae a7 rfl rfl ?_|fail))
     exact aB rfl rfl ⟨rfl, e3, rfl, bF h3 (hno fun k => h3 (he3.2 ((l8 f l.Kind x).1 k).2.2))⟩
    have h3 : e3 = 0 := by simpa using h3
    (repeat' (first|refine a6 ?_|refine ak ?_|refine a8 ?_|refine aJ ?_|refine aa ?_|refine ae a7 rfl rfl ?_|(apply aX; refine aW ?_)|fail))
    exact aE (i + 1) rfl ⟨by rw [Int.natCast_add]; rfl, trivial⟩ ⟨by omega, cN hx ha ((l8 f l.Kind x).2 ⟨hrow, he2.1 h2, he3.1 h3⟩)⟩ (by omega) (fun _ _ h => h)
   have h2 := of_decide_eq_false h2
   (repeat' (first|refine ah ?_|refine a6 ?_|refine ak ?_|refine a8 ?_|refine aa ?_|refine ae a7 rfl rfl ?_|fail))
   refine av rfl (fun h3 => ?_) (fun h3 => ?_)
   ·(repeat' (first|refine ah ?_|refine a6 ?_|refine au ?_|refine a8 ?_|refine ar ?_|refine aG ?_|refine aK ?_|refine aa ?_|refine ae a7 rfl rfl ?_|fail))
    exact aB rfl rfl ⟨rfl, e2, rfl, bF h2 (hno fun k => h2 (he2.2 ((l8 f l.Kind x).1 k).2.1))⟩
   exact absurd (by simpa using h3) h2
  have h1 := of_decide_eq_false h1
  (repeat' (first|refine ah ?_|refine a6 ?_|refine ak ?_|refine a8 ?_|refine aa ?_|refine ae a7 rfl rfl ?_|fail))
  refine av rfl (fun h3 => absurd (by simpa using h3) h1) (fun h3 => ?_)
  (repeat' (first|refine ah ?_|refine a6 ?_|refine ak ?_|refine a8 ?_|refine aa ?_|refine ae a7 rfl rfl ?_|fail))
  refine av rfl (fun h3 => ?_) (fun h3 => ?_)
  ·(repeat' (first|refine ah ?_|refine a6 ?_|refine au ?_|refine a8 ?_|refine ar ?_|refine aG ?_|refine aK ?_|refine aa ?_|refine ae a7 rfl rfl ?_|fail))
   exact aB rfl rfl ⟨rfl, e1, rfl, bF h1 (hno fun k => h1 (he1.2 ((l8 f l.Kind x).1 k).1))⟩
  exact absurd (by simpa using h3) h1
 have hil : i = l.Rules.length := by have := of_decide_eq_false h; omega
 subst hil
 rw [List.take_length] at ha
 (repeat' (first|refine ah ?_|refine a6 ?_|refine au ?_|refine aR ?_|refine a8 ?_|refine az ?_|refine aC ?_|refine aA ?_|refine aa ?_|refine ae a7 rfl rfl ?_|fail))
 exact aB rfl rfl ⟨rfl, 0, rfl, ⟨fun _ => ⟨by omega, by omega, h7, ha⟩, fun _ => rfl⟩⟩
end Go.Proofs.YtpbinloeemebkaaGreat

namespace Go.Proofs.YtpbinloeemebkaaGreat
open Go.RowKit
attribute [local irreducible] AT bN AX AO Av Kt bi dE DA d6
theorem w3 {f : aH} {n : Nat} {t : bA} (hg : f.Features[n]? = some t) : ek f n t = 0 ↔ cD t.Name = true ∧ (∀ y ∈ f.Features.take n, ¬ y.Name = t.Name) ∧ ∀ i l, t.Lookups[i]? = some l → fC f t i l = 0 := by
 have ht : eg (fw f) n t.Name = false ↔ ∀ y ∈ f.Features.take n, ¬ y.Name = t.Name := by
  rw [← Bool.not_eq_true, lR (by unfold fw; rw [List.getElem?_map, hg]; rfl)]
  unfold fw
  rw [← List.map_take]
  constructor
  ·intro h y hy e
   exact h (List.mem_map.2 ⟨y, hy, e⟩)
  ·intro h hm
   obtain ⟨y, hy, e⟩ := List.mem_map.1 hm
   exact h y hy e
 have hfa : ge (cD t.Name) (eg (fw f) n t.Name) = 0 ↔ cD t.Name = true ∧ eg (fw f) n t.Name = false := by
  unfold ge
  cases cD t.Name <;> cases eg (fw f) n t.Name <;> simp
 unfold ek qw
 split
 ·rename_i h
  exact ⟨fun k => absurd k h, fun k => absurd (hfa.2 ⟨k.1, ht.2 k.2.1⟩) h⟩
 ·rename_i h
  have h := hfa.1 (Classical.not_not.1 h)
  rw [dm]
  exact ⟨fun k => ⟨h.1, ht.1 h.2, k⟩, fun k => k.2.2⟩
set_option maxHeartbeats 8000000 in
theorem y3 (f : aH) (hs : ck f) (n : Nat) (t : bA) (hg : f.Features[n]? = some t) : vi 198 [bw f, aQ n] (ek f n t = 0) := by
 refine aU Tryz.func198 rfl Tryz.ntmps198 rfl fun B => ?_
 rw [w3 hg]
 have hml : (f.Features.map bS).length = f.Features.length := List.length_map ..
 have hLl : (f.Lookups.map bq).length = f.Lookups.length := List.length_map ..
 have hn : n < f.Features.length := (List.getElem?_eq_some_iff.1 hg).1
 have hgg := b5 (c := bS) hg
 have hF := hs.features
 have hli := aM t.Lookups
 have hlb : t.Lookups.length ≤ 2000 := by
  have := l9 (g := fun t : bA => t.Lookups.length) (List.mem_of_getElem? hg)
  have := hs.feats
  omega
 (repeat' (first|refine ah ?_|refine a6 ?_|refine a8 ?_|refine aa ?_|refine ae a7 rfl rfl ?_|refine aw rfl rfl ?_|refine b6 ?_|fail))
 refine av rfl (fun h => absurd (of_decide_eq_true h) (by rw [hml]; omega)) (fun h => ?_)
 clear h
 (repeat' (first|refine ah ?_|refine a6 ?_|refine ak ?_|refine a8 ?_|refine aa ?_|refine ae a7 rfl rfl ?_|(apply aP; first|refine aO a7 ?_|refine aI a7 ?_)|(apply aT; first|refine ai 5 a7 0 rfl rfl rfl rfl rfl rfl rfl rfl ?_|refine ai 5 a7 1 rfl rfl rfl rfl rfl rfl rfl rfl ?_|refine ai 5 a7 2 rfl rfl rfl rfl rfl rfl rfl rfl ?_|refine aj a7 0 rfl rfl rfl rfl rfl rfl rfl ?_|refine aj a7 1 rfl rfl rfl rfl rfl rfl rfl ?_|refine aj a7 2 rfl rfl rfl rfl rfl rfl rfl ?_|refine aj a7 3 rfl rfl rfl rfl rfl rfl rfl ?_|fail)|refine bb a7 fun _=>?_|fail))
 refine bv (t := 33) [1, 2, 5] (¬ (1 ≤ t.Name.size ∧ t.Name.size ≤ 8)) rfl (fun Q' K => ?_) ?_
 ·(repeat' (first|refine aa ?_|refine ae a7 rfl rfl ?_|refine aw rfl rfl ?_|refine aD rfl rfl rfl rfl ?_|refine aS rfl rfl rfl (fun _ => ?_) (fun _ => ?_)|fail))
  all_goals exact K _ _ rfl rfl (by clear K; simp_all <;> omega)
 (repeat' (first|refine a8 ?_|fail))
 refine av rfl (fun h => ?_) (fun h => ?_)
 ·have h := of_decide_eq_true h
  (repeat' (first|refine ah ?_|refine a6 ?_|refine au ?_|refine a8 ?_|refine ar ?_|refine aa ?_|refine ae a7 rfl rfl ?_|fail))
  exact aB rfl rfl ⟨rfl, 23, rfl, bF (by omega) fun k => by have := k.1; unfold cD at this; rw [decide_eq_false h] at this; cases this⟩
 have hsz := Decidable.not_not.1 (of_decide_eq_false h)
 clear h
 (repeat' (first|refine ah ?_|refine a6 ?_|refine am ?_|refine ak ?_|refine a8 ?_|refine aa ?_|refine ae a7 rfl rfl ?_|fail))
 refine aL [1, 2, 5] (α := Nat) (fun i => [(6, aQ i)]) (fun i => i ≤ t.Name.size ∧ ∀ j, j < i → gT (iU t.Name j) = true) (fun _ => []) (fun i => t.Name.size - i) 0 rfl ⟨rfl, trivial⟩ ⟨Nat.zero_le _, fun j hj => absurd hj (Nat.not_lt_zero _)⟩ (fun _ _ h => h) ?_
 rintro i hi
 try dsimp only [List.cons_append, List.nil_append, List.map_cons, List.map_nil]
 (repeat' (first|refine ah ?_|refine a6 ?_|refine a8 ?_|refine aa ?_|refine ae a7 rfl rfl ?_|fail))
 refine av rfl (fun h => ?_) (fun h => ?_)
 ·have hil : i < t.Name.size := by have := of_decide_eq_true h; omega
  obtain ⟨c, hc⟩ := mK hil
  have hb := ij hc
  (repeat' (first|refine ah ?_|refine a6 ?_|refine am ?_|refine ak ?_|refine a8 ?_|refine ae a7 rfl rfl ?_|fail))
  refine mH a7 rfl rfl rfl rfl (by omega) (by rw [Int.toNat_natCast]; exact hc) rfl ?_
  generalize (c.toNat : Int) = z at *
  (repeat' (first|refine ah ?_|refine a6 ?_|refine a8 ?_|refine aa ?_|refine ae a7 rfl rfl ?_|fail))
  refine bv (t := 58) [1, 2, 5, 6] (gT z = false) rfl (fun Q' K => ?_) ?_
  ·clear hi hb hc h
   (repeat' (first|refine aa ?_|refine ae a7 rfl rfl ?_|refine aw rfl rfl ?_|refine aD rfl rfl rfl rfl ?_|refine bT rfl rfl rfl ?_|refine aS rfl rfl rfl (fun _ => ?_) (fun _ => ?_)|fail))
   all_goals exact K _ _ rfl rfl (by clear K; unfold gT; simp_all <;> omega)
  (repeat' (first|refine a8 ?_|fail))
  refine av rfl (fun h2 => ?_) (fun h2 => ?_)
  ·have h2 := of_decide_eq_true h2
   (repeat' (first|refine ah ?_|refine a6 ?_|refine au ?_|refine a8 ?_|refine ar ?_|refine aG ?_|refine aK ?_|refine aa ?_|refine ae a7 rfl rfl ?_|fail))
   refine aB rfl rfl ⟨rfl, 23, rfl, bF (by omega) fun k => ?_⟩
   have := k.1
   unfold cD at this
   rw [gD hil (by rw [hb]; exact h2), Bool.and_false] at this
   cases this
  ·have h2 := of_decide_eq_false h2
   (repeat' (first|refine a6 ?_|refine ak ?_|refine a8 ?_|refine aJ ?_|refine aa ?_|refine ae a7 rfl rfl ?_|(apply aX; refine aW ?_)|fail))
   refine aE (i + 1) rfl ⟨by rw [Int.natCast_add]; rfl, trivial⟩ ⟨by omega, fun j hj => ?_⟩ (by omega) (fun _ _ h => h)
   by_cases e : j = i
   ·subst e; rw [hb]; simpa using h2
   ·exact hi.2 j (by omega)
 have hil : i = t.Name.size := by have := of_decide_eq_false h; omega
 subst hil
 have hlet : cD t.Name = true := by unfold cD; rw [decide_eq_true hsz, gN.2 hi.2]; rfl
 clear h hi
 (repeat' (first|refine ah ?_|refine a6 ?_|refine am ?_|refine aR ?_|refine a8 ?_|refine az ?_|refine aC ?_|refine aA ?_|refine aa ?_|refine ae a7 rfl rfl ?_|fail))
 refine aL [1, 2, 5] (α := Nat) (fun i => [(8, aQ i)]) (fun i => i ≤ n ∧ ∀ y ∈ f.Features.take i, ¬ y.Name = t.Name) (fun _ => []) (fun i => n - i) 0 rfl ⟨rfl, trivial⟩ ⟨Nat.zero_le _, fun x hx => by cases hx⟩ (fun _ _ h => h) ?_
 rintro i ⟨hi, ha⟩
 try dsimp only [List.cons_append, List.nil_append, List.map_cons, List.map_nil]
 (repeat' (first|refine ah ?_|refine a6 ?_|refine a8 ?_|refine aa ?_|refine ae a7 rfl rfl ?_|fail))
 refine av rfl (fun h => ?_) (fun h => ?_)
 ·have hil : i < n := by have := of_decide_eq_true h; omega
  obtain ⟨y, hy⟩ : ∃ z, f.Features[i]? = some z := ⟨_, List.getElem?_eq_getElem (by omega)⟩
  have hyg := b5 (c := bS) hy
  (repeat' (first|refine ah ?_|refine am ?_|refine ak ?_|refine a8 ?_|fail))
  refine bj 8 [(0, .v), (1, .v), (2, .v), (3, .v), (4, .v), (5, .v), (6, .v), (7, .v)] none ?_ trivial rfl (by kernel_rfl) (by kernel_rfl) (by kernel_rfl) mixed (by kernel_rfl) rfl
  (repeat' (first|refine aN ?_|refine bf a7 ?_|(apply bs;refine bH a7 ?_)|fail))
  refine bl [1, 2, 5, 8, 69, 71] rfl rfl ?_
  (repeat' (first|refine a8 ?_|refine aa ?_|refine ae a7 rfl rfl ?_|fail))
  refine av rfl (fun h2 => ?_) (fun h2 => ?_)
  ·have h2 := of_decide_eq_true h2
   (repeat' (first|refine ah ?_|refine a6 ?_|refine au ?_|refine a8 ?_|refine ar ?_|refine aG ?_|refine aK ?_|refine aa ?_|refine ae a7 rfl rfl ?_|fail))
   exact aB rfl rfl ⟨rfl, 24, rfl, bF (by omega) fun k => k.2.1 y (List.mem_of_getElem? (by rw [List.getElem?_take, if_pos hil]; exact hy)) h2⟩
  have h2 := of_decide_eq_false h2
  (repeat' (first|refine a6 ?_|refine ak ?_|refine a8 ?_|refine aJ ?_|refine aa ?_|refine ae a7 rfl rfl ?_|(apply aX; refine aW ?_)|fail))
  exact aE (i + 1) rfl ⟨by rw [Int.natCast_add]; rfl, trivial⟩ ⟨by omega, cN hy ha h2⟩ (by omega) (fun _ _ h => h)
 have hil : i = n := by have := of_decide_eq_false h; omega
 subst hil
 clear h
 (repeat' (first|refine ah ?_|refine a6 ?_|refine am ?_|refine aR ?_|refine a8 ?_|refine az ?_|refine aC ?_|refine aA ?_|refine aa ?_|refine ae a7 rfl rfl ?_|fail))
 refine aL [2, 5] (α := Nat) (fun i => [(9, aQ i)]) (fun k => k ≤ t.Lookups.length ∧ ∀ j y, j < k → t.Lookups[j]? = some y → fC f t j y = 0) (fun _ => []) (fun k => t.Lookups.length - k) 0 rfl ⟨rfl, trivial⟩ ⟨Nat.zero_le _, fun j y hj => absurd hj (Nat.not_lt_zero _)⟩ (fun _ _ h => h) ?_
 rintro k ⟨hk, hb⟩
 try dsimp only [List.cons_append, List.nil_append, List.map_cons, List.map_nil]
 (repeat' (first|refine ah ?_|refine a6 ?_|refine a8 ?_|refine aa ?_|refine ae a7 rfl rfl ?_|fail))
 refine av rfl (fun h => ?_) (fun h => ?_)
 ·have hkl : k < t.Lookups.length := by have := of_decide_eq_true h; omega
  obtain ⟨x, hx⟩ : ∃ z, t.Lookups[k]? = some z := ⟨_, List.getElem?_eq_getElem hkl⟩
  have hxg := bk hx
  have hno : ¬ fC f t k x = 0 → ¬ (cD t.Name = true ∧ (∀ y ∈ f.Features.take i, ¬ y.Name = t.Name) ∧ ∀ i l, t.Lookups[i]? = some l → fC f t i l = 0) := fun h q => h (q.2.2 k x hx)
  have hE : fC f t k x = 0 ↔ (decide (x < 0 ∨ x ≥ f.Lookups.length) || oT t k x) = false := by unfold fC; rw [cO (by omega)]
  (repeat' (first|refine ah ?_|refine am ?_|refine ak ?_|refine a8 ?_|fail))
  refine bj 35 [(0, .v), (1, .v), (2, .v), (3, .v), (4, .v), (5, .v), (6, .v), (7, .v), (8, .v), (9, .v), (10, .v), (11, .v), (12, .v), (13, .v), (14, .v), (15, .v), (16, .v), (17, .v), (18, .v), (19, .v), (20, .v), (21, .v), (22, .v), (23, .v), (24, .v), (25, .v), (26, .v), (27, .v), (28, .v), (29, .v), (30, .v), (31, .v), (32, .v), (33, .v), (34, .v)] none ?_ trivial rfl (by kernel_rfl) (by kernel_rfl) (by kernel_rfl) mixed (by kernel_rfl) rfl
  (repeat' (first|refine aN ?_|refine bf a7 ?_|(apply bs;refine bH a7 ?_)|fail))
  by_cases h1 : x < 0
  ·rw [decide_eq_true h1]
   (repeat' (first|refine aN ?_|refine bf a7 ?_|refine f3 rfl rfl ?_|refine oK rfl ?_|fail))
   refine bl [2, 5, 9, 114] rfl rfl ?_
   (repeat' (first|refine ah ?_|refine a6 ?_|refine au ?_|refine a8 ?_|refine ar ?_|refine aG ?_|refine aK ?_|refine aa ?_|refine ae a7 rfl rfl ?_|refine bI rfl ?_|fail))
   exact aB rfl rfl ⟨rfl, 43, rfl, bF (by omega) (hno fun e => by rw [hE, decide_eq_true (.inl h1)] at e; cases e)⟩
  rw [decide_eq_false h1]
  (repeat' (first|refine aN ?_|refine bf a7 ?_|(apply bs;refine bH a7 ?_)|fail))
  by_cases h2 : ((f.Lookups.map bq).length : Int) ≤ x
  ·rw [decide_eq_true h2]
   (repeat' (first|refine aN ?_|refine bf a7 ?_|refine f3 rfl rfl ?_|refine oK rfl ?_|fail))
   refine bl [2, 5, 9, 114] rfl rfl ?_
   (repeat' (first|refine ah ?_|refine a6 ?_|refine au ?_|refine a8 ?_|refine ar ?_|refine aG ?_|refine aK ?_|refine aa ?_|refine ae a7 rfl rfl ?_|refine bI rfl ?_|fail))
   exact aB rfl rfl ⟨rfl, 43, rfl, bF (by omega) (hno fun e => by rw [hE, decide_eq_true (.inr (by omega))] at e; cases e)⟩
  rw [decide_eq_false h2]
  rw [decide_eq_false (by omega), Bool.false_or] at hE
  (repeat' (first|refine aN ?_|refine bf a7 ?_|fail))
  by_cases h4 : (0 : Int) < k
  ·rw [decide_eq_true h4]
   obtain ⟨j, rfl⟩ : ∃ j, k = j + 1 := ⟨k - 1, by omega⟩
   obtain ⟨y, hy⟩ : ∃ z, t.Lookups[j]? = some z := ⟨_, List.getElem?_eq_getElem (by omega)⟩
   have hyg := bk hy
   have hdl : oT t (j + 1) x = decide (x ≤ y) := by show (match t.Lookups[j]? with | some b => decide (x ≤ b) | none => false) = _; rw [hy]
   have hj1 : ((j + 1 : Nat) : Int) - 1 = (j : Int) := by omega
   rw [hdl] at hE
   (repeat' (first|refine aN ?_|refine bf a7 ?_|(apply ey;refine fH ?_)|(apply bs;refine bH a7 ?_)|fail))
   rw [hj1]
   (repeat' (first|refine aN ?_|refine bf a7 ?_|(apply bs;refine bH a7 ?_)|fail))
   refine bl [2, 5, 9, 114] rfl rfl ?_
   (repeat' (first|refine a8 ?_|refine aa ?_|fail))
   refine av rfl (fun h7 => ?_) (fun h7 => ?_)
   ·have h7 := of_decide_eq_true h7
    (repeat' (first|refine ah ?_|refine a6 ?_|refine au ?_|refine a8 ?_|refine ar ?_|refine aG ?_|refine aK ?_|refine aa ?_|refine ae a7 rfl rfl ?_|fail))
    exact aB rfl rfl ⟨rfl, 43, rfl, bF (by omega) (hno fun e => by rw [hE, decide_eq_true h7] at e; cases e)⟩
   have h7 := of_decide_eq_false h7
   (repeat' (first|refine a6 ?_|refine ak ?_|refine a8 ?_|refine aJ ?_|refine aa ?_|refine ae a7 rfl rfl ?_|(apply aX; refine aW ?_)|fail))
   exact aE (j + 1 + 1) rfl ⟨by rw [Int.natCast_add]; rfl, trivial⟩ ⟨by omega, fv hx hb (hE.2 (decide_eq_false h7))⟩ (by omega) (fun _ _ h => h)
  ·rw [decide_eq_false h4]
   (repeat' (first|refine aN ?_|refine bf a7 ?_|refine f3 rfl rfl ?_|fail))
   refine bl [2, 5, 9, 114] rfl rfl ?_
   (repeat' (first|refine a6 ?_|refine ak ?_|refine a8 ?_|refine aJ ?_|refine aa ?_|refine ae a7 rfl rfl ?_|(apply aX; refine aW ?_)|refine bV rfl ?_|fail))
   have hi0 : k = 0 := by omega
   exact aE (k + 1) rfl ⟨by rw [Int.natCast_add]; rfl, trivial⟩ ⟨by omega, fv hx hb (hE.2 (by rw [hi0]; rfl))⟩ (by omega) (fun _ _ h => h)
 have hkl : k = t.Lookups.length := by have := of_decide_eq_false h; omega
 subst hkl
 (repeat' (first|refine ah ?_|refine a6 ?_|refine au ?_|refine aR ?_|refine a8 ?_|refine az ?_|refine aC ?_|refine aA ?_|refine aa ?_|refine ae a7 rfl rfl ?_|fail))
 exact aB rfl rfl ⟨rfl, 0, rfl, ⟨fun _ => ⟨hlet, ha, fun j y hy => hb j y (List.getElem?_eq_some_iff.1 hy).1 hy⟩, fun _ => rfl⟩⟩
end Go.Proofs.YtpbinloeemebkaaGreat

namespace Go.Proofs.YtpbinloeemebkaaGreat
open Go.RowKit
attribute [local irreducible] AT bN AX AO Av Kt bi dE DA d6
def pI (f : aH) : Prop := (f.Lookups.length ≤ 40 ∧ ∀ (i : Nat) (l : bC), f.Lookups[i]? = some l → eL f l = 0) ∧ (f.Features.length ≤ 20 ∧ ∀ (i : Nat) (t : bA), f.Features[i]? = some t → ek f i t = 0)
set_option maxHeartbeats 8000000 in
theorem wv (f : aH) (hs : ck f) : tL 117 [bw f] (pI f) := by
 refine aU Tryz.func117 rfl Tryz.ntmps117 rfl fun B => ?_
 have hml : (f.Features.map bS).length = f.Features.length := List.length_map ..
 have hLl : (f.Lookups.map bq).length = f.Lookups.length := List.length_map ..
 (repeat' (first|refine ah ?_|refine a6 ?_|refine a8 ?_|refine aa ?_|refine ae a7 rfl rfl ?_|refine b6 ?_|refine bb a7 fun _=>?_|fail))
 rename_i rb
 refine av rfl (fun h => ?_) (fun h => ?_)
 ·have h := of_decide_eq_true h
  (repeat' (first|refine ah ?_|refine a6 ?_|refine au ?_|refine a8 ?_|refine ar ?_|refine aa ?_|refine ae a7 rfl rfl ?_|(apply aT; first|refine aj a7 0 rfl rfl rfl rfl rfl rfl rfl ?_|refine aj a7 1 rfl rfl rfl rfl rfl rfl rfl ?_|refine aj a7 2 rfl rfl rfl rfl rfl rfl rfl ?_|refine aj a7 3 rfl rfl rfl rfl rfl rfl rfl ?_|fail)|fail))
  exact bY a7 0 [] rfl rfl rfl rfl rfl (List.nil_sublist _) ⟨rfl, 2, 0, rfl, bF (by omega) fun k => by have := k.1.1; omega⟩
 have hl : f.Lookups.length ≤ 40 := by have := of_decide_eq_false h; omega
 clear h
 (repeat' (first|refine ah ?_|refine a6 ?_|refine am ?_|refine ak ?_|refine a8 ?_|refine aa ?_|refine ae a7 rfl rfl ?_|fail))
 refine aL [1, 2] (α := Nat) (fun i => [(3, aQ i)]) (fun i => i ≤ f.Lookups.length ∧ ∀ j y, j < i → f.Lookups[j]? = some y → eL f y = 0) (fun _ => [(rb, .box [aQ 0, aQ 0] 139)]) (fun i => f.Lookups.length - i) 0 rfl ⟨rfl, trivial⟩ ⟨Nat.zero_le _, fun j y hj => absurd hj (Nat.not_lt_zero _)⟩ (fun _ _ h => h) ?_
 rintro i ⟨hi, ha⟩
 try dsimp only [List.cons_append, List.nil_append, List.map_cons, List.map_nil]
 (repeat' (first|refine ah ?_|refine a6 ?_|refine a8 ?_|refine aa ?_|refine ae a7 rfl rfl ?_|fail))
 refine av rfl (fun h => ?_) (fun h => ?_)
 ·have hil : i < f.Lookups.length := by have := of_decide_eq_true h; omega
  obtain ⟨x, hx⟩ : ∃ z, f.Lookups[i]? = some z := ⟨_, List.getElem?_eq_getElem hil⟩
  (repeat' (first|refine ah ?_|refine a6 ?_|refine am ?_|refine ak ?_|refine a8 ?_|refine ae a7 rfl rfl ?_|fail))
  refine aZ [] [(rb, .box [aQ 0, aQ 0] 139)] (uw f hs i x hx) rfl rfl (List.Perm.refl _) rfl fun c L1 ⟨hL, e, hc, he⟩ => ?_
  subst hc; subst hL
  rw [List.nil_append]
  (repeat' (first|refine ah ?_|refine a6 ?_|refine a8 ?_|refine aa ?_|refine ae a7 rfl rfl ?_|fail))
  refine av rfl (fun h2 => ?_) (fun h2 => ?_)
  ·have h2 : ¬ e = 0 := by simpa using h2
   (repeat' (first|refine ah ?_|refine a6 ?_|refine au ?_|refine a8 ?_|refine ar ?_|refine aG ?_|refine aK ?_|refine aa ?_|refine ae a7 rfl rfl ?_|(apply aT; first|refine aj a7 0 rfl rfl rfl rfl rfl rfl rfl ?_|refine aj a7 1 rfl rfl rfl rfl rfl rfl rfl ?_|refine aj a7 2 rfl rfl rfl rfl rfl rfl rfl ?_|refine aj a7 3 rfl rfl rfl rfl rfl rfl rfl ?_|fail)|fail))
   exact bY a7 0 [] rfl rfl rfl rfl rfl (List.nil_sublist _) ⟨rfl, e, i, rfl, bF h2 fun k => h2 (he.2 (k.1.2 i x hx))⟩
  have h2 : e = 0 := by simpa using h2
  (repeat' (first|refine a6 ?_|refine ak ?_|refine a8 ?_|refine aJ ?_|refine aa ?_|refine ae a7 rfl rfl ?_|(apply aX; refine aW ?_)|fail))
  exact aE (i + 1) rfl ⟨by rw [Int.natCast_add]; rfl, trivial⟩ ⟨by omega, fv (w := fun _ y => eL f y) hx ha (he.1 h2)⟩ (by omega) (fun _ _ h => h)
 have hil : i = f.Lookups.length := by have := of_decide_eq_false h; omega
 subst hil
 clear h hi
 (repeat' (first|refine ah ?_|refine a6 ?_|refine aR ?_|refine a8 ?_|refine az ?_|refine aC ?_|refine aA ?_|refine aa ?_|refine ae a7 rfl rfl ?_|fail))
 refine av rfl (fun h => ?_) (fun h => ?_)
 ·have h := of_decide_eq_true h
  (repeat' (first|refine ah ?_|refine a6 ?_|refine au ?_|refine a8 ?_|refine ar ?_|refine aa ?_|refine ae a7 rfl rfl ?_|(apply aT; first|refine aj a7 0 rfl rfl rfl rfl rfl rfl rfl ?_|refine aj a7 1 rfl rfl rfl rfl rfl rfl rfl ?_|refine aj a7 2 rfl rfl rfl rfl rfl rfl rfl ?_|refine aj a7 3 rfl rfl rfl rfl rfl rfl rfl ?_|fail)|fail))
  exact bY a7 0 [] rfl rfl rfl rfl rfl (List.nil_sublist _) ⟨rfl, 2, 0, rfl, bF (by omega) fun k => by have := k.2.1; omega⟩
 have hf : f.Features.length ≤ 20 := by have := of_decide_eq_false h; omega
 clear h
 (repeat' (first|refine ah ?_|refine a6 ?_|refine am ?_|refine ak ?_|refine a8 ?_|refine aa ?_|refine ae a7 rfl rfl ?_|fail))
 refine aL [1, 2] (α := Nat) (fun i => [(5, aQ i)]) (fun i => i ≤ f.Features.length ∧ ∀ j y, j < i → f.Features[j]? = some y → ek f j y = 0) (fun _ => [(rb, .box [aQ 0, aQ 0] 139)]) (fun i => f.Features.length - i) 0 rfl ⟨rfl, trivial⟩ ⟨Nat.zero_le _, fun j y hj => absurd hj (Nat.not_lt_zero _)⟩ (fun _ _ h => h) ?_
 rintro i ⟨hi, hb⟩
 try dsimp only [List.cons_append, List.nil_append, List.map_cons, List.map_nil]
 (repeat' (first|refine ah ?_|refine a6 ?_|refine a8 ?_|refine aa ?_|refine ae a7 rfl rfl ?_|fail))
 refine av rfl (fun h => ?_) (fun h => ?_)
 ·have hil : i < f.Features.length := by have := of_decide_eq_true h; omega
  obtain ⟨x, hx⟩ : ∃ z, f.Features[i]? = some z := ⟨_, List.getElem?_eq_getElem hil⟩
  (repeat' (first|refine ah ?_|refine a6 ?_|refine am ?_|refine ak ?_|refine a8 ?_|refine ae a7 rfl rfl ?_|fail))
  refine aZ [] [(rb, .box [aQ 0, aQ 0] 139)] (y3 f hs i x hx) rfl rfl (List.Perm.refl _) rfl fun c L1 ⟨hL, e, hc, he⟩ => ?_
  subst hc; subst hL
  rw [List.nil_append]
  (repeat' (first|refine ah ?_|refine a6 ?_|refine a8 ?_|refine aa ?_|refine ae a7 rfl rfl ?_|fail))
  refine av rfl (fun h2 => ?_) (fun h2 => ?_)
  ·have h2 : ¬ e = 0 := by simpa using h2
   (repeat' (first|refine ah ?_|refine a6 ?_|refine au ?_|refine a8 ?_|refine ar ?_|refine aG ?_|refine aK ?_|refine aa ?_|refine ae a7 rfl rfl ?_|(apply aT; first|refine aj a7 0 rfl rfl rfl rfl rfl rfl rfl ?_|refine aj a7 1 rfl rfl rfl rfl rfl rfl rfl ?_|refine aj a7 2 rfl rfl rfl rfl rfl rfl rfl ?_|refine aj a7 3 rfl rfl rfl rfl rfl rfl rfl ?_|fail)|fail))
   exact bY a7 0 [] rfl rfl rfl rfl rfl (List.nil_sublist _) ⟨rfl, e, i, rfl, bF h2 fun k => h2 (he.2 (k.2.2 i x hx))⟩
  have h2 : e = 0 := by simpa using h2
  (repeat' (first|refine a6 ?_|refine ak ?_|refine a8 ?_|refine aJ ?_|refine aa ?_|refine ae a7 rfl rfl ?_|(apply aX; refine aW ?_)|fail))
  exact aE (i + 1) rfl ⟨by rw [Int.natCast_add]; rfl, trivial⟩ ⟨by omega, fv hx hb (he.1 h2)⟩ (by omega) (fun _ _ h => h)
 have hil : i = f.Features.length := by have := of_decide_eq_false h; omega
 subst hil
 (repeat' (first|refine ah ?_|refine a6 ?_|refine au ?_|refine aR ?_|refine a8 ?_|refine az ?_|refine aC ?_|refine aA ?_|refine aa ?_|refine ae a7 rfl rfl ?_|(apply aT; first|refine aj a7 0 rfl rfl rfl rfl rfl rfl rfl ?_|refine aj a7 1 rfl rfl rfl rfl rfl rfl rfl ?_|refine aj a7 2 rfl rfl rfl rfl rfl rfl rfl ?_|refine aj a7 3 rfl rfl rfl rfl rfl rfl rfl ?_|fail)|fail))
 exact bY a7 0 [] rfl rfl rfl rfl rfl (List.nil_sublist _) ⟨rfl, 0, 0, rfl, ⟨fun _ => ⟨⟨hl, fun j y hy => ha j y (List.getElem?_eq_some_iff.1 hy).1 hy⟩, hf, fun j y hy => hb j y (List.getElem?_eq_some_iff.1 hy).1 hy⟩, fun _ => rfl⟩⟩
end Go.Proofs.YtpbinloeemebkaaGreat

namespace Go.Proofs.YtpbinloeemebkaaGreat
open Go.RowKit
attribute [local irreducible] AT bN AX AO Av Kt bi dE DA d6
def pT (f : aH) : Prop := (f.Funcs.length ≤ 20 ∧ ∀ l ∈ f.Funcs, iM l = 0) ∧ (f.Cvt.length ≤ 64 ∧ ∀ z ∈ f.Cvt, cx z = true)
set_option maxHeartbeats 8000000 in
theorem wS (f : aH) : tL 119 [bw f] (pT f) := by
 refine aU Tryz.func119 rfl Tryz.ntmps119 rfl fun B => ?_
 have hml : (f.Funcs.map g9).length = f.Funcs.length := List.length_map ..
 have hLl := aM f.Cvt
 (repeat' (first|refine ah ?_|refine a6 ?_|refine a8 ?_|refine aa ?_|refine ae a7 rfl rfl ?_|refine b6 ?_|refine bb a7 fun _=>?_|fail))
 rename_i rb
 refine av rfl (fun h => ?_) (fun h => ?_)
 ·have h := of_decide_eq_true h
  (repeat' (first|refine ah ?_|refine a6 ?_|refine au ?_|refine a8 ?_|refine ar ?_|refine aa ?_|refine ae a7 rfl rfl ?_|(apply aT; first|refine aj a7 0 rfl rfl rfl rfl rfl rfl rfl ?_|refine aj a7 1 rfl rfl rfl rfl rfl rfl rfl ?_|refine aj a7 2 rfl rfl rfl rfl rfl rfl rfl ?_|refine aj a7 3 rfl rfl rfl rfl rfl rfl rfl ?_|fail)|fail))
  exact bY a7 0 [] rfl rfl rfl rfl rfl (List.nil_sublist _) ⟨rfl, 2, 0, rfl, bF (by omega) fun k => by have := k.1.1; omega⟩
 have hl : f.Funcs.length ≤ 20 := by have := of_decide_eq_false h; omega
 clear h
 (repeat' (first|refine ah ?_|refine a6 ?_|refine am ?_|refine ak ?_|refine a8 ?_|refine aa ?_|refine ae a7 rfl rfl ?_|fail))
 refine aL [1, 2] (α := Nat) (fun i => [(3, aQ i)]) (fun i => i ≤ f.Funcs.length ∧ ∀ l ∈ f.Funcs.take i, iM l = 0) (fun _ => [(rb, .box [aQ 0, aQ 0] 139)]) (fun i => f.Funcs.length - i) 0 rfl ⟨rfl, trivial⟩ ⟨Nat.zero_le _, fun x hx => by cases hx⟩ (fun _ _ h => h) ?_
 rintro i ⟨hi, ha⟩
 try dsimp only [List.cons_append, List.nil_append, List.map_cons, List.map_nil]
 (repeat' (first|refine ah ?_|refine a6 ?_|refine a8 ?_|refine aa ?_|refine ae a7 rfl rfl ?_|fail))
 refine av rfl (fun h => ?_) (fun h => ?_)
 ·have hil : i < f.Funcs.length := by have := of_decide_eq_true h; omega
  obtain ⟨x, hx⟩ : ∃ z, f.Funcs[i]? = some z := ⟨_, List.getElem?_eq_getElem hil⟩
  have hxg := b5 (c := g9) hx
  (repeat' (first|refine ah ?_|refine a6 ?_|refine am ?_|refine ak ?_|refine a8 ?_|refine ae a7 rfl rfl ?_|(apply aP; first|refine aO a7 ?_|refine aI a7 ?_)|fail))
  refine aZ [] [(rb, .box [aQ 0, aQ 0] 139)] (wK x) rfl rfl (List.Perm.refl _) rfl fun c L1 ⟨hL, e, hc, he⟩ => ?_
  subst hc; subst hL
  rw [List.nil_append]
  rw [← qO] at he
  (repeat' (first|refine ah ?_|refine a6 ?_|refine a8 ?_|refine aa ?_|refine ae a7 rfl rfl ?_|fail))
  refine av rfl (fun h2 => ?_) (fun h2 => ?_)
  ·have h2 : ¬ e = 0 := by simpa using h2
   (repeat' (first|refine ah ?_|refine a6 ?_|refine au ?_|refine a8 ?_|refine ar ?_|refine aG ?_|refine aK ?_|refine aa ?_|refine ae a7 rfl rfl ?_|(apply aT; first|refine aj a7 0 rfl rfl rfl rfl rfl rfl rfl ?_|refine aj a7 1 rfl rfl rfl rfl rfl rfl rfl ?_|refine aj a7 2 rfl rfl rfl rfl rfl rfl rfl ?_|refine aj a7 3 rfl rfl rfl rfl rfl rfl rfl ?_|fail)|fail))
   exact bY a7 0 [] rfl rfl rfl rfl rfl (List.nil_sublist _) ⟨rfl, e, i, rfl, bF h2 fun k => h2 (he.2 (k.1.2 x (List.mem_of_getElem? hx)))⟩
  have h2 : e = 0 := by simpa using h2
  (repeat' (first|refine a6 ?_|refine ak ?_|refine a8 ?_|refine aJ ?_|refine aa ?_|refine ae a7 rfl rfl ?_|(apply aX; refine aW ?_)|fail))
  exact aE (i + 1) rfl ⟨by rw [Int.natCast_add]; rfl, trivial⟩ ⟨by omega, cN hx ha (he.1 h2)⟩ (by omega) (fun _ _ h => h)
 have hil : i = f.Funcs.length := by have := of_decide_eq_false h; omega
 subst hil
 rw [List.take_length] at ha
 clear h hi
 (repeat' (first|refine ah ?_|refine a6 ?_|refine aR ?_|refine a8 ?_|refine az ?_|refine aC ?_|refine aA ?_|refine aa ?_|refine ae a7 rfl rfl ?_|fail))
 refine av rfl (fun h => ?_) (fun h => ?_)
 ·have h := of_decide_eq_true h
  (repeat' (first|refine ah ?_|refine a6 ?_|refine au ?_|refine a8 ?_|refine ar ?_|refine aa ?_|refine ae a7 rfl rfl ?_|(apply aT; first|refine aj a7 0 rfl rfl rfl rfl rfl rfl rfl ?_|refine aj a7 1 rfl rfl rfl rfl rfl rfl rfl ?_|refine aj a7 2 rfl rfl rfl rfl rfl rfl rfl ?_|refine aj a7 3 rfl rfl rfl rfl rfl rfl rfl ?_|fail)|fail))
  exact bY a7 0 [] rfl rfl rfl rfl rfl (List.nil_sublist _) ⟨rfl, 2, 0, rfl, bF (by omega) fun k => by have := k.2.1; omega⟩
 have hf : f.Cvt.length ≤ 64 := by have := of_decide_eq_false h; omega
 clear h
 (repeat' (first|refine ah ?_|refine a6 ?_|refine am ?_|refine ak ?_|refine a8 ?_|refine aa ?_|refine ae a7 rfl rfl ?_|fail))
 refine aL [1, 2] (α := Nat) (fun i => [(5, aQ i)]) (fun i => i ≤ f.Cvt.length ∧ ∀ z ∈ f.Cvt.take i, cx z = true) (fun _ => [(rb, .box [aQ 0, aQ 0] 139)]) (fun i => f.Cvt.length - i) 0 rfl ⟨rfl, trivial⟩ ⟨Nat.zero_le _, fun x hx => by cases hx⟩ (fun _ _ h => h) ?_
 rintro i ⟨hi, hb⟩
 try dsimp only [List.cons_append, List.nil_append, List.map_cons, List.map_nil]
 (repeat' (first|refine ah ?_|refine a6 ?_|refine a8 ?_|refine aa ?_|refine ae a7 rfl rfl ?_|fail))
 refine av rfl (fun h => ?_) (fun h => ?_)
 ·have hil : i < f.Cvt.length := by have := of_decide_eq_true h; omega
  obtain ⟨x, hx⟩ : ∃ z, f.Cvt[i]? = some z := ⟨_, List.getElem?_eq_getElem hil⟩
  have hxg := bk hx
  (repeat' (first|refine ah ?_|refine a6 ?_|refine am ?_|refine ak ?_|refine a8 ?_|refine aa ?_|refine ae a7 rfl rfl ?_|(apply aP; first|refine aO a7 ?_|refine aI a7 ?_)|(apply ba;refine aY ?_)|fail))
  refine av rfl (fun h2 => ?_) (fun h2 => ?_)
  ·have h2 : cx x = false := by simpa using h2
   (repeat' (first|refine ah ?_|refine a6 ?_|refine au ?_|refine a8 ?_|refine ar ?_|refine aG ?_|refine aK ?_|refine aa ?_|refine ae a7 rfl rfl ?_|(apply aT; first|refine aj a7 0 rfl rfl rfl rfl rfl rfl rfl ?_|refine aj a7 1 rfl rfl rfl rfl rfl rfl rfl ?_|refine aj a7 2 rfl rfl rfl rfl rfl rfl rfl ?_|refine aj a7 3 rfl rfl rfl rfl rfl rfl rfl ?_|fail)|fail))
   exact bY a7 0 [] rfl rfl rfl rfl rfl (List.nil_sublist _) ⟨rfl, 1, i, rfl, bF (by omega) fun k => by rw [k.2.2 x (List.mem_of_getElem? hx)] at h2; cases h2⟩
  have h2 : cx x = true := by simpa using h2
  (repeat' (first|refine a6 ?_|refine ak ?_|refine a8 ?_|refine aJ ?_|refine aa ?_|refine ae a7 rfl rfl ?_|(apply aX; refine aW ?_)|fail))
  exact aE (i + 1) rfl ⟨by rw [Int.natCast_add]; rfl, trivial⟩ ⟨by omega, cN hx hb h2⟩ (by omega) (fun _ _ h => h)
 have hil : i = f.Cvt.length := by have := of_decide_eq_false h; omega
 subst hil
 rw [List.take_length] at hb
 (repeat' (first|refine ah ?_|refine a6 ?_|refine au ?_|refine aR ?_|refine a8 ?_|refine az ?_|refine aC ?_|refine aA ?_|refine aa ?_|refine ae a7 rfl rfl ?_|(apply aT; first|refine aj a7 0 rfl rfl rfl rfl rfl rfl rfl ?_|refine aj a7 1 rfl rfl rfl rfl rfl rfl rfl ?_|refine aj a7 2 rfl rfl rfl rfl rfl rfl rfl ?_|refine aj a7 3 rfl rfl rfl rfl rfl rfl rfl ?_|fail)|fail))
 exact bY a7 0 [] rfl rfl rfl rfl rfl (List.nil_sublist _) ⟨rfl, 0, 0, rfl, ⟨fun _ => ⟨⟨hl, ha⟩, hf, hb⟩, fun _ => rfl⟩⟩
end Go.Proofs.YtpbinloeemebkaaGreat

namespace Go.Proofs.YtpbinloeemebkaaGreat
open Go.RowKit
attribute [local irreducible] AT bN AX AO Av Kt bi dE DA d6
theorem vM {f : aH} {n : Nat} {t : dG} (hg : f.Axes[n]? = some t) : ej f n t = 0 ↔ cJ t.Name = true ∧ (∀ y ∈ f.Axes.take n, ¬ y.Name = t.Name) ∧ (cx t.Min = true ∧ cx t.Max = true ∧ t.Min ≤ t.Def ∧ t.Def ≤ t.Max) := by
 have ht : eg (fg f) n t.Name = false ↔ ∀ y ∈ f.Axes.take n, ¬ y.Name = t.Name := by
  rw [← Bool.not_eq_true, lR (by unfold fg; rw [List.getElem?_map, hg]; rfl)]
  unfold fg
  rw [← List.map_take]
  constructor
  ·intro h y hy e
   exact h (List.mem_map.2 ⟨y, hy, e⟩)
  ·intro h hm
   obtain ⟨y, hy, e⟩ := List.mem_map.1 hm
   exact h y hy e
 have hfa : ge (cJ t.Name) (eg (fg f) n t.Name) = 0 ↔ cJ t.Name = true ∧ eg (fg f) n t.Name = false := by
  unfold ge
  cases cJ t.Name <;> cases eg (fg f) n t.Name <;> simp
 unfold ej qm
 split
 ·rename_i h
  exact ⟨fun k => absurd k h, fun k => absurd (hfa.2 ⟨k.1, ht.2 k.2.1⟩) h⟩
 ·rename_i h
  have h := hfa.1 (Classical.not_not.1 h)
  rw [cO (by omega), Bool.not_eq_false', decide_eq_true_iff]
  simp only [List.all_cons, List.all_nil, Bool.and_true, Bool.and_eq_true]
  constructor
  ·rintro ⟨⟨h1, _, h3⟩, h4, h5⟩
   exact ⟨h.1, ht.1 h.2, h1, h3, h4, h5⟩
  ·rintro ⟨_, _, h1, h3, h4, h5⟩
   refine ⟨⟨h1, ?_, h3⟩, h4, h5⟩
   unfold cx at h1 h3 ⊢
   rw [decide_eq_true_iff] at h1 h3 ⊢
   omega
theorem rq (i : Nat) (t : dB) : ob i t = 0 ↔ i9 t = true := by
 unfold ob i9
 rw [cO (by omega), decide_eq_false_iff_not, decide_eq_true_iff]
 omega
def mW (f : aH) : Prop := (f.Axes.length ≤ 3 ∧ ∀ (i : Nat) (a : dG), f.Axes[i]? = some a → ej f i a = 0) ∧ (f.Regions.length ≤ 16 ∧ ∀ r ∈ f.Regions, r.length = f.Axes.length ∧ ∀ t ∈ r, i9 t = true)
set_option maxHeartbeats 8000000 in
theorem xD (f : aH) (hax : ∀ a ∈ f.Axes, a.Name.size ≤ 140737488355328) : tL 118 [bw f] (mW f) := by
 refine aU Tryz.func118 rfl Tryz.ntmps118 rfl fun B => ?_
 have hml : (f.Axes.map dP).length = f.Axes.length := List.length_map ..
 have hLl : (f.Regions.map cI).length = f.Regions.length := List.length_map ..
 (repeat' (first|refine ah ?_|refine a6 ?_|refine a8 ?_|refine aa ?_|refine ae a7 rfl rfl ?_|refine b6 ?_|refine bb a7 fun _=>?_|fail))
 rename_i rb
 refine av rfl (fun h => ?_) (fun h => ?_)
 ·have h := of_decide_eq_true h
  (repeat' (first|refine ah ?_|refine a6 ?_|refine au ?_|refine a8 ?_|refine ar ?_|refine aa ?_|refine ae a7 rfl rfl ?_|(apply aT; first|refine ai 4 a7 0 rfl rfl rfl rfl rfl rfl rfl rfl ?_|refine ai 4 a7 1 rfl rfl rfl rfl rfl rfl rfl rfl ?_|refine ai 4 a7 2 rfl rfl rfl rfl rfl rfl rfl rfl ?_|refine aj a7 0 rfl rfl rfl rfl rfl rfl rfl ?_|refine aj a7 1 rfl rfl rfl rfl rfl rfl rfl ?_|refine aj a7 2 rfl rfl rfl rfl rfl rfl rfl ?_|refine aj a7 3 rfl rfl rfl rfl rfl rfl rfl ?_|fail)|fail))
  exact bY a7 0 [] rfl rfl rfl rfl rfl (List.nil_sublist _) ⟨rfl, 2, 0, rfl, bF (by omega) fun k => by have := k.1.1; omega⟩
 have hl : f.Axes.length ≤ 3 := by have := of_decide_eq_false h; omega
 clear h
 (repeat' (first|refine ah ?_|refine a6 ?_|refine am ?_|refine ak ?_|refine a8 ?_|refine aa ?_|refine ae a7 rfl rfl ?_|fail))
 refine aL [1, 2] (α := Nat) (fun i => [(3, aQ i)]) (fun i => i ≤ f.Axes.length ∧ ∀ j y, j < i → f.Axes[j]? = some y → ej f j y = 0) (fun _ => [(rb, .box [aQ 0, aQ 0] 139)]) (fun i => f.Axes.length - i) 0 rfl ⟨rfl, trivial⟩ ⟨Nat.zero_le _, fun j y hj => absurd hj (Nat.not_lt_zero _)⟩ (fun _ _ h => h) ?_
 rintro i ⟨hi, ha⟩
 try dsimp only [List.cons_append, List.nil_append, List.map_cons, List.map_nil]
 (repeat' (first|refine ah ?_|refine a6 ?_|refine a8 ?_|refine aa ?_|refine ae a7 rfl rfl ?_|fail))
 refine av rfl (fun h => ?_) (fun h => ?_)
 ·have hil : i < f.Axes.length := by have := of_decide_eq_true h; omega
  obtain ⟨x, hx⟩ : ∃ z, f.Axes[i]? = some z := ⟨_, List.getElem?_eq_getElem hil⟩
  have hxg := b5 (c := dP) hx
  haveI a1 : AD Tryz.prog 199 [ph x.Name] (c8 (cJ x.Name)) := ⟨oX x.Name (hax x (List.mem_of_getElem? hx))⟩
  have hE := vM hx
  have hno : ¬ ej f i x = 0 → ¬ mW f := fun h k => h (k.1.2 i x hx)
  (repeat' (first|refine ah ?_|refine a6 ?_|refine am ?_|refine ak ?_|refine a8 ?_|refine aa ?_|refine ae a7 rfl rfl ?_|(apply aP; first|refine aO a7 ?_|refine aI a7 ?_)|(apply aT; first|refine ai 4 a7 0 rfl rfl rfl rfl rfl rfl rfl rfl ?_|refine ai 4 a7 1 rfl rfl rfl rfl rfl rfl rfl rfl ?_|refine ai 4 a7 2 rfl rfl rfl rfl rfl rfl rfl rfl ?_|refine aj a7 0 rfl rfl rfl rfl rfl rfl rfl ?_|refine aj a7 1 rfl rfl rfl rfl rfl rfl rfl ?_|refine aj a7 2 rfl rfl rfl rfl rfl rfl rfl ?_|refine aj a7 3 rfl rfl rfl rfl rfl rfl rfl ?_|fail)|refine bb a7 fun _=>?_|(apply ba;refine aY ?_)|fail))
  refine av rfl (fun h2 => ?_) (fun h2 => ?_)
  ·have h2 : cJ x.Name = false := by simpa using h2
   (repeat' (first|refine ah ?_|refine a6 ?_|refine au ?_|refine a8 ?_|refine ar ?_|refine aG ?_|refine aK ?_|refine aa ?_|refine ae a7 rfl rfl ?_|(apply aT; first|refine ai 4 a7 0 rfl rfl rfl rfl rfl rfl rfl rfl ?_|refine ai 4 a7 1 rfl rfl rfl rfl rfl rfl rfl rfl ?_|refine ai 4 a7 2 rfl rfl rfl rfl rfl rfl rfl rfl ?_|refine aj a7 0 rfl rfl rfl rfl rfl rfl rfl ?_|refine aj a7 1 rfl rfl rfl rfl rfl rfl rfl ?_|refine aj a7 2 rfl rfl rfl rfl rfl rfl rfl ?_|refine aj a7 3 rfl rfl rfl rfl rfl rfl rfl ?_|fail)|fail))
   exact bY a7 0 [] rfl rfl rfl rfl rfl (List.nil_sublist _) ⟨rfl, 23, i, rfl, bF (by omega) (hno fun k => by rw [(hE.1 k).1] at h2; cases h2)⟩
  have hname : cJ x.Name = true := by simpa using h2
  (repeat' (first|refine ah ?_|refine a6 ?_|refine am ?_|refine ak ?_|refine a8 ?_|refine aa ?_|refine ae a7 rfl rfl ?_|fail))
  refine aL [1, 2, 3, 4] (α := Nat) (fun k => [(6, aQ k)]) (fun k => k ≤ i ∧ ∀ y ∈ f.Axes.take k, ¬ y.Name = x.Name) (fun _ => [(rb, .box [aQ 0, aQ 0] 139)]) (fun k => i - k) 0 rfl ⟨rfl, trivial⟩ ⟨Nat.zero_le _, fun x hx => by cases hx⟩ (fun _ _ h => h) ?_
  clear h
  rintro k ⟨hk, hb⟩
  try dsimp only [List.cons_append, List.nil_append, List.map_cons, List.map_nil]
  (repeat' (first|refine ah ?_|refine a6 ?_|refine a8 ?_|refine aa ?_|refine ae a7 rfl rfl ?_|fail))
  refine av rfl (fun h => ?_) (fun h => ?_)
  ·have hkl : k < i := by have := of_decide_eq_true h; omega
   obtain ⟨y, hy⟩ : ∃ z, f.Axes[k]? = some z := ⟨_, List.getElem?_eq_getElem (by omega)⟩
   have hyg := b5 (c := dP) hy
   (repeat' (first|refine ah ?_|refine am ?_|refine ak ?_|refine a8 ?_|fail))
   refine bj 8 [(0, .v), (1, .v), (2, .v), (3, .v), (4, .v), (5, .v), (6, .v), (7, .v)] none ?_ trivial rfl (by kernel_rfl) (by kernel_rfl) (by kernel_rfl) mixed (by kernel_rfl) rfl
   (repeat' (first|refine aN ?_|refine bf a7 ?_|(apply bs;refine bH a7 ?_)|fail))
   refine bl [1, 2, 3, 4, 6, 46, 48] rfl rfl ?_
   (repeat' (first|refine a8 ?_|refine aa ?_|refine ae a7 rfl rfl ?_|fail))
   refine av rfl (fun h3 => ?_) (fun h3 => ?_)
   ·have h3 := of_decide_eq_true h3
    (repeat' (first|refine ah ?_|refine a6 ?_|refine au ?_|refine a8 ?_|refine ar ?_|refine aG ?_|refine aK ?_|refine aa ?_|refine ae a7 rfl rfl ?_|(apply aT; first|refine ai 4 a7 0 rfl rfl rfl rfl rfl rfl rfl rfl ?_|refine ai 4 a7 1 rfl rfl rfl rfl rfl rfl rfl rfl ?_|refine ai 4 a7 2 rfl rfl rfl rfl rfl rfl rfl rfl ?_|refine aj a7 0 rfl rfl rfl rfl rfl rfl rfl ?_|refine aj a7 1 rfl rfl rfl rfl rfl rfl rfl ?_|refine aj a7 2 rfl rfl rfl rfl rfl rfl rfl ?_|refine aj a7 3 rfl rfl rfl rfl rfl rfl rfl ?_|fail)|fail))
    exact bY a7 0 [] rfl rfl rfl rfl rfl (List.nil_sublist _) ⟨rfl, 24, i, rfl, bF (by omega) (hno fun q => (hE.1 q).2.1 y (List.mem_of_getElem? (by rw [List.getElem?_take, if_pos hkl]; exact hy)) h3)⟩
   have h3 := of_decide_eq_false h3
   (repeat' (first|refine a6 ?_|refine ak ?_|refine a8 ?_|refine aJ ?_|refine aa ?_|refine ae a7 rfl rfl ?_|(apply aX; refine aW ?_)|fail))
   exact aE (k + 1) rfl ⟨by rw [Int.natCast_add]; rfl, trivial⟩ ⟨by omega, cN hy hb h3⟩ (by omega) (fun _ _ h => h)
  have hkl : k = i := by have := of_decide_eq_false h; omega
  subst hkl
  (repeat' (first|refine ah ?_|refine a6 ?_|refine aR ?_|refine a8 ?_|refine az ?_|refine aC ?_|refine aA ?_|refine aa ?_|refine ae a7 rfl rfl ?_|(apply ba;refine aY ?_)|fail))
  refine bv (t := 77) [1, 2, 3] (x.Min > x.Def ∨ x.Def > x.Max ∨ cx x.Min = false ∨ cx x.Max = false) rfl (fun Q' K => ?_) ?_
  ·(repeat' (first|refine aa ?_|refine ae a7 rfl rfl ?_|refine aw rfl rfl ?_|refine aD rfl rfl rfl rfl ?_|refine aS rfl rfl rfl (fun _ => ?_) (fun _ => ?_)|fail))
   all_goals exact K _ _ rfl rfl (by clear K ha hb hE hno; grind)
  (repeat' (first|refine a8 ?_|fail))
  refine av rfl (fun h4 => ?_) (fun h4 => ?_)
  ·have h4 := of_decide_eq_true h4
   (repeat' (first|refine ah ?_|refine a6 ?_|refine au ?_|refine a8 ?_|refine ar ?_|refine aG ?_|refine aK ?_|refine aa ?_|refine ae a7 rfl rfl ?_|(apply aT; first|refine ai 4 a7 0 rfl rfl rfl rfl rfl rfl rfl rfl ?_|refine ai 4 a7 1 rfl rfl rfl rfl rfl rfl rfl rfl ?_|refine ai 4 a7 2 rfl rfl rfl rfl rfl rfl rfl rfl ?_|refine aj a7 0 rfl rfl rfl rfl rfl rfl rfl ?_|refine aj a7 1 rfl rfl rfl rfl rfl rfl rfl ?_|refine aj a7 2 rfl rfl rfl rfl rfl rfl rfl ?_|refine aj a7 3 rfl rfl rfl rfl rfl rfl rfl ?_|fail)|fail))
   exact bY a7 0 [] rfl rfl rfl rfl rfl (List.nil_sublist _) ⟨rfl, 60, k, rfl, bF (by omega) (hno fun q => by
    obtain ⟨h5, h6, h7, h8⟩ := (hE.1 q).2.2
    rcases h4 with h4 | h4 | h4 | h4
    ·omega
    ·omega
    ·rw [h5] at h4; cases h4
    ·rw [h6] at h4; cases h4)⟩
  have h4 := of_decide_eq_false h4
  (repeat' (first|refine a6 ?_|refine ak ?_|refine a8 ?_|refine aJ ?_|refine aa ?_|refine ae a7 rfl rfl ?_|(apply aX; refine aW ?_)|fail))
  exact aE (k + 1) rfl ⟨by rw [Int.natCast_add]; rfl, trivial⟩ ⟨by omega, fv hx ha (hE.2 ⟨hname, hb, by have h5 : ¬ cx x.Min = false := fun e => h4 (.inr (.inr (.inl e))); simpa using h5, by have h5 : ¬ cx x.Max = false := fun e => h4 (.inr (.inr (.inr e))); simpa using h5, by omega, by omega⟩)⟩ (by omega) (fun _ _ h => h)
 have hil : i = f.Axes.length := by have := of_decide_eq_false h; omega
 subst hil
 clear h hi
 have hax2 : ∀ (j : Nat) (y : dG), f.Axes[j]? = some y → ej f j y = 0 := fun j y hy => ha j y (List.getElem?_eq_some_iff.1 hy).1 hy
 clear ha
 (repeat' (first|refine ah ?_|refine a6 ?_|refine aR ?_|refine a8 ?_|refine az ?_|refine aC ?_|refine aA ?_|refine aa ?_|refine ae a7 rfl rfl ?_|fail))
 refine av rfl (fun h => ?_) (fun h => ?_)
 ·have h := of_decide_eq_true h
  (repeat' (first|refine ah ?_|refine a6 ?_|refine au ?_|refine a8 ?_|refine ar ?_|refine aa ?_|refine ae a7 rfl rfl ?_|(apply aT; first|refine ai 4 a7 0 rfl rfl rfl rfl rfl rfl rfl rfl ?_|refine ai 4 a7 1 rfl rfl rfl rfl rfl rfl rfl rfl ?_|refine ai 4 a7 2 rfl rfl rfl rfl rfl rfl rfl rfl ?_|refine aj a7 0 rfl rfl rfl rfl rfl rfl rfl ?_|refine aj a7 1 rfl rfl rfl rfl rfl rfl rfl ?_|refine aj a7 2 rfl rfl rfl rfl rfl rfl rfl ?_|refine aj a7 3 rfl rfl rfl rfl rfl rfl rfl ?_|fail)|fail))
  exact bY a7 0 [] rfl rfl rfl rfl rfl (List.nil_sublist _) ⟨rfl, 2, 0, rfl, bF (by omega) fun k => by have := k.2.1; omega⟩
 have hr : f.Regions.length ≤ 16 := by have := of_decide_eq_false h; omega
 clear h
 (repeat' (first|refine ah ?_|refine a6 ?_|refine am ?_|refine ak ?_|refine a8 ?_|refine aa ?_|refine ae a7 rfl rfl ?_|fail))
 refine aL [1, 2] (α := Nat) (fun i => [(9, aQ i)]) (fun i => i ≤ f.Regions.length ∧ ∀ r ∈ f.Regions.take i, r.length = f.Axes.length ∧ ∀ t ∈ r, i9 t = true) (fun _ => [(rb, .box [aQ 0, aQ 0] 139)]) (fun i => f.Regions.length - i) 0 rfl ⟨rfl, trivial⟩ ⟨Nat.zero_le _, fun x hx => by cases hx⟩ (fun _ _ h => h) ?_
 rintro i ⟨hi, ha⟩
 try dsimp only [List.cons_append, List.nil_append, List.map_cons, List.map_nil]
 (repeat' (first|refine ah ?_|refine a6 ?_|refine a8 ?_|refine aa ?_|refine ae a7 rfl rfl ?_|fail))
 refine av rfl (fun h => ?_) (fun h => ?_)
 ·have hil : i < f.Regions.length := by have := of_decide_eq_true h; omega
  obtain ⟨x, hx⟩ : ∃ z, f.Regions[i]? = some z := ⟨_, List.getElem?_eq_getElem hil⟩
  have hxg := b5 (c := cI) hx
  have hxl : (x.map gO).length = x.length := List.length_map ..
  have hno : ¬ (x.length = f.Axes.length ∧ ∀ t ∈ x, i9 t = true) → ¬ mW f := fun h k => h (k.2.2 x (List.mem_of_getElem? hx))
  (repeat' (first|refine ah ?_|refine am ?_|refine ak ?_|refine a8 ?_|fail))
  refine bj 10 [(0, .v), (1, .v), (2, .v), (3, .v), (4, .v), (5, .v), (6, .v), (7, .v), (8, .v), (9, .v)] none ?_ trivial rfl (by kernel_rfl) (by kernel_rfl) (by kernel_rfl) mixed (by kernel_rfl) rfl
  (repeat' (first|refine aN ?_|refine bf a7 ?_|(apply bs;refine bH a7 ?_)|fail))
  refine bl [1, 2, 9, 98, 101] rfl rfl ?_
  (repeat' (first|refine a8 ?_|refine aa ?_|refine ae a7 rfl rfl ?_|fail))
  refine av rfl (fun h2 => ?_) (fun h2 => ?_)
  ·have h2 := of_decide_eq_true h2
   (repeat' (first|refine ah ?_|refine a6 ?_|refine au ?_|refine a8 ?_|refine ar ?_|refine aG ?_|refine aK ?_|refine aa ?_|refine ae a7 rfl rfl ?_|(apply aT; first|refine ai 4 a7 0 rfl rfl rfl rfl rfl rfl rfl rfl ?_|refine ai 4 a7 1 rfl rfl rfl rfl rfl rfl rfl rfl ?_|refine ai 4 a7 2 rfl rfl rfl rfl rfl rfl rfl rfl ?_|refine aj a7 0 rfl rfl rfl rfl rfl rfl rfl ?_|refine aj a7 1 rfl rfl rfl rfl rfl rfl rfl ?_|refine aj a7 2 rfl rfl rfl rfl rfl rfl rfl ?_|refine aj a7 3 rfl rfl rfl rfl rfl rfl rfl ?_|fail)|fail))
   exact bY a7 0 [] rfl rfl rfl rfl rfl (List.nil_sublist _) ⟨rfl, 61, i, rfl, bF (by omega) (hno fun k => h2 (by omega))⟩
  have h2 : x.length = f.Axes.length := by have := of_decide_eq_false h2; omega
  (repeat' (first|refine ah ?_|refine a6 ?_|refine am ?_|refine ak ?_|refine a8 ?_|refine aa ?_|refine ae a7 rfl rfl ?_|fail))
  refine aL [1, 2, 9] (α := Nat) (fun k => [(10, aQ k)]) (fun k => k ≤ x.length ∧ ∀ t ∈ x.take k, i9 t = true) (fun _ => [(rb, .box [aQ 0, aQ 0] 139)]) (fun k => x.length - k) 0 rfl ⟨rfl, trivial⟩ ⟨Nat.zero_le _, fun x hx => by cases hx⟩ (fun _ _ h => h) ?_
  clear h
  rintro k ⟨hk, hb⟩
  try dsimp only [List.cons_append, List.nil_append, List.map_cons, List.map_nil]
  (repeat' (first|refine ah ?_|refine a6 ?_|refine a8 ?_|refine aa ?_|refine ae a7 rfl rfl ?_|fail))
  refine av rfl (fun h => ?_) (fun h => ?_)
  ·have hkl : k < x.length := by have := of_decide_eq_true h; omega
   obtain ⟨y, hy⟩ : ∃ z, x[k]? = some z := ⟨_, List.getElem?_eq_getElem (by omega)⟩
   have hyg := b5 (c := gO) hy
   (repeat' (first|refine ah ?_|refine a6 ?_|refine am ?_|refine ak ?_|refine a8 ?_|refine aa ?_|refine ae a7 rfl rfl ?_|(apply aP; first|refine aO a7 ?_|refine aI a7 ?_)|(apply ba;refine aY ?_)|fail))
   refine av rfl (fun h3 => ?_) (fun h3 => ?_)
   ·have h3 : i9 y = false := by simpa using h3
    (repeat' (first|refine ah ?_|refine a6 ?_|refine au ?_|refine a8 ?_|refine ar ?_|refine aG ?_|refine aK ?_|refine aa ?_|refine ae a7 rfl rfl ?_|(apply aT; first|refine ai 4 a7 0 rfl rfl rfl rfl rfl rfl rfl rfl ?_|refine ai 4 a7 1 rfl rfl rfl rfl rfl rfl rfl rfl ?_|refine ai 4 a7 2 rfl rfl rfl rfl rfl rfl rfl rfl ?_|refine aj a7 0 rfl rfl rfl rfl rfl rfl rfl ?_|refine aj a7 1 rfl rfl rfl rfl rfl rfl rfl ?_|refine aj a7 2 rfl rfl rfl rfl rfl rfl rfl ?_|refine aj a7 3 rfl rfl rfl rfl rfl rfl rfl ?_|fail)|fail))
    exact bY a7 0 [] rfl rfl rfl rfl rfl (List.nil_sublist _) ⟨rfl, 61, i, rfl, bF (by omega) (hno fun q => by rw [q.2 y (List.mem_of_getElem? hy)] at h3; cases h3)⟩
   have h3 : i9 y = true := by simpa using h3
   (repeat' (first|refine a6 ?_|refine ak ?_|refine a8 ?_|refine aJ ?_|refine aa ?_|refine ae a7 rfl rfl ?_|(apply aX; refine aW ?_)|fail))
   exact aE (k + 1) rfl ⟨by rw [Int.natCast_add]; rfl, trivial⟩ ⟨by omega, cN hy hb h3⟩ (by omega) (fun _ _ h => h)
  have hkl : k = x.length := by have := of_decide_eq_false h; omega
  subst hkl
  rw [List.take_length] at hb
  (repeat' (first|refine a6 ?_|refine aR ?_|refine a8 ?_|refine az ?_|refine aJ ?_|refine aC ?_|refine aA ?_|refine aa ?_|refine ae a7 rfl rfl ?_|(apply aX; refine aW ?_)|fail))
  exact aE (i + 1) rfl ⟨by rw [Int.natCast_add]; rfl, trivial⟩ ⟨by omega, cN hx ha ⟨h2, hb⟩⟩ (by omega) (fun _ _ h => h)
 have hil : i = f.Regions.length := by have := of_decide_eq_false h; omega
 subst hil
 rw [List.take_length] at ha
 (repeat' (first|refine ah ?_|refine a6 ?_|refine au ?_|refine aR ?_|refine a8 ?_|refine az ?_|refine aC ?_|refine aA ?_|refine aa ?_|refine ae a7 rfl rfl ?_|(apply aT; first|refine ai 4 a7 0 rfl rfl rfl rfl rfl rfl rfl rfl ?_|refine ai 4 a7 1 rfl rfl rfl rfl rfl rfl rfl rfl ?_|refine ai 4 a7 2 rfl rfl rfl rfl rfl rfl rfl rfl ?_|refine aj a7 0 rfl rfl rfl rfl rfl rfl rfl ?_|refine aj a7 1 rfl rfl rfl rfl rfl rfl rfl ?_|refine aj a7 2 rfl rfl rfl rfl rfl rfl rfl ?_|refine aj a7 3 rfl rfl rfl rfl rfl rfl rfl ?_|fail)|fail))
 exact bY a7 0 [] rfl rfl rfl rfl rfl (List.nil_sublist _) ⟨rfl, 0, 0, rfl, ⟨fun _ => ⟨⟨hl, hax2⟩, hr, ha⟩, fun _ => rfl⟩⟩
end Go.Proofs.YtpbinloeemebkaaGreat
