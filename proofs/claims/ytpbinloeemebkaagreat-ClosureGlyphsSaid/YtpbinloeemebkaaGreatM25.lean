/-
  What is right by the document: all glyphs, and fonts.
-/
import Derived.Test.YtpbinloeemebkaaGreatM24
namespace Go.Proofs.YtpbinloeemebkaaGreat
open Go.RowKit
attribute [local irreducible] AT bN AX AO Av Kt bi dE DA d6
theorem m9 {f : aH} {D P : Int → Int} (h : ev f D P) : fF f.Glyphs.length (prt f) := by
 refine ⟨fun z => (D z).toNat, fun g h0 h1 p hp => ?_⟩
 obtain ⟨gl, hg⟩ : ∃ x, f.Glyphs[g.toNat]? = some x := ⟨_, List.getElem?_eq_getElem (by omega)⟩
 have hd := (h g h0 h1 gl hg).1
 have hpr := lL hp
 obtain ⟨gp, hgp⟩ : ∃ x, f.Glyphs[p.toNat]? = some x := ⟨_, List.getElem?_eq_getElem (by omega)⟩
 have hdp := (h p hpr.1 hpr.2 gp hgp).1
 have hnn := vU (D := D) gp.Parts
 unfold prt at hp
 rw [hg] at hp
 obtain ⟨q, hq, rfl⟩ := List.mem_map.1 (List.mem_filter.1 hp).1
 have := (oJ.1 (Int.le_of_eq hd.symm)).2 q hq
 dsimp only
 omega
theorem rT {f : aH} (hf : ic f) {D P : Int → Int} (h : ev f D P) : (gd f).1 = 0 ↔ ∀ z : Int, 0 ≤ z → z < f.Glyphs.length → D z ≤ 4 ∧ P z ≤ 1000 := by
 rw [kH hf (m9 h) h, n8]
theorem n9 {f : aH} (h : ¬ fF f.Glyphs.length (prt f)) : gd f = (33, 0) := by
 unfold gd
 rw [dif_neg fun ⟨_, hq⟩ => h (m9 hq)]
noncomputable def nk (f : aH) : Prop := f.Glyphs.length ≠ 0 ∧ (bW 400 f.Glyphs (cM f)).1 = 0 ∧ (gd f).1 = 0
set_option maxHeartbeats 8000000 in
theorem uk (f : aH) (hs : ck f) (hfit : eX f) : tL 115 [bw f] (nk f) := by
 refine aU Tryz.func115 rfl Tryz.ntmps115 rfl fun B => ?_
 have hml : (f.Glyphs.map bz).length = f.Glyphs.length := List.length_map ..
 (repeat' (first|refine ah ?_|refine a6 ?_|refine a8 ?_|refine aa ?_|refine ae a7 rfl rfl ?_|refine b6 ?_|refine bb a7 fun _=>?_|fail))
 rename_i rb
 refine av rfl (fun h => ?_) (fun h => ?_)
 ·have h := of_decide_eq_true h
  (repeat' (first|refine ah ?_|refine a6 ?_|refine au ?_|refine a8 ?_|refine ar ?_|refine aa ?_|refine ae a7 rfl rfl ?_|(apply aT; first|refine aj a7 0 rfl rfl rfl rfl rfl rfl rfl ?_|refine aj a7 1 rfl rfl rfl rfl rfl rfl rfl ?_|refine aj a7 2 rfl rfl rfl rfl rfl rfl rfl ?_|refine aj a7 3 rfl rfl rfl rfl rfl rfl rfl ?_|fail)|fail))
  exact bY a7 0 [] rfl rfl rfl rfl rfl (List.nil_sublist _) ⟨rfl, 32, 0, rfl, bF (by omega) fun k => k.1 (by omega)⟩
 have h0 : f.Glyphs.length ≠ 0 := by have := of_decide_eq_false h; omega
 clear h
 (repeat' (first|refine ah ?_|refine a6 ?_|refine ak ?_|refine a8 ?_|refine aa ?_|refine ae a7 rfl rfl ?_|fail))
 refine av rfl (fun h => ?_) (fun h => ?_)
 ·have h := of_decide_eq_true h
  (repeat' (first|refine ah ?_|refine a6 ?_|refine au ?_|refine a8 ?_|refine ar ?_|refine aa ?_|refine ae a7 rfl rfl ?_|(apply aT; first|refine aj a7 0 rfl rfl rfl rfl rfl rfl rfl ?_|refine aj a7 1 rfl rfl rfl rfl rfl rfl rfl ?_|refine aj a7 2 rfl rfl rfl rfl rfl rfl rfl ?_|refine aj a7 3 rfl rfl rfl rfl rfl rfl rfl ?_|fail)|fail))
  exact bY a7 0 [] rfl rfl rfl rfl rfl (List.nil_sublist _) ⟨rfl, 2, 0, rfl, bF (by omega) fun k => by have := (bG.1 k.2.1).1; omega⟩
 have hl : f.Glyphs.length ≤ 400 := by have := of_decide_eq_false h; omega
 clear h
 (repeat' (first|refine ah ?_|refine a6 ?_|refine am ?_|refine ak ?_|refine a8 ?_|refine aa ?_|refine ae a7 rfl rfl ?_|fail))
 refine aL [1, 2] (α := Nat) (fun i => [(3, aQ i)]) (fun i => i ≤ f.Glyphs.length ∧ ∀ j y, j < i → f.Glyphs[j]? = some y → cM f j y = 0) (fun _ => [(rb, .box [aQ 0, aQ 0] 139)]) (fun i => f.Glyphs.length - i) 0 rfl ⟨rfl, trivial⟩ ⟨Nat.zero_le _, fun j y hj => absurd hj (Nat.not_lt_zero _)⟩ (fun _ _ h => h) ?_
 rintro i ⟨hi, ha⟩
 try dsimp only [List.cons_append, List.nil_append, List.map_cons, List.map_nil]
 (repeat' (first|refine ah ?_|refine a6 ?_|refine a8 ?_|refine aa ?_|refine ae a7 rfl rfl ?_|fail))
 refine av rfl (fun h => ?_) (fun h => ?_)
 ·have hil : i < f.Glyphs.length := by have := of_decide_eq_true h; omega
  obtain ⟨x, hx⟩ : ∃ z, f.Glyphs[i]? = some z := ⟨_, List.getElem?_eq_getElem hil⟩
  have hE := mb hx
  clear h
  (repeat' (first|refine ah ?_|refine a6 ?_|refine am ?_|refine ak ?_|refine a8 ?_|refine ae a7 rfl rfl ?_|fail))
  refine aZ [] _ (wc f hs hfit i x hx) rfl rfl (List.Perm.refl _) rfl fun c L1 ⟨hL, e, hc, he⟩ => ?_
  subst hc; subst hL
  (repeat' (first|refine ah ?_|refine a6 ?_|refine a8 ?_|refine aa ?_|refine ae a7 rfl rfl ?_|fail))
  refine av rfl (fun h2 => ?_) (fun h2 => ?_)
  ·have h2 := of_decide_eq_true h2
   (repeat' (first|refine ah ?_|refine a6 ?_|refine au ?_|refine a8 ?_|refine ar ?_|refine aG ?_|refine aK ?_|refine aa ?_|refine ae a7 rfl rfl ?_|(apply aT; first|refine aj a7 0 rfl rfl rfl rfl rfl rfl rfl ?_|refine aj a7 1 rfl rfl rfl rfl rfl rfl rfl ?_|refine aj a7 2 rfl rfl rfl rfl rfl rfl rfl ?_|refine aj a7 3 rfl rfl rfl rfl rfl rfl rfl ?_|fail)|fail))
   exact bY a7 0 [] rfl rfl rfl rfl rfl (List.nil_sublist _) ⟨rfl, e, i, rfl, bF h2 fun k => h2 (he.2 (hE.1 ((bG.1 k.2.1).2 i x hx)))⟩
  have h2 := of_decide_eq_false h2
  (repeat' (first|refine a6 ?_|refine ak ?_|refine a8 ?_|refine aJ ?_|refine aa ?_|refine ae a7 rfl rfl ?_|(apply aX; refine aW ?_)|fail))
  exact aE (i + 1) rfl ⟨by rw [Int.natCast_add]; rfl, trivial⟩ ⟨by omega, fv hx ha (hE.2 (he.1 (Decidable.not_not.1 h2)))⟩ (by omega) (fun _ _ h => h)
 have hil : i = f.Glyphs.length := by have := of_decide_eq_false h; omega
 subst hil
 clear h hi
 have hgl : (bW 400 f.Glyphs (cM f)).1 = 0 := bG.2 ⟨by omega, fun j y hy => ha j y (List.getElem?_eq_some_iff.1 hy).1 hy⟩
 clear ha
 have hf := eC hgl
 have hw : my f := fun gl hm => by
  obtain ⟨j, hj⟩ := List.mem_iff_getElem?.1 hm
  have := mb hj |>.1 ((bG.1 hgl).2 j gl hj)
  exact ⟨this.few.1, this.parts.1⟩
 (repeat' (first|refine ah ?_|refine a6 ?_|refine am ?_|refine aR ?_|refine a8 ?_|refine az ?_|refine aC ?_|refine aA ?_|refine aa ?_|refine ae a7 rfl rfl ?_|fail))
 refine aL [1, 2] (α := Nat) (fun i => [(5, aQ i)]) (fun i => i ≤ f.Glyphs.length ∧ ∀ z : Int, 0 ≤ z → z < i → ¬ sO (prt f) z z) (fun _ => [(rb, .box [aQ 0, aQ 0] 139)]) (fun i => f.Glyphs.length - i) 0 rfl ⟨rfl, trivial⟩ ⟨Nat.zero_le _, fun z h0 h1 => by omega⟩ (fun _ _ h => h) ?_
 rintro i ⟨hi, ha⟩
 try dsimp only [List.cons_append, List.nil_append, List.map_cons, List.map_nil]
 (repeat' (first|refine ah ?_|refine a6 ?_|refine a8 ?_|refine aa ?_|refine ae a7 rfl rfl ?_|fail))
 refine av rfl (fun h => ?_) (fun h => ?_)
 ·have hil : i < f.Glyphs.length := by have := of_decide_eq_true h; omega
  clear h
  (repeat' (first|refine ah ?_|refine am ?_|refine ak ?_|refine a8 ?_|fail))
  refine bj 7 [(0, .v), (1, .v), (2, .v), (3, .v), (4, .v), (5, .v), (6, .e)] none ?_ trivial rfl (by kernel_rfl) (by kernel_rfl) (by kernel_rfl) mixed (by kernel_rfl) rfl
  (repeat' (first|refine aN ?_|refine bf a7 ?_|fail))
  refine zK a7 f.Glyphs.length rfl rfl rfl rfl rfl (by rw [hml]) (by rw [hml]) (by omega) (by omega) trivial fun b => ?_
  rw [show (List.replicate f.Glyphs.length (List.map AV.sc [Value.bool false])).flatten = dZ [] f.Glyphs.length from lz _]
  (repeat' (first|fail))
  refine bl [1, 2, 5, 42, 43, 44, 48] rfl rfl ?_
  (repeat' (first|fail))
  refine aZ [(b, .box (dZ [] f.Glyphs.length) 4)] [(rb, .box [aQ 0, aQ 0] 139)] (nN f hf i b (f.Glyphs.length + 1) [] i List.nodup_nil (fun z hz => by cases hz) (by rw [List.length_nil]; omega) ⟨by omega, by omega⟩) rfl rfl (List.Perm.refl _) rfl fun c L1 ⟨r, T, hc, hL, hr, hP⟩ => ?_
  subst hc; subst hL
  refine bh (dA (List.sublist_cons_self ..)) ?_
  cases r with
  | true =>
   (repeat' (first|refine ah ?_|refine a6 ?_|refine au ?_|refine a8 ?_|refine ar ?_|refine aG ?_|refine aK ?_|refine aa ?_|refine ae a7 rfl rfl ?_|(apply aT; first|refine aj a7 0 rfl rfl rfl rfl rfl rfl rfl ?_|refine aj a7 1 rfl rfl rfl rfl rfl rfl rfl ?_|refine aj a7 2 rfl rfl rfl rfl rfl rfl rfl ?_|refine aj a7 3 rfl rfl rfl rfl rfl rfl rfl ?_|fail)|refine bI rfl ?_|fail))
   exact bY a7 0 [] rfl rfl rfl rfl rfl (List.nil_sublist _) ⟨rfl, 33, i, rfl, bF (by omega) fun k => by
    have hna : ¬ fF f.Glyphs.length (prt f) := fun hA => hA.noRing (fun g p hp => lL (g := g) hp) (g := i) (by omega) (by omega) (hr rfl)
    have h1 := k.2.2
    rw [n9 hna] at h1
    cases h1⟩
  | false =>
   have hno := Ab (hP rfl)
   (repeat' (first|refine ah ?_|refine a6 ?_|refine ak ?_|refine a8 ?_|refine aJ ?_|refine aa ?_|refine ae a7 rfl rfl ?_|(apply aX; refine aW ?_)|refine bV rfl ?_|fail))
   exact aE (i + 1) rfl ⟨by rw [Int.natCast_add]; rfl, trivial⟩ ⟨by omega, fun z z0 z1 => by
    by_cases e : z = i
    ·subst e; exact hno
    ·exact ha z z0 (by omega)⟩ (by omega) (fun _ _ h => h)
 have hil : i = f.Glyphs.length := by have := of_decide_eq_false h; omega
 subst hil
 clear h hi
 have hA : fF f.Glyphs.length (prt f) := (qd fun g p hp => lL (g := g) hp).2 ha
 clear ha
 obtain ⟨D, P, hD, hb⟩ := xI hf hA
 have hcz := rT hf hD
 haveI a1 : AD Tryz.prog 195 [bw f] (.imm 1 (aV ((bP f.Glyphs.length).map D))) := ⟨vX f hf D P hD hb⟩
 have hdl : (aV ((bP f.Glyphs.length).map D)).length = f.Glyphs.length := by rw [aM, List.length_map, d9]
 (repeat' (first|refine ah ?_|refine a6 ?_|refine am ?_|refine aR ?_|refine a8 ?_|refine az ?_|refine aC ?_|refine aA ?_|refine aa ?_|refine ae a7 rfl rfl ?_|(apply ba;refine aY ?_)|fail))
 refine aL [1, 2, 7] (α := Nat) (fun i => [(8, aQ i)]) (fun i => i ≤ f.Glyphs.length ∧ ∀ z : Int, 0 ≤ z → z < i → D z ≤ 4) (fun _ => [(rb, .box [aQ 0, aQ 0] 139)]) (fun i => f.Glyphs.length - i) 0 rfl ⟨rfl, trivial⟩ ⟨Nat.zero_le _, fun z h0 h1 => by omega⟩ (fun _ _ h => h) ?_
 rintro i ⟨hi, ha⟩
 try dsimp only [List.cons_append, List.nil_append, List.map_cons, List.map_nil]
 (repeat' (first|refine ah ?_|refine a6 ?_|refine a8 ?_|refine aa ?_|refine ae a7 rfl rfl ?_|fail))
 refine av rfl (fun h => ?_) (fun h => ?_)
 ·have hil : i < f.Glyphs.length := by have := of_decide_eq_true h; omega
  have hdg : (aV ((bP f.Glyphs.length).map D))[i]? = some [aQ (D i)] := bk (by rw [List.getElem?_map, fK hil]; rfl)
  clear h
  (repeat' (first|refine ah ?_|refine a6 ?_|refine am ?_|refine ak ?_|refine a8 ?_|refine aa ?_|refine ae a7 rfl rfl ?_|(apply aP; first|refine aO a7 ?_|refine aI a7 ?_)|fail))
  refine av rfl (fun h2 => ?_) (fun h2 => ?_)
  ·have h2 := of_decide_eq_true h2
   (repeat' (first|refine ah ?_|refine a6 ?_|refine au ?_|refine a8 ?_|refine ar ?_|refine aG ?_|refine aK ?_|refine aa ?_|refine ae a7 rfl rfl ?_|(apply aT; first|refine aj a7 0 rfl rfl rfl rfl rfl rfl rfl ?_|refine aj a7 1 rfl rfl rfl rfl rfl rfl rfl ?_|refine aj a7 2 rfl rfl rfl rfl rfl rfl rfl ?_|refine aj a7 3 rfl rfl rfl rfl rfl rfl rfl ?_|fail)|fail))
   exact bY a7 0 [] rfl rfl rfl rfl rfl (List.nil_sublist _) ⟨rfl, 34, i, rfl, bF (by omega) fun k => by
    have := (hcz.1 k.2.2 i (by omega) (by omega)).1
    omega⟩
  have h2 := of_decide_eq_false h2
  (repeat' (first|refine a6 ?_|refine ak ?_|refine a8 ?_|refine aJ ?_|refine aa ?_|refine ae a7 rfl rfl ?_|(apply aX; refine aW ?_)|fail))
  exact aE (i + 1) rfl ⟨by rw [Int.natCast_add]; rfl, trivial⟩ ⟨by omega, fun z z0 z1 => by
   by_cases e : z = i
   ·subst e; omega
   ·exact ha z z0 (by omega)⟩ (by omega) (fun _ _ h => h)
 have hil : i = f.Glyphs.length := by have := of_decide_eq_false h; omega
 subst hil
 clear h hi
 have h4 := ha
 clear ha
 (repeat' (first|refine ah ?_|refine a6 ?_|refine am ?_|refine aR ?_|refine a8 ?_|refine az ?_|refine aC ?_|refine aA ?_|refine aa ?_|refine ae a7 rfl rfl ?_|fail))
 refine aL [1, 2] (α := Nat) (fun i => [(9, aQ i)]) (fun i => i ≤ f.Glyphs.length ∧ ∀ z : Int, 0 ≤ z → z < i → P z ≤ 1000) (fun _ => [(rb, .box [aQ 0, aQ 0] 139)]) (fun i => f.Glyphs.length - i) 0 rfl ⟨rfl, trivial⟩ ⟨Nat.zero_le _, fun z h0 h1 => by omega⟩ (fun _ _ h => h) ?_
 rintro i ⟨hi, ha⟩
 try dsimp only [List.cons_append, List.nil_append, List.map_cons, List.map_nil]
 (repeat' (first|refine ah ?_|refine a6 ?_|refine a8 ?_|refine aa ?_|refine ae a7 rfl rfl ?_|fail))
 refine av rfl (fun h => ?_) (fun h => ?_)
 ·have hil : i < f.Glyphs.length := by have := of_decide_eq_true h; omega
  clear h
  have hdp : mL f 5 i := oL hf hD 5 i (by omega) (by omega) (by have := h4 i (by omega) (by omega); omega)
  have hfc := qC hf hw hD 5 i hdp
  haveI a2 : AD Tryz.prog 196 [bw f, aQ i] (aQ (dQ f 5 i)) := ⟨qD f hw 5 (by omega) i hdp⟩
  (repeat' (first|refine ah ?_|refine a6 ?_|refine am ?_|refine ak ?_|refine a8 ?_|refine aa ?_|refine ae a7 rfl rfl ?_|(apply ba;refine aY ?_)|fail))
  refine av rfl (fun h2 => ?_) (fun h2 => ?_)
  ·have h2 := of_decide_eq_true h2
   (repeat' (first|refine ah ?_|refine a6 ?_|refine au ?_|refine a8 ?_|refine ar ?_|refine aG ?_|refine aK ?_|refine aa ?_|refine ae a7 rfl rfl ?_|(apply aT; first|refine aj a7 0 rfl rfl rfl rfl rfl rfl rfl ?_|refine aj a7 1 rfl rfl rfl rfl rfl rfl rfl ?_|refine aj a7 2 rfl rfl rfl rfl rfl rfl rfl ?_|refine aj a7 3 rfl rfl rfl rfl rfl rfl rfl ?_|fail)|fail))
   exact bY a7 0 [] rfl rfl rfl rfl rfl (List.nil_sublist _) ⟨rfl, 2, i, rfl, bF (by omega) fun k => by
    have := (hcz.1 k.2.2 i (by omega) (by omega)).2
    omega⟩
  have h2 := of_decide_eq_false h2
  (repeat' (first|refine a6 ?_|refine ak ?_|refine a8 ?_|refine aJ ?_|refine aa ?_|refine ae a7 rfl rfl ?_|(apply aX; refine aW ?_)|fail))
  exact aE (i + 1) rfl ⟨by rw [Int.natCast_add]; rfl, trivial⟩ ⟨by omega, fun z z0 z1 => by
   by_cases e : z = i
   ·subst e; omega
   ·exact ha z z0 (by omega)⟩ (by omega) (fun _ _ h => h)
 have hil : i = f.Glyphs.length := by have := of_decide_eq_false h; omega
 subst hil
 (repeat' (first|refine ah ?_|refine a6 ?_|refine au ?_|refine aR ?_|refine a8 ?_|refine az ?_|refine aC ?_|refine aA ?_|refine aa ?_|refine ae a7 rfl rfl ?_|(apply aT; first|refine aj a7 0 rfl rfl rfl rfl rfl rfl rfl ?_|refine aj a7 1 rfl rfl rfl rfl rfl rfl rfl ?_|refine aj a7 2 rfl rfl rfl rfl rfl rfl rfl ?_|refine aj a7 3 rfl rfl rfl rfl rfl rfl rfl ?_|fail)|fail))
 exact bY a7 0 [] rfl rfl rfl rfl rfl (List.nil_sublist _) ⟨rfl, 0, 0, rfl, ⟨fun _ => ⟨h0, hgl, hcz.2 fun z z0 z1 => ⟨h4 z z0 z1, ha z z0 z1⟩⟩, fun _ => rfl⟩⟩
noncomputable def jU (f : aH) : Prop := (16 ≤ f.Unit ∧ f.Unit ≤ 4096) ∧ nk f ∧ mB f ∧ pI f ∧ mW f ∧ pT f
theorem rY (f : aH) : (er f).1 = 0 ↔ jU f := by
 unfold er jU nk mB pI mW pT qF
 rw [cn]
 simp only [List.mem_cons, List.not_mem_nil, or_false, forall_eq_or_imp, forall_eq]
 have hh : j6 f = 0 ↔ (16 ≤ f.Unit ∧ f.Unit ≤ 4096) ∧ f.Glyphs.length ≠ 0 := by
  unfold j6
  split
  ·constructor
   ·intro h; cases h
   ·intro h; omega
  ·split
   ·constructor
    ·intro h; cases h
    ·intro h; omega
   ·constructor
    ·intro _; omega
    ·intro _; rfl
 have hc : (bW 1000 f.Chars (dR f)).1 = 0 ↔ f.Chars.length ≤ 1000 ∧ ∀ i c, f.Chars[i]? = some c → dR f i c = 0 := by rw [bG]; exact and_congr (by omega) Iff.rfl
 have hl : (bW 40 f.Lookups (jx f)).1 = 0 ↔ f.Lookups.length ≤ 40 ∧ ∀ (i : Nat) (l : bC), f.Lookups[i]? = some l → eL f l = 0 := by rw [bG]; exact and_congr (by omega) Iff.rfl
 have ht : (bW 20 f.Features (ek f)).1 = 0 ↔ f.Features.length ≤ 20 ∧ ∀ (i : Nat) (t : bA), f.Features[i]? = some t → ek f i t = 0 := by rw [bG]; exact and_congr (by omega) Iff.rfl
 have ha : (bW 3 f.Axes (ej f)).1 = 0 ↔ f.Axes.length ≤ 3 ∧ ∀ (i : Nat) (a : dG), f.Axes[i]? = some a → ej f i a = 0 := by rw [bG]; exact and_congr (by omega) Iff.rfl
 have hr : (bW 16 f.Regions (kl f)).1 = 0 ↔ f.Regions.length ≤ 16 ∧ ∀ r ∈ f.Regions, r.length = f.Axes.length ∧ ∀ t ∈ r, i9 t = true := by
  rw [bG]
  refine and_congr (by omega) ?_
  have key : ∀ (i : Nat) (r : List dB), kl f i r = 0 ↔ r.length = f.Axes.length ∧ ∀ t ∈ r, i9 t = true := by
   intro i r
   unfold kl uO
   by_cases e : r.length = f.Axes.length
   ·rw [if_neg (by omega), dm]
    simp only [e, true_and]
    constructor
    ·intro h t ht
     obtain ⟨j, hj⟩ := List.mem_iff_getElem?.1 ht
     exact (rq j t).1 (h j t hj)
    ·intro h j t hj
     exact (rq j t).2 (h t (List.mem_of_getElem? hj))
   ·rw [if_pos (by omega)]
    simp [e]
  constructor
  ·intro h r hr
   obtain ⟨j, hj⟩ := List.mem_iff_getElem?.1 hr
   exact (key j r).1 (h j r hj)
  ·intro h j r hj
   exact (key j r).2 (h r (List.mem_of_getElem? hj))
 have hp : (bW 20 f.Funcs qG).1 = 0 ↔ f.Funcs.length ≤ 20 ∧ ∀ l ∈ f.Funcs, iM l = 0 := by
  rw [bG]
  refine and_congr (by omega) ⟨fun h r hr => ?_, fun h j r hj => h r (List.mem_of_getElem? hj)⟩
  obtain ⟨j, hj⟩ := List.mem_iff_getElem?.1 hr
  exact h j r hj
 have hv : (bW 64 f.Cvt qq).1 = 0 ↔ f.Cvt.length ≤ 64 ∧ ∀ z ∈ f.Cvt, cx z = true := by
  rw [bG]
  refine and_congr (by omega) ?_
  have key : ∀ (i : Nat) (z : Int), qq i z = 0 ↔ cx z = true := by
   intro i z
   unfold qq
   rw [cO (by omega)]
   simp
  constructor
  ·intro h r hr
   obtain ⟨j, hj⟩ := List.mem_iff_getElem?.1 hr
   exact (key j r).1 (h j r hj)
  ·intro h j r hj
   exact (key j r).2 (h r (List.mem_of_getElem? hj))
 rw [hh, hc, hl, ht, ha, hr, hp, hv]
 constructor
 ·rintro ⟨⟨h1, h2⟩, h3, h4, h5, h6, h7, h8, h9, h10, h11⟩
  exact ⟨h1, ⟨h2, h3, h4⟩, h5, ⟨h6, h7⟩, ⟨h8, h9⟩, h10, h11⟩
 ·rintro ⟨h1, ⟨h2, h3, h4⟩, h5, ⟨h6, h7⟩, ⟨h8, h9⟩, h10, h11⟩
  exact ⟨⟨h1, h2⟩, h3, h4, h5, h6, h7, h8, h9, h10, h11⟩
set_option maxHeartbeats 8000000 in
theorem w9 (f : aH) (hs : ck f) (hfit : eX f) : tL 59 [bw f] (jU f) := by
 refine aU Tryz.func59 rfl Tryz.ntmps59 rfl fun B => ?_
 (repeat' (first|refine ah ?_|refine a6 ?_|refine a8 ?_|refine aa ?_|refine ae a7 rfl rfl ?_|refine b6 ?_|refine bb a7 fun _=>?_|fail))
 rename_i rb
 refine ci [1, 2] (f.Unit < 16 ∨ f.Unit > 4096) rfl (fun Q' K => ?_) (fun hC => ?_) (fun hC => ?_)
 ·(repeat' (first|refine aa ?_|refine ae a7 rfl rfl ?_|refine aw rfl rfl ?_|refine aD rfl rfl rfl rfl ?_|refine aS rfl rfl rfl (fun _ => ?_) (fun _ => ?_)|fail))
  all_goals exact K _ _ rfl rfl (by clear K; simp_all <;> omega)
 ·(repeat' (first|refine ah ?_|refine a6 ?_|refine au ?_|refine a8 ?_|refine ar ?_|refine aa ?_|refine ae a7 rfl rfl ?_|(apply aT; first|refine aj a7 0 rfl rfl rfl rfl rfl rfl rfl ?_|refine aj a7 1 rfl rfl rfl rfl rfl rfl rfl ?_|refine aj a7 2 rfl rfl rfl rfl rfl rfl rfl ?_|refine aj a7 3 rfl rfl rfl rfl rfl rfl rfl ?_|fail)|fail))
  exact bY a7 0 [] rfl rfl rfl rfl rfl (List.nil_sublist _) ⟨rfl, 1, 0, rfl, bF (by omega) fun k => by have := k.1; omega⟩
 (repeat' (first|refine ah ?_|refine a6 ?_|refine ak ?_|refine a8 ?_|refine ae a7 rfl rfl ?_|fail))
 refine aZ [] _ (uk f hs hfit) rfl rfl (List.Perm.refl _) rfl fun c L1 ⟨hL, e, i, hc, he⟩ => ?_
 subst hc; subst hL
 (repeat' (first|refine ah ?_|refine a6 ?_|refine a8 ?_|refine aa ?_|refine ae a7 rfl rfl ?_|(apply bn; first|refine aq a7 0 rfl rfl rfl rfl rfl ?_|refine aq a7 1 rfl rfl rfl rfl rfl ?_|refine aq a7 2 rfl rfl rfl rfl rfl ?_|refine aq a7 3 rfl rfl rfl rfl rfl ?_|refine aF a7 0 rfl rfl rfl rfl rfl ?_|refine aF a7 1 rfl rfl rfl rfl rfl ?_|refine aF a7 2 rfl rfl rfl rfl rfl ?_|refine aq a7 1 rfl rfl rfl (by assumption) rfl ?_|refine aq a7 0 rfl rfl rfl (by assumption) rfl ?_|fail)|(apply aT; first|refine aj a7 0 rfl rfl rfl rfl rfl rfl rfl ?_|refine aj a7 1 rfl rfl rfl rfl rfl rfl rfl ?_|refine aj a7 2 rfl rfl rfl rfl rfl rfl rfl ?_|refine aj a7 3 rfl rfl rfl rfl rfl rfl rfl ?_|fail)|refine bb a7 fun _=>?_|fail))
 refine av rfl (fun h => ?_) (fun h => ?_)
 rotate_left
 ·have hno : ¬ jU f := fun k => of_decide_eq_false h (he.2 k.2.1)
  (repeat' (first|refine ah ?_|refine a6 ?_|refine ak ?_|refine a8 ?_|refine aa ?_|refine ae a7 rfl rfl ?_|(apply bn; first|refine aq a7 0 rfl rfl rfl rfl rfl ?_|refine aq a7 1 rfl rfl rfl rfl rfl ?_|refine aq a7 2 rfl rfl rfl rfl rfl ?_|refine aq a7 3 rfl rfl rfl rfl rfl ?_|refine aF a7 0 rfl rfl rfl rfl rfl ?_|refine aF a7 1 rfl rfl rfl rfl rfl ?_|refine aF a7 2 rfl rfl rfl rfl rfl ?_|refine aq a7 1 rfl rfl rfl (by assumption) rfl ?_|refine aq a7 0 rfl rfl rfl (by assumption) rfl ?_|fail)|fail))
  refine av rfl (fun h2 => absurd (h2.symm.trans h) (by decide)) (fun _ => ?_)
  (repeat' (first|refine ah ?_|refine a6 ?_|refine ak ?_|refine a8 ?_|refine aa ?_|refine ae a7 rfl rfl ?_|(apply bn; first|refine aq a7 0 rfl rfl rfl rfl rfl ?_|refine aq a7 1 rfl rfl rfl rfl rfl ?_|refine aq a7 2 rfl rfl rfl rfl rfl ?_|refine aq a7 3 rfl rfl rfl rfl rfl ?_|refine aF a7 0 rfl rfl rfl rfl rfl ?_|refine aF a7 1 rfl rfl rfl rfl rfl ?_|refine aF a7 2 rfl rfl rfl rfl rfl ?_|refine aq a7 1 rfl rfl rfl (by assumption) rfl ?_|refine aq a7 0 rfl rfl rfl (by assumption) rfl ?_|fail)|fail))
  refine av rfl (fun h2 => absurd (h2.symm.trans h) (by decide)) (fun _ => ?_)
  (repeat' (first|refine ah ?_|refine a6 ?_|refine ak ?_|refine a8 ?_|refine aa ?_|refine ae a7 rfl rfl ?_|(apply bn; first|refine aq a7 0 rfl rfl rfl rfl rfl ?_|refine aq a7 1 rfl rfl rfl rfl rfl ?_|refine aq a7 2 rfl rfl rfl rfl rfl ?_|refine aq a7 3 rfl rfl rfl rfl rfl ?_|refine aF a7 0 rfl rfl rfl rfl rfl ?_|refine aF a7 1 rfl rfl rfl rfl rfl ?_|refine aF a7 2 rfl rfl rfl rfl rfl ?_|refine aq a7 1 rfl rfl rfl (by assumption) rfl ?_|refine aq a7 0 rfl rfl rfl (by assumption) rfl ?_|fail)|fail))
  refine av rfl (fun h2 => absurd (h2.symm.trans h) (by decide)) (fun _ => ?_)
  (repeat' (first|refine ah ?_|refine a6 ?_|refine ak ?_|refine au ?_|refine a8 ?_|refine aa ?_|(apply bn; first|refine aq a7 0 rfl rfl rfl rfl rfl ?_|refine aq a7 1 rfl rfl rfl rfl rfl ?_|refine aq a7 2 rfl rfl rfl rfl rfl ?_|refine aq a7 3 rfl rfl rfl rfl rfl ?_|refine aF a7 0 rfl rfl rfl rfl rfl ?_|refine aF a7 1 rfl rfl rfl rfl rfl ?_|refine aF a7 2 rfl rfl rfl rfl rfl ?_|refine aq a7 1 rfl rfl rfl (by assumption) rfl ?_|refine aq a7 0 rfl rfl rfl (by assumption) rfl ?_|fail)|(apply aT; first|refine aj a7 0 rfl rfl rfl rfl rfl rfl rfl ?_|refine aj a7 1 rfl rfl rfl rfl rfl rfl rfl ?_|refine aj a7 2 rfl rfl rfl rfl rfl rfl rfl ?_|refine aj a7 3 rfl rfl rfl rfl rfl rfl rfl ?_|fail)|fail))
  exact bY a7 1 [] rfl rfl rfl rfl rfl (List.nil_sublist _) ⟨rfl, e, i, rfl, bF (of_decide_eq_false h) hno⟩
 have hg := he.1 (of_decide_eq_true h)
 clear h he
 (repeat' (first|refine a6 ?_|refine ae a7 rfl rfl ?_|fail))
 refine aZ [] _ (vS f hs) rfl rfl (List.Perm.refl _) rfl fun c L1 ⟨hL, e, i, hc, he⟩ => ?_
 subst hc; subst hL
 (repeat' (first|refine ah ?_|refine a6 ?_|refine a8 ?_|refine aa ?_|refine ae a7 rfl rfl ?_|(apply bn; first|refine aq a7 0 rfl rfl rfl rfl rfl ?_|refine aq a7 1 rfl rfl rfl rfl rfl ?_|refine aq a7 2 rfl rfl rfl rfl rfl ?_|refine aq a7 3 rfl rfl rfl rfl rfl ?_|refine aF a7 0 rfl rfl rfl rfl rfl ?_|refine aF a7 1 rfl rfl rfl rfl rfl ?_|refine aF a7 2 rfl rfl rfl rfl rfl ?_|refine aq a7 1 rfl rfl rfl (by assumption) rfl ?_|refine aq a7 0 rfl rfl rfl (by assumption) rfl ?_|fail)|(apply aT; first|refine aj a7 0 rfl rfl rfl rfl rfl rfl rfl ?_|refine aj a7 1 rfl rfl rfl rfl rfl rfl rfl ?_|refine aj a7 2 rfl rfl rfl rfl rfl rfl rfl ?_|refine aj a7 3 rfl rfl rfl rfl rfl rfl rfl ?_|fail)|fail))
 refine av rfl (fun h => ?_) (fun h => ?_)
 rotate_left
 ·have hno : ¬ jU f := fun k => of_decide_eq_false h (he.2 k.2.2.1)
  (repeat' (first|refine ah ?_|refine a6 ?_|refine ak ?_|refine a8 ?_|refine aa ?_|refine ae a7 rfl rfl ?_|(apply bn; first|refine aq a7 0 rfl rfl rfl rfl rfl ?_|refine aq a7 1 rfl rfl rfl rfl rfl ?_|refine aq a7 2 rfl rfl rfl rfl rfl ?_|refine aq a7 3 rfl rfl rfl rfl rfl ?_|refine aF a7 0 rfl rfl rfl rfl rfl ?_|refine aF a7 1 rfl rfl rfl rfl rfl ?_|refine aF a7 2 rfl rfl rfl rfl rfl ?_|refine aq a7 1 rfl rfl rfl (by assumption) rfl ?_|refine aq a7 0 rfl rfl rfl (by assumption) rfl ?_|fail)|fail))
  refine av rfl (fun h2 => absurd (h2.symm.trans h) (by decide)) (fun _ => ?_)
  (repeat' (first|refine ah ?_|refine a6 ?_|refine ak ?_|refine a8 ?_|refine aa ?_|refine ae a7 rfl rfl ?_|(apply bn; first|refine aq a7 0 rfl rfl rfl rfl rfl ?_|refine aq a7 1 rfl rfl rfl rfl rfl ?_|refine aq a7 2 rfl rfl rfl rfl rfl ?_|refine aq a7 3 rfl rfl rfl rfl rfl ?_|refine aF a7 0 rfl rfl rfl rfl rfl ?_|refine aF a7 1 rfl rfl rfl rfl rfl ?_|refine aF a7 2 rfl rfl rfl rfl rfl ?_|refine aq a7 1 rfl rfl rfl (by assumption) rfl ?_|refine aq a7 0 rfl rfl rfl (by assumption) rfl ?_|fail)|fail))
  refine av rfl (fun h2 => absurd (h2.symm.trans h) (by decide)) (fun _ => ?_)
  (repeat' (first|refine ah ?_|refine a6 ?_|refine ak ?_|refine au ?_|refine a8 ?_|refine aa ?_|(apply bn; first|refine aq a7 0 rfl rfl rfl rfl rfl ?_|refine aq a7 1 rfl rfl rfl rfl rfl ?_|refine aq a7 2 rfl rfl rfl rfl rfl ?_|refine aq a7 3 rfl rfl rfl rfl rfl ?_|refine aF a7 0 rfl rfl rfl rfl rfl ?_|refine aF a7 1 rfl rfl rfl rfl rfl ?_|refine aF a7 2 rfl rfl rfl rfl rfl ?_|refine aq a7 1 rfl rfl rfl (by assumption) rfl ?_|refine aq a7 0 rfl rfl rfl (by assumption) rfl ?_|fail)|(apply aT; first|refine aj a7 0 rfl rfl rfl rfl rfl rfl rfl ?_|refine aj a7 1 rfl rfl rfl rfl rfl rfl rfl ?_|refine aj a7 2 rfl rfl rfl rfl rfl rfl rfl ?_|refine aj a7 3 rfl rfl rfl rfl rfl rfl rfl ?_|fail)|fail))
  exact bY a7 1 [] rfl rfl rfl rfl rfl (List.nil_sublist _) ⟨rfl, e, i, rfl, bF (of_decide_eq_false h) hno⟩
 have hcs := he.1 (of_decide_eq_true h)
 clear h he
 (repeat' (first|refine a6 ?_|refine ae a7 rfl rfl ?_|fail))
 refine aZ [] _ (wv f hs) rfl rfl (List.Perm.refl _) rfl fun c L1 ⟨hL, e, i, hc, he⟩ => ?_
 subst hc; subst hL
 (repeat' (first|refine ah ?_|refine a6 ?_|refine a8 ?_|refine aa ?_|refine ae a7 rfl rfl ?_|(apply bn; first|refine aq a7 0 rfl rfl rfl rfl rfl ?_|refine aq a7 1 rfl rfl rfl rfl rfl ?_|refine aq a7 2 rfl rfl rfl rfl rfl ?_|refine aq a7 3 rfl rfl rfl rfl rfl ?_|refine aF a7 0 rfl rfl rfl rfl rfl ?_|refine aF a7 1 rfl rfl rfl rfl rfl ?_|refine aF a7 2 rfl rfl rfl rfl rfl ?_|refine aq a7 1 rfl rfl rfl (by assumption) rfl ?_|refine aq a7 0 rfl rfl rfl (by assumption) rfl ?_|fail)|(apply aT; first|refine aj a7 0 rfl rfl rfl rfl rfl rfl rfl ?_|refine aj a7 1 rfl rfl rfl rfl rfl rfl rfl ?_|refine aj a7 2 rfl rfl rfl rfl rfl rfl rfl ?_|refine aj a7 3 rfl rfl rfl rfl rfl rfl rfl ?_|fail)|fail))
 refine av rfl (fun h => ?_) (fun h => ?_)
 rotate_left
 ·have hno : ¬ jU f := fun k => of_decide_eq_false h (he.2 k.2.2.2.1)
  (repeat' (first|refine ah ?_|refine a6 ?_|refine ak ?_|refine a8 ?_|refine aa ?_|refine ae a7 rfl rfl ?_|(apply bn; first|refine aq a7 0 rfl rfl rfl rfl rfl ?_|refine aq a7 1 rfl rfl rfl rfl rfl ?_|refine aq a7 2 rfl rfl rfl rfl rfl ?_|refine aq a7 3 rfl rfl rfl rfl rfl ?_|refine aF a7 0 rfl rfl rfl rfl rfl ?_|refine aF a7 1 rfl rfl rfl rfl rfl ?_|refine aF a7 2 rfl rfl rfl rfl rfl ?_|refine aq a7 1 rfl rfl rfl (by assumption) rfl ?_|refine aq a7 0 rfl rfl rfl (by assumption) rfl ?_|fail)|fail))
  refine av rfl (fun h2 => absurd (h2.symm.trans h) (by decide)) (fun _ => ?_)
  (repeat' (first|refine ah ?_|refine a6 ?_|refine ak ?_|refine au ?_|refine a8 ?_|refine aa ?_|(apply bn; first|refine aq a7 0 rfl rfl rfl rfl rfl ?_|refine aq a7 1 rfl rfl rfl rfl rfl ?_|refine aq a7 2 rfl rfl rfl rfl rfl ?_|refine aq a7 3 rfl rfl rfl rfl rfl ?_|refine aF a7 0 rfl rfl rfl rfl rfl ?_|refine aF a7 1 rfl rfl rfl rfl rfl ?_|refine aF a7 2 rfl rfl rfl rfl rfl ?_|refine aq a7 1 rfl rfl rfl (by assumption) rfl ?_|refine aq a7 0 rfl rfl rfl (by assumption) rfl ?_|fail)|(apply aT; first|refine aj a7 0 rfl rfl rfl rfl rfl rfl rfl ?_|refine aj a7 1 rfl rfl rfl rfl rfl rfl rfl ?_|refine aj a7 2 rfl rfl rfl rfl rfl rfl rfl ?_|refine aj a7 3 rfl rfl rfl rfl rfl rfl rfl ?_|fail)|fail))
  exact bY a7 1 [] rfl rfl rfl rfl rfl (List.nil_sublist _) ⟨rfl, e, i, rfl, bF (of_decide_eq_false h) hno⟩
 have hlk := he.1 (of_decide_eq_true h)
 clear h he
 (repeat' (first|refine a6 ?_|refine ae a7 rfl rfl ?_|fail))
 refine aZ [] _ (xD f hfit.axes) rfl rfl (List.Perm.refl _) rfl fun c L1 ⟨hL, e, i, hc, he⟩ => ?_
 subst hc; subst hL
 (repeat' (first|refine ah ?_|refine a6 ?_|refine a8 ?_|refine aa ?_|refine ae a7 rfl rfl ?_|(apply bn; first|refine aq a7 0 rfl rfl rfl rfl rfl ?_|refine aq a7 1 rfl rfl rfl rfl rfl ?_|refine aq a7 2 rfl rfl rfl rfl rfl ?_|refine aq a7 3 rfl rfl rfl rfl rfl ?_|refine aF a7 0 rfl rfl rfl rfl rfl ?_|refine aF a7 1 rfl rfl rfl rfl rfl ?_|refine aF a7 2 rfl rfl rfl rfl rfl ?_|refine aq a7 1 rfl rfl rfl (by assumption) rfl ?_|refine aq a7 0 rfl rfl rfl (by assumption) rfl ?_|fail)|(apply aT; first|refine aj a7 0 rfl rfl rfl rfl rfl rfl rfl ?_|refine aj a7 1 rfl rfl rfl rfl rfl rfl rfl ?_|refine aj a7 2 rfl rfl rfl rfl rfl rfl rfl ?_|refine aj a7 3 rfl rfl rfl rfl rfl rfl rfl ?_|fail)|fail))
 refine av rfl (fun h => ?_) (fun h => ?_)
 rotate_left
 ·have hno : ¬ jU f := fun k => of_decide_eq_false h (he.2 k.2.2.2.2.1)
  (repeat' (first|refine ah ?_|refine a6 ?_|refine ak ?_|refine au ?_|refine a8 ?_|refine aa ?_|(apply bn; first|refine aq a7 0 rfl rfl rfl rfl rfl ?_|refine aq a7 1 rfl rfl rfl rfl rfl ?_|refine aq a7 2 rfl rfl rfl rfl rfl ?_|refine aq a7 3 rfl rfl rfl rfl rfl ?_|refine aF a7 0 rfl rfl rfl rfl rfl ?_|refine aF a7 1 rfl rfl rfl rfl rfl ?_|refine aF a7 2 rfl rfl rfl rfl rfl ?_|refine aq a7 1 rfl rfl rfl (by assumption) rfl ?_|refine aq a7 0 rfl rfl rfl (by assumption) rfl ?_|fail)|(apply aT; first|refine aj a7 0 rfl rfl rfl rfl rfl rfl rfl ?_|refine aj a7 1 rfl rfl rfl rfl rfl rfl rfl ?_|refine aj a7 2 rfl rfl rfl rfl rfl rfl rfl ?_|refine aj a7 3 rfl rfl rfl rfl rfl rfl rfl ?_|fail)|fail))
  exact bY a7 1 [] rfl rfl rfl rfl rfl (List.nil_sublist _) ⟨rfl, e, i, rfl, bF (of_decide_eq_false h) hno⟩
 have hax := he.1 (of_decide_eq_true h)
 clear h he
 (repeat' (first|refine a6 ?_|refine ae a7 rfl rfl ?_|fail))
 refine aZ [] _ (wS f) rfl rfl (List.Perm.refl _) rfl fun c L1 ⟨hL, e, i, hc, he⟩ => ?_
 subst hc; subst hL
 (repeat' (first|refine ah ?_|refine a6 ?_|refine au ?_|refine a8 ?_|refine aa ?_|(apply bn; first|refine aq a7 0 rfl rfl rfl rfl rfl ?_|refine aq a7 1 rfl rfl rfl rfl rfl ?_|refine aq a7 2 rfl rfl rfl rfl rfl ?_|refine aq a7 3 rfl rfl rfl rfl rfl ?_|refine aF a7 0 rfl rfl rfl rfl rfl ?_|refine aF a7 1 rfl rfl rfl rfl rfl ?_|refine aF a7 2 rfl rfl rfl rfl rfl ?_|refine aq a7 1 rfl rfl rfl (by assumption) rfl ?_|refine aq a7 0 rfl rfl rfl (by assumption) rfl ?_|fail)|(apply aT; first|refine aj a7 0 rfl rfl rfl rfl rfl rfl rfl ?_|refine aj a7 1 rfl rfl rfl rfl rfl rfl rfl ?_|refine aj a7 2 rfl rfl rfl rfl rfl rfl rfl ?_|refine aj a7 3 rfl rfl rfl rfl rfl rfl rfl ?_|fail)|fail))
 exact bY a7 1 [] rfl rfl rfl rfl rfl (List.nil_sublist _) ⟨rfl, e, i, rfl, ⟨fun h => ⟨by omega, hg, hcs, hlk, hax, he.1 h⟩, fun k => he.2 k.2.2.2.2.2⟩⟩
theorem sv (f : aH) (hs : ck f) (hfit : eX f) : bo Tryz.prog 40 [bw f] (c8 (decide ((er f).1 = 0))) := by
 refine aU Tryz.func40 rfl Tryz.ntmps40 rfl fun B => ?_
 (repeat' (first|refine ah ?_|refine a6 ?_|refine a8 ?_|refine aa ?_|refine ae a7 rfl rfl ?_|refine b6 ?_|fail))
 refine aZ [] _ (w9 f hs hfit) rfl rfl (List.Perm.refl _) rfl fun c L1 ⟨hL, e, i, hc, he⟩ => ?_
 subst hc; subst hL
 have hd : decide ((er f).1 = 0) = decide (e = 0) := decide_eq_decide.2 ((rY f).trans he.symm)
 rw [hd]
 (repeat' (first|refine au ?_|refine a8 ?_|refine aa ?_|refine ae a7 rfl rfl ?_|fail))
 exact aB rfl rfl rfl
end Go.Proofs.YtpbinloeemebkaaGreat

namespace Go.Proofs.YtpbinloeemebkaaGreat
open Go.RowKit
attribute [local irreducible] AT bN AX AO Av Kt bi dE DA d6
open Go.MapKept
abbrev WK := Option (Nat × Nat × List AV)
def lZ (x : Int × Nat) : List AV := [aQ x.1, aQ x.2]
def Ay (k : WK) (n : Nat) : Value := match k with
 | none => .slice none 0 0
 | some (b, cap, _) => .slice (some ⟨b, 0, none⟩) n cap
def sL (k : WK) : AL := match k with
 | none => []
 | some (b, _, cs) => [(b, .box cs 354)]
def qa (k : WK) (l : List (Int × Nat)) : Prop := match k with
 | none => l = []
 | some (_, cap, cs) => cs.take (l.length * 2) = (l.map lZ).flatten ∧ cs.length = cap * 2 ∧ l.length ≤ cap ∧ cap ≤ maxLen ∧ 0 < cap
theorem jE (l : List (Int × Nat)) : (l.map lZ).flatten.length = l.length * 2 := by
 induction l with
 | nil => rfl
 | cons x l ih => rw [List.map_cons, List.flatten_cons, List.length_append, ih]; show 2 + _ = _; rw [List.length_cons]; omega
theorem o8 {b cap : Nat} {cs : List AV} {l : List (Int × Nat)} {z : Int} {i : Nat} (h : qa (some (b, cap, cs)) (l ++ [(z, i)])) : cs[0 + (l.length : Int).toNat * 2]? = some (aQ z) ∧ cs[0 + (l.length : Int).toNat * 2 + 1]? = some (aQ i) ∧ l.length + 1 ≤ cap ∧ cs.length = cap * 2 := by
 obtain ⟨h1, h2, h3, _⟩ := h
 rw [List.length_append, List.length_singleton] at h1 h3
 rw [List.map_append, List.flatten_append] at h1
 have hl := jE l
 have key : ∀ j, j < 2 → cs[l.length * 2 + j]? = (lZ (z, i))[j]? := fun j hj => by
  have := congrArg (fun q => q[l.length * 2 + j]?) h1
  simp only [List.getElem?_take] at this
  rw [if_pos (by omega), List.getElem?_append_right (by omega), hl] at this
  rw [this, show l.length * 2 + j - l.length * 2 = j by omega]
  simp [lZ]
 refine ⟨?_, ?_, h3, h2⟩
 ·have := key 0 (by omega); simpa [lZ] using this
 ·have := key 1 (by omega); simpa [lZ] using this
theorem qa.bump {b cap : Nat} {cs : List AV} {l : List (Int × Nat)} {z : Int} {i j : Nat} (h : qa (some (b, cap, cs)) (l ++ [(z, i)])) : qa (some (b, cap, cs.set (0 + (l.length : Int).toNat * 2 + 1) (aQ j))) (l ++ [(z, j)]) := by
 obtain ⟨h1, h2, h3, h4, h5⟩ := h
 rw [List.length_append, List.length_singleton] at h1 h3
 have hl := jE l
 refine ⟨?_, by rw [List.length_set]; exact h2, by rw [List.length_append, List.length_singleton]; exact h3, h4, h5⟩
 rw [List.length_append, List.length_singleton, List.take_set, h1, List.map_append, List.flatten_append, List.map_append, List.flatten_append, List.set_append_right _ _ (by rw [hl]; simp), hl]
 congr 1
 have : 0 + (l.length : Int).toNat * 2 + 1 - l.length * 2 = 1 := by simp
 rw [this]
 rfl
theorem qa.pop {b cap : Nat} {cs : List AV} {l : List (Int × Nat)} {x : Int × Nat} (h : qa (some (b, cap, cs)) (l ++ [x])) : qa (some (b, cap, cs)) l := by
 obtain ⟨h1, h2, h3, h4, h5⟩ := h
 rw [List.length_append, List.length_singleton] at h1 h3
 refine ⟨?_, h2, by omega, h4, h5⟩
 have := congrArg (List.take (l.length * 2)) h1
 rw [List.take_take, Nat.min_eq_left (by omega), List.map_append, List.flatten_append, List.take_append_of_le_length (Nat.le_of_eq (jE _).symm), List.take_of_length_le (l := (l.map lZ).flatten) (Nat.le_of_eq (jE _))] at this
 exact this
theorem qa.push {b cap : Nat} {cs : List AV} {l : List (Int × Nat)} {z : Int} (h1 : cs.length = cap * 2) (h2 : cs.take ((l.length + 1) * 2) = (l.map lZ).flatten ++ [aQ z, aQ 0]) (h3 : l.length + 1 ≤ cap) (h4 : cap ≤ maxLen) : qa (some (b, cap, cs)) (l ++ [(z, 0)]) := by
 refine ⟨?_, h1, by rw [List.length_append, List.length_singleton]; exact h3, h4, by omega⟩
 rw [List.length_append, List.length_singleton, h2, List.map_append, List.flatten_append]
 rfl
def lT (bm pw : Nat) (S : List Int) (k : WK) (W : List (Int × Nat)) : AL := sL k ++ [(bm, c6 KJ (cQ S)), (pw, .box [.sc (Ay k W.length)] 352)]
theorem jC (S : List Int) (z : Int) : cQ (S ++ [z]) (.int .i64 z) = some (c8 true) := by unfold cQ; simp
theorem iC (S : List Int) (z : Int) (q : Value) (h : q ≠ .int .i64 z) : cQ (S ++ [z]) q = cQ S q := by
 unfold cQ
 split
 ·rename_i t
  have hne : t ≠ z := fun e => h (by rw [e])
  simp [hne]
 ·rfl
theorem lN (S : List Int) (z : Int) : ((cQ S (.int .i64 z)).getD (.sc (.bool false))) = c8 (decide (z ∈ S)) := by
 unfold cQ
 simp only
 by_cases e : z ∈ S <;> simp [e]
set_option maxHeartbeats 4000000 in
theorem qv (f : aH) (z : Int) (bm pw : Nat) (S : List Int) (k : WK) (W : List (Int × Nat)) (hW : qa k W) (hl : W.length ≤ 100000) : AC Tryz.prog 285 [aQ z, .iptr (bO f), .iptr [.sc (.map (some bm))], .sc (.pointer (some ⟨pw, 0, none⟩))] (lT bm pw S k W) fun _ L => (eG f z = true ∧ z ∉ S ∧ ∃ k', L = lT bm pw (S ++ [z]) k' (W ++ [(z, 0)]) ∧ qa k' (W ++ [(z, 0)])) ∨ (¬ (eG f z = true ∧ z ∉ S) ∧ L = lT bm pw S k W) := by
 refine aU Tryz.func285 rfl Tryz.ntmps285 rfl fun B => ?_
 have hM := lN S z
 cases k with
 | none =>
  have hW0 : W = [] := hW
  subst hW0
  unfold lT sL Ay
  dsimp only
  simp only [List.nil_append]
  (repeat' (first|refine ah ?_|refine a6 ?_|refine ae a7 rfl rfl ?_|(apply ba;refine aY ?_)|fail))
  refine ci [0, 2, 3] (eG f z = true ∧ z ∉ S) rfl (fun Q' K => ?_) (fun hC => ?_) (fun hC => ?_)
  ·by_cases hin : eG f z = true
   ·rw [hin]
    (repeat' (first|refine ae a7 rfl rfl ?_|refine aw rfl rfl ?_|fail))
    refine gX 0 (.bool false) Tryz.underlying96 Tryz.underlying3 rfl rfl rfl rfl (by kernel_rfl) rfl ?_
    rw [hM]
    (repeat' (first|refine aa ?_|refine ae a7 rfl rfl ?_|refine aw rfl rfl ?_|fail))
    exact K _ _ rfl rfl (by simp [hin])
   ·rw [show eG f z = false by simpa using hin]
    (repeat' (first|refine aa ?_|refine ae a7 rfl rfl ?_|refine aD rfl rfl rfl rfl ?_|fail))
    exact K _ _ rfl rfl (by simp [hin])
  ·(repeat' (first|refine ah ?_|refine a6 ?_|refine ae a7 rfl rfl ?_|fail))
   refine cG 0 (cQ (S ++ [z])) Tryz.underlying96 Tryz.underlying3 rfl rfl rfl rfl rfl (jC S z) (iC S z) ?_
   (repeat' (first|refine a6 ?_|refine a8 ?_|refine aa ?_|refine ae a7 rfl rfl ?_|(apply bn; first|refine aq a7 0 rfl rfl rfl rfl rfl ?_|refine aq a7 1 rfl rfl rfl rfl rfl ?_|refine aq a7 2 rfl rfl rfl rfl rfl ?_|refine aq a7 3 rfl rfl rfl rfl rfl ?_|refine aF a7 0 rfl rfl rfl rfl rfl ?_|refine aF a7 1 rfl rfl rfl rfl rfl ?_|refine aF a7 2 rfl rfl rfl rfl rfl ?_|refine aq a7 1 rfl rfl rfl (by assumption) rfl ?_|refine aq a7 0 rfl rfl rfl (by assumption) rfl ?_|fail)|refine bM a7 ?_|fail))
   refine si a7 rfl rfl rfl rfl rfl rfl rfl rfl fun b' cs' cap' h1 h2 h3 h4 => ?_
   (repeat' (first|refine aa ?_|(apply aT; first|refine aj a7 0 rfl rfl rfl rfl rfl rfl rfl ?_|refine aj a7 1 rfl rfl rfl rfl rfl rfl rfl ?_|refine aj a7 2 rfl rfl rfl rfl rfl rfl rfl ?_|refine aj a7 3 rfl rfl rfl rfl rfl rfl rfl ?_|fail)|fail))
   exact cB rfl (.inl ⟨hC.1, hC.2, some (b', cap', cs'), rfl, qa.push (l := []) h1 h2 h3 h4⟩)
  ·(repeat' (first|refine ak ?_|fail))
   exact cB rfl (.inr ⟨hC, rfl⟩)
 | some kk =>
  obtain ⟨b, cap, cs⟩ := kk
  obtain ⟨hW1, hW2, hW3, hW4, hW5⟩ := hW
  unfold lT sL Ay
  dsimp only
  simp only [List.cons_append, List.nil_append]
  (repeat' (first|refine ah ?_|refine a6 ?_|refine ae a7 rfl rfl ?_|(apply ba;refine aY ?_)|fail))
  refine ci [0, 2, 3] (eG f z = true ∧ z ∉ S) rfl (fun Q' K => ?_) (fun hC => ?_) (fun hC => ?_)
  ·by_cases hin : eG f z = true
   ·rw [hin]
    (repeat' (first|refine ae a7 rfl rfl ?_|refine aw rfl rfl ?_|fail))
    refine gX 1 (.bool false) Tryz.underlying96 Tryz.underlying3 rfl rfl rfl rfl (by kernel_rfl) rfl ?_
    rw [hM]
    (repeat' (first|refine aa ?_|refine ae a7 rfl rfl ?_|refine aw rfl rfl ?_|fail))
    exact K _ _ rfl rfl (by simp [hin])
   ·rw [show eG f z = false by simpa using hin]
    (repeat' (first|refine aa ?_|refine ae a7 rfl rfl ?_|refine aD rfl rfl rfl rfl ?_|fail))
    exact K _ _ rfl rfl (by simp [hin])
  ·(repeat' (first|refine ah ?_|refine a6 ?_|refine ae a7 rfl rfl ?_|fail))
   refine cG 1 (cQ (S ++ [z])) Tryz.underlying96 Tryz.underlying3 rfl rfl rfl rfl rfl (jC S z) (iC S z) ?_
   (repeat' (first|refine a6 ?_|refine a8 ?_|refine aa ?_|refine ae a7 rfl rfl ?_|(apply bn; first|refine aq a7 0 rfl rfl rfl rfl rfl ?_|refine aq a7 1 rfl rfl rfl rfl rfl ?_|refine aq a7 2 rfl rfl rfl rfl rfl ?_|refine aq a7 3 rfl rfl rfl rfl rfl ?_|refine aF a7 0 rfl rfl rfl rfl rfl ?_|refine aF a7 1 rfl rfl rfl rfl rfl ?_|refine aF a7 2 rfl rfl rfl rfl rfl ?_|refine aq a7 1 rfl rfl rfl (by assumption) rfl ?_|refine aq a7 0 rfl rfl rfl (by assumption) rfl ?_|fail)|refine bM a7 ?_|fail))
   refine uD a7 0 rfl rfl rfl rfl rfl rfl rfl hW2 hW3 hW4 (by unfold maxLen; omega) (by omega) rfl fun b' cs' cap' h1 h2 h3 h4 => ?_
   (repeat' (first|refine aa ?_|(apply aT; first|refine aj a7 0 rfl rfl rfl rfl rfl rfl rfl ?_|refine aj a7 1 rfl rfl rfl rfl rfl rfl rfl ?_|refine aj a7 2 rfl rfl rfl rfl rfl rfl rfl ?_|refine aj a7 3 rfl rfl rfl rfl rfl rfl rfl ?_|fail)|fail))
   exact cB rfl (.inl ⟨hC.1, hC.2, some (b', cap', cs'), by rw [List.length_append]; rfl, qa.push (l := W) h1 (by rw [h2, hW1]) h3 h4⟩)
  ·(repeat' (first|refine ak ?_|fail))
   exact cB rfl (.inr ⟨hC, rfl⟩)
def ov (f : aH) (z : Int) : Nat := match f.Glyphs[z.toNat]? with | some gl => gl.Parts.length | none => 0
structure jH (f : aH) (T : List Int) (W : List (Int × Nat)) (S : List Int) : Prop where
 nodup : S.Nodup
 dom : ∀ z ∈ S, 0 ≤ z ∧ z < f.Glyphs.length
 perm : (T ++ W.map Prod.fst).Perm S
 few : ∀ x ∈ W, x.2 ≤ ov f x.1
theorem jH.len {f : aH} {T : List Int} {W : List (Int × Nat)} {S : List Int} (h : jH f T W S) : T.length + W.length = S.length ∧ S.length ≤ f.Glyphs.length := by
 have h1 := h.perm.length_eq
 rw [List.length_append, List.length_map] at h1
 exact ⟨h1, eb h.nodup h.dom⟩
theorem jH.mem {f : aH} {T : List Int} {W : List (Int × Nat)} {S : List Int} (h : jH f T W S) : ∀ x ∈ W, 0 ≤ x.1 ∧ x.1 < f.Glyphs.length := fun x hx => h.dom x.1 (h.perm.mem_iff.1 (List.mem_append.2 (.inr (List.mem_map_of_mem hx))))
theorem jH.push {f : aH} {T : List Int} {W : List (Int × Nat)} {S : List Int} {z : Int} (h : jH f T W S) (hz : eG f z = true) (hn : z ∉ S) : jH f T (W ++ [(z, 0)]) (S ++ [z]) := by
 refine ⟨List.nodup_append.2 ⟨h.nodup, by simp, fun x hx y hy e => by rw [List.mem_singleton] at hy; subst hy; subst e; exact hn hx⟩, fun y hy => ?_, ?_, fun x hx => ?_⟩
 ·rcases List.mem_append.1 hy with hy | hy
  ·exact h.dom y hy
  ·rw [List.mem_singleton] at hy; subst hy; exact iw.1 hz
 ·rw [List.map_append, ← List.append_assoc]
  exact h.perm.append_right _
 ·rcases List.mem_append.1 hx with hx | hx
  ·exact h.few x hx
  ·rw [List.mem_singleton] at hx; subst hx; exact Nat.zero_le _
theorem jH.pop {f : aH} {T : List Int} {W : List (Int × Nat)} {S : List Int} {z : Int} {i : Nat} (h : jH f T (W ++ [(z, i)]) S) : jH f (T ++ [z]) W S := by
 refine ⟨h.nodup, h.dom, List.Perm.trans ?_ h.perm, fun x hx => h.few x (List.mem_append.2 (.inl hx))⟩
 rw [List.map_append, List.append_assoc]
 exact List.Perm.append_left T List.perm_append_comm
theorem jH.bump {f : aH} {T : List Int} {W : List (Int × Nat)} {S : List Int} {z : Int} {i : Nat} (h : jH f T (W ++ [(z, i)]) S) (hi : i < ov f z) : jH f T (W ++ [(z, i + 1)]) S := by
 refine ⟨h.nodup, h.dom, ?_, fun x hx => ?_⟩
 ·have := h.perm
  rwa [List.map_append] at this ⊢
 ·rcases List.mem_append.1 hx with hx | hx
  ·exact h.few x (List.mem_append.2 (.inl hx))
  ·rw [List.mem_singleton] at hx; subst hx; exact hi
def xh (f : aH) (W : List (Int × Nat)) (S : List Int) : Nat := (f.Glyphs.length - S.length) * 1002 + (W.map fun x => ov f x.1 - x.2 + 1).sum
theorem yP (f : aH) (W : List (Int × Nat)) (S : List Int) (z : Int) (i : Nat) : xh f W S < xh f (W ++ [(z, i)]) S := by
 unfold xh
 rw [List.map_append, List.sum_append]
 simp only [List.map_cons, List.map_nil, List.sum_cons, List.sum_nil]
 omega
theorem xc {f : aH} {W : List (Int × Nat)} {S : List Int} {z : Int} {i : Nat} (hi : i < ov f z) : xh f (W ++ [(z, i + 1)]) S < xh f (W ++ [(z, i)]) S := by
 unfold xh
 rw [List.map_append, List.sum_append, List.map_append, List.sum_append]
 simp only [List.map_cons, List.map_nil, List.sum_cons, List.sum_nil]
 omega
theorem xd {f : aH} {W : List (Int × Nat)} {S : List Int} {z y : Int} {i : Nat} (hi : i < ov f z) (hS : S.length < f.Glyphs.length) (hy : ov f y ≤ 1000) : xh f (W ++ [(z, i + 1)] ++ [(y, 0)]) (S ++ [y]) < xh f (W ++ [(z, i)]) S := by
 unfold xh
 simp only [List.map_append, List.sum_append, List.map_cons, List.map_nil, List.sum_cons, List.sum_nil, List.length_append, List.length_singleton]
 have : (f.Glyphs.length - S.length) * 1002 = (f.Glyphs.length - (S.length + 1)) * 1002 + 1002 := by
  have : f.Glyphs.length - S.length = (f.Glyphs.length - (S.length + 1)) + 1 := by omega
  rw [this, Nat.add_mul, Nat.one_mul]
 omega
structure zi where
 T : List Int
 W : List (Int × Nat)
 S : List Int
 k : WK
 kt : Option (Nat × Nat)
def tg (bm pw : Nat) (x : zi) : AL := lT bm pw x.S x.k x.W ++ tok x.kt 3 1 (aV x.T).length
set_option maxHeartbeats 8000000 in
theorem yd (f : aH) (hf : Few f) : AC Tryz.prog 273 [bw f] [] fun c _ => ∃ T : List Int, c = .imm 1 (aV T) ∧ T.length ≤ f.Glyphs.length ∧ ∀ z ∈ T, 0 ≤ z ∧ z < f.Glyphs.length := by
 refine aU Tryz.func273 rfl Tryz.ntmps273 rfl fun B => ?_
 have hn := hf.n
 have hml : (f.Glyphs.map bz).length = f.Glyphs.length := List.length_map ..
 have hpl : ∀ z, ov f z ≤ 1000 := fun z => by
  unfold ov
  split
  ·rename_i gl hg; exact hf.parts gl (List.mem_of_getElem? hg)
  ·omega
 (repeat' (first|refine ah ?_|refine a6 ?_|refine a8 ?_|refine aa ?_|refine ae a7 rfl rfl ?_|refine b6 ?_|fail))
 refine dW KJ fun bm => ?_
 rw [kp]
 (repeat' (first|refine ah ?_|refine a6 ?_|refine am ?_|refine a8 ?_|refine aa ?_|refine ae a7 rfl rfl ?_|(apply aT; first|refine ai 4 a7 0 rfl rfl rfl rfl rfl rfl rfl rfl ?_|refine ai 4 a7 1 rfl rfl rfl rfl rfl rfl rfl rfl ?_|refine ai 4 a7 2 rfl rfl rfl rfl rfl rfl rfl rfl ?_|refine aj a7 0 rfl rfl rfl rfl rfl rfl rfl ?_|refine aj a7 1 rfl rfl rfl rfl rfl rfl rfl ?_|refine aj a7 2 rfl rfl rfl rfl rfl rfl rfl ?_|refine aj a7 3 rfl rfl rfl rfl rfl rfl rfl ?_|fail)|refine bb a7 fun _=>?_|fail))
 rename_i pw
 refine fy (cw (t := 3) (c' := .vec none 1 (aV [])) rfl fun σ v h => jm 1 h) ?_
 refine aL [1, 5, 6, 14] (α := Nat × zi) (fun x => [(15, aQ x.1), (3, .vec x.2.kt 1 (aV x.2.T))]) (fun x => x.1 ≤ f.Glyphs.length ∧ x.2.W = [] ∧ qa x.2.k x.2.W ∧ jH f x.2.T x.2.W x.2.S) (fun x => tg bm pw x.2) (fun x => f.Glyphs.length - x.1) (0, ⟨[], [], [], none, none⟩) rfl ⟨rfl, rfl, trivial⟩ ⟨Nat.zero_le _, rfl, rfl, ⟨List.nodup_nil, fun z hz => (by cases hz), List.Perm.refl _, fun x hx => (by cases hx)⟩⟩ (fun σ w h => by
  have := cK.perm h (List.Perm.swap ..)
  exact this) ?_
 rintro ⟨g, x⟩ ⟨hg, hW0, hk, hI⟩
 dsimp only at hg hW0 hk hI ⊢
 try dsimp only [List.cons_append, List.nil_append, List.map_cons, List.map_nil]
 (repeat' (first|refine ah ?_|refine a6 ?_|refine a8 ?_|refine aa ?_|refine ae a7 rfl rfl ?_|fail))
 refine av rfl (fun h => ?_) (fun h => ?_)
 ·have hgl : g < f.Glyphs.length := by have := of_decide_eq_true h; omega
  clear h
  have hlen := hI.len
  (repeat' (first|refine ah ?_|refine a6 ?_|refine am ?_|refine ak ?_|refine a8 ?_|refine aa ?_|refine ae a7 rfl rfl ?_|fail))
  unfold tg
  refine cy (cs := [aQ g]) (lT bm pw x.S x.k x.W) (tok x.kt 3 1 (aV x.T).length) (qv f g bm pw x.S x.k x.W hk (by omega)) rfl rfl rfl (List.Perm.refl _) rfl rfl fun c L1 hc => ?_
  obtain ⟨y, hy1, hy2, hy3, hy4, hy5⟩ : ∃ y : zi, y.T = x.T ∧ y.kt = x.kt ∧ qa y.k y.W ∧ jH f y.T y.W y.S ∧ L1 = lT bm pw y.S y.k y.W := by
   rcases hc with ⟨h1, h2, k', hL, hk'⟩ | ⟨_, hL⟩
   ·exact ⟨⟨x.T, x.W ++ [((g : Int), 0)], x.S ++ [(g : Int)], k', x.kt⟩, rfl, rfl, hk', hI.push h1 h2, hL⟩
   ·exact ⟨x, rfl, rfl, hk, hI, hL⟩
  subst hy5
  rw [← hy1, ← hy2]
  clear hc hI hk hlen hy1 hy2
  (repeat' (first|refine am ?_|refine a8 ?_|refine aa ?_|fail))
  refine aL [1, 5, 6, 14, 15] (α := zi) (fun y => [(3, .vec y.kt 1 (aV y.T))]) (fun y => qa y.k y.W ∧ jH f y.T y.W y.S) (fun y => tg bm pw y) (fun y => xh f y.W y.S) y rfl ⟨rfl, trivial⟩ ⟨hy3, hy4⟩ (fun _ _ h => h) ?_
  clear hy3 hy4 y
  rintro ⟨T, W, S, k, kt⟩ ⟨hk, hI⟩
  dsimp only at hk hI ⊢
  try dsimp only [List.cons_append, List.nil_append, List.map_cons, List.map_nil]
  have hlen := hI.len
  unfold tg
  dsimp only
  rcases List.eq_nil_or_concat W with rfl | ⟨W, ⟨z, i⟩, rfl⟩
  ·
   cases k with
   | none =>
    unfold lT sL Ay
    dsimp only
    (repeat' (first|refine ah ?_|refine a6 ?_|refine aR ?_|refine a8 ?_|refine az ?_|refine aJ ?_|refine aC ?_|refine aA ?_|refine aa ?_|refine ae a7 rfl rfl ?_|(apply bn; first|refine aq a7 0 rfl rfl rfl rfl rfl ?_|refine aq a7 1 rfl rfl rfl rfl rfl ?_|refine aq a7 2 rfl rfl rfl rfl rfl ?_|refine aq a7 3 rfl rfl rfl rfl rfl ?_|refine aF a7 0 rfl rfl rfl rfl rfl ?_|refine aF a7 1 rfl rfl rfl rfl rfl ?_|refine aF a7 2 rfl rfl rfl rfl rfl ?_|refine aq a7 1 rfl rfl rfl (by assumption) rfl ?_|refine aq a7 0 rfl rfl rfl (by assumption) rfl ?_|fail)|(apply aX; refine aW ?_)|refine bV rfl ?_|fail))
    exact aE (g + 1, ⟨T, [], S, none, kt⟩) rfl ⟨by rw [Int.natCast_add]; rfl, rfl, trivial⟩ ⟨by dsimp only; omega, rfl, hk, hI⟩ (by dsimp only; omega) (fun _ _ h => h)
   | some kk =>
    obtain ⟨b, cap, cs⟩ := kk
    unfold lT sL Ay
    dsimp only
    (repeat' (first|refine ah ?_|refine a6 ?_|refine aR ?_|refine a8 ?_|refine az ?_|refine aJ ?_|refine aC ?_|refine aA ?_|refine aa ?_|refine ae a7 rfl rfl ?_|(apply bn; first|refine aq a7 0 rfl rfl rfl rfl rfl ?_|refine aq a7 1 rfl rfl rfl rfl rfl ?_|refine aq a7 2 rfl rfl rfl rfl rfl ?_|refine aq a7 3 rfl rfl rfl rfl rfl ?_|refine aF a7 0 rfl rfl rfl rfl rfl ?_|refine aF a7 1 rfl rfl rfl rfl rfl ?_|refine aF a7 2 rfl rfl rfl rfl rfl ?_|refine aq a7 1 rfl rfl rfl (by assumption) rfl ?_|refine aq a7 0 rfl rfl rfl (by assumption) rfl ?_|fail)|(apply aX; refine aW ?_)|refine bV rfl ?_|fail))
    exact aE (g + 1, ⟨T, [], S, some (b, cap, cs), kt⟩) rfl ⟨by rw [Int.natCast_add]; rfl, rfl, trivial⟩ ⟨by dsimp only; omega, rfl, hk, hI⟩ (by dsimp only; omega) (fun _ _ h => h)
  ·cases k with
   | none => exact absurd hk (by simp [qa])
   | some kk =>
    obtain ⟨b, cap, cs⟩ := kk
    rw [List.concat_eq_append] at hk hI hlen ⊢
    obtain ⟨hc0, hc1, hcap, hcl⟩ := o8 hk
    have hzr := hI.mem (z, i) (List.mem_append.2 (.inr (List.mem_singleton.2 rfl)))
    obtain ⟨gl, hgl⟩ : ∃ q, f.Glyphs[z.toNat]? = some q := ⟨_, List.getElem?_eq_getElem (by dsimp only at hzr; omega)⟩
    have hpe : ov f z = gl.Parts.length := by unfold ov; rw [hgl]
    have hgg := b5 (c := bz) hgl
    have hpm : (gl.Parts.map d7).length = gl.Parts.length := List.length_map ..
    have hif := hI.few (z, i) (List.mem_append.2 (.inr (List.mem_singleton.2 rfl)))
    dsimp only at hzr hif
    rw [hpe] at hif
    have hWl : (W ++ [(z, i)]).length = W.length + 1 := by rw [List.length_append, List.length_singleton]
    have hWi : ((W.length + 1 : Nat) : Int) - 1 = (W.length : Int) := by omega
    rw [hWl] at hlen
    unfold lT sL Ay
    dsimp only
    rw [hWl]
    simp only [List.cons_append, List.nil_append]
    (repeat' (first|refine ah ?_|refine a6 ?_|refine a8 ?_|refine aa ?_|refine ae a7 rfl rfl ?_|(apply bn; first|refine aq a7 0 rfl rfl rfl rfl rfl ?_|refine aq a7 1 rfl rfl rfl rfl rfl ?_|refine aq a7 2 rfl rfl rfl rfl rfl ?_|refine aq a7 3 rfl rfl rfl rfl rfl ?_|refine aF a7 0 rfl rfl rfl rfl rfl ?_|refine aF a7 1 rfl rfl rfl rfl rfl ?_|refine aF a7 2 rfl rfl rfl rfl rfl ?_|refine aq a7 1 rfl rfl rfl (by assumption) rfl ?_|refine aq a7 0 rfl rfl rfl (by assumption) rfl ?_|fail)|fail))
    refine av rfl (fun h => ?_) (fun h => absurd (of_decide_eq_false h) (by omega))
    clear h
    (repeat' (first|refine ah ?_|refine a6 ?_|refine am ?_|refine ak ?_|refine a8 ?_|refine aa ?_|refine ae a7 rfl rfl ?_|(apply bn; first|refine aq a7 0 rfl rfl rfl rfl rfl ?_|refine aq a7 1 rfl rfl rfl rfl rfl ?_|refine aq a7 2 rfl rfl rfl rfl rfl ?_|refine aq a7 3 rfl rfl rfl rfl rfl ?_|refine aF a7 0 rfl rfl rfl rfl rfl ?_|refine aF a7 1 rfl rfl rfl rfl rfl ?_|refine aF a7 2 rfl rfl rfl rfl rfl ?_|refine aq a7 1 rfl rfl rfl (by assumption) rfl ?_|refine aq a7 0 rfl rfl rfl (by assumption) rfl ?_|fail)|(apply aX; refine aW ?_)|(apply aP; first|refine aO a7 ?_|refine aI a7 ?_)|fail))
    rw [hWi]
    (repeat' (first|fail))
    refine bj 6 [(0, .v), (1, .v), (2, .v), (3, .v), (4, .v), (5, .l)] none ?_ trivial rfl (by kernel_rfl) (by kernel_rfl) (by kernel_rfl) mixed (by kernel_rfl) rfl
    (repeat' (first|refine aN ?_|refine bf a7 ?_|fail))
    refine dI a7 0 rfl rfl rfl hc0 trivial ?_
    (repeat' (first|fail))
    refine bl [1, 3, 5, 6, 8, 14, 15, 30, 34] rfl rfl ?_
    (repeat' (first|refine ah ?_|refine a6 ?_|refine a8 ?_|refine aa ?_|refine ae a7 rfl rfl ?_|(apply bn; first|refine aq a7 0 rfl rfl rfl rfl rfl ?_|refine aq a7 1 rfl rfl rfl rfl rfl ?_|refine aq a7 2 rfl rfl rfl rfl rfl ?_|refine aq a7 3 rfl rfl rfl rfl rfl ?_|refine aF a7 0 rfl rfl rfl rfl rfl ?_|refine aF a7 1 rfl rfl rfl rfl rfl ?_|refine aF a7 2 rfl rfl rfl rfl rfl ?_|refine aq a7 1 rfl rfl rfl (by assumption) rfl ?_|refine aq a7 0 rfl rfl rfl (by assumption) rfl ?_|fail)|(apply aP; first|refine aO a7 ?_|refine aI a7 ?_)|fail))
    refine av rfl (fun h => ?_) (fun h => ?_)
    ·
     (repeat' (first|refine ah ?_|refine a6 ?_|refine ae a7 rfl rfl ?_|(apply bn; first|refine aq a7 0 rfl rfl rfl rfl rfl ?_|refine aq a7 1 rfl rfl rfl rfl rfl ?_|refine aq a7 2 rfl rfl rfl rfl rfl ?_|refine aq a7 3 rfl rfl rfl rfl rfl ?_|refine aF a7 0 rfl rfl rfl rfl rfl ?_|refine aF a7 1 rfl rfl rfl rfl rfl ?_|refine aF a7 2 rfl rfl rfl rfl rfl ?_|refine aq a7 1 rfl rfl rfl (by assumption) rfl ?_|refine aq a7 0 rfl rfl rfl (by assumption) rfl ?_|fail)|refine bM a7 ?_|fail))
     refine cF a7 [(b, .box cs 354), (bm, c6 KJ (cQ S)), (pw, .box [.sc (.slice (some ⟨b, 0, none⟩) (W.length + 1) cap)] 352)] rfl rfl rfl rfl (List.perm_append_comm (l₁ := [(b, AB.box cs 354), (bm, c6 KJ (cQ S)), (pw, AB.box [.sc (.slice (some ⟨b, 0, none⟩) (W.length + 1) cap)] 352)])) (by rw [aM]; simp; omega) (by rw [aM]; simp; omega) rfl fun k' => ?_
     refine bh (bc List.perm_append_comm) ?_
     rw [show aV T ++ [[aQ z]] = aV (T ++ [z]) from cE T [z]]
     (repeat' (first|refine ah ?_|refine a6 ?_|refine a8 ?_|refine aa ?_|refine ae a7 rfl rfl ?_|(apply bn; first|refine aq a7 0 rfl rfl rfl rfl rfl ?_|refine aq a7 1 rfl rfl rfl rfl rfl ?_|refine aq a7 2 rfl rfl rfl rfl rfl ?_|refine aq a7 3 rfl rfl rfl rfl rfl ?_|refine aF a7 0 rfl rfl rfl rfl rfl ?_|refine aF a7 1 rfl rfl rfl rfl rfl ?_|refine aF a7 2 rfl rfl rfl rfl rfl ?_|refine aq a7 1 rfl rfl rfl (by assumption) rfl ?_|refine aq a7 0 rfl rfl rfl (by assumption) rfl ?_|fail)|(apply aX; refine aW ?_)|fail))
     refine A8 a7 W.length rfl rfl rfl hWi (by omega) (by omega) rfl ?_
     (repeat' (first|refine aR ?_|refine a8 ?_|refine az ?_|refine aC ?_|refine aa ?_|(apply aT; first|refine ai 4 a7 0 rfl rfl rfl rfl rfl rfl rfl rfl ?_|refine ai 4 a7 1 rfl rfl rfl rfl rfl rfl rfl rfl ?_|refine ai 4 a7 2 rfl rfl rfl rfl rfl rfl rfl rfl ?_|refine aj a7 0 rfl rfl rfl rfl rfl rfl rfl ?_|refine aj a7 1 rfl rfl rfl rfl rfl rfl rfl ?_|refine aj a7 2 rfl rfl rfl rfl rfl rfl rfl ?_|refine aj a7 3 rfl rfl rfl rfl rfl rfl rfl ?_|fail)|fail))
     exact aE (⟨T ++ [z], W, S, some (b, cap, cs), k'⟩ : zi) rfl ⟨rfl, trivial⟩ ⟨hk.pop, hI.pop⟩ (yP f W S z i) (fun _ _ h => h)
    have hil : i < gl.Parts.length := by have := of_decide_eq_false h; omega
    clear h
    obtain ⟨q, hq⟩ : ∃ z, gl.Parts[i]? = some z := ⟨_, List.getElem?_eq_getElem hil⟩
    have hqg := b5 (c := d7) hq
    have hk2 := hk.bump (j := i + 1)
    have hI2 := hI.bump (by rw [hpe]; exact hil)
    obtain ⟨hd0, hd1, _, hdl⟩ := o8 hk2
    have hpp := hf.parts gl (List.mem_of_getElem? hgl)
    have hst : Nat.ble (0 + (W.length : Int).toNat * 2 + 1 + 1) cs.length = true := by rw [Nat.ble_eq]; omega
    (repeat' (first|refine ah ?_|refine a6 ?_|refine ak ?_|refine a8 ?_|refine ae a7 rfl rfl ?_|(apply bn; first|refine aq a7 0 rfl rfl rfl rfl rfl ?_|refine aq a7 1 rfl rfl rfl rfl rfl ?_|refine aq a7 2 rfl rfl rfl rfl rfl ?_|refine aq a7 3 rfl rfl rfl rfl rfl ?_|refine aF a7 0 rfl rfl rfl rfl rfl ?_|refine aF a7 1 rfl rfl rfl rfl rfl ?_|refine aF a7 2 rfl rfl rfl rfl rfl ?_|refine aq a7 1 rfl rfl rfl (by assumption) rfl ?_|refine aq a7 0 rfl rfl rfl (by assumption) rfl ?_|fail)|(apply aX; refine aW ?_)|fail))
    refine aj a7 0 rfl rfl rfl rfl rfl rfl hst ?_
    rw [dU, show ((i : Int) + 1) = ((i + 1 : Nat) : Int) by omega]
    generalize cs.set (0 + (W.length : Int).toNat * 2 + 1) (aQ ((i + 1 : Nat) : Int)) = cs2 at hk2 hd0 hd1 hdl ⊢
    (repeat' (first|refine a6 ?_|refine a8 ?_|refine aa ?_|refine ae a7 rfl rfl ?_|(apply bn; first|refine aq a7 0 rfl rfl rfl rfl rfl ?_|refine aq a7 1 rfl rfl rfl rfl rfl ?_|refine aq a7 2 rfl rfl rfl rfl rfl ?_|refine aq a7 3 rfl rfl rfl rfl rfl ?_|refine aF a7 0 rfl rfl rfl rfl rfl ?_|refine aF a7 1 rfl rfl rfl rfl rfl ?_|refine aF a7 2 rfl rfl rfl rfl rfl ?_|refine aq a7 1 rfl rfl rfl (by assumption) rfl ?_|refine aq a7 0 rfl rfl rfl (by assumption) rfl ?_|fail)|(apply aX; refine aW ?_)|fail))
    rw [show ((i + 1 : Nat) : Int) - 1 = (i : Int) by omega]
    (repeat' (first|refine ae a7 rfl rfl ?_|(apply aP; first|refine aO a7 ?_|refine aI a7 ?_)|fail))
    have hlen2 := hI2.len
    rw [List.length_append, List.length_singleton] at hlen2
    refine cy (cs := [aQ q.Glyph]) (lT bm pw S (some (b, cap, cs2)) (W ++ [(z, i + 1)])) (tok kt 3 1 (aV T).length) (qv f q.Glyph bm pw S _ (W ++ [(z, i + 1)]) hk2 (by rw [List.length_append, List.length_singleton]; omega)) rfl rfl rfl (List.Perm.of_eq (by simp [lT, sL, Ay, gA])) rfl rfl fun c L1 hc => ?_
    rcases hc with ⟨h1, h2, k', hL, hk'⟩ | ⟨_, hL⟩
    ·subst hL
     have hI3 := hI2.push h1 h2
     have hlen3 := hI3.len
     simp only [List.length_append, List.length_singleton] at hlen3
     (repeat' (first|refine aJ ?_|refine aa ?_|fail))
     exact aE (⟨T, W ++ [(z, i + 1)] ++ [(q.Glyph, 0)], S ++ [q.Glyph], k', kt⟩ : zi) rfl ⟨rfl, trivial⟩ ⟨hk', hI3⟩ (xd (f := f) (W := W) (S := S) (z := z) (i := i) (by rw [hpe]; exact hil) (by omega) (hpl q.Glyph)) (fun _ _ h => h)
    ·subst hL
     (repeat' (first|refine aJ ?_|refine aa ?_|fail))
     exact aE (⟨T, W ++ [(z, i + 1)], S, some (b, cap, cs2), kt⟩ : zi) rfl ⟨rfl, trivial⟩ ⟨hk2, hI2⟩ (xc (by rw [hpe]; exact hil)) (fun _ _ h => h)
 have hlen := hI.len
 (repeat' (first|refine ah ?_|refine a6 ?_|refine au ?_|refine aR ?_|refine a8 ?_|refine az ?_|refine aC ?_|refine aA ?_|refine aa ?_|refine ae a7 rfl rfl ?_|fail))
 refine bU (cw (t := 2) (c' := .imm 1 (aV x.T)) rfl fun σ v h => VR.im h) ?_
 exact aB rfl rfl ⟨x.T, rfl, by omega, fun z hz => hI.dom z (hI.perm.mem_iff.1 (List.mem_append.2 (.inl hz)))⟩
end Go.Proofs.YtpbinloeemebkaaGreat
