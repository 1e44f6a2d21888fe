/-
  The program: how deep glyphs are, and how many points they have.
-/
import Derived.Test.YtpbinloeemebkaaGreatM15
namespace Go.Proofs.YtpbinloeemebkaaGreat
open Go.RowKit
attribute [local irreducible] AT bN AX AO Av Kt bi dE DA d6
def dF (D : Int → Int) (ps : List bE) : Int := ps.foldl (fun a p => max a (D p.Glyph + 1)) 0
def pF (P : Int → Int) (ps : List bE) (k : Int) : Int := ps.foldl (fun a p => min (a + P p.Glyph) 1001) k
def cA (n : Nat) (D : Int → Int) : List AV := (bP n).map fun z => aQ (D z)
def fN (D : Int → Int) (z v : Int) : Int → Int := fun q => if q = z then v else D q
theorem fX {D : Int → Int} {z v : Int} : fN D z v z = v := by simp [fN]
theorem gH {D : Int → Int} {z v q : Int} (h : q ≠ z) : fN D z v q = D q := by simp [fN, h]
theorem pe (D : Int → Int) (z v w : Int) : fN (fN D z v) z w = fN D z w := by
 funext q
 unfold fN
 by_cases e : q = z
 ·rw [if_pos e, if_pos e]
 ·rw [if_neg e, if_neg e, if_neg e]
theorem gc (n : Nat) (D : Int → Int) : (cA n D).length = n := by simp [cA, bP]
theorem fi {n : Nat} {D : Int → Int} {z : Int} (h0 : 0 ≤ z) (h1 : z < n) : (cA n D)[0 + z.toNat * 1]? = some (aQ (D z)) := by
 rw [Nat.zero_add, Nat.mul_one]
 unfold cA
 rw [List.getElem?_map, fK (by omega), Option.map_some, show ((z.toNat : Nat) : Int) = z by omega]
theorem il {n : Nat} {D : Int → Int} {z v : Int} (h0 : 0 ≤ z) (h1 : z < n) : (cA n D).set (0 + z.toNat * 1) (aQ v) = cA n (fN D z v) := by
 rw [Nat.zero_add, Nat.mul_one]
 apply List.ext_getElem?
 intro i
 rw [List.getElem?_set, gc]
 unfold cA fN
 by_cases hi : z.toNat = i
 ·subst hi
  rw [if_pos rfl, if_pos (by omega), List.getElem?_map, fK (by omega), Option.map_some, if_pos (by omega)]
 ·rw [if_neg hi, List.getElem?_map, List.getElem?_map]
  by_cases hn : i < n
  ·rw [fK hn, Option.map_some, Option.map_some, if_neg (by omega)]
  ·rw [List.getElem?_eq_none (by rw [d9]; omega)]; rfl
theorem iV (n : Nat) : (List.replicate n [aQ 0]).flatten = cA n fun _ => 0 := by
 rw [mD (bP n) n (d9 n).symm]
 unfold dS cA
 rw [List.take_zero, List.nil_append, Nat.sub_zero, d9, List.map_replicate]
 apply List.ext_getElem?
 intro i
 rw [List.getElem?_replicate, List.getElem?_map]
 by_cases h : i < n
 ·rw [if_pos h, fK h]; rfl
 ·rw [if_neg h, List.getElem?_eq_none (by rw [d9]; omega)]; rfl
theorem xH {D : Int → Int} {ps : List bE} {j : Nat} {p : bE} (h : ps[j]? = some p) : dF D (ps.take (j + 1)) = max (dF D (ps.take j)) (D p.Glyph + 1) := by
 unfold dF
 rw [List.take_add_one, h, Option.toList_some, List.foldl_append]
 rfl
theorem yp {P : Int → Int} {ps : List bE} {k : Int} {j : Nat} {p : bE} (h : ps[j]? = some p) : pF P (ps.take (j + 1)) k = min (pF P (ps.take j) k + P p.Glyph) 1001 := by
 unfold pF
 rw [List.take_add_one, h, Option.toList_some, List.foldl_append]
 rfl
theorem kc {α β : Type} {F G : α → β → α} : ∀ (l : List β) (a : α), (∀ b ∈ l, ∀ a, F a b = G a b) → l.foldl F a = l.foldl G a
 | [], _, _ => rfl
 | b :: l, a, h => by rw [List.foldl_cons, List.foldl_cons, h b (List.mem_cons_self ..)]; exact kc l _ fun c hc => h c (List.mem_cons_of_mem _ hc)
theorem nd {D D' : Int → Int} {ps : List bE} (h : ∀ p ∈ ps, D p.Glyph = D' p.Glyph) : dF D ps = dF D' ps := kc ps 0 fun p hp a => by rw [h p hp]
theorem nK {P P' : Int → Int} {ps : List bE} {k : Int} (h : ∀ p ∈ ps, P p.Glyph = P' p.Glyph) : pF P ps k = pF P' ps k := kc ps k fun p hp a => by rw [h p hp]
theorem B7 {D : Int → Int} {m : Int} (h : ∀ z, 0 ≤ D z ∧ D z ≤ m) : ∀ (ps : List bE), 0 ≤ dF D ps ∧ dF D ps ≤ m + 1 := by
 intro ps
 have hm : 0 ≤ m := by have := h 0; omega
 have : ∀ (ps : List bE) (a : Int), 0 ≤ a → a ≤ m + 1 → 0 ≤ ps.foldl (fun a p => max a (D p.Glyph + 1)) a ∧ ps.foldl (fun a p => max a (D p.Glyph + 1)) a ≤ m + 1 := by
  intro ps
  induction ps with
  | nil => intro a h0 h1; exact ⟨h0, h1⟩
  | cons p ps ih => intro a h0 h1; have := h p.Glyph; exact ih (max a (D p.Glyph + 1)) (by omega) (by omega)
 exact this ps 0 (by omega) (by omega)
theorem z7 {P : Int → Int} {k : Int} (h : ∀ z, 0 ≤ P z ∧ P z ≤ 1000000) (hk : 0 ≤ k ∧ k ≤ 1000000) (ps : List bE) : 0 ≤ pF P ps k ∧ pF P ps k ≤ 1000000 := by
 unfold pF
 induction ps generalizing k with
 | nil => exact hk
 | cons p ps ih => have := h p.Glyph; exact ih (k := min (k + P p.Glyph) 1001) (by omega)
def ev (f : aH) (D P : Int → Int) : Prop := ∀ z : Int, 0 ≤ z → z < f.Glyphs.length → ∀ gl, f.Glyphs[z.toNat]? = some gl → D z = dF D gl.Parts ∧ P z = pF P gl.Parts gl.Points.length
structure ic (f : aH) : Prop extends Few f where
 points : ∀ gl ∈ f.Glyphs, gl.Points.length ≤ 1000000
 there : ∀ gl ∈ f.Glyphs, ∀ p ∈ gl.Parts, eG f p.Glyph = true
theorem l3 {f : aH} (hf : ic f) {z : Int} {gl : be} (h : f.Glyphs[z.toNat]? = some gl) : prt f z = gl.Parts.map bE.Glyph := by
 unfold prt
 rw [h]
 refine List.filter_eq_self.2 fun y hy => ?_
 obtain ⟨p, hp, rfl⟩ := List.mem_map.1 hy
 exact hf.there gl (List.mem_of_getElem? h) p hp
def m8 (_ : Nat) (levels : Int) : Int := cS (decide (levels > 4)) 34
def mh (_ : Nat) (all : Int) : Int := cS (decide (all ≥ 1001)) 2
theorem rQ (i : Nat) (n : Int) : bo Tryz.prog 165 [aQ i, aQ n] (aQ (m8 i n)) := by
 refine aU Tryz.func165 rfl Tryz.ntmps165 rfl fun B => ?_
 (repeat' (first|refine ah ?_|refine a6 ?_|refine au ?_|refine a8 ?_|refine aa ?_|refine ae a7 rfl rfl ?_|(apply ba;refine aY ?_)|fail))
 exact aB rfl rfl rfl
theorem rR (i : Nat) (n : Int) : bo Tryz.prog 167 [aQ i, aQ n] (aQ (mh i n)) := by
 refine aU Tryz.func167 rfl Tryz.ntmps167 rfl fun B => ?_
 (repeat' (first|refine ah ?_|refine a6 ?_|refine au ?_|refine a8 ?_|refine aa ?_|refine ae a7 rfl rfl ?_|(apply ba;refine aY ?_)|fail))
 exact aB rfl rfl rfl
theorem tZ (l : List Int) : bo Tryz.prog 163 [.iptr [.imm 1 (aV l)]] (bX (cC l m8)) := by
 refine aU Tryz.func163 rfl Tryz.ntmps163 rfl fun B => ?_
 (repeat' (first|refine ah ?_|refine a6 ?_|refine a8 ?_|refine aa ?_|refine ae a7 rfl rfl ?_|fail))
 refine aZ [] [] (kJ (u := .sc (.func (.func 165) #[] #[])) (g := 165) (caps := []) rfl l _ (fun _ _ => True) [] trivial (cP (fun i x _ => rQ i x))) rfl rfl (List.Perm.refl _) rfl fun c L1 hc => ?_
 have hc : c = bX (cC l m8) := hc
 subst hc
 unfold bX
 (repeat' (first|refine au ?_|refine a8 ?_|refine aa ?_|refine ae a7 rfl rfl ?_|fail))
 exact b4 rfl rfl rfl rfl
theorem u0 (l : List Int) : bo Tryz.prog 166 [.iptr [.imm 1 (aV l)]] (bX (cC l mh)) := by
 refine aU Tryz.func166 rfl Tryz.ntmps166 rfl fun B => ?_
 (repeat' (first|refine ah ?_|refine a6 ?_|refine a8 ?_|refine aa ?_|refine ae a7 rfl rfl ?_|fail))
 refine aZ [] [] (kJ (u := .sc (.func (.func 167) #[] #[])) (g := 167) (caps := []) rfl l _ (fun _ _ => True) [] trivial (cP (fun i x _ => rR i x))) rfl rfl (List.Perm.refl _) rfl fun c L1 hc => ?_
 have hc : c = bX (cC l mh) := hc
 subst hc
 unfold bX
 (repeat' (first|refine au ?_|refine a8 ?_|refine aa ?_|refine ae a7 rfl rfl ?_|fail))
 exact b4 rfl rfl rfl rfl
structure ry (f : aH) (T : List Int) (i : Nat) (D P : Int → Int) : Prop where
 deep : ∀ z, 0 ≤ D z ∧ D z ≤ i
 many : ∀ z, 0 ≤ P z ∧ P z ≤ 1000000
 done : ∀ (j : Nat) (z : Int), j < i → T[j]? = some z → ∀ gl, f.Glyphs[z.toNat]? = some gl → D z = dF D gl.Parts ∧ P z = pF P gl.Parts gl.Points.length
 rest : ∀ z, z ∉ T.take i → D z = 0
theorem ry.start {f : aH} {T : List Int} : ry f T 0 (fun _ => 0) (fun _ => 0) := ⟨fun _ => by simp, fun _ => by simp, fun j _ h => absurd h (Nat.not_lt_zero _), fun _ _ => rfl⟩
theorem ry.next {f : aH} {T : List Int} (hf : ic f) (hT : gC f.Glyphs.length (prt f) T) {i : Nat} {D P : Int → Int} (h : ry f T i D P) {x : Int} {gl : be} (hx : T[i]? = some x) (hgl : f.Glyphs[x.toNat]? = some gl) : ry f T (i + 1) (fN D x (dF D gl.Parts)) (fN P x (pF P gl.Parts gl.Points.length)) := by
 have hgm := List.mem_of_getElem? hgl
 have hnot : ∀ (j : Nat) (z : Int), j ≤ i → T[j]? = some z → ∀ g, f.Glyphs[z.toNat]? = some g → ∀ p ∈ g.Parts, p.Glyph ≠ x := by
  intro j z hj hz g hg p hp e
  have h1 := hT.topo j z hz p.Glyph (by rw [l3 hf hg]; exact List.mem_map_of_mem hp)
  rw [e] at h1
  obtain ⟨k, hk⟩ := List.mem_iff_getElem?.1 h1
  rw [List.getElem?_take] at hk
  split at hk
  ·rename_i hlt
   obtain ⟨k1, k2⟩ := List.getElem?_eq_some_iff.1 hk
   obtain ⟨i1, i2⟩ := List.getElem?_eq_some_iff.1 hx
   have e1 := hT.nodup.idxOf_getElem k k1
   have e2 := hT.nodup.idxOf_getElem i i1
   rw [k2] at e1
   rw [i2] at e2
   omega
  ·cases hk
 have hd := B7 h.deep gl.Parts
 have hp := z7 (k := (gl.Points.length : Int)) h.many (by have := hf.points gl hgm; omega) gl.Parts
 refine ⟨fun z => ?_, fun z => ?_, fun j z hj hz g hg => ?_, fun z hz => ?_⟩
 ·unfold fN
  split
  ·omega
  ·have := h.deep z; omega
 ·unfold fN
  split
  ·exact hp
  ·exact h.many z
 ·rw [nd (D := fN D x (dF D gl.Parts)) (D' := D) fun p hp => gH (hnot j z (by omega) hz g hg p hp), nK (P := fN P x (pF P gl.Parts gl.Points.length)) (P' := P) fun p hp => gH (hnot j z (by omega) hz g hg p hp)]
  by_cases e : z = x
  ·subst e
   rw [hgl] at hg
   cases hg
   rw [fX, fX]
   exact ⟨rfl, rfl⟩
  ·rw [gH e, gH e]
   have hji : j < i := by
    rcases Nat.lt_or_ge j i with h1 | h1
    ·exact h1
    ·have : j = i := by omega
     subst this
     rw [hx] at hz
     cases hz
     exact absurd rfl e
   exact h.done j z hji hz g hg
 ·rw [List.take_add_one, hx, Option.toList_some, List.mem_append, List.mem_singleton] at hz
  rw [gH (fun e => hz (.inr e))]
  exact h.rest z fun hm => hz (.inl hm)
def kG (n : Nat) (D P : Int → Int) : Int × Int := fk [cC ((bP n).map D) m8, cC ((bP n).map P) mh]
set_option maxHeartbeats 8000000 in
theorem m6 (f : aH) (hf : ic f) (hr : fF f.Glyphs.length (prt f) ∨ AC Tryz.prog 235 [bw f] [] fun c _ => ∃ z : Int, c = aQ z) : AC Tryz.prog 89 [bw f] [] fun c _ => (∃ D P, ev f D P ∧ fF f.Glyphs.length (prt f) ∧ c = bX (kG f.Glyphs.length D P)) ∨ (¬ fF f.Glyphs.length (prt f) ∧ ∃ z : Int, c = bX (33, z)) := by
 refine aU Tryz.func89 rfl Tryz.ntmps89 rfl fun B => ?_
 have hn := hf.n
 have hml : (f.Glyphs.map bz).length = f.Glyphs.length := List.length_map ..
 (repeat' (first|refine ah ?_|refine a6 ?_|refine a8 ?_|refine aa ?_|refine ae a7 rfl rfl ?_|refine b6 ?_|fail))
 refine aZ [] [] (wL f hf.toFew hr) rfl rfl (List.Perm.refl _) rfl fun c L1 hc => ?_
 refine bh (dA (List.nil_sublist _)) ?_
 rcases hc with ⟨T, hc, hT, hTl⟩ | ⟨hna, z, hc⟩
 rotate_left
 ·subst hc
  (repeat' (first|refine ah ?_|refine a6 ?_|refine au ?_|refine a8 ?_|refine ar ?_|refine aa ?_|refine ae a7 rfl rfl ?_|refine bI rfl ?_|fail))
  exact b4 rfl rfl rfl (.inr ⟨hna, z, rfl⟩)
 subst hc
 have hall := hT.all_of_len hTl
 have hacy := hT.acyc hall
 have hTi := aM T
 (repeat' (first|refine ah ?_|refine a6 ?_|refine ak ?_|refine a8 ?_|refine aa ?_|refine ae a7 rfl rfl ?_|refine bV rfl ?_|fail))
 rw [hml]
 refine jb a7 f.Glyphs.length rfl rfl rfl rfl rfl rfl rfl (by omega) (by omega) rfl fun bd => ?_
 rw [show (List.replicate f.Glyphs.length (List.map AV.sc [Value.int .i64 0])).flatten = cA f.Glyphs.length fun _ => 0 from iV _]
 (repeat' (first|refine ah ?_|refine a6 ?_|refine a8 ?_|refine aa ?_|refine ae a7 rfl rfl ?_|(apply aT; first|refine ai 7 a7 0 rfl rfl rfl rfl rfl rfl rfl rfl ?_|refine ai 7 a7 1 rfl rfl rfl rfl rfl rfl rfl rfl ?_|refine ai 7 a7 2 rfl rfl rfl rfl rfl rfl rfl rfl ?_|refine ai 8 a7 0 rfl rfl rfl rfl rfl rfl rfl rfl ?_|refine ai 8 a7 1 rfl rfl rfl rfl rfl rfl rfl rfl ?_|refine ai 8 a7 2 rfl rfl rfl rfl rfl rfl rfl rfl ?_|refine ai 12 a7 0 rfl rfl rfl rfl rfl rfl rfl rfl ?_|refine ai 12 a7 1 rfl rfl rfl rfl rfl rfl rfl rfl ?_|refine ai 12 a7 2 rfl rfl rfl rfl rfl rfl rfl rfl ?_|refine aj a7 0 rfl rfl rfl rfl rfl rfl rfl ?_|refine aj a7 1 rfl rfl rfl rfl rfl rfl rfl ?_|refine aj a7 2 rfl rfl rfl rfl rfl rfl rfl ?_|refine aj a7 3 rfl rfl rfl rfl rfl rfl rfl ?_|fail)|refine bb a7 fun _=>?_|fail))
 rw [hml]
 refine jb a7 f.Glyphs.length rfl rfl rfl rfl rfl rfl rfl (by omega) (by omega) rfl fun bp => ?_
 rw [show (List.replicate f.Glyphs.length (List.map AV.sc [Value.int .i64 0])).flatten = cA f.Glyphs.length fun _ => 0 from iV _]
 (repeat' (first|refine ah ?_|refine a6 ?_|refine am ?_|refine a8 ?_|refine aa ?_|refine ae a7 rfl rfl ?_|(apply aT; first|refine ai 7 a7 0 rfl rfl rfl rfl rfl rfl rfl rfl ?_|refine ai 7 a7 1 rfl rfl rfl rfl rfl rfl rfl rfl ?_|refine ai 7 a7 2 rfl rfl rfl rfl rfl rfl rfl rfl ?_|refine ai 8 a7 0 rfl rfl rfl rfl rfl rfl rfl rfl ?_|refine ai 8 a7 1 rfl rfl rfl rfl rfl rfl rfl rfl ?_|refine ai 8 a7 2 rfl rfl rfl rfl rfl rfl rfl rfl ?_|refine ai 12 a7 0 rfl rfl rfl rfl rfl rfl rfl rfl ?_|refine ai 12 a7 1 rfl rfl rfl rfl rfl rfl rfl rfl ?_|refine ai 12 a7 2 rfl rfl rfl rfl rfl rfl rfl rfl ?_|refine aj a7 0 rfl rfl rfl rfl rfl rfl rfl ?_|refine aj a7 1 rfl rfl rfl rfl rfl rfl rfl ?_|refine aj a7 2 rfl rfl rfl rfl rfl rfl rfl ?_|refine aj a7 3 rfl rfl rfl rfl rfl rfl rfl ?_|fail)|refine bb a7 fun _=>?_|fail))
 refine aL [1, 7, 8, 31, 32] (α := Nat × (Int → Int) × (Int → Int)) (fun x => [(33, aQ x.1)]) (fun x => x.1 ≤ f.Glyphs.length ∧ ry f T x.1 x.2.1 x.2.2) (fun x => [(bp, .box (cA f.Glyphs.length x.2.2) 3), (bd, .box (cA f.Glyphs.length x.2.1) 3)]) (fun x => f.Glyphs.length - x.1) (0, (fun _ => 0), (fun _ => 0)) rfl ⟨rfl, trivial⟩ ⟨Nat.zero_le _, ry.start⟩ (fun _ _ h => h) ?_
 rintro ⟨i, D, P⟩ ⟨hi, hC⟩
 dsimp only at hi hC ⊢
 try dsimp only [List.cons_append, List.nil_append, List.map_cons, List.map_nil]
 (repeat' (first|refine ah ?_|refine a6 ?_|refine a8 ?_|refine aa ?_|refine ae a7 rfl rfl ?_|fail))
 refine av rfl (fun h => ?_) (fun h => ?_)
 ·have hil : i < T.length := by have := of_decide_eq_true h; rw [hTi] at this; omega
  obtain ⟨x, hx⟩ : ∃ x, T[i]? = some x := ⟨_, List.getElem?_eq_getElem hil⟩
  have hxi := bk hx
  have hxr := hT.dom x (List.mem_of_getElem? hx)
  obtain ⟨gl, hgl⟩ : ∃ z, f.Glyphs[x.toNat]? = some z := ⟨_, List.getElem?_eq_getElem (by omega)⟩
  have hgm := List.mem_of_getElem? hgl
  have hgg := b5 (c := bz) hgl
  have hpm : (gl.Points.map dv).length = gl.Points.length := List.length_map ..
  have hpl := hf.points gl hgm
  clear h
  (repeat' (first|refine ah ?_|refine a6 ?_|refine am ?_|refine ak ?_|refine a8 ?_|refine aa ?_|refine ae a7 rfl rfl ?_|(apply aP; first|refine aO a7 ?_|refine aI a7 ?_)|fail))
  refine bj 10 [(0, .v), (1, .v), (2, .v), (3, .v), (4, .v), (5, .v), (6, .v), (7, .v), (8, .v), (9, .v)] none ?_ trivial rfl (by kernel_rfl) (by kernel_rfl) (by kernel_rfl) mixed (by kernel_rfl) rfl
  (repeat' (first|refine aN ?_|refine bf a7 ?_|(apply bs;refine bH a7 ?_)|fail))
  refine bl [1, 7, 8, 10, 31, 32, 33, 37, 38, 46] rfl rfl ?_
  (repeat' (first|(apply aP; first|refine aO a7 ?_|refine aI a7 ?_)|fail))
  refine aj a7 0 rfl rfl rfl rfl rfl rfl (by rw [Nat.ble_eq, gc]; show _ + 1 ≤ _; omega) ?_
  rw [dU, il hxr.1 hxr.2, hpm]
  (repeat' (first|refine ah ?_|refine a6 ?_|refine am ?_|refine a8 ?_|refine aa ?_|refine ae a7 rfl rfl ?_|(apply aP; first|refine aO a7 ?_|refine aI a7 ?_)|fail))
  have hTx : x ∉ T.take i := fun hm => by
   obtain ⟨k, hk⟩ := List.mem_iff_getElem?.1 hm
   rw [List.getElem?_take] at hk
   split at hk
   ·obtain ⟨k1, k2⟩ := List.getElem?_eq_some_iff.1 hk
    obtain ⟨i1, i2⟩ := List.getElem?_eq_some_iff.1 hx
    have e1 := hT.nodup.idxOf_getElem k k1
    have e2 := hT.nodup.idxOf_getElem i i1
    rw [k2] at e1
    rw [i2] at e2
    omega
   ·cases hk
  have hD0 : fN D x 0 = D := by
   funext q
   unfold fN
   split
   ·rename_i e; rw [e, hC.rest x hTx]
   ·rfl
  have hql : (gl.Parts.map d7).length = gl.Parts.length := List.length_map ..
  have hqn := hf.parts gl hgm
  refine aL [1, 7, 8, 10, 31, 32, 33, 53, 54] (α := Nat) (fun j => [(55, aQ j)]) (fun j => j ≤ gl.Parts.length) (fun j => [(bp, .box (cA f.Glyphs.length (fN P x (pF P (gl.Parts.take j) gl.Points.length))) 3), (bd, .box (cA f.Glyphs.length (fN D x (dF D (gl.Parts.take j)))) 3)]) (fun j => gl.Parts.length - j) 0 rfl ⟨rfl, trivial⟩ (Nat.zero_le _) (fun _ _ h => by rw [List.take_zero, show dF D [] = 0 from rfl, hD0]; exact h) fun j hj => ?_
  try dsimp only [List.cons_append, List.nil_append, List.map_cons, List.map_nil]
  (repeat' (first|refine ah ?_|refine a6 ?_|refine a8 ?_|refine aa ?_|refine ae a7 rfl rfl ?_|fail))
  refine av rfl (fun h => ?_) (fun h => ?_)
  ·have hjl : j < gl.Parts.length := by have := of_decide_eq_true h; omega
   obtain ⟨q, hq⟩ : ∃ q, gl.Parts[j]? = some q := ⟨_, List.getElem?_eq_getElem hjl⟩
   have hqg := b5 (c := d7) hq
   have hqr := iw.1 (hf.there gl hgm q (List.mem_of_getElem? hq))
   have hne : q.Glyph ≠ x := fun e => by
    have h1 := hT.topo i x hx q.Glyph (by rw [l3 hf hgl]; exact List.mem_map_of_mem (List.mem_of_getElem? hq))
    rw [e] at h1
    exact hTx h1
   have hc1 : (cA f.Glyphs.length (fN D x (dF D (gl.Parts.take j))))[0 + x.toNat * 1]? = some (aQ (dF D (gl.Parts.take j))) := by rw [fi hxr.1 hxr.2, fX]
   have hc2 : (cA f.Glyphs.length (fN D x (dF D (gl.Parts.take j))))[0 + q.Glyph.toNat * 1]? = some (aQ (D q.Glyph)) := by rw [fi hqr.1 hqr.2, gH hne]
   have hc3 : (cA f.Glyphs.length (fN P x (pF P (gl.Parts.take j) gl.Points.length)))[0 + x.toNat * 1]? = some (aQ (pF P (gl.Parts.take j) gl.Points.length)) := by rw [fi hxr.1 hxr.2, fX]
   have hc4 : (cA f.Glyphs.length (fN P x (pF P (gl.Parts.take j) gl.Points.length)))[0 + q.Glyph.toNat * 1]? = some (aQ (P q.Glyph)) := by rw [fi hqr.1 hqr.2, gH hne]
   have hDq := hC.deep q.Glyph
   have hPq := hC.many q.Glyph
   have hPj := z7 (k := (gl.Points.length : Int)) hC.many (by omega) (gl.Parts.take j)
   clear h
   (repeat' (first|refine ah ?_|refine a6 ?_|refine am ?_|refine ak ?_|refine a8 ?_|refine aa ?_|refine ae a7 rfl rfl ?_|(apply aP; first|refine aO a7 ?_|refine aI a7 ?_)|(apply aT; first|refine ai 7 a7 0 rfl rfl rfl rfl rfl rfl rfl rfl ?_|refine ai 7 a7 1 rfl rfl rfl rfl rfl rfl rfl rfl ?_|refine ai 7 a7 2 rfl rfl rfl rfl rfl rfl rfl rfl ?_|refine ai 8 a7 0 rfl rfl rfl rfl rfl rfl rfl rfl ?_|refine ai 8 a7 1 rfl rfl rfl rfl rfl rfl rfl rfl ?_|refine ai 8 a7 2 rfl rfl rfl rfl rfl rfl rfl rfl ?_|refine ai 12 a7 0 rfl rfl rfl rfl rfl rfl rfl rfl ?_|refine ai 12 a7 1 rfl rfl rfl rfl rfl rfl rfl rfl ?_|refine ai 12 a7 2 rfl rfl rfl rfl rfl rfl rfl rfl ?_|refine aj a7 0 rfl rfl rfl rfl rfl rfl rfl ?_|refine aj a7 1 rfl rfl rfl rfl rfl rfl rfl ?_|refine aj a7 2 rfl rfl rfl rfl rfl rfl rfl ?_|refine aj a7 3 rfl rfl rfl rfl rfl rfl rfl ?_|fail)|refine bb a7 fun _=>?_|fail))
   refine bj 13 [(0, .v), (1, .v), (2, .v), (3, .v), (4, .v), (5, .l), (6, .v), (7, .v), (8, .v), (9, .v), (10, .l), (11, .v), (12, .v)] none ?_ trivial rfl (by kernel_rfl) (by kernel_rfl) (by kernel_rfl) mixed (by kernel_rfl) rfl
   (repeat' (first|refine aN ?_|refine bf a7 ?_|fail))
   refine e9 a7 rfl rfl rfl hxr trivial ?_
   (repeat' (first|refine aN ?_|fail))
   refine dI a7 1 rfl rfl rfl hc1 trivial ?_
   (repeat' (first|refine aN ?_|refine bf a7 ?_|fail))
   refine e9 a7 rfl rfl rfl hqr trivial ?_
   (repeat' (first|refine aN ?_|fail))
   refine dI a7 1 rfl rfl rfl hc2 trivial ?_
   (repeat' (first|refine aN ?_|refine bf a7 ?_|(apply ey;refine fH ?_)|fail))
   refine bl [1, 7, 8, 10, 12, 31, 32, 33, 53, 54, 55, 59, 60, 71] rfl rfl ?_
   (repeat' (first|(apply aP; first|refine aO a7 ?_|refine aI a7 ?_)|fail))
   refine aj a7 1 rfl rfl rfl rfl rfl rfl (by rw [Nat.ble_eq, gc]; show _ + 1 ≤ _; omega) ?_
   rw [dU, il hxr.1 hxr.2, pe, ← xH hq]
   (repeat' (first|refine a8 ?_|refine aa ?_|fail))
   refine bj 13 [(0, .v), (1, .v), (2, .v), (3, .v), (4, .v), (5, .l), (6, .v), (7, .v), (8, .v), (9, .v), (10, .l), (11, .v), (12, .v)] none ?_ trivial rfl (by kernel_rfl) (by kernel_rfl) (by kernel_rfl) mixed (by kernel_rfl) rfl
   (repeat' (first|refine aN ?_|refine bf a7 ?_|fail))
   refine e9 a7 rfl rfl rfl hxr trivial ?_
   (repeat' (first|refine aN ?_|fail))
   refine dI a7 0 rfl rfl rfl hc3 trivial ?_
   (repeat' (first|refine aN ?_|refine bf a7 ?_|fail))
   refine e9 a7 rfl rfl rfl hqr trivial ?_
   (repeat' (first|refine aN ?_|fail))
   refine dI a7 0 rfl rfl rfl hc4 trivial ?_
   (repeat' (first|refine aN ?_|refine bf a7 ?_|(apply ey;refine fH ?_)|fail))
   refine bl [1, 7, 8, 10, 31, 32, 33, 53, 54, 55, 73, 74, 85] rfl rfl ?_
   (repeat' (first|(apply aP; first|refine aO a7 ?_|refine aI a7 ?_)|fail))
   refine aj a7 0 rfl rfl rfl rfl rfl rfl (by rw [Nat.ble_eq, gc]; show _ + 1 ≤ _; omega) ?_
   rw [dU, il hxr.1 hxr.2, pe, ← yp hq]
   (repeat' (first|refine a6 ?_|refine a8 ?_|refine aJ ?_|refine aa ?_|refine ae a7 rfl rfl ?_|(apply aX; refine aW ?_)|fail))
   exact aE (j + 1) rfl ⟨by rw [Int.natCast_add]; rfl, trivial⟩ (by omega) (by omega) (fun _ _ h => h)
  ·have hjl : j = gl.Parts.length := by have := of_decide_eq_false h; omega
   subst hjl
   rw [List.take_length]
   (repeat' (first|refine a6 ?_|refine aR ?_|refine a8 ?_|refine az ?_|refine aJ ?_|refine aC ?_|refine aA ?_|refine aa ?_|refine ae a7 rfl rfl ?_|(apply aX; refine aW ?_)|fail))
   exact aE (i + 1, _, _) rfl ⟨by rw [Int.natCast_add]; rfl, trivial⟩ ⟨by dsimp only; omega, hC.next hf hT hx hgl⟩ (by dsimp only; omega) (fun _ _ h => h)
 ·have hil : i = f.Glyphs.length := by have := of_decide_eq_false h; rw [hTi] at this; omega
  subst hil
  clear h
  have hdeep : ev f D P := by
   intro z h0 h1 gl hgl
   obtain ⟨j, hj⟩ := List.mem_iff_getElem?.1 (hall z h0 h1)
   exact hC.done j z (by have := (List.getElem?_eq_some_iff.1 hj).1; omega) hj gl hgl
  have hcd : ∀ F : Int → Int, cA f.Glyphs.length F = (aV ((bP f.Glyphs.length).map F)).flatten := fun F => by rw [gS]; unfold cA; rw [List.map_map]; rfl
  have hcl : ∀ F : Int → Int, (aV ((bP f.Glyphs.length).map F)).length = f.Glyphs.length := fun F => by rw [aM, List.length_map, d9]
  refine fy (pc (t := 7) (sz := 1) (l := aV ((bP f.Glyphs.length).map D)) 1 rfl rfl (hcd D) (by simp [aV]) (hcl D) (by omega)) ?_
  refine fy (pc (t := 8) (sz := 1) (l := aV ((bP f.Glyphs.length).map P)) 1 rfl rfl (hcd P) (by simp [aV]) (hcl P) (by omega)) ?_
  (repeat' (first|refine ah ?_|refine a6 ?_|refine aR ?_|refine a8 ?_|refine az ?_|refine aC ?_|refine aA ?_|refine ae a7 rfl rfl ?_|refine bM a7 ?_|fail))
  refine aZ [] _ (gQ [⟨163, [.iptr [.imm 1 (aV ((bP f.Glyphs.length).map D))]], [], (cC ((bP f.Glyphs.length).map D) m8).1, (cC ((bP f.Glyphs.length).map D) m8).2⟩, ⟨166, [.iptr [.imm 1 (aV ((bP f.Glyphs.length).map P))]], [], (cC ((bP f.Glyphs.length).map P) mh).1, (cC ((bP f.Glyphs.length).map P) mh).2⟩] ⟨⟨inferInstance, tZ _⟩, fun _ => ⟨⟨inferInstance, u0 _⟩, fun _ => trivial⟩⟩) rfl rfl (List.Perm.refl _) rfl fun c L1 hc => ?_
  rw [ix] at hc
  have hc : c = bX (kG f.Glyphs.length D P) := hc
  subst hc
  unfold bX
  (repeat' (first|refine au ?_|refine a8 ?_|refine aa ?_|refine ae a7 rfl rfl ?_|fail))
  exact b4 rfl rfl rfl (.inl ⟨D, P, hdeep, hacy, rfl⟩)
end Go.Proofs.YtpbinloeemebkaaGreat

namespace Go.Proofs.YtpbinloeemebkaaGreat
open Go.RowKit
attribute [local irreducible] AT bN AX AO Av Kt bi dE DA d6
theorem iI {err : Nat → Int} : ∀ (k i : Nat), (cY err k i).1 = 0 ↔ ∀ j, i ≤ j → j < i + k → err j = 0
 | 0, i => by simp only [cY, true_iff]; intro j h1 h2; omega
 | k + 1, i => by
  simp only [cY]
  by_cases h : err i = 0
  ·rw [if_pos h, iI k (i + 1)]
   constructor
   ·intro hh j h1 h2
    by_cases e : j = i
    ·subst e; exact h
    ·exact hh j (by omega) (by omega)
   ·intro hh j h1 h2; exact hh j (by omega) (by omega)
  ·rw [if_neg h]
   constructor
   ·intro hh; exact absurd hh h
   ·intro hh; exact hh i (Nat.le_refl _) (by omega)
theorem dm {α : Type} {l : List α} {w : Nat → α → Int} : (cC l w).1 = 0 ↔ ∀ i x, l[i]? = some x → w i x = 0 := by
 unfold cC cV
 rw [iI]
 constructor
 ·intro h i x hx
  have := h i (Nat.zero_le _) (by have := (List.getElem?_eq_some_iff.1 hx).1; omega)
  rwa [fV hx] at this
 ·intro h j _ hj
  obtain ⟨x, hx⟩ : ∃ x, l[j]? = some x := ⟨_, List.getElem?_eq_getElem (by omega)⟩
  rw [fV hx]
  exact h j x hx
theorem bG {α : Type} {most : Int} {l : List α} {w : Nat → α → Int} : (bW most l w).1 = 0 ↔ (l.length : Int) ≤ most ∧ ∀ i x, l[i]? = some x → w i x = 0 := by
 have h := dm (l := l) (w := w)
 unfold cC at h
 unfold bW cR
 by_cases hm : (l.length : Int) > most
 ·rw [if_pos hm]
  constructor
  ·intro hh; cases hh
  ·intro hh; omega
 ·rw [if_neg hm, h]
  exact ⟨fun hh => ⟨by omega, hh⟩, fun hh => hh.2⟩
theorem cn : ∀ {l : List (Int × Int)}, (fk l).1 = 0 ↔ ∀ x ∈ l, x.1 = 0
 | [] => by simp [fk]
 | x :: r => by
  unfold fk
  by_cases h : x.1 = 0
  ·rw [if_pos h, cn]
   constructor
   ·intro hh y hy
    rcases List.mem_cons.1 hy with rfl | hy
    ·exact h
    ·exact hh y hy
   ·intro hh y hy; exact hh y (List.mem_cons_of_mem _ hy)
  ·rw [if_neg h]
   constructor
   ·intro hh; exact absurd hh h
   ·intro hh; exact hh x (List.mem_cons_self ..)
theorem oe {b : Bool} {e : Int} (he : e ≠ 0) : cS b e = 0 ↔ b = false := by
 unfold cS
 cases b with
 | true => simp [he]
 | false => simp
theorem eC {f : aH} (h : (bW 400 f.Glyphs (cM f)).1 = 0) : ic f := by
 obtain ⟨h1, h2⟩ := bG.1 h
 have hg : ∀ gl ∈ f.Glyphs, ∃ name, lD f gl name = 0 := fun gl hgl => by
  obtain ⟨i, hi⟩ := List.mem_iff_getElem?.1 hgl
  exact ⟨_, h2 i gl hi⟩
 have hgl : ∀ gl ∈ f.Glyphs, gx gl = 0 ∧ (bW 8 gl.Parts (je f)).1 = 0 := fun gl hm => by
  obtain ⟨name, hn⟩ := hg gl hm
  unfold lD at hn
  rw [cn] at hn
  exact ⟨hn (gx gl, 0) (by simp), hn (bW 8 gl.Parts (je f)) (by simp)⟩
 refine ⟨⟨by omega, fun gl hm => ?_⟩, fun gl hm => ?_, fun gl hm p hp => ?_⟩
 ·have := (bG.1 (hgl gl hm).2).1; omega
 ·have h3 := (hgl gl hm).1
  unfold gx at h3
  split at h3
  ·cases h3
  ·split at h3
   ·cases h3
   ·omega
 ·obtain ⟨i, hi⟩ := List.mem_iff_getElem?.1 hp
  have h3 := (bG.1 (hgl gl hm).2).2 i p hi
  unfold je at h3
  split at h3
  ·cases h3
  ·rename_i hh
   simpa using hh
theorem u6 {f : aH} (hf : ic f) (ha : fF f.Glyphs.length (prt f)) {D P D' P' : Int → Int} (h : ev f D P) (h' : ev f D' P') : ∀ z : Int, 0 ≤ z → z < f.Glyphs.length → D z = D' z ∧ P z = P' z := by
 obtain ⟨r, hr⟩ := ha
 have : ∀ (k : Nat) (z : Int), r z < k → 0 ≤ z → z < f.Glyphs.length → D z = D' z ∧ P z = P' z := by
  intro k
  induction k with
  | zero => intro z hk; exact absurd hk (Nat.not_lt_zero _)
  | succ k ih =>
   intro z hk h0 h1
   obtain ⟨gl, hgl⟩ : ∃ g, f.Glyphs[z.toNat]? = some g := ⟨_, List.getElem?_eq_getElem (by omega)⟩
   have hsm : ∀ p ∈ gl.Parts, D p.Glyph = D' p.Glyph ∧ P p.Glyph = P' p.Glyph := fun p hp => by
    have hin := iw.1 (hf.there gl (List.mem_of_getElem? hgl) p hp)
    have := hr z h0 h1 p.Glyph (by rw [l3 hf hgl]; exact List.mem_map_of_mem hp)
    exact ih p.Glyph (by omega) hin.1 hin.2
   obtain ⟨h2, h3⟩ := h z h0 h1 gl hgl
   obtain ⟨h4, h5⟩ := h' z h0 h1 gl hgl
   rw [h2, h3, h4, h5]
   exact ⟨nd fun p hp => (hsm p hp).1, nK fun p hp => (hsm p hp).2⟩
 intro z h0 h1
 exact this (r z + 1) z (by omega) h0 h1
theorem rS {n : Nat} {D P D' P' : Int → Int} (h : ∀ z : Int, 0 ≤ z → z < n → D z = D' z ∧ P z = P' z) : kG n D P = kG n D' P' := by
 unfold kG
 rw [List.map_congr_left (f := D) (g := D') fun z hz => (h z (d8.1 hz).1 (d8.1 hz).2).1, List.map_congr_left (f := P) (g := P') fun z hz => (h z (d8.1 hz).1 (d8.1 hz).2).2]
open Classical in
noncomputable def gd (f : aH) : Int × Int := if h : ∃ q : (Int → Int) × (Int → Int), ev f q.1 q.2 then kG f.Glyphs.length h.choose.1 h.choose.2 else (33, 0)
theorem kH {f : aH} (hf : ic f) (ha : fF f.Glyphs.length (prt f)) {D P : Int → Int} (h : ev f D P) : gd f = kG f.Glyphs.length D P := by
 unfold gd
 have hex : ∃ q : (Int → Int) × (Int → Int), ev f q.1 q.2 := ⟨(D, P), h⟩
 rw [dif_pos hex]
 exact rS (u6 hf ha hex.choose_spec h)
theorem xG (f : aH) (hf : ic f) (ha : fF f.Glyphs.length (prt f)) : AC Tryz.prog 88 [.iptr (bO f)] [] fun c _ => c = bX ((gd f).1, (gd f).2) := by
 refine aU Tryz.func88 rfl Tryz.ntmps88 rfl fun B => ?_
 (repeat' (first|refine ah ?_|refine a6 ?_|refine a8 ?_|refine aa ?_|refine ae a7 rfl rfl ?_|fail))
 refine aZ [] [] (m6 f hf (.inl ha)) rfl rfl (List.Perm.refl _) rfl fun c L1 hc => ?_
 rcases hc with ⟨D, P, h1, h2, hc⟩ | ⟨hna, _⟩
 ·rw [← kH hf ha h1] at hc
  subst hc
  unfold bX
  (repeat' (first|refine au ?_|refine a8 ?_|refine aa ?_|refine ae a7 rfl rfl ?_|fail))
  exact b4 rfl rfl rfl rfl
 ·exact absurd ha hna
def qG (_ : Nat) (l : List ew) : Int := iM l
def kl (f : aH) (_ : Nat) (r : List dB) : Int := uO f.Axes.length r
def jx (f : aH) (_ : Nat) (l : bC) : Int := eL f l
noncomputable def qF (f : aH) : List (Int × Int) := [(j6 f, 0), bW 400 f.Glyphs (cM f), gd f, bW 1000 f.Chars (dR f), bW 40 f.Lookups (jx f), bW 20 f.Features (ek f), bW 3 f.Axes (ej f), bW 16 f.Regions (kl f), bW 20 f.Funcs qG, bW 64 f.Cvt qq]
noncomputable def er (f : aH) : Int × Int := fk (qF f)
noncomputable def mE (f : aH) (m1 m2 m3 : Nat) : List Lk := [⟨81, [.iptr (bO f)], [], j6 f, 0⟩,
 ⟨148, [.iptr [.imm 9 (f.Glyphs.map bz)], .iptr [aQ 400], .iptr [.fn 84 [.iptr (bO f), .iptr [.sc (.map (some m1))]]]], [(m1, c6 .string (cj (f6 f)))], (bW 400 f.Glyphs (cM f)).1, (bW 400 f.Glyphs (cM f)).2⟩,
 ⟨88, [.iptr (bO f)], [], (gd f).1, (gd f).2⟩,
 ⟨168, [.iptr [.imm 2 (f.Chars.map dY)], .iptr [aQ 1000], .iptr [.fn 91 [.iptr (bO f)]]], [], (bW 1000 f.Chars (dR f)).1, (bW 1000 f.Chars (dR f)).2⟩,
 ⟨170, [.iptr [.imm 3 (f.Lookups.map bq)], .iptr [aQ 40], .iptr [.fn 94 [.iptr (bO f)]]], [], (bW 40 f.Lookups (jx f)).1, (bW 40 f.Lookups (jx f)).2⟩,
 ⟨178, [.iptr [.imm 2 (f.Features.map bS)], .iptr [aQ 20], .iptr [.fn 97 [.iptr (bO f), .iptr [.sc (.map (some m2))]]]], [(m2, c6 .string (cj (fw f)))], (bW 20 f.Features (ek f)).1, (bW 20 f.Features (ek f)).2⟩,
 ⟨181, [.iptr [.imm 4 (f.Axes.map dP)], .iptr [aQ 3], .iptr [.fn 101 [.iptr [.sc (.map (some m3))]]]], [(m3, c6 .string (cj (fg f)))], (bW 3 f.Axes (ej f)).1, (bW 3 f.Axes (ej f)).2⟩,
 ⟨183, [.iptr [.imm 1 (f.Regions.map cI)], .iptr [aQ 16], .iptr [.fn 104 [.iptr (bO f)]]], [], (bW 16 f.Regions (kl f)).1, (bW 16 f.Regions (kl f)).2⟩,
 ⟨187, [.iptr [.imm 1 (f.Funcs.map g9)], .iptr [aQ 20], .iptr [.sc (.func (.func 107) #[] #[])]], [], (bW 20 f.Funcs qG).1, (bW 20 f.Funcs qG).2⟩,
 ⟨191, [.iptr [.imm 1 (f.Cvt.map tT)], .iptr [aQ 64], .iptr [.sc (.func (.func 110) #[] #[])]], [], (bW 64 f.Cvt qq).1, (bW 64 f.Cvt qq).2⟩]
theorem nh (f : aH) (m1 m2 m3 : Nat) (hA : (bW 400 f.Glyphs (cM f)).1 = 0 → fF f.Glyphs.length (prt f)) : qS (mE f m1 m2 m3) := by
 refine ⟨⟨inferInstance, oR f⟩, fun _ => ⟨⟨inferInstance, ?_⟩, fun h1 => ⟨⟨inferInstance, xG f (eC h1) (hA h1)⟩, fun _ => ⟨⟨inferInstance, ?_⟩, fun _ => ⟨⟨inferInstance, ?_⟩, fun _ => ⟨⟨inferInstance, ?_⟩, fun _ => ⟨⟨inferInstance, ?_⟩, fun _ => ⟨⟨inferInstance, ?_⟩, fun _ => ⟨⟨inferInstance, ?_⟩, fun _ => ⟨⟨inferInstance, ?_⟩, fun _ => trivial⟩⟩⟩⟩⟩⟩⟩⟩⟩⟩
 ·exact tC (u := .fn 84 [.iptr (bO f), .iptr [.sc (.map (some m1))]]) rfl f.Glyphs 400 (f5 f.Glyphs (cM f)) (fun _ L => L = [(m1, c6 .string (cj (f6 f)))]) _ rfl fun _ => ld fun i x _ => nj f i x m1
 ·exact yB (u := .fn 91 [.iptr (bO f)]) rfl f.Chars 1000 (f5 f.Chars (dR f)) (fun _ _ => True) [] trivial fun hm => cP fun i x hx => tV f i x hx hm
 ·exact yC (u := .fn 94 [.iptr (bO f)]) rfl f.Lookups 40 (f5 f.Lookups (jx f)) (fun _ _ => True) [] trivial fun _ => cP fun i x _ => pK f i x
 ·exact yD (u := .fn 97 [.iptr (bO f), .iptr [.sc (.map (some m2))]]) rfl f.Features 20 (f5 f.Features (ek f)) (fun _ L => L = [(m2, c6 .string (cj (fw f)))]) _ rfl fun _ => ld fun i x _ => ue f i x m2
 ·exact yE (u := .fn 101 [.iptr [.sc (.map (some m3))]]) rfl f.Axes 3 (f5 f.Axes (ej f)) (fun _ L => L = [(m3, c6 .string (cj (fg f)))]) _ rfl fun _ => ld fun i x _ => tS f i x m3
 ·exact yF (u := .fn 104 [.iptr (bO f)]) rfl f.Regions 16 (f5 f.Regions (kl f)) (fun _ _ => True) [] trivial fun _ => cP fun i x _ => r8 f i x
 ·exact yG (u := .sc (.func (.func 107) #[] #[])) (g := 107) (caps := []) rfl f.Funcs 20 (f5 f.Funcs qG) (fun _ _ => True) [] trivial fun _ => cP fun i x _ => tX i x
 ·exact yH (u := .sc (.func (.func 110) #[] #[])) (g := 110) (caps := []) rfl f.Cvt 64 (f5 f.Cvt qq) (fun _ _ => True) [] trivial fun _ => cP fun i x _ => vT i x
set_option maxHeartbeats 4000000 in
theorem y5 (f : aH) (hA : (bW 400 f.Glyphs (cM f)).1 = 0 → fF f.Glyphs.length (prt f)) : AC Tryz.prog 53 [bw f] [] fun c _ => c = bX (er f) := by
 refine aU Tryz.func53 rfl Tryz.ntmps53 rfl fun B => ?_
 (repeat' (first|refine ah ?_|refine a6 ?_|refine a8 ?_|refine aa ?_|refine ae a7 rfl rfl ?_|refine b6 ?_|fail))
 refine aZ [] _ (qz f.Glyphs) rfl rfl (List.Perm.refl _) rfl fun c L1 ⟨m1, hc, hL⟩ => ?_
 subst hc; subst hL
 (repeat' (first|refine ah ?_|refine a6 ?_|refine a8 ?_|refine aa ?_|refine ae a7 rfl rfl ?_|(apply aT; first|refine ai 4 a7 0 rfl rfl rfl rfl rfl rfl rfl rfl ?_|refine ai 4 a7 1 rfl rfl rfl rfl rfl rfl rfl rfl ?_|refine ai 4 a7 2 rfl rfl rfl rfl rfl rfl rfl rfl ?_|refine ai 5 a7 0 rfl rfl rfl rfl rfl rfl rfl rfl ?_|refine ai 5 a7 1 rfl rfl rfl rfl rfl rfl rfl rfl ?_|refine ai 5 a7 2 rfl rfl rfl rfl rfl rfl rfl rfl ?_|refine ai 6 a7 0 rfl rfl rfl rfl rfl rfl rfl rfl ?_|refine ai 6 a7 1 rfl rfl rfl rfl rfl rfl rfl rfl ?_|refine ai 6 a7 2 rfl rfl rfl rfl rfl rfl rfl rfl ?_|refine aj a7 0 rfl rfl rfl rfl rfl rfl rfl ?_|refine aj a7 1 rfl rfl rfl rfl rfl rfl rfl ?_|refine aj a7 2 rfl rfl rfl rfl rfl rfl rfl ?_|refine aj a7 3 rfl rfl rfl rfl rfl rfl rfl ?_|fail)|refine bb a7 fun _=>?_|fail))
 refine aZ [] _ (qA f.Features) rfl rfl (List.Perm.refl _) rfl fun c L1 ⟨m2, hc, hL⟩ => ?_
 subst hc; subst hL
 (repeat' (first|refine ah ?_|refine a6 ?_|refine a8 ?_|refine aa ?_|refine ae a7 rfl rfl ?_|(apply aT; first|refine ai 4 a7 0 rfl rfl rfl rfl rfl rfl rfl rfl ?_|refine ai 4 a7 1 rfl rfl rfl rfl rfl rfl rfl rfl ?_|refine ai 4 a7 2 rfl rfl rfl rfl rfl rfl rfl rfl ?_|refine ai 5 a7 0 rfl rfl rfl rfl rfl rfl rfl rfl ?_|refine ai 5 a7 1 rfl rfl rfl rfl rfl rfl rfl rfl ?_|refine ai 5 a7 2 rfl rfl rfl rfl rfl rfl rfl rfl ?_|refine ai 6 a7 0 rfl rfl rfl rfl rfl rfl rfl rfl ?_|refine ai 6 a7 1 rfl rfl rfl rfl rfl rfl rfl rfl ?_|refine ai 6 a7 2 rfl rfl rfl rfl rfl rfl rfl rfl ?_|refine aj a7 0 rfl rfl rfl rfl rfl rfl rfl ?_|refine aj a7 1 rfl rfl rfl rfl rfl rfl rfl ?_|refine aj a7 2 rfl rfl rfl rfl rfl rfl rfl ?_|refine aj a7 3 rfl rfl rfl rfl rfl rfl rfl ?_|fail)|refine bb a7 fun _=>?_|fail))
 refine aZ [] _ (qB f.Axes) rfl rfl (List.Perm.refl _) rfl fun c L1 ⟨m3, hc, hL⟩ => ?_
 subst hc; subst hL
 (repeat' (first|refine ah ?_|refine a8 ?_|refine aa ?_|(apply aT; first|refine ai 4 a7 0 rfl rfl rfl rfl rfl rfl rfl rfl ?_|refine ai 4 a7 1 rfl rfl rfl rfl rfl rfl rfl rfl ?_|refine ai 4 a7 2 rfl rfl rfl rfl rfl rfl rfl rfl ?_|refine ai 5 a7 0 rfl rfl rfl rfl rfl rfl rfl rfl ?_|refine ai 5 a7 1 rfl rfl rfl rfl rfl rfl rfl rfl ?_|refine ai 5 a7 2 rfl rfl rfl rfl rfl rfl rfl rfl ?_|refine ai 6 a7 0 rfl rfl rfl rfl rfl rfl rfl rfl ?_|refine ai 6 a7 1 rfl rfl rfl rfl rfl rfl rfl rfl ?_|refine ai 6 a7 2 rfl rfl rfl rfl rfl rfl rfl rfl ?_|refine aj a7 0 rfl rfl rfl rfl rfl rfl rfl ?_|refine aj a7 1 rfl rfl rfl rfl rfl rfl rfl ?_|refine aj a7 2 rfl rfl rfl rfl rfl rfl rfl ?_|refine aj a7 3 rfl rfl rfl rfl rfl rfl rfl ?_|fail)|refine bb a7 fun _=>?_|fail))
 refine bj 36 [(0, .v), (1, .v), (2, .v), (3, .v), (4, .v), (5, .v), (6, .v), (7, .v), (8, .v), (9, .v), (10, .v), (11, .v), (12, .v), (13, .v), (14, .v), (15, .v), (16, .v), (17, .v), (18, .v), (19, .v), (20, .v), (21, .v), (22, .v), (23, .v), (24, .v), (25, .v), (26, .v), (27, .v), (28, .v), (29, .v), (30, .v), (31, .v), (32, .v), (33, .e), (34, .v), (35, .v)] none ?_ trivial rfl (by kernel_rfl) (by kernel_rfl) (by kernel_rfl) mixed (by kernel_rfl) rfl
 (repeat' (first|refine aN ?_|refine bf a7 ?_|(apply cZ;refine dl ?_)|fail))
 refine dl (hc := ⟨wD f.Cvt 64⟩) ?_
 (repeat' (first|refine aN ?_|refine m7 a7 ?_|fail))
 refine fB (L := [(m3, c6 .string (cj (fg f))), (m2, c6 .string (cj (fw f))), (m1, c6 .string (cj (f6 f)))]) _ [] (gQ (mE f m1 m2 m3) (nh f m1 m2 m3 hA)) rfl rfl (by rw [List.append_nil]; exact (List.reverse_perm _).symm) trivial fun c L1 hc => ?_
 rw [ix] at hc
 have hc : c = bX (er f) := hc
 subst hc
 unfold bX
 (repeat' (first|refine aN ?_|refine bf a7 ?_|fail))
 refine bl [50, 51] rfl rfl ?_
 (repeat' (first|refine au ?_|refine a8 ?_|refine aa ?_|refine ae a7 rfl rfl ?_|fail))
 exact b4 rfl rfl rfl rfl
theorem wX (f : aH) (hA : (bW 400 f.Glyphs (cM f)).1 = 0 → fF f.Glyphs.length (prt f)) : bo Tryz.prog 34 [bw f] (c8 (decide ((er f).1 = 0))) := by
 refine aU Tryz.func34 rfl Tryz.ntmps34 rfl fun B => ?_
 (repeat' (first|refine ah ?_|refine a6 ?_|refine a8 ?_|refine aa ?_|refine ae a7 rfl rfl ?_|refine b6 ?_|fail))
 refine aZ [] [] (y5 f hA) rfl rfl (List.Perm.refl _) rfl fun c L1 hc => ?_
 subst hc
 unfold bX
 (repeat' (first|refine ah ?_|refine a6 ?_|refine au ?_|refine a8 ?_|refine aa ?_|refine ae a7 rfl rfl ?_|fail))
 exact aB rfl rfl rfl
end Go.Proofs.YtpbinloeemebkaaGreat

namespace Go.Proofs.YtpbinloeemebkaaGreat
open Go.RowKit
attribute [local irreducible] AT bN AX AO Av Kt bi dE DA d6
theorem wO {α : Type} {σ0 : ce} {l p b n : Nat} (S : α → List Int) (K : α → Option (Nat × Nat)) (E : α → AL) (J : Nat → α → Prop) (hn : n ≤ 1000000) (hJ : ∀ i x, J i x → i ≤ (S x).length ∧ (S x).length ≤ n)
  (hy : ∀ i x z, J i x → (S x)[i]? = some z → AY Tryz.prog σ0 l [aQ z] (cW p b n (K x) (S x) ++ E x) fun c L => c = c8 true ∧ ∃ x', J (i + 1) x' ∧ L = cW p b n (K x') (S x') ++ E x') (x0 : α) (h0 : J 0 x0) :
  vf Tryz.prog σ0 51 [.sc (.func (.yield l) #[] #[]), .iptr [eV p]] (cW p b n (K x0) (S x0) ++ E x0) fun _ L => ∃ x, J (S x).length x ∧ L = cW p b n (K x) (S x) ++ E x := by
 refine jW Tryz.func51 rfl Tryz.ntmps51 rfl fun B hB => ?_
 (repeat' (first|refine ah ?_|refine a6 ?_|refine am ?_|refine a8 ?_|refine aa ?_|refine ae a7 rfl rfl ?_|fail))
 refine aL [0, 1] (α := Nat × α) (fun y => [(3, aQ y.1)]) (fun y => J y.1 y.2) (fun y => cW p b n (K y.2) (S y.2) ++ E y.2) (fun y => n - y.1) (0, x0) rfl ⟨rfl, trivial⟩ h0 (fun _ _ h => h) ?_
 rintro ⟨i, x⟩ hj
 dsimp only at hj ⊢
 obtain ⟨hi, hl⟩ := hJ i x hj
 try dsimp only [List.cons_append, List.nil_append, List.map_cons, List.map_nil]
 (repeat' (first|refine ah ?_|refine a6 ?_|refine a8 ?_|refine aa ?_|refine ae a7 rfl rfl ?_|(apply bn; first|refine aq a7 0 rfl rfl rfl rfl rfl ?_|refine aq a7 1 rfl rfl rfl rfl rfl ?_|refine aq a7 2 rfl rfl rfl rfl rfl ?_|refine aq a7 3 rfl rfl rfl rfl rfl ?_|refine aF a7 0 rfl rfl rfl rfl rfl ?_|refine aF a7 1 rfl rfl rfl rfl rfl ?_|refine aF a7 2 rfl rfl rfl rfl rfl ?_|refine aq a7 1 rfl rfl rfl (by assumption) rfl ?_|refine aq a7 0 rfl rfl rfl (by assumption) rfl ?_|fail)|fail))
 refine av rfl (fun h => ?_) (fun h => ?_)
 ·have hil : i < (S x).length := by have := of_decide_eq_true h; simp [aM] at this; omega
  obtain ⟨z, hz⟩ : ∃ z, (S x)[i]? = some z := ⟨_, List.getElem?_eq_getElem hil⟩
  have hzg := bk hz
  (repeat' (first|refine ah ?_|refine a6 ?_|refine am ?_|refine ak ?_|refine a8 ?_|refine ae a7 rfl rfl ?_|(apply bn; first|refine aq a7 0 rfl rfl rfl rfl rfl ?_|refine aq a7 1 rfl rfl rfl rfl rfl ?_|refine aq a7 2 rfl rfl rfl rfl rfl ?_|refine aq a7 3 rfl rfl rfl rfl rfl ?_|refine aF a7 0 rfl rfl rfl rfl rfl ?_|refine aF a7 1 rfl rfl rfl rfl rfl ?_|refine aF a7 2 rfl rfl rfl rfl rfl ?_|refine aq a7 1 rfl rfl rfl (by assumption) rfl ?_|refine aq a7 0 rfl rfl rfl (by assumption) rfl ?_|fail)|(apply aP; first|refine aO a7 ?_|refine aI a7 ?_)|fail))
  refine iz (cW p b n (K x) (S x) ++ E x) [] hB (hy i x z hj hz) rfl rfl rfl (by rw [List.append_nil]) rfl rfl fun c L1 ⟨hc, x', hj', hL⟩ => ?_
  subst hc; subst hL
  rw [List.append_nil]
  (repeat' (first|refine a6 ?_|refine ak ?_|refine a8 ?_|refine aJ ?_|refine aa ?_|refine ae a7 rfl rfl ?_|(apply aX; refine aW ?_)|refine bV rfl ?_|fail))
  have := hJ _ _ hj'
  exact aE (i + 1, x') rfl ⟨by rw [Int.natCast_add]; rfl, trivial⟩ hj' (by dsimp only; omega) (fun _ _ h => h)
 ·have hil : i = (S x).length := by have := of_decide_eq_false h; simp [aM] at this; omega
  subst hil
  (repeat' (first|refine aR ?_|refine az ?_|refine aC ?_|refine aA ?_|fail))
  exact cB rfl ⟨x, hj, rfl⟩
theorem uN (p : Nat) : bo Tryz.prog 28 [eV p] (.fn 51 [.iptr [eV p]]) := by
 refine aU Tryz.func28 rfl Tryz.ntmps28 rfl fun B => ?_
 (repeat' (first|refine ah ?_|refine a6 ?_|refine au ?_|refine a8 ?_|refine aa ?_|refine ae a7 rfl rfl ?_|refine b6 ?_|fail))
 exact aB rfl rfl rfl
instance (p : Nat) : AD Tryz.prog 28 [eV p] (.fn 51 [.iptr [eV p]]) := ⟨uN p⟩
end Go.Proofs.YtpbinloeemebkaaGreat

namespace Go.Proofs.YtpbinloeemebkaaGreat
open Go.RowKit
attribute [local irreducible] AT bN AX AO Av Kt bi dE DA d6
def b9 (p b n : Nat) (k : Option (Nat × Nat)) (l : List Int) : AL := (p, .box [.sc (.slice (some ⟨b, 0, none⟩) n n), .vec k 1 (aV l)] 106) :: (b, .box (dZ l n) 4) :: tok k 99 1 (aV l).length
theorem z2 (n : Nat) (hn : n ≤ 1000000) : AC Tryz.prog 54 [aQ n] [] fun c L => ∃ p b, c = eV p ∧ L = b9 p b n none [] := by
 refine aU Tryz.func54 rfl Tryz.ntmps54 rfl fun B => ?_
 (repeat' (first|refine ah ?_|refine a6 ?_|refine a8 ?_|refine aa ?_|refine ae a7 rfl rfl ?_|fail))
 refine jb a7 n rfl rfl rfl rfl rfl rfl rfl (by omega) (by omega) rfl fun b => ?_
 rw [show (List.replicate n (List.map AV.sc [Value.bool false])).flatten = dZ [] n from lz n]
 (repeat' (first|refine au ?_|refine a8 ?_|refine aa ?_|refine ae a7 rfl rfl ?_|refine wF fun _=>?_|fail))
 refine bU (iF 0 (cs' := [.sc (.slice (some ⟨b, 0, none⟩) n n), .vec none 1 []]) rfl fun σ vs h => ?_) (aB rfl rfl ⟨_, b, rfl, rfl⟩)
 obtain ⟨v, ws, rfl, h1, h2⟩ := h.inv
 obtain ⟨v', ws', rfl, h3, h4⟩ := h2.inv
 exact .cons h1 (.cons (jm 1 h3) h4)
theorem kz (p b n : Nat) (k : Option (Nat × Nat)) (l ns : List Int) (hn : n ≤ 1000000) (hl : cm n l) : AC Tryz.prog 36 [eV p, .imm 1 (aV ns)] (b9 p b n k l) fun _ L => ∃ k', L = b9 p b n k' (bR n l ns) := by
 refine aU Tryz.func36 rfl Tryz.ntmps36 rfl fun B => ?_
 refine cg 1 rfl rfl fun hlen => ?_
 rw [aM] at hlen
 (repeat' (first|refine ah ?_|refine a6 ?_|refine am ?_|refine a8 ?_|refine aa ?_|refine ae a7 rfl rfl ?_|fail))
 refine aL [0, 6, 7] (α := Nat × Option (Nat × Nat)) (fun x => [(8, aQ x.1)]) (fun x => x.1 ≤ ns.length) (fun x => b9 p b n x.2 (bR n l (ns.take x.1))) (fun x => ns.length - x.1) (0, k) rfl ⟨rfl, trivial⟩ (Nat.zero_le _) (fun _ _ h => h) ?_
 rintro ⟨i, k⟩ hi
 dsimp only at hi ⊢
 have hok := hl.add (ns.take i)
 have hok1 := hok.len
 try dsimp only [List.cons_append, List.nil_append, List.map_cons, List.map_nil]
 (repeat' (first|refine ah ?_|refine a6 ?_|refine a8 ?_|refine aa ?_|refine ae a7 rfl rfl ?_|fail))
 refine av rfl (fun h => ?_) (fun h => ?_)
 ·have hil : i < ns.length := by have := of_decide_eq_true h; simp [aM] at this; omega
  obtain ⟨z, hz⟩ : ∃ z, ns[i]? = some z := ⟨_, List.getElem?_eq_getElem hil⟩
  have hzg := bk hz
  have had := oC (n := n) (l := l) hz
  generalize bR n l (ns.take i) = l1 at *
  (repeat' (first|refine ah ?_|refine a6 ?_|refine am ?_|refine ak ?_|refine a8 ?_|refine aa ?_|refine ae a7 rfl rfl ?_|(apply aP; first|refine aO a7 ?_|refine aI a7 ?_)|fail))
  refine ci [0, 5, 6, 7, 8] (0 ≤ z ∧ z < n ∧ z ∉ l1) rfl (fun Q' K => ?_) (fun hC => ?_) (fun hC => ?_)
  ·by_cases hin : 0 ≤ z ∧ z < n
   ·obtain ⟨hz0, hz1⟩ := hin
    have hfg := jv l1 n hz0 hz1
    clear had hok hl
    (repeat' (first|refine aa ?_|refine ae a7 rfl rfl ?_|refine aw rfl rfl ?_|refine aD rfl rfl rfl rfl ?_|(apply bn; first|refine aq a7 0 rfl rfl rfl rfl rfl ?_|refine aq a7 1 rfl rfl rfl rfl rfl ?_|refine aq a7 2 rfl rfl rfl rfl rfl ?_|refine aq a7 3 rfl rfl rfl rfl rfl ?_|refine aF a7 0 rfl rfl rfl rfl rfl ?_|refine aF a7 1 rfl rfl rfl rfl rfl ?_|refine aF a7 2 rfl rfl rfl rfl rfl ?_|refine aq a7 1 rfl rfl rfl (by assumption) rfl ?_|refine aq a7 0 rfl rfl rfl (by assumption) rfl ?_|fail)|(apply aP; first|refine aO a7 ?_|refine aI a7 ?_)|refine aS rfl rfl rfl (fun _ => ?_) (fun _ => ?_)|fail))
    all_goals exact K _ _ rfl rfl (by simp_all)
   ·clear had hok hl
    (repeat' (first|refine aa ?_|refine ae a7 rfl rfl ?_|refine aw rfl rfl ?_|refine aD rfl rfl rfl rfl ?_|(apply bn; first|refine aq a7 0 rfl rfl rfl rfl rfl ?_|refine aq a7 1 rfl rfl rfl rfl rfl ?_|refine aq a7 2 rfl rfl rfl rfl rfl ?_|refine aq a7 3 rfl rfl rfl rfl rfl ?_|refine aF a7 0 rfl rfl rfl rfl rfl ?_|refine aF a7 1 rfl rfl rfl rfl rfl ?_|refine aF a7 2 rfl rfl rfl rfl rfl ?_|refine aq a7 1 rfl rfl rfl (by assumption) rfl ?_|refine aq a7 0 rfl rfl rfl (by assumption) rfl ?_|fail)|refine aS rfl rfl rfl (fun _ => ?_) (fun _ => ?_)|fail))
    all_goals first
     | (refine K _ _ rfl rfl ?_; exact ⟨fun e => (by cases e), fun hh => absurd (And.intro hh.1 hh.2.1) hin⟩)
     | (rename_i e1 e2; exact absurd ⟨of_decide_eq_true e1, of_decide_eq_true e2⟩ hin)
  ·obtain ⟨hz0, hz1, hz2⟩ := hC
   have had' : bR n l (ns.take (i + 1)) = l1 ++ [z] := by rw [had]; unfold addOne; rw [if_pos ⟨hz0, hz1, hz2⟩]
   (repeat' (first|refine ah ?_|refine a6 ?_|refine ae a7 rfl rfl ?_|(apply bn; first|refine aq a7 0 rfl rfl rfl rfl rfl ?_|refine aq a7 1 rfl rfl rfl rfl rfl ?_|refine aq a7 2 rfl rfl rfl rfl rfl ?_|refine aq a7 3 rfl rfl rfl rfl rfl ?_|refine aF a7 0 rfl rfl rfl rfl rfl ?_|refine aF a7 1 rfl rfl rfl rfl rfl ?_|refine aF a7 2 rfl rfl rfl rfl rfl ?_|refine aq a7 1 rfl rfl rfl (by assumption) rfl ?_|refine aq a7 0 rfl rfl rfl (by assumption) rfl ?_|fail)|(apply aP; first|refine aO a7 ?_|refine aI a7 ?_)|fail))
   refine aj a7 1 rfl rfl rfl rfl rfl rfl (by rw [Nat.ble_eq, jw]; show _ + 1 ≤ n; omega) ?_
   rw [dU, lA l1 n hz0 hz1]
   (repeat' (first|refine a6 ?_|refine a8 ?_|refine aa ?_|refine ae a7 rfl rfl ?_|(apply bn; first|refine aq a7 0 rfl rfl rfl rfl rfl ?_|refine aq a7 1 rfl rfl rfl rfl rfl ?_|refine aq a7 2 rfl rfl rfl rfl rfl ?_|refine aq a7 3 rfl rfl rfl rfl rfl ?_|refine aF a7 0 rfl rfl rfl rfl rfl ?_|refine aF a7 1 rfl rfl rfl rfl rfl ?_|refine aF a7 2 rfl rfl rfl rfl rfl ?_|refine aq a7 1 rfl rfl rfl (by assumption) rfl ?_|refine aq a7 0 rfl rfl rfl (by assumption) rfl ?_|fail)|refine bM a7 ?_|fail))
   refine cF a7 [(p, .box [.sc (.slice (some ⟨b, 0, none⟩) n n), .vec k 1 (aV l1)] 106), (b, .box (dZ (l1 ++ [z]) n) 4)] rfl rfl rfl rfl (List.perm_append_comm (l₁ := [(p, AB.box [.sc (.slice (some ⟨b, 0, none⟩) n n), .vec k 1 (aV l1)] 106), (b, AB.box (dZ (l1 ++ [z]) n) 4)])) (by rw [aM]; simp; omega) (by rw [aM]; simp; omega) rfl fun k' => ?_
   refine bh (bc List.perm_append_comm) ?_
   (repeat' (first|refine a6 ?_|refine a8 ?_|refine aJ ?_|refine aa ?_|refine ae a7 rfl rfl ?_|(apply aX; refine aW ?_)|(apply aT; first|refine aj a7 0 rfl rfl rfl rfl rfl rfl rfl ?_|refine aj a7 1 rfl rfl rfl rfl rfl rfl rfl ?_|refine aj a7 2 rfl rfl rfl rfl rfl rfl rfl ?_|refine aj a7 3 rfl rfl rfl rfl rfl rfl rfl ?_|fail)|fail))
   rw [show aV l1 ++ [[aQ z]] = aV (l1 ++ [z]) from cE l1 [z], ← had']
   refine aE (i + 1, k') rfl ⟨by rw [Int.natCast_add]; rfl, trivial⟩ (by dsimp only; omega) (by dsimp only; omega) (fun _ _ h => h)
  ·have had' : bR n l (ns.take (i + 1)) = l1 := by rw [had]; unfold addOne; rw [if_neg hC]
   (repeat' (first|refine a6 ?_|refine ak ?_|refine a8 ?_|refine aJ ?_|refine aa ?_|refine ae a7 rfl rfl ?_|(apply aX; refine aW ?_)|fail))
   refine aE (i + 1, k) rfl ⟨by rw [Int.natCast_add]; rfl, trivial⟩ (by dsimp only; omega) (by dsimp only; omega) (fun _ _ h => by dsimp only; rw [had']; exact h)
 ·have hil : i = ns.length := by have := of_decide_eq_false h; simp [aM] at this; omega
  subst hil
  rw [List.take_length]
  (repeat' (first|refine aR ?_|refine az ?_|refine aC ?_|refine aA ?_|fail))
  exact cB rfl ⟨k, rfl⟩
theorem wY (p b n : Nat) (k : Option (Nat × Nat)) (l : List Int) (hl : l.length ≤ 1000000) : AC Tryz.prog 39 [eV p] (b9 p b n k l) fun c L => c = .imm 1 (aV (dt l)) ∧ L = b9 p b n k l := by
 refine aU Tryz.func39 rfl Tryz.ntmps39 rfl fun B => ?_
 (repeat' (first|refine ah ?_|refine a6 ?_|refine a8 ?_|refine aa ?_|refine ae a7 rfl rfl ?_|(apply bn; first|refine aq a7 0 rfl rfl rfl rfl rfl ?_|refine aq a7 1 rfl rfl rfl rfl rfl ?_|refine aq a7 2 rfl rfl rfl rfl rfl ?_|refine aq a7 3 rfl rfl rfl rfl rfl ?_|refine aF a7 0 rfl rfl rfl rfl rfl ?_|refine aF a7 1 rfl rfl rfl rfl rfl ?_|refine aF a7 2 rfl rfl rfl rfl rfl ?_|refine aq a7 1 rfl rfl rfl (by assumption) rfl ?_|refine aq a7 0 rfl rfl rfl (by assumption) rfl ?_|fail)|fail))
 refine jb a7 l.length rfl rfl rfl rfl rfl (by rw [aM]) (by rw [aM]) (by omega) (by omega) rfl fun b3 => ?_
 rw [show (List.replicate l.length (List.map AV.sc [Value.int .i64 0])).flatten = dS l 0 from mD l _ rfl]
 (repeat' (first|refine ah ?_|refine a6 ?_|refine am ?_|refine a8 ?_|refine aa ?_|refine ae a7 rfl rfl ?_|(apply bn; first|refine aq a7 0 rfl rfl rfl rfl rfl ?_|refine aq a7 1 rfl rfl rfl rfl rfl ?_|refine aq a7 2 rfl rfl rfl rfl rfl ?_|refine aq a7 3 rfl rfl rfl rfl rfl ?_|refine aF a7 0 rfl rfl rfl rfl rfl ?_|refine aF a7 1 rfl rfl rfl rfl rfl ?_|refine aF a7 2 rfl rfl rfl rfl rfl ?_|refine aq a7 1 rfl rfl rfl (by assumption) rfl ?_|refine aq a7 0 rfl rfl rfl (by assumption) rfl ?_|fail)|fail))
 refine aL [3, 15, 16] (α := Nat) (fun i => [(17, aQ i)]) (fun i => i ≤ l.length) (fun i => (b3, .box (dS l i) 3) :: b9 p b n k l) (fun i => l.length - i) 0 rfl ⟨rfl, trivial⟩ (Nat.zero_le _) (fun _ _ h => h) fun i hi => ?_
 try dsimp only [List.cons_append, List.nil_append, List.map_cons, List.map_nil]
 (repeat' (first|refine ah ?_|refine a6 ?_|refine a8 ?_|refine aa ?_|refine ae a7 rfl rfl ?_|fail))
 refine av rfl (fun h => ?_) (fun h => ?_)
 ·have hil : i < l.length := by have := of_decide_eq_true h; simp [aM] at this; omega
  obtain ⟨z, hz⟩ : ∃ z, l[i]? = some z := ⟨_, List.getElem?_eq_getElem hil⟩
  have hzg := bk hz
  (repeat' (first|refine ah ?_|refine a6 ?_|refine am ?_|refine ak ?_|refine a8 ?_|refine aa ?_|refine ae a7 rfl rfl ?_|(apply aP; first|refine aO a7 ?_|refine aI a7 ?_)|fail))
  refine aj a7 0 rfl rfl rfl rfl rfl rfl (by rw [Nat.ble_eq, pv l hi]; show _ + 1 ≤ l.length; omega) ?_
  rw [dU, px hz]
  (repeat' (first|refine a6 ?_|refine a8 ?_|refine aJ ?_|refine aa ?_|refine ae a7 rfl rfl ?_|(apply aX; refine aW ?_)|fail))
  exact aE (i + 1) rfl ⟨by rw [Int.natCast_add]; rfl, trivial⟩ (by omega) (by omega) (fun _ _ h => h)
 ·have hil : i = l.length := by have := of_decide_eq_false h; simp [aM] at this; omega
  subst hil
  rw [pu]
  (repeat' (first|refine ah ?_|refine a6 ?_|refine aR ?_|refine a8 ?_|refine az ?_|refine aC ?_|refine aA ?_|refine ae a7 rfl rfl ?_|fail))
  refine aZ [(b3, .box (l.map aQ) 3)] (b9 p b n k l) (tD b3 l.length l rfl hl) rfl rfl (List.Perm.refl _) rfl fun c L1 hL1 => ?_
  subst hL1
  (repeat' (first|refine ah ?_|refine a6 ?_|refine au ?_|refine a8 ?_|refine aa ?_|refine ae a7 rfl rfl ?_|fail))
  refine bU (lb (t := 2) (sz := 1) (l := aV (dt l)) 0 rfl rfl (gS _).symm (by simp [aV]) (by rw [aM, iE]) (by omega)) ?_
  exact eH (List.sublist_cons_self ..) (kD rfl rfl rfl ⟨rfl, rfl⟩)
theorem Ae {α : Type} {σ0 : ce} {l p b n : Nat} (S : α → List Int) (K : α → Option (Nat × Nat)) (E : α → AL) (J : Nat → α → Prop) (hn : n ≤ 1000000) (hJ : ∀ i x, J i x → i ≤ (S x).length ∧ (S x).length ≤ n)
  (hy : ∀ i x z, J i x → (S x)[i]? = some z → AY Tryz.prog σ0 l [aQ z] (b9 p b n (K x) (S x) ++ E x) fun c L => c = c8 true ∧ ∃ x', J (i + 1) x' ∧ L = b9 p b n (K x') (S x') ++ E x') (x0 : α) (h0 : J 0 x0) :
  vf Tryz.prog σ0 68 [.sc (.func (.yield l) #[] #[]), .iptr [eV p]] (b9 p b n (K x0) (S x0) ++ E x0) fun _ L => ∃ x, J (S x).length x ∧ L = b9 p b n (K x) (S x) ++ E x := by
 refine jW Tryz.func68 rfl Tryz.ntmps68 rfl fun B hB => ?_
 (repeat' (first|refine ah ?_|refine a6 ?_|refine am ?_|refine a8 ?_|refine aa ?_|refine ae a7 rfl rfl ?_|fail))
 refine aL [0, 1] (α := Nat × α) (fun y => [(3, aQ y.1)]) (fun y => J y.1 y.2) (fun y => b9 p b n (K y.2) (S y.2) ++ E y.2) (fun y => n - y.1) (0, x0) rfl ⟨rfl, trivial⟩ h0 (fun _ _ h => h) ?_
 rintro ⟨i, x⟩ hj
 dsimp only at hj ⊢
 obtain ⟨hi, hl⟩ := hJ i x hj
 try dsimp only [List.cons_append, List.nil_append, List.map_cons, List.map_nil]
 (repeat' (first|refine ah ?_|refine a6 ?_|refine a8 ?_|refine aa ?_|refine ae a7 rfl rfl ?_|(apply bn; first|refine aq a7 0 rfl rfl rfl rfl rfl ?_|refine aq a7 1 rfl rfl rfl rfl rfl ?_|refine aq a7 2 rfl rfl rfl rfl rfl ?_|refine aq a7 3 rfl rfl rfl rfl rfl ?_|refine aF a7 0 rfl rfl rfl rfl rfl ?_|refine aF a7 1 rfl rfl rfl rfl rfl ?_|refine aF a7 2 rfl rfl rfl rfl rfl ?_|refine aq a7 1 rfl rfl rfl (by assumption) rfl ?_|refine aq a7 0 rfl rfl rfl (by assumption) rfl ?_|fail)|fail))
 refine av rfl (fun h => ?_) (fun h => ?_)
 ·have hil : i < (S x).length := by have := of_decide_eq_true h; simp [aM] at this; omega
  obtain ⟨z, hz⟩ : ∃ z, (S x)[i]? = some z := ⟨_, List.getElem?_eq_getElem hil⟩
  have hzg := bk hz
  (repeat' (first|refine ah ?_|refine a6 ?_|refine am ?_|refine ak ?_|refine a8 ?_|refine ae a7 rfl rfl ?_|(apply bn; first|refine aq a7 0 rfl rfl rfl rfl rfl ?_|refine aq a7 1 rfl rfl rfl rfl rfl ?_|refine aq a7 2 rfl rfl rfl rfl rfl ?_|refine aq a7 3 rfl rfl rfl rfl rfl ?_|refine aF a7 0 rfl rfl rfl rfl rfl ?_|refine aF a7 1 rfl rfl rfl rfl rfl ?_|refine aF a7 2 rfl rfl rfl rfl rfl ?_|refine aq a7 1 rfl rfl rfl (by assumption) rfl ?_|refine aq a7 0 rfl rfl rfl (by assumption) rfl ?_|fail)|(apply aP; first|refine aO a7 ?_|refine aI a7 ?_)|fail))
  refine iz (b9 p b n (K x) (S x) ++ E x) [] hB (hy i x z hj hz) rfl rfl rfl (by rw [List.append_nil]) rfl rfl fun c L1 ⟨hc, x', hj', hL⟩ => ?_
  subst hc; subst hL
  rw [List.append_nil]
  (repeat' (first|refine a6 ?_|refine ak ?_|refine a8 ?_|refine aJ ?_|refine aa ?_|refine ae a7 rfl rfl ?_|(apply aX; refine aW ?_)|refine bV rfl ?_|fail))
  have := hJ _ _ hj'
  exact aE (i + 1, x') rfl ⟨by rw [Int.natCast_add]; rfl, trivial⟩ hj' (by dsimp only; omega) (fun _ _ h => h)
 ·have hil : i = (S x).length := by have := of_decide_eq_false h; simp [aM] at this; omega
  subst hil
  (repeat' (first|refine aR ?_|refine az ?_|refine aC ?_|refine aA ?_|fail))
  exact cB rfl ⟨x, hj, rfl⟩
theorem uM (p : Nat) : bo Tryz.prog 46 [eV p] (.fn 68 [.iptr [eV p]]) := by
 refine aU Tryz.func46 rfl Tryz.ntmps46 rfl fun B => ?_
 (repeat' (first|refine ah ?_|refine a6 ?_|refine au ?_|refine a8 ?_|refine aa ?_|refine ae a7 rfl rfl ?_|refine b6 ?_|fail))
 exact aB rfl rfl rfl
instance (p : Nat) : AD Tryz.prog 46 [eV p] (.fn 68 [.iptr [eV p]]) := ⟨uM p⟩
end Go.Proofs.YtpbinloeemebkaaGreat
