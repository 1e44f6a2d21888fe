/-
  The program: how deep glyphs are, and how many points they have.
-/
import Derived.Test.YtamjlkdanllgjaaGreatDoorM24
import Derived.Test.YtamjlkdanllgjaaGreatDoorM20
import Derived.Test.YtamjlkdanllgjaaGreatDoorM19
namespace Go.Proofs.YtamjlkdanllgjaaGreatDoor
open Go.RowKit
attribute [local irreducible] AT br AX AO Av Kt aW cZ DA cw
set_option maxRecDepth 8000
def dF (D : Int → Int) (ps : List d6) : Int := ps.foldl (fun a p => max a (D p.Glyph + 1)) 0
def pF (P : Int → Int) (ps : List d6) (k : Int) : Int := ps.foldl (fun a p => min (a + P p.Glyph) 1001) k
def dt (n : Nat) (D : Int → Int) : List AV := (ca n).map fun z => aD (D z)
def fJ (D : Int → Int) (z v : Int) : Int → Int := fun q => if q = z then v else D q
theorem jr {D : Int → Int} {z v : Int} : fJ D z v z = v := by simp [fJ]
theorem iu {D : Int → Int} {z v q : Int} (h : q ≠ z) : fJ D z v q = D q := by simp [fJ, h]
theorem pP (D : Int → Int) (z v w : Int) : fJ (fJ D z v) z w = fJ D z w := by
 funext q
 unfold fJ
 by_cases e : q = z
 ·rw [if_pos e, if_pos e]
 ·rw [if_neg e, if_neg e, if_neg e]
theorem gY (n : Nat) (D : Int → Int) : (dt n D).length = n := by simp [dt, ca]
theorem gX {n : Nat} {D : Int → Int} {z : Int} (h0 : 0 ≤ z) (h1 : z < n) : (dt n D)[0 + z.toNat * 1]? = some (aD (D z)) := by
 rw [Nat.zero_add, Nat.mul_one]
 unfold dt
 rw [List.getElem?_map, gS (by omega), Option.map_some, show ((z.toNat : Nat) : Int) = z by omega]
theorem jR {n : Nat} {D : Int → Int} {z v : Int} (h0 : 0 ≤ z) (h1 : z < n) : (dt n D).set (0 + z.toNat * 1) (aD v) = dt n (fJ D z v) := by
 rw [Nat.zero_add, Nat.mul_one]
 apply List.ext_getElem?
 intro i
 rw [List.getElem?_set, gY]
 unfold dt fJ
 by_cases hi : z.toNat = i
 ·subst hi
  rw [if_pos rfl, if_pos (by omega), List.getElem?_map, gS (by omega), Option.map_some, if_pos (by omega)]
 ·rw [if_neg hi, List.getElem?_map, List.getElem?_map]
  by_cases hn : i < n
  ·rw [gS hn, Option.map_some, Option.map_some, if_neg (by omega)]
  ·rw [List.getElem?_eq_none (by rw [dP]; omega)]; rfl
theorem m4 (n : Nat) : (List.replicate n [aD 0]).flatten = dt n fun _ => 0 := by
 rw [uz (ca n) n (dP n).symm]
 unfold eD dt
 rw [List.take_zero, Hs, Nat.sub_zero, dP, List.map_replicate]
 apply List.ext_getElem?
 intro i
 rw [List.getElem?_replicate, List.getElem?_map]
 by_cases h : i < n
 ·rw [if_pos h, gS h]; rfl
 ·rw [if_neg h, List.getElem?_eq_none (by rw [dP]; omega)]; rfl
theorem Ap {D : Int → Int} {ps : List d6} {j : Nat} {p : d6} (h : ps[j]? = some p) : dF D (ps.take (j + 1)) = max (dF D (ps.take j)) (D p.Glyph + 1) := by
 unfold dF
 rw [List.take_add_one, h, Option.toList_some, List.foldl_append]
 rfl
theorem Br {P : Int → Int} {ps : List d6} {k : Int} {j : Nat} {p : d6} (h : ps[j]? = some p) : pF P (ps.take (j + 1)) k = min (pF P (ps.take j) k + P p.Glyph) 1001 := by
 unfold pF
 rw [List.take_add_one, h, Option.toList_some, List.foldl_append]
 rfl
theorem jV {α β : Type} {F G : α → β → α} : ∀ (l : List β) (a : α), (∀ b ∈ l, ∀ a, F a b = G a b) → l.foldl F a = l.foldl G a
 | [], _, _ => rfl
 | b :: l, a, h => by rw [List.foldl_cons, List.foldl_cons, h b (List.mem_cons_self ..)]; exact jV l _ fun c hc => h c (Hu _ hc)
theorem ru {D D' : Int → Int} {ps : List d6} (h : ∀ p ∈ ps, D p.Glyph = D' p.Glyph) : dF D ps = dF D' ps := jV ps 0 fun p hp a => by rw [h p hp]
theorem rY {P P' : Int → Int} {ps : List d6} {k : Int} (h : ∀ p ∈ ps, P p.Glyph = P' p.Glyph) : pF P ps k = pF P' ps k := jV ps k fun p hp a => by rw [h p hp]
theorem EP {D : Int → Int} {m : Int} (h : ∀ z, 0 ≤ D z ∧ D z ≤ m) : ∀ (ps : List d6), 0 ≤ dF D ps ∧ dF D ps ≤ m + 1 := by
 intro ps
 have hm : 0 ≤ m := by have := h 0; omega
 have : ∀ (ps : List d6) (a : Int), 0 ≤ a → a ≤ m + 1 → 0 ≤ ps.foldl (fun a p => max a (D p.Glyph + 1)) a ∧ ps.foldl (fun a p => max a (D p.Glyph + 1)) a ≤ m + 1 := by
  intro ps
  induction ps with
  | nil => intro a h0 h1; exact ⟨h0, h1⟩
  | cons p ps ih => intro a h0 h1; have := h p.Glyph; exact ih (max a (D p.Glyph + 1)) (by omega) (by omega)
 exact this ps 0 (by omega) (by omega)
theorem Cm {P : Int → Int} {k : Int} (h : ∀ z, 0 ≤ P z ∧ P z ≤ 1000000) (hk : 0 ≤ k ∧ k ≤ 1000000) (ps : List d6) : 0 ≤ pF P ps k ∧ pF P ps k ≤ 1000000 := by
 unfold pF
 induction ps generalizing k with
 | nil => exact hk
 | cons p ps ih => have := h p.Glyph; exact ih (k := min (k + P p.Glyph) 1001) (by omega)
def iH (f : aP) (D P : Int → Int) : Prop := ∀ z : Int, 0 ≤ z → z < f.Glyphs.length → ∀ gl, f.Glyphs[z.toNat]? = some gl → D z = dF D gl.Parts ∧ P z = pF P gl.Parts gl.Points.length
structure sC (f : aP) : Prop extends Few f where
 points : ∀ gl ∈ f.Glyphs, gl.Points.length ≤ 1000000
 there : ∀ gl ∈ f.Glyphs, ∀ p ∈ gl.Parts, jv f p.Glyph = true
theorem qB {f : aP} (hf : sC f) {z : Int} {gl : b7} (h : f.Glyphs[z.toNat]? = some gl) : prt f z = gl.Parts.map d6.Glyph := by
 unfold prt
 rw [h]
 refine List.filter_eq_self.2 fun y hy => ?_
 obtain ⟨p, hp, rfl⟩ := List.mem_map.1 hy
 exact hf.there gl (Hx h) p hp
def p9 (_ : Nat) (levels : Int) : Int := dp (decide (levels > 4)) 34
def py (_ : Nat) (all : Int) : Int := dp (decide (all ≥ 1001)) 2
theorem t1 (i : Nat) (n : Int) : bw Tryz.prog 188 [aD i, aD n] (aD (p9 i n)) := by
 refine aG Tryz.func188 rfl Tryz.ntmps188 rfl fun B => ?_
 repeat' (first|refine ae ?_|refine a6 ?_|refine am ?_|refine a8 ?_|refine aa ?_|refine ah a7 rfl rfl ?_|(apply bc;refine aX ?_)|fail)
 exact au rfl rfl rfl
theorem t2 (i : Nat) (n : Int) : bw Tryz.prog 190 [aD i, aD n] (aD (py i n)) := by
 refine aG Tryz.func190 rfl Tryz.ntmps190 rfl fun B => ?_
 repeat' (first|refine ae ?_|refine a6 ?_|refine am ?_|refine a8 ?_|refine aa ?_|refine ah a7 rfl rfl ?_|(apply bc;refine aX ?_)|fail)
 exact au rfl rfl rfl
theorem vB (l : List Int) : bw Tryz.prog 186 [.iptr [.imm 1 (aT l)]] (bX (cD l p9)) := by
 refine aG Tryz.func186 rfl Tryz.ntmps186 rfl fun B => ?_
 repeat' (first|refine ae ?_|refine a6 ?_|refine a8 ?_|refine aa ?_|refine ah a7 rfl rfl ?_)
 refine aV [] [] (ky (u := .sc (.func (.func 188) #[] #[])) (g := 188) (caps := []) rfl l _ (fun _ _ => True) [] trivial (cF (fun i x _ => t1 i x))) rfl rfl (Hp _) rfl fun c L1 hc => ?_
 have hc : c = bX (cD l p9) := hc
 subst hc
 unfold bX
 repeat' (first|refine am ?_|refine a8 ?_|refine aa ?_|refine ah a7 rfl rfl ?_)
 exact aS rfl rfl rfl rfl
theorem vC (l : List Int) : bw Tryz.prog 189 [.iptr [.imm 1 (aT l)]] (bX (cD l py)) := by
 refine aG Tryz.func189 rfl Tryz.ntmps189 rfl fun B => ?_
 repeat' (first|refine ae ?_|refine a6 ?_|refine a8 ?_|refine aa ?_|refine ah a7 rfl rfl ?_)
 refine aV [] [] (ky (u := .sc (.func (.func 190) #[] #[])) (g := 190) (caps := []) rfl l _ (fun _ _ => True) [] trivial (cF (fun i x _ => t2 i x))) rfl rfl (Hp _) rfl fun c L1 hc => ?_
 have hc : c = bX (cD l py) := hc
 subst hc
 unfold bX
 repeat' (first|refine am ?_|refine a8 ?_|refine aa ?_|refine ah a7 rfl rfl ?_)
 exact aS rfl rfl rfl rfl
structure sA (f : aP) (T : List Int) (i : Nat) (D P : Int → Int) : Prop where
 deep : ∀ z, 0 ≤ D z ∧ D z ≤ i
 many : ∀ z, 0 ≤ P z ∧ P z ≤ 1000000
 done : ∀ (j : Nat) (z : Int), j < i → T[j]? = some z → ∀ gl, f.Glyphs[z.toNat]? = some gl → D z = dF D gl.Parts ∧ P z = pF P gl.Parts gl.Points.length
 rest : ∀ z, z ∉ T.take i → D z = 0
theorem sA.start {f : aP} {T : List Int} : sA f T 0 (fun _ => 0) (fun _ => 0) := ⟨fun _ => by simp, fun _ => by simp, fun j _ h => absurd h (Nat.not_lt_zero _), fun _ _ => rfl⟩
theorem sA.next {f : aP} {T : List Int} (hf : sC f) (hT : ge f.Glyphs.length (prt f) T) {i : Nat} {D P : Int → Int} (h : sA f T i D P) {x : Int} {gl : b7} (hx : T[i]? = some x) (hgl : f.Glyphs[x.toNat]? = some gl) : sA f T (i + 1) (fJ D x (dF D gl.Parts)) (fJ P x (pF P gl.Parts gl.Points.length)) := by
 have hgm := Hx hgl
 have hnot : ∀ (j : Nat) (z : Int), j ≤ i → T[j]? = some z → ∀ g, f.Glyphs[z.toNat]? = some g → ∀ p ∈ g.Parts, p.Glyph ≠ x := by
  intro j z hj hz g hg p hp e
  have h1 := hT.topo j z hz p.Glyph (by rw [qB hf hg]; exact List.mem_map_of_mem hp)
  rw [e] at h1
  obtain ⟨k, hk⟩ := List.mem_iff_getElem?.1 h1
  rw [List.getElem?_take] at hk
  split at hk
  ·rename_i hlt
   obtain ⟨k1, k2⟩ := Hq hk
   obtain ⟨i1, i2⟩ := Hq hx
   have e1 := hT.nodup.idxOf_getElem k k1
   have e2 := hT.nodup.idxOf_getElem i i1
   rw [k2] at e1
   rw [i2] at e2
   omega
  ·cases hk
 have hd := EP h.deep gl.Parts
 have hp := Cm (k := (gl.Points.length : Int)) h.many (by have := hf.points gl hgm; omega) gl.Parts
 refine ⟨fun z => ?_, fun z => ?_, fun j z hj hz g hg => ?_, fun z hz => ?_⟩
 ·unfold fJ
  split
  ·omega
  ·have := h.deep z; omega
 ·unfold fJ
  split
  ·exact hp
  ·exact h.many z
 ·rw [ru (D := fJ D x (dF D gl.Parts)) (D' := D) fun p hp => iu (hnot j z (by omega) hz g hg p hp), rY (P := fJ P x (pF P gl.Parts gl.Points.length)) (P' := P) fun p hp => iu (hnot j z (by omega) hz g hg p hp)]
  by_cases e : z = x
  ·subst e
   rw [hgl] at hg
   cases hg
   rw [jr, jr]
   exact ⟨rfl, rfl⟩
  ·rw [iu e, iu e]
   have hji : j < i := by
    rcases Nat.lt_or_ge j i with h1 | h1
    ·exact h1
    ·have : j = i := by omega
     subst this
     rw [hx] at hz
     cases hz
     exact absurd rfl e
   exact h.done j z hji hz g hg
 ·rw [List.take_add_one, hx, Option.toList_some, List.mem_append, List.mem_singleton] at hz
  rw [iu (fun e => hz (.inr e))]
  exact h.rest z fun hm => hz (.inl hm)
def m7 (n : Nat) (D P : Int → Int) : Int × Int := fS [cD ((ca n).map D) p9, cD ((ca n).map P) py]
set_option maxHeartbeats 8000000 in
theorem rt (f : aP) (hf : sC f) (hr : iF f.Glyphs.length (prt f) ∨ AC Tryz.prog 257 [cf f] [] fun c _ => ∃ z : Int, c = aD z) : AC Tryz.prog 113 [cf f] [] fun c _ => (∃ D P, iH f D P ∧ iF f.Glyphs.length (prt f) ∧ c = bX (m7 f.Glyphs.length D P)) ∨ (¬ iF f.Glyphs.length (prt f) ∧ ∃ z : Int, c = bX (33, z)) := by
 refine aG Tryz.func113 rfl Tryz.ntmps113 rfl fun B => ?_
 have hn := hf.n
 have hml : (f.Glyphs.map bE).length = f.Glyphs.length := Hv ..
 repeat' (first|refine ae ?_|refine a6 ?_|refine a8 ?_|refine aa ?_|refine ah a7 rfl rfl ?_|refine b9 ?_|fail)
 refine aV [] [] (yO f hf.toFew hr) rfl rfl (Hp _) rfl fun c L1 hc => ?_
 refine bq (da (List.nil_sublist _)) ?_
 rcases hc with ⟨T, hc, hT, hTl⟩ | ⟨hna, z, hc⟩
 rotate_left
 ·subst hc
  repeat' (first|refine ae ?_|refine a6 ?_|refine am ?_|refine a8 ?_|refine aw ?_|refine aa ?_|refine ah a7 rfl rfl ?_|refine bK rfl ?_)
  exact aS rfl rfl rfl (.inr ⟨hna, z, rfl⟩)
 subst hc
 have hall := hT.all_of_len hTl
 have hacy := hT.acyc hall
 have hTi := bg T
 repeat' (first|refine ae ?_|refine a6 ?_|refine aq ?_|refine a8 ?_|refine aa ?_|refine ah a7 rfl rfl ?_|refine bi rfl ?_)
 rw [hml]
 refine dv a7 f.Glyphs.length rfl rfl rfl rfl rfl rfl rfl (by omega) (by omega) rfl fun bd => ?_
 rw [show (List.replicate f.Glyphs.length (List.map AV.sc [Value.int .i64 0])).flatten = dt f.Glyphs.length fun _ => 0 from m4 _]
 repeat' (first|refine ae ?_|refine a6 ?_|refine a8 ?_|refine aa ?_|refine ah a7 rfl rfl ?_|(apply aQ; first|refine ai 7 a7 0 rfl rfl rfl rfl rfl rfl rfl rfl ?_|refine ai 7 a7 1 rfl rfl rfl rfl rfl rfl rfl rfl ?_|refine ai 7 a7 2 rfl rfl rfl rfl rfl rfl rfl rfl ?_|refine ai 8 a7 0 rfl rfl rfl rfl rfl rfl rfl rfl ?_|refine ai 8 a7 1 rfl rfl rfl rfl rfl rfl rfl rfl ?_|refine ai 8 a7 2 rfl rfl rfl rfl rfl rfl rfl rfl ?_|refine ai 12 a7 0 rfl rfl rfl rfl rfl rfl rfl rfl ?_|refine ai 12 a7 1 rfl rfl rfl rfl rfl rfl rfl rfl ?_|refine ai 12 a7 2 rfl rfl rfl rfl rfl rfl rfl rfl ?_|refine aj a7 0 rfl rfl rfl rfl rfl rfl rfl ?_|refine aj a7 1 rfl rfl rfl rfl rfl rfl rfl ?_|refine aj a7 2 rfl rfl rfl rfl rfl rfl rfl ?_|refine aj a7 3 rfl rfl rfl rfl rfl rfl rfl ?_|fail)|refine aY a7 fun _=>?_|fail)
 rw [hml]
 refine dv a7 f.Glyphs.length rfl rfl rfl rfl rfl rfl rfl (by omega) (by omega) rfl fun bp => ?_
 rw [show (List.replicate f.Glyphs.length (List.map AV.sc [Value.int .i64 0])).flatten = dt f.Glyphs.length fun _ => 0 from m4 _]
 repeat' (first|refine ae ?_|refine a6 ?_|refine ar ?_|refine a8 ?_|refine aa ?_|refine ah a7 rfl rfl ?_|(apply aQ; first|refine ai 7 a7 0 rfl rfl rfl rfl rfl rfl rfl rfl ?_|refine ai 7 a7 1 rfl rfl rfl rfl rfl rfl rfl rfl ?_|refine ai 7 a7 2 rfl rfl rfl rfl rfl rfl rfl rfl ?_|refine ai 8 a7 0 rfl rfl rfl rfl rfl rfl rfl rfl ?_|refine ai 8 a7 1 rfl rfl rfl rfl rfl rfl rfl rfl ?_|refine ai 8 a7 2 rfl rfl rfl rfl rfl rfl rfl rfl ?_|refine ai 12 a7 0 rfl rfl rfl rfl rfl rfl rfl rfl ?_|refine ai 12 a7 1 rfl rfl rfl rfl rfl rfl rfl rfl ?_|refine ai 12 a7 2 rfl rfl rfl rfl rfl rfl rfl rfl ?_|refine aj a7 0 rfl rfl rfl rfl rfl rfl rfl ?_|refine aj a7 1 rfl rfl rfl rfl rfl rfl rfl ?_|refine aj a7 2 rfl rfl rfl rfl rfl rfl rfl ?_|refine aj a7 3 rfl rfl rfl rfl rfl rfl rfl ?_|fail)|refine aY a7 fun _=>?_|fail)
 refine aI [1, 7, 8, 31, 32] (α := Nat × (Int → Int) × (Int → Int)) (fun x => [(33, aD x.1)]) (fun x => x.1 ≤ f.Glyphs.length ∧ sA f T x.1 x.2.1 x.2.2) (fun x => [(bp, .box (dt f.Glyphs.length x.2.2) 3), (bd, .box (dt f.Glyphs.length x.2.1) 3)]) (fun x => f.Glyphs.length - x.1) (0, (fun _ => 0), (fun _ => 0)) rfl ⟨rfl, trivial⟩ ⟨Nat.zero_le _, sA.start⟩ (fun _ _ h => h) ?_
 rintro ⟨i, D, P⟩ ⟨hi, hC⟩
 dsimp only at hi hC ⊢
 try dsimp only [Ht, Hs, Hr, Hn]
 repeat' (first|refine ae ?_|refine a6 ?_|refine a8 ?_|refine aa ?_|refine ah a7 rfl rfl ?_)
 refine ay rfl (fun h => ?_) (fun h => ?_)
 ·have hil : i < T.length := by have := Hz h; rw [hTi] at this; omega
  obtain ⟨x, hx⟩ : ∃ x, T[i]? = some x := ⟨_, Eg hil⟩
  have hxi := bU hx
  have hxr := hT.dom x (Hx hx)
  obtain ⟨gl, hgl⟩ : ∃ z, f.Glyphs[x.toNat]? = some z := ⟨_, Eg (by omega)⟩
  have hgm := Hx hgl
  have hgg := bO (c := bE) hgl
  have hpm : (gl.Points.map fc).length = gl.Points.length := Hv ..
  have hpl := hf.points gl hgm
  clear h
  repeat' (first|refine ae ?_|refine a6 ?_|refine ar ?_|refine aq ?_|refine a8 ?_|refine aa ?_|refine ah a7 rfl rfl ?_|(apply aO; first|refine aN a7 ?_|refine aH a7 ?_)|fail)
  refine bF 10 [(0, .v), (1, .v), (2, .v), (3, .v), (4, .v), (5, .v), (6, .v), (7, .v), (8, .v), (9, .v)] none ?_ trivial rfl (by kernel_rfl) (by kernel_rfl) (by kernel_rfl) mixed (by kernel_rfl) rfl
  repeat' (first|refine aM ?_|refine bD a7 ?_|(apply dk;refine dT a7 ?_)|fail)
  refine bM [1, 7, 8, 10, 31, 32, 33, 37, 38, 46] rfl rfl ?_
  repeat' (first|(apply aO; first|refine aN a7 ?_|refine aH a7 ?_)|fail)
  refine aj a7 0 rfl rfl rfl rfl rfl rfl (by rw [Nat.ble_eq, gY]; show _ + 1 ≤ _; omega) ?_
  rw [eT, jR hxr.1 hxr.2, hpm]
  repeat' (first|refine ae ?_|refine a6 ?_|refine ar ?_|refine a8 ?_|refine aa ?_|refine ah a7 rfl rfl ?_|(apply aO; first|refine aN a7 ?_|refine aH a7 ?_)|fail)
  have hTx : x ∉ T.take i := fun hm => by
   obtain ⟨k, hk⟩ := List.mem_iff_getElem?.1 hm
   rw [List.getElem?_take] at hk
   split at hk
   ·obtain ⟨k1, k2⟩ := Hq hk
    obtain ⟨i1, i2⟩ := Hq hx
    have e1 := hT.nodup.idxOf_getElem k k1
    have e2 := hT.nodup.idxOf_getElem i i1
    rw [k2] at e1
    rw [i2] at e2
    omega
   ·cases hk
  have hD0 : fJ D x 0 = D := by
   funext q
   unfold fJ
   split
   ·rename_i e; rw [e, hC.rest x hTx]
   ·rfl
  have hql : (gl.Parts.map eN).length = gl.Parts.length := Hv ..
  have hqn := hf.parts gl hgm
  refine aI [1, 7, 8, 10, 31, 32, 33, 53, 54] (α := Nat) (fun j => [(55, aD j)]) (fun j => j ≤ gl.Parts.length) (fun j => [(bp, .box (dt f.Glyphs.length (fJ P x (pF P (gl.Parts.take j) gl.Points.length))) 3), (bd, .box (dt f.Glyphs.length (fJ D x (dF D (gl.Parts.take j)))) 3)]) (fun j => gl.Parts.length - j) 0 rfl ⟨rfl, trivial⟩ (Nat.zero_le _) (fun _ _ h => by rw [List.take_zero, show dF D [] = 0 from rfl, hD0]; exact h) fun j hj => ?_
  try dsimp only [Ht, Hs, Hr, Hn]
  repeat' (first|refine ae ?_|refine a6 ?_|refine a8 ?_|refine aa ?_|refine ah a7 rfl rfl ?_)
  refine ay rfl (fun h => ?_) (fun h => ?_)
  ·have hjl : j < gl.Parts.length := by have := Hz h; omega
   obtain ⟨q, hq⟩ : ∃ q, gl.Parts[j]? = some q := ⟨_, Eg hjl⟩
   have hqg := bO (c := eN) hq
   have hqr := mR.1 (hf.there gl hgm q (Hx hq))
   have hne : q.Glyph ≠ x := fun e => by
    have h1 := hT.topo i x hx q.Glyph (by rw [qB hf hgl]; exact List.mem_map_of_mem (Hx hq))
    rw [e] at h1
    exact hTx h1
   have hc1 : (dt f.Glyphs.length (fJ D x (dF D (gl.Parts.take j))))[0 + x.toNat * 1]? = some (aD (dF D (gl.Parts.take j))) := by rw [gX hxr.1 hxr.2, jr]
   have hc2 : (dt f.Glyphs.length (fJ D x (dF D (gl.Parts.take j))))[0 + q.Glyph.toNat * 1]? = some (aD (D q.Glyph)) := by rw [gX hqr.1 hqr.2, iu hne]
   have hc3 : (dt f.Glyphs.length (fJ P x (pF P (gl.Parts.take j) gl.Points.length)))[0 + x.toNat * 1]? = some (aD (pF P (gl.Parts.take j) gl.Points.length)) := by rw [gX hxr.1 hxr.2, jr]
   have hc4 : (dt f.Glyphs.length (fJ P x (pF P (gl.Parts.take j) gl.Points.length)))[0 + q.Glyph.toNat * 1]? = some (aD (P q.Glyph)) := by rw [gX hqr.1 hqr.2, iu hne]
   have hDq := hC.deep q.Glyph
   have hPq := hC.many q.Glyph
   have hPj := Cm (k := (gl.Points.length : Int)) hC.many (by omega) (gl.Parts.take j)
   clear h
   repeat' (first|refine ae ?_|refine a6 ?_|refine ar ?_|refine aq ?_|refine a8 ?_|refine aa ?_|refine ah a7 rfl rfl ?_|(apply aO; first|refine aN a7 ?_|refine aH a7 ?_)|(apply aQ; first|refine ai 7 a7 0 rfl rfl rfl rfl rfl rfl rfl rfl ?_|refine ai 7 a7 1 rfl rfl rfl rfl rfl rfl rfl rfl ?_|refine ai 7 a7 2 rfl rfl rfl rfl rfl rfl rfl rfl ?_|refine ai 8 a7 0 rfl rfl rfl rfl rfl rfl rfl rfl ?_|refine ai 8 a7 1 rfl rfl rfl rfl rfl rfl rfl rfl ?_|refine ai 8 a7 2 rfl rfl rfl rfl rfl rfl rfl rfl ?_|refine ai 12 a7 0 rfl rfl rfl rfl rfl rfl rfl rfl ?_|refine ai 12 a7 1 rfl rfl rfl rfl rfl rfl rfl rfl ?_|refine ai 12 a7 2 rfl rfl rfl rfl rfl rfl rfl rfl ?_|refine aj a7 0 rfl rfl rfl rfl rfl rfl rfl ?_|refine aj a7 1 rfl rfl rfl rfl rfl rfl rfl ?_|refine aj a7 2 rfl rfl rfl rfl rfl rfl rfl ?_|refine aj a7 3 rfl rfl rfl rfl rfl rfl rfl ?_|fail)|refine aY a7 fun _=>?_|fail)
   refine bF 13 [(0, .v), (1, .v), (2, .v), (3, .v), (4, .v), (5, .l), (6, .v), (7, .v), (8, .v), (9, .v), (10, .l), (11, .v), (12, .v)] none ?_ trivial rfl (by kernel_rfl) (by kernel_rfl) (by kernel_rfl) mixed (by kernel_rfl) rfl
   repeat' (first|refine aM ?_|refine bD a7 ?_|fail)
   refine cS a7 rfl rfl rfl hxr trivial ?_
   repeat' (first|refine aM ?_|fail)
   refine du a7 1 rfl rfl rfl hc1 trivial ?_
   repeat' (first|refine aM ?_|refine bD a7 ?_|fail)
   refine cS a7 rfl rfl rfl hqr trivial ?_
   repeat' (first|refine aM ?_|fail)
   refine du a7 1 rfl rfl rfl hc2 trivial ?_
   repeat' (first|refine aM ?_|refine bD a7 ?_|(apply iM;refine m9 ?_)|fail)
   refine bM [1, 7, 8, 10, 12, 31, 32, 33, 53, 54, 55, 59, 60, 71] rfl rfl ?_
   repeat' (first|(apply aO; first|refine aN a7 ?_|refine aH a7 ?_)|fail)
   refine aj a7 1 rfl rfl rfl rfl rfl rfl (by rw [Nat.ble_eq, gY]; show _ + 1 ≤ _; omega) ?_
   rw [eT, jR hxr.1 hxr.2, pP, ← Ap hq]
   repeat' (first|refine a8 ?_|refine aa ?_)
   refine bF 13 [(0, .v), (1, .v), (2, .v), (3, .v), (4, .v), (5, .l), (6, .v), (7, .v), (8, .v), (9, .v), (10, .l), (11, .v), (12, .v)] none ?_ trivial rfl (by kernel_rfl) (by kernel_rfl) (by kernel_rfl) mixed (by kernel_rfl) rfl
   repeat' (first|refine aM ?_|refine bD a7 ?_|fail)
   refine cS a7 rfl rfl rfl hxr trivial ?_
   repeat' (first|refine aM ?_|fail)
   refine du a7 0 rfl rfl rfl hc3 trivial ?_
   repeat' (first|refine aM ?_|refine bD a7 ?_|fail)
   refine cS a7 rfl rfl rfl hqr trivial ?_
   repeat' (first|refine aM ?_|fail)
   refine du a7 0 rfl rfl rfl hc4 trivial ?_
   repeat' (first|refine aM ?_|refine bD a7 ?_|(apply iM;refine m9 ?_)|fail)
   refine bM [1, 7, 8, 10, 31, 32, 33, 53, 54, 55, 73, 74, 85] rfl rfl ?_
   repeat' (first|(apply aO; first|refine aN a7 ?_|refine aH a7 ?_)|fail)
   refine aj a7 0 rfl rfl rfl rfl rfl rfl (by rw [Nat.ble_eq, gY]; show _ + 1 ≤ _; omega) ?_
   rw [eT, jR hxr.1 hxr.2, pP, ← Br hq]
   repeat' (first|refine a6 ?_|refine a8 ?_|refine aR ?_|refine aa ?_|refine ah a7 rfl rfl ?_|(apply b6; refine aZ ?_)|fail)
   exact aF (j + 1) rfl ⟨by rw [Hw]; rfl, trivial⟩ (by omega) (by omega) (fun _ _ h => h)
  ·have hjl : j = gl.Parts.length := by have := Hy h; omega
   subst hjl
   rw [List.take_length]
   repeat' (first|refine a6 ?_|refine aL ?_|refine a8 ?_|refine av ?_|refine aR ?_|refine aA ?_|refine az ?_|refine aa ?_|refine ah a7 rfl rfl ?_|(apply b6; refine aZ ?_)|fail)
   exact aF (i + 1, _, _) rfl ⟨by rw [Hw]; rfl, trivial⟩ ⟨by dsimp only; omega, hC.next hf hT hx hgl⟩ (by dsimp only; omega) (fun _ _ h => h)
 ·have hil : i = f.Glyphs.length := by have := Hy h; rw [hTi] at this; omega
  subst hil
  clear h
  have hdeep : iH f D P := by
   intro z h0 h1 gl hgl
   obtain ⟨j, hj⟩ := List.mem_iff_getElem?.1 (hall z h0 h1)
   exact hC.done j z (by have := (Hq hj).1; omega) hj gl hgl
  have hcd : ∀ F : Int → Int, dt f.Glyphs.length F = (aT ((ca f.Glyphs.length).map F)).flatten := fun F => by rw [pt]; unfold dt; rw [List.map_map]; rfl
  have hcl : ∀ F : Int → Int, (aT ((ca f.Glyphs.length).map F)).length = f.Glyphs.length := fun F => by rw [bg, Hv, dP]
  refine cA (pM (t := 7) (sz := 1) (l := aT ((ca f.Glyphs.length).map D)) 1 rfl rfl (hcd D) (by simp [aT]) (hcl D) (by omega)) ?_
  refine cA (pM (t := 8) (sz := 1) (l := aT ((ca f.Glyphs.length).map P)) 1 rfl rfl (hcd P) (by simp [aT]) (hcl P) (by omega)) ?_
  repeat' (first|refine ae ?_|refine a6 ?_|refine aL ?_|refine a8 ?_|refine av ?_|refine aA ?_|refine az ?_|refine ah a7 rfl rfl ?_|refine cE a7 ?_|fail)
  refine aV [] _ (gC [⟨186, [.iptr [.imm 1 (aT ((ca f.Glyphs.length).map D))]], [], (cD ((ca f.Glyphs.length).map D) p9).1, (cD ((ca f.Glyphs.length).map D) p9).2⟩, ⟨189, [.iptr [.imm 1 (aT ((ca f.Glyphs.length).map P))]], [], (cD ((ca f.Glyphs.length).map P) py).1, (cD ((ca f.Glyphs.length).map P) py).2⟩] ⟨⟨inferInstance, vB _⟩, fun _ => ⟨⟨inferInstance, vC _⟩, fun _ => trivial⟩⟩) rfl rfl (Hp _) rfl fun c L1 hc => ?_
  rw [ic] at hc
  have hc : c = bX (m7 f.Glyphs.length D P) := hc
  subst hc
  unfold bX
  repeat' (first|refine am ?_|refine a8 ?_|refine aa ?_|refine ah a7 rfl rfl ?_)
  exact aS rfl rfl rfl (.inl ⟨D, P, hdeep, hacy, rfl⟩)
set_option maxRecDepth 8000
theorem iy {err : Nat → Int} : ∀ (k i : Nat), (cQ err k i).1 = 0 ↔ ∀ j, i ≤ j → j < i + k → err j = 0
 | 0, i => by simp only [cQ, true_iff]; intro j h1 h2; omega
 | k + 1, i => by
  simp only [cQ]
  by_cases h : err i = 0
  ·rw [if_pos h, iy k (i + 1)]
   constructor
   ·intro hh j h1 h2
    by_cases e : j = i
    ·subst e; exact h
    ·exact hh j (by omega) (by omega)
   ·intro hh j h1 h2; exact hh j (by omega) (by omega)
  ·rw [if_neg h]
   constructor
   ·intro hh; exact absurd hh h
   ·intro hh; exact hh i (Nat.le_refl _) (by omega)
theorem nB {α : Type} {l : List α} {w : Nat → α → Int} : (cD l w).1 = 0 ↔ ∀ i x, l[i]? = some x → w i x = 0 := by
 unfold cD cN
 rw [iy]
 constructor
 ·intro h i x hx
  have := h i (Nat.zero_le _) (by have := (Hq hx).1; omega)
  rwa [fL hx] at this
 ·intro h j _ hj
  obtain ⟨x, hx⟩ : ∃ x, l[j]? = some x := ⟨_, Eg (by omega)⟩
  rw [fL hx]
  exact h j x hx
theorem g8 {α : Type} {most : Int} {l : List α} {w : Nat → α → Int} : (ck most l w).1 = 0 ↔ (l.length : Int) ≤ most ∧ ∀ i x, l[i]? = some x → w i x = 0 := by
 have h := nB (l := l) (w := w)
 unfold cD at h
 unfold ck cI
 by_cases hm : (l.length : Int) > most
 ·rw [if_pos hm]
  constructor
  ·intro hh; cases hh
  ·intro hh; omega
 ·rw [if_neg hm, h]
  exact ⟨fun hh => ⟨by omega, hh⟩, fun hh => hh.2⟩
theorem eA : ∀ {l : List (Int × Int)}, (fS l).1 = 0 ↔ ∀ x ∈ l, x.1 = 0
 | [] => by simp [fS]
 | x :: r => by
  unfold fS
  by_cases h : x.1 = 0
  ·rw [if_pos h, eA]
   constructor
   ·intro hh y hy
    rcases List.mem_cons.1 hy with rfl | hy
    ·exact h
    ·exact hh y hy
   ·intro hh y hy; exact hh y (Hu _ hy)
  ·rw [if_neg h]
   constructor
   ·intro hh; exact absurd hh h
   ·intro hh; exact hh x (List.mem_cons_self ..)
theorem jA {f : aP} (h : (ck 400 f.Glyphs (eQ f)).1 = 0) : sC f := by
 obtain ⟨h1, h2⟩ := g8.1 h
 have hg : ∀ gl ∈ f.Glyphs, ∃ name, nI f gl name = 0 := fun gl hgl => by
  obtain ⟨i, hi⟩ := List.mem_iff_getElem?.1 hgl
  exact ⟨_, h2 i gl hi⟩
 have hgl : ∀ gl ∈ f.Glyphs, ir gl = 0 ∧ (ck 8 gl.Parts (mo f)).1 = 0 := fun gl hm => by
  obtain ⟨name, hn⟩ := hg gl hm
  unfold nI at hn
  rw [eA] at hn
  exact ⟨hn (ir gl, 0) (by simp), hn (ck 8 gl.Parts (mo f)) (by simp)⟩
 refine ⟨⟨by omega, fun gl hm => ?_⟩, fun gl hm => ?_, fun gl hm p hp => ?_⟩
 ·have := (g8.1 (hgl gl hm).2).1; omega
 ·have h3 := (hgl gl hm).1
  unfold ir at h3
  split at h3
  ·cases h3
  ·split at h3
   ·cases h3
   ·omega
 ·obtain ⟨i, hi⟩ := List.mem_iff_getElem?.1 hp
  have h3 := (g8.1 (hgl gl hm).2).2 i p hi
  unfold mo at h3
  split at h3
  ·cases h3
  ·rename_i hh
   simpa using hh
theorem vG {f : aP} (hf : sC f) (ha : iF f.Glyphs.length (prt f)) {D P D' P' : Int → Int} (h : iH f D P) (h' : iH f D' P') : ∀ z : Int, 0 ≤ z → z < f.Glyphs.length → D z = D' z ∧ P z = P' z := by
 obtain ⟨r, hr⟩ := ha
 have : ∀ (k : Nat) (z : Int), r z < k → 0 ≤ z → z < f.Glyphs.length → D z = D' z ∧ P z = P' z := by
  intro k
  induction k with
  | zero => intro z hk; exact absurd hk (Nat.not_lt_zero _)
  | succ k ih =>
   intro z hk h0 h1
   obtain ⟨gl, hgl⟩ : ∃ g, f.Glyphs[z.toNat]? = some g := ⟨_, Eg (by omega)⟩
   have hsm : ∀ p ∈ gl.Parts, D p.Glyph = D' p.Glyph ∧ P p.Glyph = P' p.Glyph := fun p hp => by
    have hin := mR.1 (hf.there gl (Hx hgl) p hp)
    have := hr z h0 h1 p.Glyph (by rw [qB hf hgl]; exact List.mem_map_of_mem hp)
    exact ih p.Glyph (by omega) hin.1 hin.2
   obtain ⟨h2, h3⟩ := h z h0 h1 gl hgl
   obtain ⟨h4, h5⟩ := h' z h0 h1 gl hgl
   rw [h2, h3, h4, h5]
   exact ⟨ru fun p hp => (hsm p hp).1, rY fun p hp => (hsm p hp).2⟩
 intro z h0 h1
 exact this (r z + 1) z (by omega) h0 h1
theorem t6 {n : Nat} {D P D' P' : Int → Int} (h : ∀ z : Int, 0 ≤ z → z < n → D z = D' z ∧ P z = P' z) : m7 n D P = m7 n D' P' := by
 unfold m7
 rw [List.map_congr_left (f := D) (g := D') fun z hz => (h z (e9.1 hz).1 (e9.1 hz).2).1, List.map_congr_left (f := P) (g := P') fun z hz => (h z (e9.1 hz).1 (e9.1 hz).2).2]
open Classical in
noncomputable def m8 (f : aP) : Int × Int := if h : ∃ q : (Int → Int) × (Int → Int), iH f q.1 q.2 then m7 f.Glyphs.length h.choose.1 h.choose.2 else (33, 0)
theorem rq {f : aP} (hf : sC f) (ha : iF f.Glyphs.length (prt f)) {D P : Int → Int} (h : iH f D P) : m8 f = m7 f.Glyphs.length D P := by
 unfold m8
 have hex : ∃ q : (Int → Int) × (Int → Int), iH f q.1 q.2 := ⟨(D, P), h⟩
 rw [dif_pos hex]
 exact t6 (vG hf ha hex.choose_spec h)
theorem Ao (f : aP) (hf : sC f) (ha : iF f.Glyphs.length (prt f)) : AC Tryz.prog 112 [.iptr (bH f)] [] fun c _ => c = bX ((m8 f).1, (m8 f).2) := by
 refine aG Tryz.func112 rfl Tryz.ntmps112 rfl fun B => ?_
 repeat' (first|refine ae ?_|refine a6 ?_|refine a8 ?_|refine aa ?_|refine ah a7 rfl rfl ?_)
 refine aV [] [] (rt f hf (.inl ha)) rfl rfl (Hp _) rfl fun c L1 hc => ?_
 rcases hc with ⟨D, P, h1, h2, hc⟩ | ⟨hna, _⟩
 ·rw [← rq hf ha h1] at hc
  subst hc
  unfold bX
  repeat' (first|refine am ?_|refine a8 ?_|refine aa ?_|refine ah a7 rfl rfl ?_)
  exact aS rfl rfl rfl rfl
 ·exact absurd ha hna
def uE (_ : Nat) (l : List eo) : Int := oa l
def qC (f : aP) (_ : Nat) (r : List eL) : Int := z2 f.Axes.length r
def jf (f : aP) (_ : Nat) (l : bk) : Int := kJ f l
noncomputable def xX (f : aP) : List (Int × Int) := [(jC f, 0), ck 400 f.Glyphs (eQ f), m8 f, ck 1000 f.Chars (gZ f), ck 40 f.Lookups (jf f), ck 20 f.Features (jc f), ck 3 f.Axes (kp f), ck 16 f.Regions (qC f), ck 20 f.Funcs uE, ck 64 f.Cvt xM]
noncomputable def fV (f : aP) : Int × Int := fS (xX f)
noncomputable def uB (f : aP) (m1 m2 m3 : Nat) : List Lk := [⟨105, [.iptr (bH f)], [], jC f, 0⟩,
 ⟨171, [.iptr [.imm 9 (f.Glyphs.map bE)], .iptr [aD 400], .iptr [.fn 108 [.iptr (bH f), .iptr [.sc (.map (some m1))]]]], [(m1, bP .string (cj (lE f)))], (ck 400 f.Glyphs (eQ f)).1, (ck 400 f.Glyphs (eQ f)).2⟩,
 ⟨112, [.iptr (bH f)], [], (m8 f).1, (m8 f).2⟩,
 ⟨191, [.iptr [.imm 2 (f.Chars.map dS)], .iptr [aD 1000], .iptr [.fn 115 [.iptr (bH f)]]], [], (ck 1000 f.Chars (gZ f)).1, (ck 1000 f.Chars (gZ f)).2⟩,
 ⟨193, [.iptr [.imm 3 (f.Lookups.map bo)], .iptr [aD 40], .iptr [.fn 118 [.iptr (bH f)]]], [], (ck 40 f.Lookups (jf f)).1, (ck 40 f.Lookups (jf f)).2⟩,
 ⟨201, [.iptr [.imm 2 (f.Features.map bC)], .iptr [aD 20], .iptr [.fn 121 [.iptr (bH f), .iptr [.sc (.map (some m2))]]]], [(m2, bP .string (cj (lP f)))], (ck 20 f.Features (jc f)).1, (ck 20 f.Features (jc f)).2⟩,
 ⟨204, [.iptr [.imm 4 (f.Axes.map eH)], .iptr [aD 3], .iptr [.fn 125 [.iptr [.sc (.map (some m3))]]]], [(m3, bP .string (cj (lh f)))], (ck 3 f.Axes (kp f)).1, (ck 3 f.Axes (kp f)).2⟩,
 ⟨206, [.iptr [.imm 1 (f.Regions.map dz)], .iptr [aD 16], .iptr [.fn 128 [.iptr (bH f)]]], [], (ck 16 f.Regions (qC f)).1, (ck 16 f.Regions (qC f)).2⟩,
 ⟨210, [.iptr [.imm 1 (f.Funcs.map eI)], .iptr [aD 20], .iptr [.sc (.func (.func 131) #[] #[])]], [], (ck 20 f.Funcs uE).1, (ck 20 f.Funcs uE).2⟩,
 ⟨214, [.iptr [.imm 1 (f.Cvt.map vw)], .iptr [aD 64], .iptr [.sc (.func (.func 134) #[] #[])]], [], (ck 64 f.Cvt xM).1, (ck 64 f.Cvt xM).2⟩]
theorem td (f : aP) (m1 m2 m3 : Nat) (hA : (ck 400 f.Glyphs (eQ f)).1 = 0 → iF f.Glyphs.length (prt f)) : tu (uB f m1 m2 m3) := by
 refine ⟨⟨inferInstance, vX f⟩, fun _ => ⟨⟨inferInstance, ?_⟩, fun h1 => ⟨⟨inferInstance, Ao f (jA h1) (hA h1)⟩, fun _ => ⟨⟨inferInstance, ?_⟩, fun _ => ⟨⟨inferInstance, ?_⟩, fun _ => ⟨⟨inferInstance, ?_⟩, fun _ => ⟨⟨inferInstance, ?_⟩, fun _ => ⟨⟨inferInstance, ?_⟩, fun _ => ⟨⟨inferInstance, ?_⟩, fun _ => ⟨⟨inferInstance, ?_⟩, fun _ => trivial⟩⟩⟩⟩⟩⟩⟩⟩⟩⟩
 ·exact BE (u := .fn 108 [.iptr (bH f), .iptr [.sc (.map (some m1))]]) rfl f.Glyphs 400 (f5 f.Glyphs (eQ f)) (fun _ L => L = [(m1, bP .string (cj (lE f)))]) _ rfl fun _ => oD fun i x _ => tk f i x m1
 ·exact BF (u := .fn 115 [.iptr (bH f)]) rfl f.Chars 1000 (f5 f.Chars (gZ f)) (fun _ _ => True) [] trivial fun hm => cF fun i x hx => vy f i x hx hm
 ·exact BG (u := .fn 118 [.iptr (bH f)]) rfl f.Lookups 40 (f5 f.Lookups (jf f)) (fun _ _ => True) [] trivial fun _ => cF fun i x _ => qd f i x
 ·exact BH (u := .fn 121 [.iptr (bH f), .iptr [.sc (.map (some m2))]]) rfl f.Features 20 (f5 f.Features (jc f)) (fun _ L => L = [(m2, bP .string (cj (lP f)))]) _ rfl fun _ => oD fun i x _ => vL f i x m2
 ·exact BI (u := .fn 125 [.iptr [.sc (.map (some m3))]]) rfl f.Axes 3 (f5 f.Axes (kp f)) (fun _ L => L = [(m3, bP .string (cj (lh f)))]) _ rfl fun _ => oD fun i x _ => vq f i x m3
 ·exact BJ (u := .fn 128 [.iptr (bH f)]) rfl f.Regions 16 (f5 f.Regions (qC f)) (fun _ _ => True) [] trivial fun _ => cF fun i x _ => s6 f i x
 ·exact BK (u := .sc (.func (.func 131) #[] #[])) (g := 131) (caps := []) rfl f.Funcs 20 (f5 f.Funcs uE) (fun _ _ => True) [] trivial fun _ => cF fun i x _ => vA i x
 ·exact BL (u := .sc (.func (.func 134) #[] #[])) (g := 134) (caps := []) rfl f.Cvt 64 (f5 f.Cvt xM) (fun _ _ => True) [] trivial fun _ => cF fun i x _ => xL i x
set_option maxHeartbeats 4000000 in
theorem uC (f : aP) (hA : (ck 400 f.Glyphs (eQ f)).1 = 0 → iF f.Glyphs.length (prt f)) : AC Tryz.prog 60 [cf f] [] fun c _ => c = bX (fV f) := by
 refine aG Tryz.func60 rfl Tryz.ntmps60 rfl fun B => ?_
 repeat' (first|refine ae ?_|refine a6 ?_|refine a8 ?_|refine aa ?_|refine ah a7 rfl rfl ?_|refine b9 ?_|fail)
 refine aV [] _ (xR f.Glyphs) rfl rfl (Hp _) rfl fun c L1 ⟨m1, hc, hL⟩ => ?_
 subst hc; subst hL
 repeat' (first|refine ae ?_|refine a6 ?_|refine a8 ?_|refine aa ?_|refine ah a7 rfl rfl ?_|(apply aQ; first|refine ai 4 a7 0 rfl rfl rfl rfl rfl rfl rfl rfl ?_|refine ai 4 a7 1 rfl rfl rfl rfl rfl rfl rfl rfl ?_|refine ai 4 a7 2 rfl rfl rfl rfl rfl rfl rfl rfl ?_|refine ai 5 a7 0 rfl rfl rfl rfl rfl rfl rfl rfl ?_|refine ai 5 a7 1 rfl rfl rfl rfl rfl rfl rfl rfl ?_|refine ai 5 a7 2 rfl rfl rfl rfl rfl rfl rfl rfl ?_|refine ai 6 a7 0 rfl rfl rfl rfl rfl rfl rfl rfl ?_|refine ai 6 a7 1 rfl rfl rfl rfl rfl rfl rfl rfl ?_|refine ai 6 a7 2 rfl rfl rfl rfl rfl rfl rfl rfl ?_|refine aj a7 0 rfl rfl rfl rfl rfl rfl rfl ?_|refine aj a7 1 rfl rfl rfl rfl rfl rfl rfl ?_|refine aj a7 2 rfl rfl rfl rfl rfl rfl rfl ?_|refine aj a7 3 rfl rfl rfl rfl rfl rfl rfl ?_|fail)|refine aY a7 fun _=>?_|fail)
 refine aV [] _ (xS f.Features) rfl rfl (Hp _) rfl fun c L1 ⟨m2, hc, hL⟩ => ?_
 subst hc; subst hL
 repeat' (first|refine ae ?_|refine a6 ?_|refine a8 ?_|refine aa ?_|refine ah a7 rfl rfl ?_|(apply aQ; first|refine ai 4 a7 0 rfl rfl rfl rfl rfl rfl rfl rfl ?_|refine ai 4 a7 1 rfl rfl rfl rfl rfl rfl rfl rfl ?_|refine ai 4 a7 2 rfl rfl rfl rfl rfl rfl rfl rfl ?_|refine ai 5 a7 0 rfl rfl rfl rfl rfl rfl rfl rfl ?_|refine ai 5 a7 1 rfl rfl rfl rfl rfl rfl rfl rfl ?_|refine ai 5 a7 2 rfl rfl rfl rfl rfl rfl rfl rfl ?_|refine ai 6 a7 0 rfl rfl rfl rfl rfl rfl rfl rfl ?_|refine ai 6 a7 1 rfl rfl rfl rfl rfl rfl rfl rfl ?_|refine ai 6 a7 2 rfl rfl rfl rfl rfl rfl rfl rfl ?_|refine aj a7 0 rfl rfl rfl rfl rfl rfl rfl ?_|refine aj a7 1 rfl rfl rfl rfl rfl rfl rfl ?_|refine aj a7 2 rfl rfl rfl rfl rfl rfl rfl ?_|refine aj a7 3 rfl rfl rfl rfl rfl rfl rfl ?_|fail)|refine aY a7 fun _=>?_|fail)
 refine aV [] _ (xT f.Axes) rfl rfl (Hp _) rfl fun c L1 ⟨m3, hc, hL⟩ => ?_
 subst hc; subst hL
 repeat' (first|refine ae ?_|refine a8 ?_|refine aa ?_|(apply aQ; first|refine ai 4 a7 0 rfl rfl rfl rfl rfl rfl rfl rfl ?_|refine ai 4 a7 1 rfl rfl rfl rfl rfl rfl rfl rfl ?_|refine ai 4 a7 2 rfl rfl rfl rfl rfl rfl rfl rfl ?_|refine ai 5 a7 0 rfl rfl rfl rfl rfl rfl rfl rfl ?_|refine ai 5 a7 1 rfl rfl rfl rfl rfl rfl rfl rfl ?_|refine ai 5 a7 2 rfl rfl rfl rfl rfl rfl rfl rfl ?_|refine ai 6 a7 0 rfl rfl rfl rfl rfl rfl rfl rfl ?_|refine ai 6 a7 1 rfl rfl rfl rfl rfl rfl rfl rfl ?_|refine ai 6 a7 2 rfl rfl rfl rfl rfl rfl rfl rfl ?_|refine aj a7 0 rfl rfl rfl rfl rfl rfl rfl ?_|refine aj a7 1 rfl rfl rfl rfl rfl rfl rfl ?_|refine aj a7 2 rfl rfl rfl rfl rfl rfl rfl ?_|refine aj a7 3 rfl rfl rfl rfl rfl rfl rfl ?_|fail)|refine aY a7 fun _=>?_|fail)
 refine bF 36 [(0, .v), (1, .v), (2, .v), (3, .v), (4, .v), (5, .v), (6, .v), (7, .v), (8, .v), (9, .v), (10, .v), (11, .v), (12, .v), (13, .v), (14, .v), (15, .v), (16, .v), (17, .v), (18, .v), (19, .v), (20, .v), (21, .v), (22, .v), (23, .v), (24, .v), (25, .v), (26, .v), (27, .v), (28, .v), (29, .v), (30, .v), (31, .v), (32, .v), (33, .e), (34, .v), (35, .v)] none ?_ trivial rfl (by kernel_rfl) (by kernel_rfl) (by kernel_rfl) mixed (by kernel_rfl) rfl
 repeat' (first|refine aM ?_|refine bD a7 ?_|(apply cL;refine d8 ?_)|fail)
 refine d8 (hc := ⟨DC f.Cvt 64⟩) ?_
 repeat' (first|refine aM ?_|refine iK a7 ?_|fail)
 refine hQ (L := [(m3, bP .string (cj (lh f))), (m2, bP .string (cj (lP f))), (m1, bP .string (cj (lE f)))]) _ [] (gC (uB f m1 m2 m3) (td f m1 m2 m3 hA)) rfl rfl (by rw [List.append_nil]; exact (List.reverse_perm _).symm) trivial fun c L1 hc => ?_
 rw [ic] at hc
 have hc : c = bX (fV f) := hc
 subst hc
 unfold bX
 repeat' (first|refine aM ?_|refine bD a7 ?_|fail)
 refine bM [50, 51] rfl rfl ?_
 repeat' (first|refine am ?_|refine a8 ?_|refine aa ?_|refine ah a7 rfl rfl ?_)
 exact aS rfl rfl rfl rfl
end Go.Proofs.YtamjlkdanllgjaaGreatDoor
namespace Go.Proofs.YtamjlkdanllgjaaGreatDoor
open Go.RowKit
attribute [local irreducible] AT br AX AO Av Kt aW cZ DA cw
set_option maxRecDepth 8000
def Fi (c : UInt8) (m : Bool) : b7 := ⟨⟨#[c]⟩, 0, m, [], [], [], [], [], []⟩
def DT : List b7 := [Fi 97 false, Fi 98 false, Fi 99 false, Fi 100 false, Fi 109 true]
def DS (ls : List bk) : aP := ⟨1000, DT, [], ls, [], [], [], [], []⟩
def GQ : List bk := [⟨3, false, [⟨[], [[0], [1]], [], [2], [], 0⟩]⟩, ⟨1, false, [⟨[], [[2]], [], [3], [], 0⟩]⟩]
def Du (ls : List bk) : Bool := decide ((ck 40 ls (jf (DS ls))).1 = 0)
set_option maxRecDepth 8000
theorem vO {f : aP} (hr : (fV f).1 = 0) (ha : iF f.Glyphs.length (prt f)) : AC Tryz.prog 60 [cf f] [] fun c _ => ∃ n : Int, c = bX (0, n) :=
 AC.mono (uC f fun _ => ha) fun c L hc => ⟨(fV f).2, by rw [hc, ← hr]⟩
def E5 (N : Nat) (s : List Int) : Bool := decide (s.Pairwise (· < ·)) && s.all fun g => decide (0 ≤ g) && decide (g < (N : Int))
def Fz (N : Nat) (r : bn) : Bool := r.Back.all (E5 N) && (r.In.all (E5 N) && (r.Ahead.all (E5 N) && (decide (r.Back.length ≤ 200) && (decide (r.In.length + r.Ahead.length ≤ 200) && (decide (r.Out.length ≤ 1000000) && (decide (r.Calls.length ≤ 1000000) && r.Calls.all fun c => decide (0 ≤ c.At) && decide (c.At ≤ 1000000)))))))
def F4 (N : Nat) (l : bk) : Bool := decide (l.Rules.length ≤ 6) && l.Rules.all (Fz N)
structure En (N : Nat) (r : bn) : Prop where
 b : qU N r
 out : r.Out.length ≤ 1000000
 calls : r.Calls.length ≤ 1000000
 at_ : ∀ c ∈ r.Calls, 0 ≤ c.At ∧ c.At ≤ 1000000
structure oV (f : aP) : Prop where
 glyphs : 0 < f.Glyphs.length ∧ f.Glyphs.length ≤ 65536
 lookups : f.Lookups.length ≤ 1000000
 few : ∀ l ∈ f.Lookups, l.Rules.length ≤ 6
 rule : ∀ l ∈ f.Lookups, ∀ r ∈ l.Rules, En f.Glyphs.length r
theorem oV.new {f : aP} (h : oV f) : C9 f := by
 refine ⟨h.glyphs, h.lookups, fun l hl => ⟨h.few l hl, fun r hr => (h.rule l hl r hr).b⟩, fun l hl r hr => ?_⟩
 have hb := h.rule l hl r hr
 have hg := h.glyphs.2
 exact ⟨⟨by have := hb.b.long; omega, fun s hs => by have := ev (fA (hb.b.in_ s hs).1) (hb.b.in_ s hs).2; omega⟩, hb.out, hb.calls⟩
theorem oV.eng {f : aP} (h : oV f) {E : sB} (hE : Ej f E) : mX E := ⟨hE.auto, fun e he r hr hin => by
 have hl : e.l ∈ f.Lookups := by rw [← hE.ls]; exact List.mem_map.2 ⟨e, he, rfl⟩
 have hb := h.rule e.l hl r hr
 exact ⟨hin, hb.out, hb.calls, hb.at_⟩⟩
theorem DN {f : aP} (h : oV f) (hr : (fV f).1 = 0) (ha : iF f.Glyphs.length (prt f)) : AC Tryz.prog 61 [cf f] [] fun c _ => ∃ E, mX E ∧ E.ls = f.Lookups ∧ E.ms = f.Glyphs.map b7.Mark ∧ c = .tup [.iptr (nr E), aD 0] :=
 AC.mono (DL f h.new (vO hr ha)) fun c L ⟨E, hE, hc⟩ => ⟨E, h.eng hE, hE.ls, hE.ms, hc⟩
set_option maxRecDepth 8000
noncomputable def hZ (f : aP) (rs place : List Int) : Int := if (fV f).1 ≠ 0 then (fV f).1 else if 500 < rs.length then 2 else if place ≠ [] then 1 else 0
def G5 (f : aP) (v : AV) (L : AL) : Prop := ∃ E sb, mX E ∧ E.ls = f.Lookups ∧ E.ms = f.Glyphs.map b7.Mark ∧ v = f0 sb ∧ L = [(sb, sf f f (.fnB 62 [.iptr (nr E)] []))]
structure Eo (f : aP) : Prop where
 ac : iF f.Glyphs.length (prt f)
 sm : (fV f).1 = 0 → Cz f
 nn : (fV f).1 = 0 → oV f
set_option maxHeartbeats 4000000 in
theorem rk (f : aP) (hf : Eo f) (rs place : List Int) : AC Tryz.prog 37 [cf f, .imm 1 (aT rs), .imm 1 (aT place)] [] fun c L => (hZ f rs place ≠ 0 ∧ c = .tup [Fh, aD (hZ f rs place)] ∧ L = []) ∨ (hZ f rs place = 0 ∧ ∃ v, G5 f v L ∧ c = .tup [v, aD 0]) := by
 refine aG Tryz.func37 rfl Tryz.ntmps37 rfl fun B => ?_
 have hck := uC f fun _ => hf.ac
 have hil := bg rs
 unfold hZ
 repeat' (first|refine ae ?_|refine a6 ?_|refine a8 ?_|refine aa ?_|refine ah a7 rfl rfl ?_|refine b9 ?_|fail)
 refine aV [] [] hck rfl rfl (Hp _) rfl fun c L1 hc => ?_
 subst hc
 unfold bX
 repeat' (first|refine ae ?_|refine a6 ?_|refine a8 ?_|refine aa ?_|refine ah a7 rfl rfl ?_)
 refine ug (List.nil_sublist _) ?_
 refine ay rfl (fun h => ?_) (fun h => ?_)
 ·have h1 : (fV f).1 ≠ 0 := Hz h
  rw [if_pos h1]
  clear h
  repeat' (first|refine ae ?_|refine a6 ?_|refine am ?_|refine a8 ?_|refine aw ?_|refine aa ?_|refine ah a7 rfl rfl ?_)
  exact aS rfl rfl rfl (.inl ⟨h1, rfl, rfl⟩)
 have h1 : (fV f).1 = 0 := Decidable.not_not.1 (Hy h)
 rw [if_neg (by rw [h1]; simp)]
 clear h
 have hnew := DN (hf.nn h1) h1 hf.ac
 have hv := xW f (hf.sm h1) place
 repeat' (first|refine ae ?_|refine a6 ?_|refine aq ?_|refine a8 ?_|refine aa ?_|refine ah a7 rfl rfl ?_)
 rw [hil]
 refine ay rfl (fun h => ?_) (fun h => ?_)
 ·have h2 : 500 < rs.length := by have := Hz h; omega
  rw [if_pos h2]
  clear h
  repeat' (first|refine ae ?_|refine a6 ?_|refine am ?_|refine a8 ?_|refine aw ?_|refine aa ?_|refine ah a7 rfl rfl ?_)
  exact aS rfl rfl rfl (.inl ⟨by simp, rfl, rfl⟩)
 have h2 : ¬ 500 < rs.length := by have := Hy h; omega
 rw [if_neg h2]
 clear h
 by_cases h3 : place = []
 ·rw [if_neg (show ¬ (place ≠ []) from fun e => e h3)]
  simp only [if_pos h3] at hv
  haveI := AD.mk hv
  repeat' (first|refine ae ?_|refine a6 ?_|refine aq ?_|refine a8 ?_|refine aa ?_|refine ah a7 rfl rfl ?_|(apply aQ; first|refine ai 10 a7 0 rfl rfl rfl rfl rfl rfl rfl rfl ?_|refine ai 10 a7 1 rfl rfl rfl rfl rfl rfl rfl rfl ?_|refine ai 10 a7 2 rfl rfl rfl rfl rfl rfl rfl rfl ?_|refine aj a7 0 rfl rfl rfl rfl rfl rfl rfl ?_|refine aj a7 1 rfl rfl rfl rfl rfl rfl rfl ?_|refine aj a7 2 rfl rfl rfl rfl rfl rfl rfl ?_|refine aj a7 3 rfl rfl rfl rfl rfl rfl rfl ?_|fail)|refine aY a7 fun _=>?_|(apply bc;refine aX ?_)|refine bi rfl ?_)
  refine aV [] [] hnew rfl rfl (Hp _) rfl fun c L1 ⟨E, hE1, hE2, hE3, hc⟩ => ?_
  subst hc
  refine bq (da (List.nil_sublist _)) ?_
  repeat' (first|refine ae ?_|refine a6 ?_|refine aq ?_|refine am ?_|refine a8 ?_|refine aa ?_|refine ah a7 rfl rfl ?_|refine yz (d := 46) fun _=>?_|refine bi rfl ?_)
  rename_i sb
  exact aS rfl rfl rfl (.inr ⟨rfl, _, ⟨E, sb, hE1, hE2, hE3, rfl, rfl⟩, rfl⟩)
 ·rw [if_pos (show (place ≠ []) from h3)]
  simp only [if_neg h3] at hv
  haveI := AD.mk hv
  repeat' (first|refine ae ?_|refine a6 ?_|refine aq ?_|refine am ?_|refine a8 ?_|refine aw ?_|refine aa ?_|refine ah a7 rfl rfl ?_|(apply aQ; first|refine ai 10 a7 0 rfl rfl rfl rfl rfl rfl rfl rfl ?_|refine ai 10 a7 1 rfl rfl rfl rfl rfl rfl rfl rfl ?_|refine ai 10 a7 2 rfl rfl rfl rfl rfl rfl rfl rfl ?_|refine aj a7 0 rfl rfl rfl rfl rfl rfl rfl ?_|refine aj a7 1 rfl rfl rfl rfl rfl rfl rfl ?_|refine aj a7 2 rfl rfl rfl rfl rfl rfl rfl ?_|refine aj a7 3 rfl rfl rfl rfl rfl rfl rfl ?_|fail)|refine aY a7 fun _=>?_|(apply bc;refine aX ?_)|refine bK rfl ?_)
  refine cB (List.nil_sublist _) ?_
  exact aS rfl rfl rfl (.inl ⟨by simp, rfl, rfl⟩)
set_option maxRecDepth 8000
noncomputable def wG (f : aP) (rs place : List Int) (run : List b8) : AV := .tup [.imm 6 ((if hZ f rs place = 0 then run.map (jN f) else []).map cu), aD (hZ f rs place)]
structure zY (f : aP) (rs : List Int) (want : List ByteArray) : Prop where
 len : rs.length ≤ 1000000
 grp : mY rs
 chars : f.Chars.length ≤ 1000000
 feats : f.Features.length ≤ 1000000
 pairs : (bS want f.Features).length ≤ 1000000
 kinds : ∀ l ∈ cm want f, 0 ≤ l ∧ ∃ q, f.Lookups[l.toNat]? = some q ∧ 1 ≤ q.Kind ∧ q.Kind ≤ 5
structure Em (f : aP) (rs : List Int) (want : List ByteArray) (Lu : AL) (run : List b8) : Prop where
 ac : ∀ E, mX E → E.ls = f.Lookups → E.ms = f.Glyphs.map b7.Mark → ∀ q, iw q (cx f rs) → AC Tryz.prog 62 [.iptr (nr E), .imm 1 (aT (cm want f)), .imm 1 (ba (eS want f)), dQ q (cx f rs)] (dE q (cx f rs) ++ Lu) (zX run Lu)
 len : run.length ≤ 1000000
 glyph : ∀ x ∈ run, 0 ≤ x.Glyph ∧ x.Glyph < f.Glyphs.length
set_option maxHeartbeats 4000000 in
theorem sg (f : aP) (hf : Eo f) (rs place : List Int) (want : List ByteArray) (Lu : AL) (run : List b8) (ht : zY f rs want) (hr : hZ f rs place = 0 → Em f rs want Lu run) : AC Tryz.prog 19 [cf f, .imm 1 (aT rs), .imm 1 (sn want), .imm 1 (aT place)] Lu fun c L => c = wG f rs place run ∧ L = Lu := by
 refine aG Tryz.func19 rfl Tryz.ntmps19 rfl fun B => ?_
 have hb := rk f hf rs place
 unfold wG
 generalize hZ f rs place = e at *
 repeat' (first|refine ae ?_|refine a6 ?_|refine a8 ?_|refine aa ?_|refine ah a7 rfl rfl ?_|refine b9 ?_|fail)
 refine aV [] Lu hb rfl rfl (Hp _) rfl fun c L1 hc => ?_
 rcases hc with ⟨h1, rfl, rfl⟩ | ⟨h1, v, ⟨E, sb, e1, e2, e3, rfl, rfl⟩, rfl⟩
 ·rw [if_neg h1]
  repeat' (first|refine ae ?_|refine a6 ?_|refine a8 ?_|refine aa ?_|refine ah a7 rfl rfl ?_)
  refine ay rfl (fun h => ?_) (fun h => absurd (Hy h) (fun k => k h1))
  clear h
  repeat' (first|refine ae ?_|refine a6 ?_|refine am ?_|refine a8 ?_|refine aw ?_|refine aa ?_|refine ah a7 rfl rfl ?_)
  refine bf (bA (t := 8) (c' := .imm 6 (([] : List b8).map cu)) rfl fun σ v h => dA 6 h) ?_
  exact aS rfl rfl rfl ⟨rfl, rfl⟩
 ·subst h1
  rw [if_pos rfl]
  have hrn := hr rfl
  have hsh := pH f f rs want (.fnB 62 [.iptr (nr E)] []) sb Lu ht.len ht.grp ht.chars ht.feats ht.pairs ht.kinds run (fun q hq => gk.fnB (f := 62) (fs := [.iptr (nr E)]) (caps := []) (hrn.ac E e1 e2 e3 q hq)) hrn.len hrn.glyph
  repeat' (first|refine ae ?_|refine a6 ?_|refine aq ?_|refine a8 ?_|refine aa ?_|refine ah a7 rfl rfl ?_|refine bi rfl ?_)
  refine aV ((sb, sf f f (.fnB 62 [.iptr (nr E)] [])) :: Lu) [] hsh rfl rfl (by rw [List.append_nil]; exact Hp _) rfl fun c L1 ⟨hc, hL⟩ => ?_
  subst hc; subst hL
  repeat' (first|refine am ?_|refine a8 ?_|refine aa ?_|refine ah a7 rfl rfl ?_)
  refine cB (L' := L1) (by rw [List.append_nil]; exact List.Sublist.refl _) ?_
  exact aS rfl rfl rfl ⟨rfl, rfl⟩
theorem sV (f : aP) (hf : Eo f) (rs place : List Int) (want : List ByteArray) (Lu : AL) (ht : zY f rs want) (hp : cm want f = []) (hG : hZ f rs place = 0 → ∀ x ∈ cx f rs, 0 ≤ x.Glyph ∧ x.Glyph < f.Glyphs.length) : AC Tryz.prog 22 [cf f, .imm 1 (aT rs), .imm 1 (sn want), .imm 1 (aT place)] Lu fun c L => c = wG f rs place (cx f rs) ∧ L = Lu := by
 refine aG Tryz.func22 rfl Tryz.ntmps22 rfl fun B => ?_
 have hb := rk f hf rs place
 have hpf : eS want f = [] := by unfold eS; rw [hp]; rfl
 have hsl : (cx f rs).length ≤ 1000000 := by unfold cx; rw [Hv, (kR rs).1]; exact ht.len
 unfold wG
 generalize hZ f rs place = e at *
 repeat' (first|refine ae ?_|refine a6 ?_|refine a8 ?_|refine aa ?_|refine ah a7 rfl rfl ?_|refine b9 ?_|fail)
 refine aV [] Lu hb rfl rfl (Hp _) rfl fun c L1 hc => ?_
 rcases hc with ⟨h1, rfl, rfl⟩ | ⟨h1, v, ⟨E, sb, e1, e2, e3, rfl, rfl⟩, rfl⟩
 ·rw [if_neg h1]
  repeat' (first|refine ae ?_|refine a6 ?_|refine a8 ?_|refine aa ?_|refine ah a7 rfl rfl ?_)
  refine ay rfl (fun h => ?_) (fun h => absurd (Hy h) (fun k => k h1))
  clear h
  repeat' (first|refine ae ?_|refine a6 ?_|refine am ?_|refine a8 ?_|refine aw ?_|refine aa ?_|refine ah a7 rfl rfl ?_)
  refine bf (bA (t := 8) (c' := .imm 6 (([] : List b8).map cu)) rfl fun σ v h => dA 6 h) ?_
  exact aS rfl rfl rfl ⟨rfl, rfl⟩
 ·subst h1
  rw [if_pos rfl]
  have hsh := pH f f rs want (.fnB 43 [f0 sb] []) sb Lu ht.len ht.grp ht.chars ht.feats ht.pairs ht.kinds (cx f rs) (fun q hq => by
   rw [hp, hpf]
   exact gk.fnB (f := 43) (fs := [f0 sb]) (caps := []) (wC sb q _ hq Lu)) hsl (hG rfl)
  repeat' (first|refine ae ?_|refine a6 ?_|refine aq ?_|refine a8 ?_|refine aa ?_|refine ah a7 rfl rfl ?_|(apply aQ; first|refine aj a7 0 rfl rfl rfl rfl rfl rfl rfl ?_|refine aj a7 1 rfl rfl rfl rfl rfl rfl rfl ?_|refine aj a7 2 rfl rfl rfl rfl rfl rfl rfl ?_|refine aj a7 3 rfl rfl rfl rfl rfl rfl rfl ?_|fail)|refine bi rfl ?_)
  refine aV ((sb, sf f f (.fnB 43 [f0 sb] [])) :: Lu) [] hsh rfl rfl (by rw [List.append_nil]; exact List.Perm.of_eq rfl) rfl fun c L1 ⟨hc, hL⟩ => ?_
  subst hc; subst hL
  repeat' (first|refine am ?_|refine a8 ?_|refine aa ?_|refine ah a7 rfl rfl ?_)
  refine cB (L' := L1) (by rw [List.append_nil]; exact List.Sublist.refl _) ?_
  exact aS rfl rfl rfl ⟨rfl, rfl⟩
set_option maxRecDepth 8000
def GH (ls : List bk) : Bool := ls.all (F4 5) && (decide (ls.length ≤ 1000000) && Du ls)
set_option maxRecDepth 8000
def uV (m k : Nat) : List Int := (List.range k).map fun (j : Nat) => if j = m then (1 : Int) else 0
def Bx (m k : Nat) : List Int := (List.range k).map fun (j : Nat) => if (m : Int) - 1 ≤ (j : Int) then (1 : Int) else 0
def FV (m : Nat) : Bool := decide ((lm lN Bw 0 (lJ (uV m (m + 1))) []).map b8.Glyph = List.replicate (m + 1) 1) && decide ((lm lN Bw 1 (lJ (uV m (m + 1))) []).map b8.Glyph = Bx m (m + 1))
end Go.Proofs.YtamjlkdanllgjaaGreatDoor
