/-
  The program: how deep glyphs are, and how many points they have.
-/
import Derived.Test.YtpmdfoaadejmkaaGreatDoorM23
import Derived.Test.YtpmdfoaadejmkaaGreatDoorM20
namespace Go.Proofs.YtpmdfoaadejmkaaGreatDoor
open Go.RowKit
attribute [local irreducible] AT bf AX AO Av Kt aZ df DA cA
def dF (D : Int → Int) (ps : List cQ) : Int := ps.foldl (fun a p => max a (D p.Glyph + 1)) 0
def pF (P : Int → Int) (ps : List cQ) (k : Int) : Int := ps.foldl (fun a p => min (a + P p.Glyph) 1001) k
def d6 (n : Nat) (D : Int → Int) : List AV := (bS n).map fun z => az (D z)
def fh (D : Int → Int) (z v : Int) : Int → Int := fun q => if q = z then v else D q
theorem j3 {D : Int → Int} {z v : Int} : fh D z v z = v := by simp [fh]
theorem gV {D : Int → Int} {z v q : Int} (h : q ≠ z) : fh D z v q = D q := by simp [fh, h]
theorem oN (D : Int → Int) (z v w : Int) : fh (fh D z v) z w = fh D z w := by
 funext q
 unfold fh
 by_cases e : q = z
 ·rw [if_pos e, if_pos e]
 ·rw [if_neg e, if_neg e, if_neg e]
theorem gF (n : Nat) (D : Int → Int) : (d6 n D).length = n := by simp [d6, bS]
theorem gE {n : Nat} {D : Int → Int} {z : Int} (h0 : 0 ≤ z) (h1 : z < n) : (d6 n D)[0 + z.toNat * 1]? = some (az (D z)) := by
 rw [Nat.zero_add, Nat.mul_one]
 unfold d6
 rw [List.getElem?_map, gu (by omega), Option.map_some, show ((z.toNat : Nat) : Int) = z by omega]
theorem jn {n : Nat} {D : Int → Int} {z v : Int} (h0 : 0 ≤ z) (h1 : z < n) : (d6 n D).set (0 + z.toNat * 1) (az v) = d6 n (fh D z v) := by
 rw [Nat.zero_add, Nat.mul_one]
 apply List.ext_getElem?
 intro i
 rw [List.getElem?_set, gF]
 unfold d6 fh
 by_cases hi : z.toNat = i
 ·subst hi
  rw [if_pos rfl, if_pos (by omega), List.getElem?_map, gu (by omega), Option.map_some, if_pos (by omega)]
 ·rw [if_neg hi, List.getElem?_map, List.getElem?_map]
  by_cases hn : i < n
  ·rw [gu hn, Option.map_some, Option.map_some, if_neg (by omega)]
  ·rw [List.getElem?_eq_none (by rw [dk]; omega)]; rfl
theorem lr (n : Nat) : (List.replicate n [az 0]).flatten = d6 n fun _ => 0 := by
 rw [td (bS n) n (dk n).symm]
 unfold dU d6
 rw [List.take_zero, Dr, Nat.sub_zero, dk, List.map_replicate]
 apply List.ext_getElem?
 intro i
 rw [List.getElem?_replicate, List.getElem?_map]
 by_cases h : i < n
 ·rw [if_pos h, gu h]; rfl
 ·rw [if_neg h, List.getElem?_eq_none (by rw [dk]; omega)]; rfl
theorem yc {D : Int → Int} {ps : List cQ} {j : Nat} {p : cQ} (h : ps[j]? = some p) : dF D (ps.take (j + 1)) = max (dF D (ps.take j)) (D p.Glyph + 1) := by
 unfold dF
 rw [List.take_add_one, h, Option.toList_some, List.foldl_append]
 rfl
theorem yW {P : Int → Int} {ps : List cQ} {k : Int} {j : Nat} {p : cQ} (h : ps[j]? = some p) : pF P (ps.take (j + 1)) k = min (pF P (ps.take j) k + P p.Glyph) 1001 := by
 unfold pF
 rw [List.take_add_one, h, Option.toList_some, List.foldl_append]
 rfl
theorem js {α β : Type} {F G : α → β → α} : ∀ (l : List β) (a : α), (∀ b ∈ l, ∀ a, F a b = G a b) → l.foldl F a = l.foldl G a
 | [], _, _ => rfl
 | b :: l, a, h => by rw [List.foldl_cons, List.foldl_cons, h b (List.mem_cons_self ..)]; exact js l _ fun c hc => h c (Dt _ hc)
theorem qn {D D' : Int → Int} {ps : List cQ} (h : ∀ p ∈ ps, D p.Glyph = D' p.Glyph) : dF D ps = dF D' ps := js ps 0 fun p hp a => by rw [h p hp]
theorem qQ {P P' : Int → Int} {ps : List cQ} {k : Int} (h : ∀ p ∈ ps, P p.Glyph = P' p.Glyph) : pF P ps k = pF P' ps k := js ps k fun p hp a => by rw [h p hp]
theorem BK {D : Int → Int} {m : Int} (h : ∀ z, 0 ≤ D z ∧ D z ≤ m) : ∀ (ps : List cQ), 0 ≤ dF D ps ∧ dF D ps ≤ m + 1 := by
 intro ps
 have hm : 0 ≤ m := by have := h 0; omega
 have : ∀ (ps : List cQ) (a : Int), 0 ≤ a → a ≤ m + 1 → 0 ≤ ps.foldl (fun a p => max a (D p.Glyph + 1)) a ∧ ps.foldl (fun a p => max a (D p.Glyph + 1)) a ≤ m + 1 := by
  intro ps
  induction ps with
  | nil => intro a h0 h1; exact ⟨h0, h1⟩
  | cons p ps ih => intro a h0 h1; have := h p.Glyph; exact ih (max a (D p.Glyph + 1)) (by omega) (by omega)
 exact this ps 0 (by omega) (by omega)
theorem zQ {P : Int → Int} {k : Int} (h : ∀ z, 0 ≤ P z ∧ P z ≤ 1000000) (hk : 0 ≤ k ∧ k ≤ 1000000) (ps : List cQ) : 0 ≤ pF P ps k ∧ pF P ps k ≤ 1000000 := by
 unfold pF
 induction ps generalizing k with
 | nil => exact hk
 | cons p ps ih => have := h p.Glyph; exact ih (k := min (k + P p.Glyph) 1001) (by omega)
def i5 (f : aM) (D P : Int → Int) : Prop := ∀ z : Int, 0 ≤ z → z < f.Glyphs.length → ∀ gl, f.Glyphs[z.toNat]? = some gl → D z = dF D gl.Parts ∧ P z = pF P gl.Parts gl.Points.length
structure rq (f : aM) : Prop extends Few f where
 points : ∀ gl ∈ f.Glyphs, gl.Points.length ≤ 1000000
 there : ∀ gl ∈ f.Glyphs, ∀ p ∈ gl.Parts, j7 f p.Glyph = true
theorem pB {f : aM} (hf : rq f) {z : Int} {gl : b9} (h : f.Glyphs[z.toNat]? = some gl) : prt f z = gl.Parts.map cQ.Glyph := by
 unfold prt
 rw [h]
 refine List.filter_eq_self.2 fun y hy => ?_
 obtain ⟨p, hp, rfl⟩ := List.mem_map.1 hy
 exact hf.there gl (Dw h) p hp
def nZ (_ : Nat) (levels : Int) : Int := d4 (decide (levels > 4)) 34
def ou (_ : Nat) (all : Int) : Int := d4 (decide (all ≥ 1001)) 2
theorem rP (i : Nat) (n : Int) : bk Tryz.prog 129 [az i, az n] (az (nZ i n)) := by
 refine aB Tryz.func129 rfl Tryz.ntmps129 rfl fun B => ?_
 repeat' (first|refine a8 ?_|refine a0 ?_|refine ae ?_|refine a5 ?_|refine a6 ?_|refine a7 a4 rfl rfl ?_|(apply bb;refine b4 ?_)|fail)
 exact ak rfl rfl rfl
theorem rQ (i : Nat) (n : Int) : bk Tryz.prog 131 [az i, az n] (az (ou i n)) := by
 refine aB Tryz.func131 rfl Tryz.ntmps131 rfl fun B => ?_
 repeat' (first|refine a8 ?_|refine a0 ?_|refine ae ?_|refine a5 ?_|refine a6 ?_|refine a7 a4 rfl rfl ?_|(apply bb;refine b4 ?_)|fail)
 exact ak rfl rfl rfl
theorem ud (l : List Int) : bk Tryz.prog 127 [.iptr [.imm 1 (aU l)]] (bK (cm l nZ)) := by
 refine aB Tryz.func127 rfl Tryz.ntmps127 rfl fun B => ?_
 repeat' (first|refine a8 ?_|refine a0 ?_|refine a5 ?_|refine a6 ?_|refine a7 a4 rfl rfl ?_)
 refine aN [] [] (jQ (u := .sc (.func (.func 129) #[] #[])) (g := 129) (caps := []) rfl l _ (fun _ _ => True) [] trivial (co (fun i x _ => rP i x))) rfl rfl (Do _) rfl fun c L1 hc => ?_
 have hc : c = bK (cm l nZ) := hc
 subst hc
 unfold bK
 repeat' (first|refine ae ?_|refine a5 ?_|refine a6 ?_|refine a7 a4 rfl rfl ?_)
 exact aJ rfl rfl rfl rfl
theorem ue (l : List Int) : bk Tryz.prog 130 [.iptr [.imm 1 (aU l)]] (bK (cm l ou)) := by
 refine aB Tryz.func130 rfl Tryz.ntmps130 rfl fun B => ?_
 repeat' (first|refine a8 ?_|refine a0 ?_|refine a5 ?_|refine a6 ?_|refine a7 a4 rfl rfl ?_)
 refine aN [] [] (jQ (u := .sc (.func (.func 131) #[] #[])) (g := 131) (caps := []) rfl l _ (fun _ _ => True) [] trivial (co (fun i x _ => rQ i x))) rfl rfl (Do _) rfl fun c L1 hc => ?_
 have hc : c = bK (cm l ou) := hc
 subst hc
 unfold bK
 repeat' (first|refine ae ?_|refine a5 ?_|refine a6 ?_|refine a7 a4 rfl rfl ?_)
 exact aJ rfl rfl rfl rfl
structure ro (f : aM) (T : List Int) (i : Nat) (D P : Int → Int) : Prop where
 deep : ∀ z, 0 ≤ D z ∧ D z ≤ i
 many : ∀ z, 0 ≤ P z ∧ P z ≤ 1000000
 done : ∀ (j : Nat) (z : Int), j < i → T[j]? = some z → ∀ gl, f.Glyphs[z.toNat]? = some gl → D z = dF D gl.Parts ∧ P z = pF P gl.Parts gl.Points.length
 rest : ∀ z, z ∉ T.take i → D z = 0
theorem ro.start {f : aM} {T : List Int} : ro f T 0 (fun _ => 0) (fun _ => 0) := ⟨fun _ => by simp, fun _ => by simp, fun j _ h => absurd h (Nat.not_lt_zero _), fun _ _ => rfl⟩
theorem ro.next {f : aM} {T : List Int} (hf : rq f) (hT : fP f.Glyphs.length (prt f) T) {i : Nat} {D P : Int → Int} (h : ro f T i D P) {x : Int} {gl : b9} (hx : T[i]? = some x) (hgl : f.Glyphs[x.toNat]? = some gl) : ro f T (i + 1) (fh D x (dF D gl.Parts)) (fh P x (pF P gl.Parts gl.Points.length)) := by
 have hgm := Dw hgl
 have hnot : ∀ (j : Nat) (z : Int), j ≤ i → T[j]? = some z → ∀ g, f.Glyphs[z.toNat]? = some g → ∀ p ∈ g.Parts, p.Glyph ≠ x := by
  intro j z hj hz g hg p hp e
  have h1 := hT.topo j z hz p.Glyph (by rw [pB hf hg]; exact List.mem_map_of_mem hp)
  rw [e] at h1
  obtain ⟨k, hk⟩ := List.mem_iff_getElem?.1 h1
  rw [List.getElem?_take] at hk
  split at hk
  ·rename_i hlt
   obtain ⟨k1, k2⟩ := Dp hk
   obtain ⟨i1, i2⟩ := Dp hx
   have e1 := hT.nodup.idxOf_getElem k k1
   have e2 := hT.nodup.idxOf_getElem i i1
   rw [k2] at e1
   rw [i2] at e2
   omega
  ·cases hk
 have hd := BK h.deep gl.Parts
 have hp := zQ (k := (gl.Points.length : Int)) h.many (by have := hf.points gl hgm; omega) gl.Parts
 refine ⟨fun z => ?_, fun z => ?_, fun j z hj hz g hg => ?_, fun z hz => ?_⟩
 ·unfold fh
  split
  ·omega
  ·have := h.deep z; omega
 ·unfold fh
  split
  ·exact hp
  ·exact h.many z
 ·rw [qn (D := fh D x (dF D gl.Parts)) (D' := D) fun p hp => gV (hnot j z (by omega) hz g hg p hp), qQ (P := fh P x (pF P gl.Parts gl.Points.length)) (P' := P) fun p hp => gV (hnot j z (by omega) hz g hg p hp)]
  by_cases e : z = x
  ·subst e
   rw [hgl] at hg
   cases hg
   rw [j3, j3]
   exact ⟨rfl, rfl⟩
  ·rw [gV e, gV e]
   have hji : j < i := by
    rcases Nat.lt_or_ge j i with h1 | h1
    ·exact h1
    ·have : j = i := by omega
     subst this
     rw [hx] at hz
     cases hz
     exact absurd rfl e
   exact h.done j z hji hz g hg
 ·rw [List.take_add_one, hx, Option.toList_some, List.mem_append, List.mem_singleton] at hz
  rw [gV (fun e => hz (.inr e))]
  exact h.rest z fun hm => hz (.inl hm)
def lu (n : Nat) (D P : Int → Int) : Int × Int := fy [cm ((bS n).map D) nZ, cm ((bS n).map P) ou]
set_option maxHeartbeats 8000000 in
theorem qm (f : aM) (hf : rq f) (hr : j6 f.Glyphs.length (prt f) ∨ AC Tryz.prog 211 [cx f] [] fun c _ => ∃ z : Int, c = az z) : AC Tryz.prog 56 [cx f] [] fun c _ => (∃ D P, i5 f D P ∧ j6 f.Glyphs.length (prt f) ∧ c = bK (lu f.Glyphs.length D P)) ∨ (¬ j6 f.Glyphs.length (prt f) ∧ ∃ z : Int, c = bK (33, z)) := by
 refine aB Tryz.func56 rfl Tryz.ntmps56 rfl fun B => ?_
 have hn := hf.n
 have hml : (f.Glyphs.map c7).length = f.Glyphs.length := Du ..
 repeat' (first|refine a8 ?_|refine a0 ?_|refine a5 ?_|refine a6 ?_|refine a7 a4 rfl rfl ?_|refine aX ?_|fail)
 refine aN [] [] (x3 f hf.toFew hr) rfl rfl (Do _) rfl fun c L1 hc => ?_
 refine aP (bZ (List.nil_sublist _)) ?_
 rcases hc with ⟨T, hc, hT, hTl⟩ | ⟨hna, z, hc⟩
 rotate_left
 ·subst hc
  repeat' (first|refine a8 ?_|refine a0 ?_|refine ae ?_|refine a5 ?_|refine am ?_|refine a6 ?_|refine a7 a4 rfl rfl ?_|refine br rfl ?_)
  exact aJ rfl rfl rfl (.inr ⟨hna, z, rfl⟩)
 subst hc
 have hall := hT.all_of_len hTl
 have hacy := hT.acyc hall
 have hTi := b6 T
 repeat' (first|refine a8 ?_|refine a0 ?_|refine ah ?_|refine a5 ?_|refine a6 ?_|refine a7 a4 rfl rfl ?_|refine bB rfl ?_)
 rw [hml]
 refine gP a4 f.Glyphs.length rfl rfl rfl rfl rfl rfl rfl (by omega) (by omega) rfl fun bd => ?_
 rw [show (List.replicate f.Glyphs.length (List.map AV.sc [Value.int .i64 0])).flatten = d6 f.Glyphs.length fun _ => 0 from lr _]
 repeat' (first|refine a8 ?_|refine a0 ?_|refine a5 ?_|refine a6 ?_|refine a7 a4 rfl rfl ?_|(apply aO; first|refine a9 7 a4 0 rfl rfl rfl rfl rfl rfl rfl rfl ?_|refine a9 7 a4 1 rfl rfl rfl rfl rfl rfl rfl rfl ?_|refine a9 7 a4 2 rfl rfl rfl rfl rfl rfl rfl rfl ?_|refine a9 8 a4 0 rfl rfl rfl rfl rfl rfl rfl rfl ?_|refine a9 8 a4 1 rfl rfl rfl rfl rfl rfl rfl rfl ?_|refine a9 8 a4 2 rfl rfl rfl rfl rfl rfl rfl rfl ?_|refine a9 12 a4 0 rfl rfl rfl rfl rfl rfl rfl rfl ?_|refine a9 12 a4 1 rfl rfl rfl rfl rfl rfl rfl rfl ?_|refine a9 12 a4 2 rfl rfl rfl rfl rfl rfl rfl rfl ?_|refine aa a4 0 rfl rfl rfl rfl rfl rfl rfl ?_|refine aa a4 1 rfl rfl rfl rfl rfl rfl rfl ?_|refine aa a4 2 rfl rfl rfl rfl rfl rfl rfl ?_|refine aa a4 3 rfl rfl rfl rfl rfl rfl rfl ?_|fail)|refine aY a4 fun _=>?_|fail)
 rw [hml]
 refine gP a4 f.Glyphs.length rfl rfl rfl rfl rfl rfl rfl (by omega) (by omega) rfl fun bp => ?_
 rw [show (List.replicate f.Glyphs.length (List.map AV.sc [Value.int .i64 0])).flatten = d6 f.Glyphs.length fun _ => 0 from lr _]
 repeat' (first|refine a8 ?_|refine a0 ?_|refine aj ?_|refine a5 ?_|refine a6 ?_|refine a7 a4 rfl rfl ?_|(apply aO; first|refine a9 7 a4 0 rfl rfl rfl rfl rfl rfl rfl rfl ?_|refine a9 7 a4 1 rfl rfl rfl rfl rfl rfl rfl rfl ?_|refine a9 7 a4 2 rfl rfl rfl rfl rfl rfl rfl rfl ?_|refine a9 8 a4 0 rfl rfl rfl rfl rfl rfl rfl rfl ?_|refine a9 8 a4 1 rfl rfl rfl rfl rfl rfl rfl rfl ?_|refine a9 8 a4 2 rfl rfl rfl rfl rfl rfl rfl rfl ?_|refine a9 12 a4 0 rfl rfl rfl rfl rfl rfl rfl rfl ?_|refine a9 12 a4 1 rfl rfl rfl rfl rfl rfl rfl rfl ?_|refine a9 12 a4 2 rfl rfl rfl rfl rfl rfl rfl rfl ?_|refine aa a4 0 rfl rfl rfl rfl rfl rfl rfl ?_|refine aa a4 1 rfl rfl rfl rfl rfl rfl rfl ?_|refine aa a4 2 rfl rfl rfl rfl rfl rfl rfl ?_|refine aa a4 3 rfl rfl rfl rfl rfl rfl rfl ?_|fail)|refine aY a4 fun _=>?_|fail)
 refine aK [1, 7, 8, 31, 32] (α := Nat × (Int → Int) × (Int → Int)) (fun x => [(33, az x.1)]) (fun x => x.1 ≤ f.Glyphs.length ∧ ro f T x.1 x.2.1 x.2.2) (fun x => [(bp, .box (d6 f.Glyphs.length x.2.2) 3), (bd, .box (d6 f.Glyphs.length x.2.1) 3)]) (fun x => f.Glyphs.length - x.1) (0, (fun _ => 0), (fun _ => 0)) rfl ⟨rfl, trivial⟩ ⟨Nat.zero_le _, ro.start⟩ (fun _ _ h => h) ?_
 rintro ⟨i, D, P⟩ ⟨hi, hC⟩
 dsimp only at hi hC ⊢
 try dsimp only [Ds, Dr, Dq, Dn]
 repeat' (first|refine a8 ?_|refine a0 ?_|refine a5 ?_|refine a6 ?_|refine a7 a4 rfl rfl ?_)
 refine aq rfl (fun h => ?_) (fun h => ?_)
 ·have hil : i < T.length := by have := Dz h; rw [hTi] at this; omega
  obtain ⟨x, hx⟩ : ∃ x, T[i]? = some x := ⟨_, Bj hil⟩
  have hxi := bI hx
  have hxr := hT.dom x (Dw hx)
  obtain ⟨gl, hgl⟩ : ∃ z, f.Glyphs[x.toNat]? = some z := ⟨_, Bj (by omega)⟩
  have hgm := Dw hgl
  have hgg := bV (c := c7) hgl
  have hpm : (gl.Points.map fw).length = gl.Points.length := Du ..
  have hpl := hf.points gl hgm
  clear h
  repeat' (first|refine a8 ?_|refine a0 ?_|refine aj ?_|refine ah ?_|refine a5 ?_|refine a6 ?_|refine a7 a4 rfl rfl ?_|(apply aE; first|refine aD a4 ?_|refine aA a4 ?_)|fail)
  refine bj 10 [(0, .v), (1, .v), (2, .v), (3, .v), (4, .v), (5, .v), (6, .v), (7, .v), (8, .v), (9, .v)] none ?_ trivial rfl (by kernel_rfl) (by kernel_rfl) (by kernel_rfl) c9 (by kernel_rfl) rfl
  repeat' (first|refine aC ?_|refine bh a4 ?_|(apply cC;refine cZ a4 ?_)|fail)
  refine bv [1, 7, 8, 10, 31, 32, 33, 37, 38, 46] rfl rfl ?_
  repeat' (first|(apply aE; first|refine aD a4 ?_|refine aA a4 ?_)|fail)
  refine aa a4 0 rfl rfl rfl rfl rfl rfl (by rw [Nat.ble_eq, gF]; show _ + 1 ≤ _; omega) ?_
  rw [fI, jn hxr.1 hxr.2, hpm]
  repeat' (first|refine a8 ?_|refine a0 ?_|refine aj ?_|refine a5 ?_|refine a6 ?_|refine a7 a4 rfl rfl ?_|(apply aE; first|refine aD a4 ?_|refine aA a4 ?_)|fail)
  have hTx : x ∉ T.take i := fun hm => by
   obtain ⟨k, hk⟩ := List.mem_iff_getElem?.1 hm
   rw [List.getElem?_take] at hk
   split at hk
   ·obtain ⟨k1, k2⟩ := Dp hk
    obtain ⟨i1, i2⟩ := Dp hx
    have e1 := hT.nodup.idxOf_getElem k k1
    have e2 := hT.nodup.idxOf_getElem i i1
    rw [k2] at e1
    rw [i2] at e2
    omega
   ·cases hk
  have hD0 : fh D x 0 = D := by
   funext q
   unfold fh
   split
   ·rename_i e; rw [e, hC.rest x hTx]
   ·rfl
  have hql : (gl.Parts.map eX).length = gl.Parts.length := Du ..
  have hqn := hf.parts gl hgm
  refine aK [1, 7, 8, 10, 31, 32, 33, 53, 54] (α := Nat) (fun j => [(55, az j)]) (fun j => j ≤ gl.Parts.length) (fun j => [(bp, .box (d6 f.Glyphs.length (fh P x (pF P (gl.Parts.take j) gl.Points.length))) 3), (bd, .box (d6 f.Glyphs.length (fh D x (dF D (gl.Parts.take j)))) 3)]) (fun j => gl.Parts.length - j) 0 rfl ⟨rfl, trivial⟩ (Nat.zero_le _) (fun _ _ h => by rw [List.take_zero, show dF D [] = 0 from rfl, hD0]; exact h) fun j hj => ?_
  try dsimp only [Ds, Dr, Dq, Dn]
  repeat' (first|refine a8 ?_|refine a0 ?_|refine a5 ?_|refine a6 ?_|refine a7 a4 rfl rfl ?_)
  refine aq rfl (fun h => ?_) (fun h => ?_)
  ·have hjl : j < gl.Parts.length := by have := Dz h; omega
   obtain ⟨q, hq⟩ : ∃ q, gl.Parts[j]? = some q := ⟨_, Bj hjl⟩
   have hqg := bV (c := eX) hq
   have hqr := md.1 (hf.there gl hgm q (Dw hq))
   have hne : q.Glyph ≠ x := fun e => by
    have h1 := hT.topo i x hx q.Glyph (by rw [pB hf hgl]; exact List.mem_map_of_mem (Dw hq))
    rw [e] at h1
    exact hTx h1
   have hc1 : (d6 f.Glyphs.length (fh D x (dF D (gl.Parts.take j))))[0 + x.toNat * 1]? = some (az (dF D (gl.Parts.take j))) := by rw [gE hxr.1 hxr.2, j3]
   have hc2 : (d6 f.Glyphs.length (fh D x (dF D (gl.Parts.take j))))[0 + q.Glyph.toNat * 1]? = some (az (D q.Glyph)) := by rw [gE hqr.1 hqr.2, gV hne]
   have hc3 : (d6 f.Glyphs.length (fh P x (pF P (gl.Parts.take j) gl.Points.length)))[0 + x.toNat * 1]? = some (az (pF P (gl.Parts.take j) gl.Points.length)) := by rw [gE hxr.1 hxr.2, j3]
   have hc4 : (d6 f.Glyphs.length (fh P x (pF P (gl.Parts.take j) gl.Points.length)))[0 + q.Glyph.toNat * 1]? = some (az (P q.Glyph)) := by rw [gE hqr.1 hqr.2, gV hne]
   have hDq := hC.deep q.Glyph
   have hPq := hC.many q.Glyph
   have hPj := zQ (k := (gl.Points.length : Int)) hC.many (by omega) (gl.Parts.take j)
   clear h
   repeat' (first|refine a8 ?_|refine a0 ?_|refine aj ?_|refine ah ?_|refine a5 ?_|refine a6 ?_|refine a7 a4 rfl rfl ?_|(apply aE; first|refine aD a4 ?_|refine aA a4 ?_)|(apply aO; first|refine a9 7 a4 0 rfl rfl rfl rfl rfl rfl rfl rfl ?_|refine a9 7 a4 1 rfl rfl rfl rfl rfl rfl rfl rfl ?_|refine a9 7 a4 2 rfl rfl rfl rfl rfl rfl rfl rfl ?_|refine a9 8 a4 0 rfl rfl rfl rfl rfl rfl rfl rfl ?_|refine a9 8 a4 1 rfl rfl rfl rfl rfl rfl rfl rfl ?_|refine a9 8 a4 2 rfl rfl rfl rfl rfl rfl rfl rfl ?_|refine a9 12 a4 0 rfl rfl rfl rfl rfl rfl rfl rfl ?_|refine a9 12 a4 1 rfl rfl rfl rfl rfl rfl rfl rfl ?_|refine a9 12 a4 2 rfl rfl rfl rfl rfl rfl rfl rfl ?_|refine aa a4 0 rfl rfl rfl rfl rfl rfl rfl ?_|refine aa a4 1 rfl rfl rfl rfl rfl rfl rfl ?_|refine aa a4 2 rfl rfl rfl rfl rfl rfl rfl ?_|refine aa a4 3 rfl rfl rfl rfl rfl rfl rfl ?_|fail)|refine aY a4 fun _=>?_|fail)
   refine bj 13 [(0, .v), (1, .v), (2, .v), (3, .v), (4, .v), (5, .l), (6, .v), (7, .v), (8, .v), (9, .v), (10, .l), (11, .v), (12, .v)] none ?_ trivial rfl (by kernel_rfl) (by kernel_rfl) (by kernel_rfl) c9 (by kernel_rfl) rfl
   repeat' (first|refine aC ?_|refine bh a4 ?_|fail)
   refine cJ a4 rfl rfl rfl hxr trivial ?_
   repeat' (first|refine aC ?_|fail)
   refine bW a4 1 rfl rfl rfl hc1 trivial ?_
   repeat' (first|refine aC ?_|refine bh a4 ?_|fail)
   refine cJ a4 rfl rfl rfl hqr trivial ?_
   repeat' (first|refine aC ?_|fail)
   refine bW a4 1 rfl rfl rfl hc2 trivial ?_
   repeat' (first|refine aC ?_|refine bh a4 ?_|(apply io;refine lx ?_)|fail)
   refine bv [1, 7, 8, 10, 12, 31, 32, 33, 53, 54, 55, 59, 60, 71] rfl rfl ?_
   repeat' (first|(apply aE; first|refine aD a4 ?_|refine aA a4 ?_)|fail)
   refine aa a4 1 rfl rfl rfl rfl rfl rfl (by rw [Nat.ble_eq, gF]; show _ + 1 ≤ _; omega) ?_
   rw [fI, jn hxr.1 hxr.2, oN, ← yc hq]
   repeat' (first|refine a5 ?_|refine a6 ?_)
   refine bj 13 [(0, .v), (1, .v), (2, .v), (3, .v), (4, .v), (5, .l), (6, .v), (7, .v), (8, .v), (9, .v), (10, .l), (11, .v), (12, .v)] none ?_ trivial rfl (by kernel_rfl) (by kernel_rfl) (by kernel_rfl) c9 (by kernel_rfl) rfl
   repeat' (first|refine aC ?_|refine bh a4 ?_|fail)
   refine cJ a4 rfl rfl rfl hxr trivial ?_
   repeat' (first|refine aC ?_|fail)
   refine bW a4 0 rfl rfl rfl hc3 trivial ?_
   repeat' (first|refine aC ?_|refine bh a4 ?_|fail)
   refine cJ a4 rfl rfl rfl hqr trivial ?_
   repeat' (first|refine aC ?_|fail)
   refine bW a4 0 rfl rfl rfl hc4 trivial ?_
   repeat' (first|refine aC ?_|refine bh a4 ?_|(apply io;refine lx ?_)|fail)
   refine bv [1, 7, 8, 10, 31, 32, 33, 53, 54, 55, 73, 74, 85] rfl rfl ?_
   repeat' (first|(apply aE; first|refine aD a4 ?_|refine aA a4 ?_)|fail)
   refine aa a4 0 rfl rfl rfl rfl rfl rfl (by rw [Nat.ble_eq, gF]; show _ + 1 ≤ _; omega) ?_
   rw [fI, jn hxr.1 hxr.2, oN, ← yW hq]
   repeat' (first|refine a0 ?_|refine a5 ?_|refine aH ?_|refine a6 ?_|refine a7 a4 rfl rfl ?_|(apply aS; refine aR ?_)|fail)
   exact ay (j + 1) rfl ⟨by rw [Dv]; rfl, trivial⟩ (by omega) (by omega) (fun _ _ h => h)
  ·have hjl : j = gl.Parts.length := by have := Dy h; omega
   subst hjl
   rw [List.take_length]
   repeat' (first|refine a0 ?_|refine aL ?_|refine a5 ?_|refine ar ?_|refine aH ?_|refine av ?_|refine au ?_|refine a6 ?_|refine a7 a4 rfl rfl ?_|(apply aS; refine aR ?_)|fail)
   exact ay (i + 1, _, _) rfl ⟨by rw [Dv]; rfl, trivial⟩ ⟨by dsimp only; omega, hC.next hf hT hx hgl⟩ (by dsimp only; omega) (fun _ _ h => h)
 ·have hil : i = f.Glyphs.length := by have := Dy h; rw [hTi] at this; omega
  subst hil
  clear h
  have hdeep : i5 f D P := by
   intro z h0 h1 gl hgl
   obtain ⟨j, hj⟩ := List.mem_iff_getElem?.1 (hall z h0 h1)
   exact hC.done j z (by have := (Dp hj).1; omega) hj gl hgl
  have hcd : ∀ F : Int → Int, d6 f.Glyphs.length F = (aU ((bS f.Glyphs.length).map F)).flatten := fun F => by rw [ol]; unfold d6; rw [List.map_map]; rfl
  have hcl : ∀ F : Int → Int, (aU ((bS f.Glyphs.length).map F)).length = f.Glyphs.length := fun F => by rw [b6, Du, dk]
  refine cX (oK (t := 7) (sz := 1) (l := aU ((bS f.Glyphs.length).map D)) 1 rfl rfl (hcd D) (by simp [aU]) (hcl D) (by omega)) ?_
  refine cX (oK (t := 8) (sz := 1) (l := aU ((bS f.Glyphs.length).map P)) 1 rfl rfl (hcd P) (by simp [aU]) (hcl P) (by omega)) ?_
  repeat' (first|refine a8 ?_|refine a0 ?_|refine aL ?_|refine a5 ?_|refine ar ?_|refine av ?_|refine au ?_|refine a7 a4 rfl rfl ?_|refine cj a4 ?_|fail)
  refine aN [] _ (ge [⟨127, [.iptr [.imm 1 (aU ((bS f.Glyphs.length).map D))]], [], (cm ((bS f.Glyphs.length).map D) nZ).1, (cm ((bS f.Glyphs.length).map D) nZ).2⟩, ⟨130, [.iptr [.imm 1 (aU ((bS f.Glyphs.length).map P))]], [], (cm ((bS f.Glyphs.length).map P) ou).1, (cm ((bS f.Glyphs.length).map P) ou).2⟩] ⟨⟨inferInstance, ud _⟩, fun _ => ⟨⟨inferInstance, ue _⟩, fun _ => trivial⟩⟩) rfl rfl (Do _) rfl fun c L1 hc => ?_
  rw [gO] at hc
  have hc : c = bK (lu f.Glyphs.length D P) := hc
  subst hc
  unfold bK
  repeat' (first|refine ae ?_|refine a5 ?_|refine a6 ?_|refine a7 a4 rfl rfl ?_)
  exact aJ rfl rfl rfl (.inl ⟨D, P, hdeep, hacy, rfl⟩)
theorem hH {err : Nat → Int} : ∀ (k i : Nat), (cv err k i).1 = 0 ↔ ∀ j, i ≤ j → j < i + k → err j = 0
 | 0, i => by simp only [cv, true_iff]; intro j h1 h2; omega
 | k + 1, i => by
  simp only [cv]
  by_cases h : err i = 0
  ·rw [if_pos h, hH k (i + 1)]
   constructor
   ·intro hh j h1 h2
    by_cases e : j = i
    ·subst e; exact h
    ·exact hh j (by omega) (by omega)
   ·intro hh j h1 h2; exact hh j (by omega) (by omega)
  ·rw [if_neg h]
   constructor
   ·intro hh; exact absurd hh h
   ·intro hh; exact hh i (Nat.le_refl _) (by omega)
theorem mG {α : Type} {l : List α} {w : Nat → α → Int} : (cm l w).1 = 0 ↔ ∀ i x, l[i]? = some x → w i x = 0 := by
 unfold cm ct
 rw [hH]
 constructor
 ·intro h i x hx
  have := h i (Nat.zero_le _) (by have := (Dp hx).1; omega)
  rwa [fi hx] at this
 ·intro h j _ hj
  obtain ⟨x, hx⟩ : ∃ x, l[j]? = some x := ⟨_, Bj (by omega)⟩
  rw [fi hx]
  exact h j x hx
theorem fK {α : Type} {most : Int} {l : List α} {w : Nat → α → Int} : (c5 most l w).1 = 0 ↔ (l.length : Int) ≤ most ∧ ∀ i x, l[i]? = some x → w i x = 0 := by
 have h := mG (l := l) (w := w)
 unfold cm at h
 unfold c5 cq
 by_cases hm : (l.length : Int) > most
 ·rw [if_pos hm]
  constructor
  ·intro hh; cases hh
  ·intro hh; omega
 ·rw [if_neg hm, h]
  exact ⟨fun hh => ⟨by omega, hh⟩, fun hh => hh.2⟩
theorem f5 : ∀ {l : List (Int × Int)}, (fy l).1 = 0 ↔ ∀ x ∈ l, x.1 = 0
 | [] => by simp [fy]
 | x :: r => by
  unfold fy
  by_cases h : x.1 = 0
  ·rw [if_pos h, f5]
   constructor
   ·intro hh y hy
    rcases List.mem_cons.1 hy with rfl | hy
    ·exact h
    ·exact hh y hy
   ·intro hh y hy; exact hh y (Dt _ hy)
  ·rw [if_neg h]
   constructor
   ·intro hh; exact absurd hh h
   ·intro hh; exact hh x (List.mem_cons_self ..)
theorem ja {f : aM} (h : (c5 400 f.Glyphs (dN f)).1 = 0) : rq f := by
 obtain ⟨h1, h2⟩ := fK.1 h
 have hg : ∀ gl ∈ f.Glyphs, ∃ name, mM f gl name = 0 := fun gl hgl => by
  obtain ⟨i, hi⟩ := List.mem_iff_getElem?.1 hgl
  exact ⟨_, h2 i gl hi⟩
 have hgl : ∀ gl ∈ f.Glyphs, gT gl = 0 ∧ (c5 8 gl.Parts (lJ f)).1 = 0 := fun gl hm => by
  obtain ⟨name, hn⟩ := hg gl hm
  unfold mM at hn
  rw [f5] at hn
  exact ⟨hn (gT gl, 0) (by simp), hn (c5 8 gl.Parts (lJ f)) (by simp)⟩
 refine ⟨⟨by omega, fun gl hm => ?_⟩, fun gl hm => ?_, fun gl hm p hp => ?_⟩
 ·have := (fK.1 (hgl gl hm).2).1; omega
 ·have h3 := (hgl gl hm).1
  unfold gT at h3
  split at h3
  ·cases h3
  ·split at h3
   ·cases h3
   ·omega
 ·obtain ⟨i, hi⟩ := List.mem_iff_getElem?.1 hp
  have h3 := (fK.1 (hgl gl hm).2).2 i p hi
  unfold lJ at h3
  split at h3
  ·cases h3
  ·rename_i hh
   simpa using hh
theorem ui {f : aM} (hf : rq f) (ha : j6 f.Glyphs.length (prt f)) {D P D' P' : Int → Int} (h : i5 f D P) (h' : i5 f D' P') : ∀ z : Int, 0 ≤ z → z < f.Glyphs.length → D z = D' z ∧ P z = P' z := by
 obtain ⟨r, hr⟩ := ha
 have : ∀ (k : Nat) (z : Int), r z < k → 0 ≤ z → z < f.Glyphs.length → D z = D' z ∧ P z = P' z := by
  intro k
  induction k with
  | zero => intro z hk; exact absurd hk (Nat.not_lt_zero _)
  | succ k ih =>
   intro z hk h0 h1
   obtain ⟨gl, hgl⟩ : ∃ g, f.Glyphs[z.toNat]? = some g := ⟨_, Bj (by omega)⟩
   have hsm : ∀ p ∈ gl.Parts, D p.Glyph = D' p.Glyph ∧ P p.Glyph = P' p.Glyph := fun p hp => by
    have hin := md.1 (hf.there gl (Dw hgl) p hp)
    have := hr z h0 h1 p.Glyph (by rw [pB hf hgl]; exact List.mem_map_of_mem hp)
    exact ih p.Glyph (by omega) hin.1 hin.2
   obtain ⟨h2, h3⟩ := h z h0 h1 gl hgl
   obtain ⟨h4, h5⟩ := h' z h0 h1 gl hgl
   rw [h2, h3, h4, h5]
   exact ⟨qn fun p hp => (hsm p hp).1, qQ fun p hp => (hsm p hp).2⟩
 intro z h0 h1
 exact this (r z + 1) z (by omega) h0 h1
theorem rR {n : Nat} {D P D' P' : Int → Int} (h : ∀ z : Int, 0 ≤ z → z < n → D z = D' z ∧ P z = P' z) : lu n D P = lu n D' P' := by
 unfold lu
 rw [List.map_congr_left (f := D) (g := D') fun z hz => (h z (dD.1 hz).1 (dD.1 hz).2).1, List.map_congr_left (f := P) (g := P') fun z hz => (h z (dD.1 hz).1 (dD.1 hz).2).2]
open Classical in
noncomputable def lw (f : aM) : Int × Int := if h : ∃ q : (Int → Int) × (Int → Int), i5 f q.1 q.2 then lu f.Glyphs.length h.choose.1 h.choose.2 else (33, 0)
theorem ql {f : aM} (hf : rq f) (ha : j6 f.Glyphs.length (prt f)) {D P : Int → Int} (h : i5 f D P) : lw f = lu f.Glyphs.length D P := by
 unfold lw
 have hex : ∃ q : (Int → Int) × (Int → Int), i5 f q.1 q.2 := ⟨(D, P), h⟩
 rw [dif_pos hex]
 exact rR (ui hf ha hex.choose_spec h)
theorem yb (f : aM) (hf : rq f) (ha : j6 f.Glyphs.length (prt f)) : AC Tryz.prog 55 [.iptr (bU f)] [] fun c _ => c = bK ((lw f).1, (lw f).2) := by
 refine aB Tryz.func55 rfl Tryz.ntmps55 rfl fun B => ?_
 repeat' (first|refine a8 ?_|refine a0 ?_|refine a5 ?_|refine a6 ?_|refine a7 a4 rfl rfl ?_)
 refine aN [] [] (qm f hf (.inl ha)) rfl rfl (Do _) rfl fun c L1 hc => ?_
 rcases hc with ⟨D, P, h1, h2, hc⟩ | ⟨hna, _⟩
 ·rw [← ql hf ha h1] at hc
  subst hc
  unfold bK
  repeat' (first|refine ae ?_|refine a5 ?_|refine a6 ?_|refine a7 a4 rfl rfl ?_)
  exact aJ rfl rfl rfl rfl
 ·exact absurd ha hna
def tf (_ : Nat) (l : List gy) : Int := nd l
def pC (f : aM) (_ : Nat) (r : List fp) : Int := xa f.Axes.length r
def iU (f : aM) (_ : Nat) (l : aQ) : Int := k7 f l
noncomputable def zL (f : aM) : List (Int × Int) := [(oh f, 0), c5 400 f.Glyphs (dN f), lw f, c5 1000 f.Chars (iO f), c5 40 f.Lookups (iU f), c5 20 f.Features (jR f), c5 3 f.Axes (jI f), c5 16 f.Regions (pC f), c5 20 f.Funcs tf, c5 64 f.Cvt w9]
noncomputable def mL (f : aM) : Int × Int := fy (zL f)
noncomputable def te (f : aM) (m1 m2 m3 : Nat) : List Lk := [⟨48, [.iptr (bU f)], [], oh f, 0⟩,
 ⟨112, [.iptr [.imm 9 (f.Glyphs.map c7)], .iptr [az 400], .iptr [.fn 51 [.iptr (bU f), .iptr [.sc (.map (some m1))]]]], [(m1, ce .string (bY (kX f)))], (c5 400 f.Glyphs (dN f)).1, (c5 400 f.Glyphs (dN f)).2⟩,
 ⟨55, [.iptr (bU f)], [], (lw f).1, (lw f).2⟩,
 ⟨132, [.iptr [.imm 2 (f.Chars.map f8)], .iptr [az 1000], .iptr [.fn 58 [.iptr (bU f)]]], [], (c5 1000 f.Chars (iO f)).1, (c5 1000 f.Chars (iO f)).2⟩,
 ⟨134, [.iptr [.imm 3 (f.Lookups.map bn)], .iptr [az 40], .iptr [.fn 61 [.iptr (bU f)]]], [], (c5 40 f.Lookups (iU f)).1, (c5 40 f.Lookups (iU f)).2⟩,
 ⟨142, [.iptr [.imm 2 (f.Features.map ca)], .iptr [az 20], .iptr [.fn 64 [.iptr (bU f), .iptr [.sc (.map (some m2))]]]], [(m2, ce .string (bY (lb f)))], (c5 20 f.Features (jR f)).1, (c5 20 f.Features (jR f)).2⟩,
 ⟨145, [.iptr [.imm 4 (f.Axes.map ej)], .iptr [az 3], .iptr [.fn 68 [.iptr [.sc (.map (some m3))]]]], [(m3, ce .string (bY (kG f)))], (c5 3 f.Axes (jI f)).1, (c5 3 f.Axes (jI f)).2⟩,
 ⟨147, [.iptr [.imm 1 (f.Regions.map d7)], .iptr [az 16], .iptr [.fn 71 [.iptr (bU f)]]], [], (c5 16 f.Regions (pC f)).1, (c5 16 f.Regions (pC f)).2⟩,
 ⟨151, [.iptr [.imm 1 (f.Funcs.map jM)], .iptr [az 20], .iptr [.sc (.func (.func 74) #[] #[])]], [], (c5 20 f.Funcs tf).1, (c5 20 f.Funcs tf).2⟩,
 ⟨155, [.iptr [.imm 1 (f.Cvt.map u7)], .iptr [az 64], .iptr [.sc (.func (.func 77) #[] #[])]], [], (c5 64 f.Cvt w9).1, (c5 64 f.Cvt w9).2⟩]
theorem rY (f : aM) (m1 m2 m3 : Nat) (hA : (c5 400 f.Glyphs (dN f)).1 = 0 → j6 f.Glyphs.length (prt f)) : sg (te f m1 m2 m3) := by
 refine ⟨⟨inferInstance, ux f⟩, fun _ => ⟨⟨inferInstance, ?_⟩, fun h1 => ⟨⟨inferInstance, yb f (ja h1) (hA h1)⟩, fun _ => ⟨⟨inferInstance, ?_⟩, fun _ => ⟨⟨inferInstance, ?_⟩, fun _ => ⟨⟨inferInstance, ?_⟩, fun _ => ⟨⟨inferInstance, ?_⟩, fun _ => ⟨⟨inferInstance, ?_⟩, fun _ => ⟨⟨inferInstance, ?_⟩, fun _ => ⟨⟨inferInstance, ?_⟩, fun _ => trivial⟩⟩⟩⟩⟩⟩⟩⟩⟩⟩
 ·exact z4 (u := .fn 51 [.iptr (bU f), .iptr [.sc (.map (some m1))]]) rfl f.Glyphs 400 (eG f.Glyphs (dN f)) (fun _ L => L = [(m1, ce .string (bY (kX f)))]) _ rfl fun _ => ny fun i x _ => s7 f i x m1
 ·exact z5 (u := .fn 58 [.iptr (bU f)]) rfl f.Chars 1000 (eG f.Chars (iO f)) (fun _ _ => True) [] trivial fun hm => co fun i x hx => ub f i x hx hm
 ·exact z6 (u := .fn 61 [.iptr (bU f)]) rfl f.Lookups 40 (eG f.Lookups (iU f)) (fun _ _ => True) [] trivial fun _ => co fun i x _ => pb f i x
 ·exact z7 (u := .fn 64 [.iptr (bU f), .iptr [.sc (.map (some m2))]]) rfl f.Features 20 (eG f.Features (jR f)) (fun _ L => L = [(m2, ce .string (bY (lb f)))]) _ rfl fun _ => ny fun i x _ => uo f i x m2
 ·exact z8 (u := .fn 68 [.iptr [.sc (.map (some m3))]]) rfl f.Axes 3 (eG f.Axes (jI f)) (fun _ L => L = [(m3, ce .string (bY (kG f)))]) _ rfl fun _ => ny fun i x _ => u2 f i x m3
 ·exact z9 (u := .fn 71 [.iptr (bU f)]) rfl f.Regions 16 (eG f.Regions (pC f)) (fun _ _ => True) [] trivial fun _ => co fun i x _ => qZ f i x
 ·exact za (u := .sc (.func (.func 74) #[] #[])) (g := 74) (caps := []) rfl f.Funcs 20 (eG f.Funcs tf) (fun _ _ => True) [] trivial fun _ => co fun i x _ => uc i x
 ·exact zb (u := .sc (.func (.func 77) #[] #[])) (g := 77) (caps := []) rfl f.Cvt 64 (eG f.Cvt w9) (fun _ _ => True) [] trivial fun _ => co fun i x _ => w8 i x
set_option maxHeartbeats 4000000 in
theorem yI (f : aM) (hA : (c5 400 f.Glyphs (dN f)).1 = 0 → j6 f.Glyphs.length (prt f)) : AC Tryz.prog 25 [cx f] [] fun c _ => c = bK (mL f) := by
 refine aB Tryz.func25 rfl Tryz.ntmps25 rfl fun B => ?_
 repeat' (first|refine a8 ?_|refine a0 ?_|refine a5 ?_|refine a6 ?_|refine a7 a4 rfl rfl ?_|refine aX ?_|fail)
 refine aN [] _ (wl f.Glyphs) rfl rfl (Do _) rfl fun c L1 ⟨m1, hc, hL⟩ => ?_
 subst hc; subst hL
 repeat' (first|refine a8 ?_|refine a0 ?_|refine a5 ?_|refine a6 ?_|refine a7 a4 rfl rfl ?_|(apply aO; first|refine a9 4 a4 0 rfl rfl rfl rfl rfl rfl rfl rfl ?_|refine a9 4 a4 1 rfl rfl rfl rfl rfl rfl rfl rfl ?_|refine a9 4 a4 2 rfl rfl rfl rfl rfl rfl rfl rfl ?_|refine a9 5 a4 0 rfl rfl rfl rfl rfl rfl rfl rfl ?_|refine a9 5 a4 1 rfl rfl rfl rfl rfl rfl rfl rfl ?_|refine a9 5 a4 2 rfl rfl rfl rfl rfl rfl rfl rfl ?_|refine a9 6 a4 0 rfl rfl rfl rfl rfl rfl rfl rfl ?_|refine a9 6 a4 1 rfl rfl rfl rfl rfl rfl rfl rfl ?_|refine a9 6 a4 2 rfl rfl rfl rfl rfl rfl rfl rfl ?_|refine aa a4 0 rfl rfl rfl rfl rfl rfl rfl ?_|refine aa a4 1 rfl rfl rfl rfl rfl rfl rfl ?_|refine aa a4 2 rfl rfl rfl rfl rfl rfl rfl ?_|refine aa a4 3 rfl rfl rfl rfl rfl rfl rfl ?_|fail)|refine aY a4 fun _=>?_|fail)
 refine aN [] _ (wm f.Features) rfl rfl (Do _) rfl fun c L1 ⟨m2, hc, hL⟩ => ?_
 subst hc; subst hL
 repeat' (first|refine a8 ?_|refine a0 ?_|refine a5 ?_|refine a6 ?_|refine a7 a4 rfl rfl ?_|(apply aO; first|refine a9 4 a4 0 rfl rfl rfl rfl rfl rfl rfl rfl ?_|refine a9 4 a4 1 rfl rfl rfl rfl rfl rfl rfl rfl ?_|refine a9 4 a4 2 rfl rfl rfl rfl rfl rfl rfl rfl ?_|refine a9 5 a4 0 rfl rfl rfl rfl rfl rfl rfl rfl ?_|refine a9 5 a4 1 rfl rfl rfl rfl rfl rfl rfl rfl ?_|refine a9 5 a4 2 rfl rfl rfl rfl rfl rfl rfl rfl ?_|refine a9 6 a4 0 rfl rfl rfl rfl rfl rfl rfl rfl ?_|refine a9 6 a4 1 rfl rfl rfl rfl rfl rfl rfl rfl ?_|refine a9 6 a4 2 rfl rfl rfl rfl rfl rfl rfl rfl ?_|refine aa a4 0 rfl rfl rfl rfl rfl rfl rfl ?_|refine aa a4 1 rfl rfl rfl rfl rfl rfl rfl ?_|refine aa a4 2 rfl rfl rfl rfl rfl rfl rfl ?_|refine aa a4 3 rfl rfl rfl rfl rfl rfl rfl ?_|fail)|refine aY a4 fun _=>?_|fail)
 refine aN [] _ (wn f.Axes) rfl rfl (Do _) rfl fun c L1 ⟨m3, hc, hL⟩ => ?_
 subst hc; subst hL
 repeat' (first|refine a8 ?_|refine a5 ?_|refine a6 ?_|(apply aO; first|refine a9 4 a4 0 rfl rfl rfl rfl rfl rfl rfl rfl ?_|refine a9 4 a4 1 rfl rfl rfl rfl rfl rfl rfl rfl ?_|refine a9 4 a4 2 rfl rfl rfl rfl rfl rfl rfl rfl ?_|refine a9 5 a4 0 rfl rfl rfl rfl rfl rfl rfl rfl ?_|refine a9 5 a4 1 rfl rfl rfl rfl rfl rfl rfl rfl ?_|refine a9 5 a4 2 rfl rfl rfl rfl rfl rfl rfl rfl ?_|refine a9 6 a4 0 rfl rfl rfl rfl rfl rfl rfl rfl ?_|refine a9 6 a4 1 rfl rfl rfl rfl rfl rfl rfl rfl ?_|refine a9 6 a4 2 rfl rfl rfl rfl rfl rfl rfl rfl ?_|refine aa a4 0 rfl rfl rfl rfl rfl rfl rfl ?_|refine aa a4 1 rfl rfl rfl rfl rfl rfl rfl ?_|refine aa a4 2 rfl rfl rfl rfl rfl rfl rfl ?_|refine aa a4 3 rfl rfl rfl rfl rfl rfl rfl ?_|fail)|refine aY a4 fun _=>?_|fail)
 refine bj 36 [(0, .v), (1, .v), (2, .v), (3, .v), (4, .v), (5, .v), (6, .v), (7, .v), (8, .v), (9, .v), (10, .v), (11, .v), (12, .v), (13, .v), (14, .v), (15, .v), (16, .v), (17, .v), (18, .v), (19, .v), (20, .v), (21, .v), (22, .v), (23, .v), (24, .v), (25, .v), (26, .v), (27, .v), (28, .v), (29, .v), (30, .v), (31, .v), (32, .v), (33, .e), (34, .v), (35, .v)] none ?_ trivial rfl (by kernel_rfl) (by kernel_rfl) (by kernel_rfl) c9 (by kernel_rfl) rfl
 repeat' (first|refine aC ?_|refine bh a4 ?_|(apply cK;refine da ?_)|fail)
 refine da (hc := ⟨AQ f.Cvt 64⟩) ?_
 repeat' (first|refine aC ?_|refine ly a4 ?_|fail)
 refine iP (L := [(m3, ce .string (bY (kG f))), (m2, ce .string (bY (lb f))), (m1, ce .string (bY (kX f)))]) _ [] (ge (te f m1 m2 m3) (rY f m1 m2 m3 hA)) rfl rfl (by rw [List.append_nil]; exact (List.reverse_perm _).symm) trivial fun c L1 hc => ?_
 rw [gO] at hc
 have hc : c = bK (mL f) := hc
 subst hc
 unfold bK
 repeat' (first|refine aC ?_|refine bh a4 ?_|fail)
 refine bv [50, 51] rfl rfl ?_
 repeat' (first|refine ae ?_|refine a5 ?_|refine a6 ?_|refine a7 a4 rfl rfl ?_)
 exact aJ rfl rfl rfl rfl
end Go.Proofs.YtpmdfoaadejmkaaGreatDoor
namespace Go.Proofs.YtpmdfoaadejmkaaGreatDoor
open Go.RowKit
attribute [local irreducible] AT bf AX AO Av Kt aZ df DA cA
def BZ (c : UInt8) (m : Bool) : b9 := ⟨⟨#[c]⟩, 0, m, [], [], [], [], [], []⟩
def pz : List b9 := [BZ 97 false, BZ 98 false, BZ 99 false, BZ 100 false, BZ 109 true]
def dM (ls : List aQ) : aM := ⟨1000, pz, [], ls, [], [], [], [], []⟩
def xp : List aQ := [⟨3, false, [⟨[], [[0], [1]], [], [2], [], 0⟩]⟩, ⟨1, false, [⟨[], [[2]], [], [3], [], 0⟩]⟩]
theorem na (ls : List aQ) : j6 (dM ls).Glyphs.length (prt (dM ls)) := by
 refine ⟨fun _ => 0, fun g h0 h1 p hp => ?_⟩
 exfalso
 have hg : g.toNat < 5 := by have : g < 5 := h1; omega
 unfold prt at hp
 obtain ⟨x, hx⟩ : ∃ x, (dM ls).Glyphs[g.toNat]? = some x := ⟨_, Bj hg⟩
 have hm : x.Parts = [] := by
  have : ∀ y ∈ pz, y.Parts = [] := by decide +kernel
  exact this x (Dw hx)
 rw [hx] at hp
 dsimp only at hp
 rw [hm] at hp
 simp at hp
theorem lL (ls : List aQ) : (c5 400 pz (dN (dM ls))).1 = 0 := by
 have h0 : (c5 400 pz (dN (dM []))).1 = 0 := by decide
 exact h0
theorem uO (ls : List aQ) : i5 (dM ls) (fun _ => 0) (fun _ => 0) := by
 intro z h0 h1 gl hgl
 have h1 : z < 5 := h1
 have : z = 0 ∨ z = 1 ∨ z = 2 ∨ z = 3 ∨ z = 4 := by omega
 rcases this with rfl | rfl | rfl | rfl | rfl <;> (injection hgl with e; subst e; exact ⟨by decide, by decide⟩)
theorem qT {ls : List aQ} (h : (c5 40 ls (iU (dM ls))).1 = 0) : (mL (dM ls)).1 = 0 := by
 refine f5.2 fun x hx => ?_
 have hc : (lw (dM ls)).1 = 0 := by
  rw [ql (ja (lL ls)) (na ls) (uO ls)]
  show (lu 5 (fun _ => 0) (fun _ => 0)).1 = 0
  decide
 simp only [zL, List.mem_cons, List.not_mem_nil, or_false] at hx
 rcases hx with rfl | rfl | rfl | rfl | rfl | rfl | rfl | rfl | rfl | rfl
 ·rfl
 ·exact lL ls
 ·exact hc
 ·rfl
 ·exact h
 ·rfl
 ·rfl
 ·rfl
 ·rfl
 ·rfl
def wI (ls : List aQ) : Bool := decide ((c5 40 ls (iU (dM ls))).1 = 0)
theorem iz : ∀ (l : List Int) (i : Nat) (g : Int), dH i (l ++ [g]) = dH i l ++ [⟨g, (i + l.length : Nat), 0, 0, 0, 0⟩]
 | [], i, g => rfl
 | x :: l, i, g => by
  rw [Ds, dH, iz l (i + 1) g, dH, Ds, List.length_cons, show i + 1 + l.length = i + (l.length + 1) by omega]
theorem fX : ∀ (l : List Int) (i : Nat), (dH i l).length = l.length
 | [], _ => rfl
 | x :: l, i => by rw [dH, List.length_cons, fX l, List.length_cons]
theorem om (l : List Int) (hl : l.length ≤ 1000000) : bk Tryz.prog 29 [.imm 1 (aU l)] (.imm 6 ((cH l).map bM)) := by
 refine aB Tryz.func29 rfl Tryz.ntmps29 rfl fun B => ?_
 have hil := b6 l
 repeat' (first|refine a8 ?_|refine a0 ?_|refine aj ?_|refine a5 ?_|refine a6 ?_|refine a7 a4 rfl rfl ?_|refine qN (d := 5) a4 fun _=>?_|fail)
 refine aK [0] (α := Nat × Option (Nat × Nat)) (fun s => [(4, az s.1), (3, .vec s.2 6 ((cH (l.take s.1)).map bM))]) (fun s => s.1 ≤ l.length) (fun s => tok s.2 67 6 s.1) (fun s => l.length - s.1) (0, some (_, 0)) rfl ⟨rfl, rfl, trivial⟩ (Nat.zero_le _) (fun _ _ h => h) ?_
 rintro ⟨i, q⟩ hi
 dsimp only at hi ⊢
 try dsimp only [Ds, Dr, Dq, Dn]
 repeat' (first|refine a8 ?_|refine a0 ?_|refine a5 ?_|refine a6 ?_|refine a7 a4 rfl rfl ?_)
 refine aq rfl (fun h1 => ?_) (fun h1 => ?_)
 ·have hi2 : i < l.length := by have := Dz h1; omega
  obtain ⟨g, hg⟩ : ∃ z, l[i]? = some z := ⟨_, Bj hi2⟩
  have hgg := bI hg
  have hml : ((cH (l.take i)).map bM).length = i := by unfold cH; rw [Du, fX, List.length_take]; omega
  have hsn : (cH (l.take i)).map bM ++ [bM ⟨g, (i : Nat), 0, 0, 0, 0⟩] = (cH (l.take (i + 1))).map bM := by
   rw [List.take_add_one, hg]
   unfold cH
   show _ = (dH 0 (l.take i ++ [g])).map bM
   rw [iz, List.map_append, List.length_take, Nat.min_eq_left (by omega), Nat.zero_add]
   rfl
  generalize (cH (l.take i)).map bM = A0 at *
  clear h1
  repeat' (first|refine a8 ?_|refine a0 ?_|refine aj ?_|refine ah ?_|refine a5 ?_|refine a7 a4 rfl rfl ?_|(apply aE; first|refine aD a4 ?_|refine aA a4 ?_)|refine cj a4 ?_|fail)
  refine cu a4 [] rfl rfl rfl rfl (by rw [hml, List.append_nil]) (by rw [hml]; simp; omega) (by rw [hml]; simp; omega) rfl fun q' => ?_
  repeat' (first|refine a0 ?_|refine a5 ?_|refine aH ?_|refine a6 ?_|refine a7 a4 rfl rfl ?_|(apply aS; refine aR ?_)|fail)
  refine ay (i + 1, q') rfl ⟨by rw [Dv]; rfl, by dsimp only; rw [← hsn]; rfl, trivial⟩ hi2 (by dsimp only; omega) (fun _ _ h => ?_)
  rw [List.length_append, hml, List.append_nil] at h
  exact h
 ·have hi2 : i = l.length := by have := Dy h1; omega
  subst hi2
  rw [List.take_length]
  clear h1
  repeat' (first|refine a8 ?_|refine a0 ?_|refine ae ?_|refine aL ?_|refine a5 ?_|refine ar ?_|refine av ?_|refine au ?_|refine a6 ?_|refine a7 a4 rfl rfl ?_)
  refine bA (bR (t := 2) (c' := .imm 6 ((cH l).map bM)) rfl fun σ v h => VR.im h) ?_
  refine du (List.nil_sublist _) ?_
  exact ak rfl rfl rfl
theorem mN (run : List aF) (l : List Int) (hl : l.length ≤ 1000000) : bk Tryz.prog 30 [.imm 6 (run.map bM), .imm 1 (aU l)] (dx (decide (run.map aF.Glyph = l))) := by
 refine aB Tryz.func30 rfl Tryz.ntmps30 rfl fun B => ?_
 have hil := b6 l
 have hrl : (run.map bM).length = run.length := Du ..
 repeat' (first|refine a8 ?_|refine a0 ?_|refine a5 ?_|refine a6 ?_|refine a7 a4 rfl rfl ?_)
 refine aq rfl (fun h1 => ?_) (fun h1 => ?_)
 ·have hne : ¬ run.length = l.length := by have := Dz h1; omega
  rw [decide_eq_false (fun e => hne (by rw [← e, Du]))]
  repeat' (first|refine a8 ?_|refine a0 ?_|refine ae ?_|refine a5 ?_|refine am ?_|refine a6 ?_|refine a7 a4 rfl rfl ?_)
  exact ak rfl rfl rfl
 ·have heq : run.length = l.length := by have := Dy h1; omega
  clear h1
  repeat' (first|refine a8 ?_|refine a0 ?_|refine aj ?_|refine ah ?_|refine a5 ?_|refine a6 ?_|refine a7 a4 rfl rfl ?_)
  refine aK [0, 1] (α := Nat) (fun i => [(5, az i)]) (fun i => i ≤ l.length ∧ (run.map aF.Glyph).take i = l.take i) (fun _ => []) (fun i => l.length - i) 0 rfl ⟨rfl, trivial⟩ ⟨Nat.zero_le _, rfl⟩ (fun _ _ h => h) ?_
  rintro i ⟨hi, hti⟩
  try dsimp only [Ds, Dr, Dq, Dn]
  repeat' (first|refine a8 ?_|refine a0 ?_|refine a5 ?_|refine a6 ?_|refine a7 a4 rfl rfl ?_)
  refine aq rfl (fun h1 => ?_) (fun h1 => ?_)
  ·have hi2 : i < l.length := by have := Dz h1; omega
   obtain ⟨g, hg⟩ : ∃ z, l[i]? = some z := ⟨_, Bj hi2⟩
   obtain ⟨x, hx⟩ : ∃ z, run[i]? = some z := ⟨_, Bj (by omega)⟩
   have hgg := bI hg
   have hxg : (run.map bM)[i]? = some (bM x) := by simp [hx]
   have hmg : (run.map aF.Glyph)[i]? = some x.Glyph := by simp [hx]
   clear h1
   repeat' (first|refine a8 ?_|refine aj ?_|refine ah ?_|refine a5 ?_)
   refine bj 9 [(0, .v), (1, .v), (2, .v), (3, .v), (4, .v), (5, .v), (6, .v), (7, .v), (8, .v)] none ?_ trivial rfl (by kernel_rfl) (by kernel_rfl) (by kernel_rfl) c9 (by kernel_rfl) rfl
   repeat' (first|refine aC ?_|refine bh a4 ?_|(apply cC;refine cZ a4 ?_)|fail)
   refine bv [0, 1, 5, 21, 25] rfl rfl ?_
   repeat' (first|refine a5 ?_|refine a6 ?_|refine a7 a4 rfl rfl ?_)
   refine aq rfl (fun h1 => ?_) (fun h1 => ?_)
   ·have hne : x.Glyph ≠ g := Dz h1
    rw [decide_eq_false (fun e => hne (by rw [e, hg] at hmg; cases hmg; rfl))]
    repeat' (first|refine a8 ?_|refine a0 ?_|refine ae ?_|refine a5 ?_|refine am ?_|refine aI ?_|refine bc ?_|refine a6 ?_|refine a7 a4 rfl rfl ?_)
    exact ak rfl rfl rfl
   ·have heg : x.Glyph = g := by have h1' : ¬ x.Glyph ≠ g := Dy h1; exact Classical.not_not.1 h1'
    repeat' (first|refine a0 ?_|refine ah ?_|refine a5 ?_|refine aH ?_|refine a6 ?_|refine a7 a4 rfl rfl ?_|(apply aS; refine aR ?_)|fail)
    exact ay (i + 1) rfl ⟨by rw [Dv]; rfl, trivial⟩ ⟨hi2, by rw [List.take_add_one, List.take_add_one, hti, hg, hmg, heg]⟩ (by omega) (fun _ _ h => h)
  ·have hi2 : i = l.length := by have := Dy h1; omega
   subst hi2
   rw [List.take_length, List.take_of_length_le (by rw [Du]; omega)] at hti
   rw [decide_eq_true hti]
   repeat' (first|refine a8 ?_|refine a0 ?_|refine ae ?_|refine aL ?_|refine a5 ?_|refine ar ?_|refine av ?_|refine au ?_|refine a6 ?_|refine a7 a4 rfl rfl ?_)
   exact ak rfl rfl rfl
theorem ur {f : aM} (hr : (mL f).1 = 0) (ha : j6 f.Glyphs.length (prt f)) : AC Tryz.prog 25 [cx f] [] fun c _ => ∃ n : Int, c = bK (0, n) :=
 AC.mono (yI f fun _ => ha) fun c L hc => ⟨(mL f).2, by rw [hc, ← hr]⟩
def xm (N : Nat) (s : List Int) : Bool := decide (s.Pairwise (· < ·)) && s.all fun g => decide (0 ≤ g) && decide (g < (N : Int))
def xf (N : Nat) (r : aT) : Bool := r.Back.all (xm N) && (r.In.all (xm N) && (r.Ahead.all (xm N) && (decide (r.Back.length ≤ 200) && (decide (r.In.length + r.Ahead.length ≤ 200) && (decide (r.Out.length ≤ 1000000) && (decide (r.Calls.length ≤ 1000000) && r.Calls.all fun c => decide (0 ≤ c.At) && decide (c.At ≤ 1000000)))))))
def tp (N : Nat) (l : aQ) : Bool := decide (l.Rules.length ≤ 6) && l.Rules.all (xf N)
theorem pH {N : Nat} {s : List Int} (h : xm N s = true) : i8 s ∧ ∀ g ∈ s, 0 ≤ g ∧ g < (N : Int) := by
 unfold xm at h
 simp only [Bool.and_eq_true, decide_eq_true_eq, List.all_eq_true] at h
 exact h
structure vn (N : Nat) (r : aT) : Prop where
 b : pS N r
 out : r.Out.length ≤ 1000000
 calls : r.Calls.length ≤ 1000000
 at_ : ∀ c ∈ r.Calls, 0 ≤ c.At ∧ c.At ≤ 1000000
theorem xg {N : Nat} {r : aT} (h : xf N r = true) : vn N r := by
 unfold xf at h
 simp only [Bool.and_eq_true, decide_eq_true_eq, List.all_eq_true] at h
 obtain ⟨h1, h2, h3, h4, h5, h6, h7, h8⟩ := h
 exact ⟨⟨fun s hs => pH (h1 s hs), fun s hs => pH (h2 s hs), fun s hs => pH (h3 s hs), h4, h5⟩, h6, h7, h8⟩
structure nP (f : aM) : Prop where
 glyphs : 0 < f.Glyphs.length ∧ f.Glyphs.length ≤ 65536
 lookups : f.Lookups.length ≤ 1000000
 few : ∀ l ∈ f.Lookups, l.Rules.length ≤ 6
 rule : ∀ l ∈ f.Lookups, ∀ r ∈ l.Rules, vn f.Glyphs.length r
theorem nP.new {f : aM} (h : nP f) : zA f := by
 refine ⟨h.glyphs, h.lookups, fun l hl => ⟨h.few l hl, fun r hr => (h.rule l hl r hr).b⟩, fun l hl r hr => ?_⟩
 have hb := h.rule l hl r hr
 have hg := h.glyphs.2
 exact ⟨⟨by have := hb.b.long; omega, fun s hs => by have := dO (eZ (hb.b.in_ s hs).1) (hb.b.in_ s hs).2; omega⟩, hb.out, hb.calls⟩
theorem nP.eng {f : aM} (h : nP f) {E : lZ} (hE : Bn f E) : lh E := ⟨hE.auto, fun e he r hr hin => by
 have hl : e.l ∈ f.Lookups := by rw [← hE.ls]; exact List.mem_map.2 ⟨e, he, rfl⟩
 have hb := h.rule e.l hl r hr
 exact ⟨hin, hb.out, hb.calls, hb.at_⟩⟩
theorem B6 {f : aM} (h : nP f) (hr : (mL f).1 = 0) (ha : j6 f.Glyphs.length (prt f)) : AC Tryz.prog 15 [cx f] [] fun c _ => ∃ E, lh E ∧ E.ls = f.Lookups ∧ E.ms = f.Glyphs.map b9.Mark ∧ c = .tup [.iptr (d9 E), az 0] :=
 AC.mono (B5 f h.new (ur hr ha)) fun c L ⟨E, hE, hc⟩ => ⟨E, h.eng hE, hE.ls, hE.ms, hc⟩
theorem B8 {ls : List aQ} (h : ls.all (tp 5) = true) (hl : ls.length ≤ 1000000) : nP (dM ls) := by
 rw [List.all_eq_true] at h
 have hh : ∀ l ∈ ls, l.Rules.length ≤ 6 ∧ ∀ r ∈ l.Rules, vn 5 r := fun l hl => by
  have := h l hl
  unfold tp at this
  simp only [Bool.and_eq_true, decide_eq_true_eq, List.all_eq_true] at this
  exact ⟨this.1, fun r hr => xg (this.2 r hr)⟩
 exact ⟨⟨Nat.succ_pos _, by show (5 : Nat) ≤ 65536; omega⟩, hl, fun l hl => (hh l hl).1, fun l hl => (hh l hl).2⟩
theorem uP {ls : List aQ} (h : ls.all (tp 5) = true) (hl : ls.length ≤ 1000000) (hr : (mL (dM ls)).1 = 0) : AC Tryz.prog 15 [cx (dM ls)] [] fun c _ => ∃ E, lh E ∧ E.ls = ls ∧ E.ms = eS ∧ c = .tup [.iptr (d9 E), az 0] :=
 AC.mono (B6 (B8 h hl) hr (na ls)) fun c L ⟨E, h1, h2, h3, h4⟩ => ⟨E, h1, h2, h3, h4⟩
theorem oz (ls : List aQ) : bk Tryz.prog 28 [.imm 3 (ls.map bn)] (cx (dM ls)) := by
 refine aB Tryz.func28 rfl Tryz.ntmps28 rfl fun B => ?_
 repeat' (first|refine a8 ?_|refine a0 ?_|refine ae ?_|refine a5 ?_|refine a6 ?_|refine a7 a4 rfl rfl ?_|(apply aO; first|refine aa a4 0 rfl rfl rfl rfl rfl rfl rfl ?_|refine aa a4 1 rfl rfl rfl rfl rfl rfl rfl ?_|refine aa a4 2 rfl rfl rfl rfl rfl rfl rfl ?_|refine aa a4 3 rfl rfl rfl rfl rfl rfl rfl ?_|fail)|refine aY a4 fun _=>?_|refine cj a4 ?_|fail)
 refine bA (dX 0 (cs' := bU (dM ls)) rfl fun σ vs h => nR.vrs ?_ h) (y6 a4 0 rfl rfl rfl rfl rfl rfl)
 repeat' first | exact dG.refl _ | exact dG.nil _ | exact True.intro | refine dG.agg ?_ | refine dG.imm ?_ | refine And.intro ?_ ?_
end Go.Proofs.YtpmdfoaadejmkaaGreatDoor
