/-
  The program: how deep glyphs are, and how many points they have.
-/
import Derived.Test.YtpmdfoaadejmkaaGreatDoorM23
import Derived.Test.YtpmdfoaadejmkaaGreatDoorM20
namespace Go.Proofs.YtpmdfoaadejmkaaGreatDoor
open Go.RowKit
attribute [local irreducible] AT bh AX AO Av Kt b6 di DA cC
def dF (D : Int → Int) (ps : List cS) : Int := ps.foldl (fun a p => max a (D p.Glyph + 1)) 0
def pF (P : Int → Int) (ps : List cS) (k : Int) : Int := ps.foldl (fun a p => min (a + P p.Glyph) 1001) k
def d9 (n : Nat) (D : Int → Int) : List AV := (bU n).map fun z => aA (D z)
def fk (D : Int → Int) (z v : Int) : Int → Int := fun q => if q = z then v else D q
theorem j9 {D : Int → Int} {z v : Int} : fk D z v z = v := by simp [fk]
theorem gZ {D : Int → Int} {z v q : Int} (h : q ≠ z) : fk D z v q = D q := by simp [fk, h]
theorem oP (D : Int → Int) (z v w : Int) : fk (fk D z v) z w = fk D z w := by
 funext q
 unfold fk
 by_cases e : q = z
 ·rw [if_pos e, if_pos e]
 ·rw [if_neg e, if_neg e, if_neg e]
theorem gJ (n : Nat) (D : Int → Int) : (d9 n D).length = n := by simp [d9, bU]
theorem gI {n : Nat} {D : Int → Int} {z : Int} (h0 : 0 ≤ z) (h1 : z < n) : (d9 n D)[0 + z.toNat * 1]? = some (aA (D z)) := by
 rw [Nat.zero_add, Nat.mul_one]
 unfold d9
 rw [List.getElem?_map, gz (by omega), Option.map_some, show ((z.toNat : Nat) : Int) = z by omega]
theorem jt {n : Nat} {D : Int → Int} {z v : Int} (h0 : 0 ≤ z) (h1 : z < n) : (d9 n D).set (0 + z.toNat * 1) (aA v) = d9 n (fk D z v) := by
 rw [Nat.zero_add, Nat.mul_one]
 apply List.ext_getElem?
 intro i
 rw [List.getElem?_set, gJ]
 unfold d9 fk
 by_cases hi : z.toNat = i
 ·subst hi
  rw [if_pos rfl, if_pos (by omega), List.getElem?_map, gz (by omega), Option.map_some, if_pos (by omega)]
 ·rw [if_neg hi, List.getElem?_map, List.getElem?_map]
  by_cases hn : i < n
  ·rw [gz hn, Option.map_some, Option.map_some, if_neg (by omega)]
  ·rw [List.getElem?_eq_none (by rw [dq]; omega)]; rfl
theorem lz (n : Nat) : (List.replicate n [aA 0]).flatten = d9 n fun _ => 0 := by
 rw [th (bU n) n (dq n).symm]
 unfold dX d9
 rw [List.take_zero, Dr, Nat.sub_zero, dq, List.map_replicate]
 apply List.ext_getElem?
 intro i
 rw [List.getElem?_replicate, List.getElem?_map]
 by_cases h : i < n
 ·rw [if_pos h, gz h]; rfl
 ·rw [if_neg h, List.getElem?_eq_none (by rw [dq]; omega)]; rfl
theorem yi {D : Int → Int} {ps : List cS} {j : Nat} {p : cS} (h : ps[j]? = some p) : dF D (ps.take (j + 1)) = max (dF D (ps.take j)) (D p.Glyph + 1) := by
 unfold dF
 rw [List.take_add_one, h, Option.toList_some, List.foldl_append]
 rfl
theorem z3 {P : Int → Int} {ps : List cS} {k : Int} {j : Nat} {p : cS} (h : ps[j]? = some p) : pF P (ps.take (j + 1)) k = min (pF P (ps.take j) k + P p.Glyph) 1001 := by
 unfold pF
 rw [List.take_add_one, h, Option.toList_some, List.foldl_append]
 rfl
theorem jy {α β : Type} {F G : α → β → α} : ∀ (l : List β) (a : α), (∀ b ∈ l, ∀ a, F a b = G a b) → l.foldl F a = l.foldl G a
 | [], _, _ => rfl
 | b :: l, a, h => by rw [List.foldl_cons, List.foldl_cons, h b (List.mem_cons_self ..)]; exact jy l _ fun c hc => h c (Dt _ hc)
theorem qp {D D' : Int → Int} {ps : List cS} (h : ∀ p ∈ ps, D p.Glyph = D' p.Glyph) : dF D ps = dF D' ps := jy ps 0 fun p hp a => by rw [h p hp]
theorem qQ {P P' : Int → Int} {ps : List cS} {k : Int} (h : ∀ p ∈ ps, P p.Glyph = P' p.Glyph) : pF P ps k = pF P' ps k := jy ps k fun p hp a => by rw [h p hp]
theorem BQ {D : Int → Int} {m : Int} (h : ∀ z, 0 ≤ D z ∧ D z ≤ m) : ∀ (ps : List cS), 0 ≤ dF D ps ∧ dF D ps ≤ m + 1 := by
 intro ps
 have hm : 0 ≤ m := by have := h 0; omega
 have : ∀ (ps : List cS) (a : Int), 0 ≤ a → a ≤ m + 1 → 0 ≤ ps.foldl (fun a p => max a (D p.Glyph + 1)) a ∧ ps.foldl (fun a p => max a (D p.Glyph + 1)) a ≤ m + 1 := by
  intro ps
  induction ps with
  | nil => intro a h0 h1; exact ⟨h0, h1⟩
  | cons p ps ih => intro a h0 h1; have := h p.Glyph; exact ih (max a (D p.Glyph + 1)) (by omega) (by omega)
 exact this ps 0 (by omega) (by omega)
theorem zV {P : Int → Int} {k : Int} (h : ∀ z, 0 ≤ P z ∧ P z ≤ 1000000) (hk : 0 ≤ k ∧ k ≤ 1000000) (ps : List cS) : 0 ≤ pF P ps k ∧ pF P ps k ≤ 1000000 := by
 unfold pF
 induction ps generalizing k with
 | nil => exact hk
 | cons p ps ih => have := h p.Glyph; exact ih (k := min (k + P p.Glyph) 1001) (by omega)
def ia (f : aN) (D P : Int → Int) : Prop := ∀ z : Int, 0 ≤ z → z < f.Glyphs.length → ∀ gl, f.Glyphs[z.toNat]? = some gl → D z = dF D gl.Parts ∧ P z = pF P gl.Parts gl.Points.length
structure rq (f : aN) : Prop extends Few f where
 points : ∀ gl ∈ f.Glyphs, gl.Points.length ≤ 1000000
 there : ∀ gl ∈ f.Glyphs, ∀ p ∈ gl.Parts, jd f p.Glyph = true
theorem pD {f : aN} (hf : rq f) {z : Int} {gl : bb} (h : f.Glyphs[z.toNat]? = some gl) : prt f z = gl.Parts.map cS.Glyph := by
 unfold prt
 rw [h]
 refine List.filter_eq_self.2 fun y hy => ?_
 obtain ⟨p, hp, rfl⟩ := List.mem_map.1 hy
 exact hf.there gl (Dw h) p hp
def o5 (_ : Nat) (levels : Int) : Int := d6 (decide (levels > 4)) 34
def ow (_ : Nat) (all : Int) : Int := d6 (decide (all ≥ 1001)) 2
theorem rP (i : Nat) (n : Int) : bn Tryz.prog 129 [aA i, aA n] (aA (o5 i n)) := by
 refine aC Tryz.func129 rfl Tryz.ntmps129 rfl fun B => ?_
 repeat' (first|refine a9 ?_|refine a4 ?_|refine ah ?_|refine a6 ?_|refine a7 ?_|refine a8 a5 rfl rfl ?_|(apply bc;refine b7 ?_)|fail)
 exact an rfl rfl rfl
theorem rQ (i : Nat) (n : Int) : bn Tryz.prog 131 [aA i, aA n] (aA (ow i n)) := by
 refine aC Tryz.func131 rfl Tryz.ntmps131 rfl fun B => ?_
 repeat' (first|refine a9 ?_|refine a4 ?_|refine ah ?_|refine a6 ?_|refine a7 ?_|refine a8 a5 rfl rfl ?_|(apply bc;refine b7 ?_)|fail)
 exact an rfl rfl rfl
theorem ui (l : List Int) : bn Tryz.prog 127 [.iptr [.imm 1 (aT l)]] (bL (co l o5)) := by
 refine aC Tryz.func127 rfl Tryz.ntmps127 rfl fun B => ?_
 repeat' (first|refine a9 ?_|refine a4 ?_|refine a6 ?_|refine a7 ?_|refine a8 a5 rfl rfl ?_)
 refine aO [] [] (jW (u := .sc (.func (.func 129) #[] #[])) (g := 129) (caps := []) rfl l _ (fun _ _ => True) [] trivial (ct (fun i x _ => rP i x))) rfl rfl (Do _) rfl fun c L1 hc => ?_
 have hc : c = bL (co l o5) := hc
 subst hc
 unfold bL
 repeat' (first|refine ah ?_|refine a6 ?_|refine a7 ?_|refine a8 a5 rfl rfl ?_)
 exact aK rfl rfl rfl rfl
theorem uj (l : List Int) : bn Tryz.prog 130 [.iptr [.imm 1 (aT l)]] (bL (co l ow)) := by
 refine aC Tryz.func130 rfl Tryz.ntmps130 rfl fun B => ?_
 repeat' (first|refine a9 ?_|refine a4 ?_|refine a6 ?_|refine a7 ?_|refine a8 a5 rfl rfl ?_)
 refine aO [] [] (jW (u := .sc (.func (.func 131) #[] #[])) (g := 131) (caps := []) rfl l _ (fun _ _ => True) [] trivial (ct (fun i x _ => rQ i x))) rfl rfl (Do _) rfl fun c L1 hc => ?_
 have hc : c = bL (co l ow) := hc
 subst hc
 unfold bL
 repeat' (first|refine ah ?_|refine a6 ?_|refine a7 ?_|refine a8 a5 rfl rfl ?_)
 exact aK rfl rfl rfl rfl
structure ro (f : aN) (T : List Int) (i : Nat) (D P : Int → Int) : Prop where
 deep : ∀ z, 0 ≤ D z ∧ D z ≤ i
 many : ∀ z, 0 ≤ P z ∧ P z ≤ 1000000
 done : ∀ (j : Nat) (z : Int), j < i → T[j]? = some z → ∀ gl, f.Glyphs[z.toNat]? = some gl → D z = dF D gl.Parts ∧ P z = pF P gl.Parts gl.Points.length
 rest : ∀ z, z ∉ T.take i → D z = 0
theorem ro.start {f : aN} {T : List Int} : ro f T 0 (fun _ => 0) (fun _ => 0) := ⟨fun _ => by simp, fun _ => by simp, fun j _ h => absurd h (Nat.not_lt_zero _), fun _ _ => rfl⟩
theorem ro.next {f : aN} {T : List Int} (hf : rq f) (hT : fT f.Glyphs.length (prt f) T) {i : Nat} {D P : Int → Int} (h : ro f T i D P) {x : Int} {gl : bb} (hx : T[i]? = some x) (hgl : f.Glyphs[x.toNat]? = some gl) : ro f T (i + 1) (fk D x (dF D gl.Parts)) (fk P x (pF P gl.Parts gl.Points.length)) := by
 have hgm := Dw hgl
 have hnot : ∀ (j : Nat) (z : Int), j ≤ i → T[j]? = some z → ∀ g, f.Glyphs[z.toNat]? = some g → ∀ p ∈ g.Parts, p.Glyph ≠ x := by
  intro j z hj hz g hg p hp e
  have h1 := hT.topo j z hz p.Glyph (by rw [pD hf hg]; exact List.mem_map_of_mem hp)
  rw [e] at h1
  obtain ⟨k, hk⟩ := List.mem_iff_getElem?.1 h1
  rw [List.getElem?_take] at hk
  split at hk
  ·rename_i hlt
   obtain ⟨k1, k2⟩ := Dp hk
   obtain ⟨i1, i2⟩ := Dp hx
   have e1 := hT.nodup.idxOf_getElem k k1
   have e2 := hT.nodup.idxOf_getElem i i1
   rw [k2] at e1
   rw [i2] at e2
   omega
  ·cases hk
 have hd := BQ h.deep gl.Parts
 have hp := zV (k := (gl.Points.length : Int)) h.many (by have := hf.points gl hgm; omega) gl.Parts
 refine ⟨fun z => ?_, fun z => ?_, fun j z hj hz g hg => ?_, fun z hz => ?_⟩
 ·unfold fk
  split
  ·omega
  ·have := h.deep z; omega
 ·unfold fk
  split
  ·exact hp
  ·exact h.many z
 ·rw [qp (D := fk D x (dF D gl.Parts)) (D' := D) fun p hp => gZ (hnot j z (by omega) hz g hg p hp), qQ (P := fk P x (pF P gl.Parts gl.Points.length)) (P' := P) fun p hp => gZ (hnot j z (by omega) hz g hg p hp)]
  by_cases e : z = x
  ·subst e
   rw [hgl] at hg
   cases hg
   rw [j9, j9]
   exact ⟨rfl, rfl⟩
  ·rw [gZ e, gZ e]
   have hji : j < i := by
    rcases Nat.lt_or_ge j i with h1 | h1
    ·exact h1
    ·have : j = i := by omega
     subst this
     rw [hx] at hz
     cases hz
     exact absurd rfl e
   exact h.done j z hji hz g hg
 ·rw [List.take_add_one, hx, Option.toList_some, List.mem_append, List.mem_singleton] at hz
  rw [gZ (fun e => hz (.inr e))]
  exact h.rest z fun hm => hz (.inl hm)
def lC (n : Nat) (D P : Int → Int) : Int × Int := fC [co ((bU n).map D) o5, co ((bU n).map P) ow]
set_option maxHeartbeats 8000000 in
theorem qo (f : aN) (hf : rq f) (hr : jc f.Glyphs.length (prt f) ∨ AC Tryz.prog 211 [cz f] [] fun c _ => ∃ z : Int, c = aA z) : AC Tryz.prog 56 [cz f] [] fun c _ => (∃ D P, ia f D P ∧ jc f.Glyphs.length (prt f) ∧ c = bL (lC f.Glyphs.length D P)) ∨ (¬ jc f.Glyphs.length (prt f) ∧ ∃ z : Int, c = bL (33, z)) := by
 refine aC Tryz.func56 rfl Tryz.ntmps56 rfl fun B => ?_
 have hn := hf.n
 have hml : (f.Glyphs.map c7).length = f.Glyphs.length := Du ..
 repeat' (first|refine a9 ?_|refine a4 ?_|refine a6 ?_|refine a7 ?_|refine a8 a5 rfl rfl ?_|refine aZ ?_|fail)
 refine aO [] [] (xb f hf.toFew hr) rfl rfl (Do _) rfl fun c L1 hc => ?_
 refine aR (cf (List.nil_sublist _)) ?_
 rcases hc with ⟨T, hc, hT, hTl⟩ | ⟨hna, z, hc⟩
 rotate_left
 ·subst hc
  repeat' (first|refine a9 ?_|refine a4 ?_|refine ah ?_|refine a6 ?_|refine aq ?_|refine a7 ?_|refine a8 a5 rfl rfl ?_|refine bv rfl ?_)
  exact aK rfl rfl rfl (.inr ⟨hna, z, rfl⟩)
 subst hc
 have hall := hT.all_of_len hTl
 have hacy := hT.acyc hall
 have hTi := aW T
 repeat' (first|refine a9 ?_|refine a4 ?_|refine ai ?_|refine a6 ?_|refine a7 ?_|refine a8 a5 rfl rfl ?_|refine bC rfl ?_)
 rw [hml]
 refine iE a5 f.Glyphs.length rfl rfl rfl rfl rfl rfl rfl (by omega) (by omega) rfl fun bd => ?_
 rw [show (List.replicate f.Glyphs.length (List.map AV.sc [Value.int .i64 0])).flatten = d9 f.Glyphs.length fun _ => 0 from lz _]
 repeat' (first|refine a9 ?_|refine a4 ?_|refine a6 ?_|refine a7 ?_|refine a8 a5 rfl rfl ?_|(apply aP; first|refine aa 7 a5 0 rfl rfl rfl rfl rfl rfl rfl rfl ?_|refine aa 7 a5 1 rfl rfl rfl rfl rfl rfl rfl rfl ?_|refine aa 7 a5 2 rfl rfl rfl rfl rfl rfl rfl rfl ?_|refine aa 8 a5 0 rfl rfl rfl rfl rfl rfl rfl rfl ?_|refine aa 8 a5 1 rfl rfl rfl rfl rfl rfl rfl rfl ?_|refine aa 8 a5 2 rfl rfl rfl rfl rfl rfl rfl rfl ?_|refine aa 12 a5 0 rfl rfl rfl rfl rfl rfl rfl rfl ?_|refine aa 12 a5 1 rfl rfl rfl rfl rfl rfl rfl rfl ?_|refine aa 12 a5 2 rfl rfl rfl rfl rfl rfl rfl rfl ?_|refine ad a5 0 rfl rfl rfl rfl rfl rfl rfl ?_|refine ad a5 1 rfl rfl rfl rfl rfl rfl rfl ?_|refine ad a5 2 rfl rfl rfl rfl rfl rfl rfl ?_|refine ad a5 3 rfl rfl rfl rfl rfl rfl rfl ?_|fail)|refine b4 a5 fun _=>?_|fail)
 rw [hml]
 refine iE a5 f.Glyphs.length rfl rfl rfl rfl rfl rfl rfl (by omega) (by omega) rfl fun bp => ?_
 rw [show (List.replicate f.Glyphs.length (List.map AV.sc [Value.int .i64 0])).flatten = d9 f.Glyphs.length fun _ => 0 from lz _]
 repeat' (first|refine a9 ?_|refine a4 ?_|refine ak ?_|refine a6 ?_|refine a7 ?_|refine a8 a5 rfl rfl ?_|(apply aP; first|refine aa 7 a5 0 rfl rfl rfl rfl rfl rfl rfl rfl ?_|refine aa 7 a5 1 rfl rfl rfl rfl rfl rfl rfl rfl ?_|refine aa 7 a5 2 rfl rfl rfl rfl rfl rfl rfl rfl ?_|refine aa 8 a5 0 rfl rfl rfl rfl rfl rfl rfl rfl ?_|refine aa 8 a5 1 rfl rfl rfl rfl rfl rfl rfl rfl ?_|refine aa 8 a5 2 rfl rfl rfl rfl rfl rfl rfl rfl ?_|refine aa 12 a5 0 rfl rfl rfl rfl rfl rfl rfl rfl ?_|refine aa 12 a5 1 rfl rfl rfl rfl rfl rfl rfl rfl ?_|refine aa 12 a5 2 rfl rfl rfl rfl rfl rfl rfl rfl ?_|refine ad a5 0 rfl rfl rfl rfl rfl rfl rfl ?_|refine ad a5 1 rfl rfl rfl rfl rfl rfl rfl ?_|refine ad a5 2 rfl rfl rfl rfl rfl rfl rfl ?_|refine ad a5 3 rfl rfl rfl rfl rfl rfl rfl ?_|fail)|refine b4 a5 fun _=>?_|fail)
 refine aL [1, 7, 8, 31, 32] (α := Nat × (Int → Int) × (Int → Int)) (fun x => [(33, aA x.1)]) (fun x => x.1 ≤ f.Glyphs.length ∧ ro f T x.1 x.2.1 x.2.2) (fun x => [(bp, .box (d9 f.Glyphs.length x.2.2) 3), (bd, .box (d9 f.Glyphs.length x.2.1) 3)]) (fun x => f.Glyphs.length - x.1) (0, (fun _ => 0), (fun _ => 0)) rfl ⟨rfl, trivial⟩ ⟨Nat.zero_le _, ro.start⟩ (fun _ _ h => h) ?_
 rintro ⟨i, D, P⟩ ⟨hi, hC⟩
 dsimp only at hi hC ⊢
 try dsimp only [Ds, Dr, Dq, Dn]
 repeat' (first|refine a9 ?_|refine a4 ?_|refine a6 ?_|refine a7 ?_|refine a8 a5 rfl rfl ?_)
 refine ar rfl (fun h => ?_) (fun h => ?_)
 ·have hil : i < T.length := by have := Dz h; rw [hTi] at this; omega
  obtain ⟨x, hx⟩ : ∃ x, T[i]? = some x := ⟨_, Bn hil⟩
  have hxi := bJ hx
  have hxr := hT.dom x (Dw hx)
  obtain ⟨gl, hgl⟩ : ∃ z, f.Glyphs[x.toNat]? = some z := ⟨_, Bn (by omega)⟩
  have hgm := Dw hgl
  have hgg := bW (c := c7) hgl
  have hpm : (gl.Points.map fz).length = gl.Points.length := Du ..
  have hpl := hf.points gl hgm
  clear h
  repeat' (first|refine a9 ?_|refine a4 ?_|refine ak ?_|refine ai ?_|refine a6 ?_|refine a7 ?_|refine a8 a5 rfl rfl ?_|(apply aF; first|refine aE a5 ?_|refine aB a5 ?_)|fail)
  refine bk 10 [(0, .v), (1, .v), (2, .v), (3, .v), (4, .v), (5, .v), (6, .v), (7, .v), (8, .v), (9, .v)] none ?_ trivial rfl (by kernel_rfl) (by kernel_rfl) (by kernel_rfl) c9 (by kernel_rfl) rfl
  repeat' (first|refine aD ?_|refine bi a5 ?_|(apply cD;refine d3 a5 ?_)|fail)
  refine bz [1, 7, 8, 10, 31, 32, 33, 37, 38, 46] rfl rfl ?_
  repeat' (first|(apply aF; first|refine aE a5 ?_|refine aB a5 ?_)|fail)
  refine ad a5 0 rfl rfl rfl rfl rfl rfl (by rw [Nat.ble_eq, gJ]; show _ + 1 ≤ _; omega) ?_
  rw [fM, jt hxr.1 hxr.2, hpm]
  repeat' (first|refine a9 ?_|refine a4 ?_|refine ak ?_|refine a6 ?_|refine a7 ?_|refine a8 a5 rfl rfl ?_|(apply aF; first|refine aE a5 ?_|refine aB a5 ?_)|fail)
  have hTx : x ∉ T.take i := fun hm => by
   obtain ⟨k, hk⟩ := List.mem_iff_getElem?.1 hm
   rw [List.getElem?_take] at hk
   split at hk
   ·obtain ⟨k1, k2⟩ := Dp hk
    obtain ⟨i1, i2⟩ := Dp hx
    have e1 := hT.nodup.idxOf_getElem k k1
    have e2 := hT.nodup.idxOf_getElem i i1
    rw [k2] at e1
    rw [i2] at e2
    omega
   ·cases hk
  have hD0 : fk D x 0 = D := by
   funext q
   unfold fk
   split
   ·rename_i e; rw [e, hC.rest x hTx]
   ·rfl
  have hql : (gl.Parts.map eZ).length = gl.Parts.length := Du ..
  have hqn := hf.parts gl hgm
  refine aL [1, 7, 8, 10, 31, 32, 33, 53, 54] (α := Nat) (fun j => [(55, aA j)]) (fun j => j ≤ gl.Parts.length) (fun j => [(bp, .box (d9 f.Glyphs.length (fk P x (pF P (gl.Parts.take j) gl.Points.length))) 3), (bd, .box (d9 f.Glyphs.length (fk D x (dF D (gl.Parts.take j)))) 3)]) (fun j => gl.Parts.length - j) 0 rfl ⟨rfl, trivial⟩ (Nat.zero_le _) (fun _ _ h => by rw [List.take_zero, show dF D [] = 0 from rfl, hD0]; exact h) fun j hj => ?_
  try dsimp only [Ds, Dr, Dq, Dn]
  repeat' (first|refine a9 ?_|refine a4 ?_|refine a6 ?_|refine a7 ?_|refine a8 a5 rfl rfl ?_)
  refine ar rfl (fun h => ?_) (fun h => ?_)
  ·have hjl : j < gl.Parts.length := by have := Dz h; omega
   obtain ⟨q, hq⟩ : ∃ q, gl.Parts[j]? = some q := ⟨_, Bn hjl⟩
   have hqg := bW (c := eZ) hq
   have hqr := ml.1 (hf.there gl hgm q (Dw hq))
   have hne : q.Glyph ≠ x := fun e => by
    have h1 := hT.topo i x hx q.Glyph (by rw [pD hf hgl]; exact List.mem_map_of_mem (Dw hq))
    rw [e] at h1
    exact hTx h1
   have hc1 : (d9 f.Glyphs.length (fk D x (dF D (gl.Parts.take j))))[0 + x.toNat * 1]? = some (aA (dF D (gl.Parts.take j))) := by rw [gI hxr.1 hxr.2, j9]
   have hc2 : (d9 f.Glyphs.length (fk D x (dF D (gl.Parts.take j))))[0 + q.Glyph.toNat * 1]? = some (aA (D q.Glyph)) := by rw [gI hqr.1 hqr.2, gZ hne]
   have hc3 : (d9 f.Glyphs.length (fk P x (pF P (gl.Parts.take j) gl.Points.length)))[0 + x.toNat * 1]? = some (aA (pF P (gl.Parts.take j) gl.Points.length)) := by rw [gI hxr.1 hxr.2, j9]
   have hc4 : (d9 f.Glyphs.length (fk P x (pF P (gl.Parts.take j) gl.Points.length)))[0 + q.Glyph.toNat * 1]? = some (aA (P q.Glyph)) := by rw [gI hqr.1 hqr.2, gZ hne]
   have hDq := hC.deep q.Glyph
   have hPq := hC.many q.Glyph
   have hPj := zV (k := (gl.Points.length : Int)) hC.many (by omega) (gl.Parts.take j)
   clear h
   repeat' (first|refine a9 ?_|refine a4 ?_|refine ak ?_|refine ai ?_|refine a6 ?_|refine a7 ?_|refine a8 a5 rfl rfl ?_|(apply aF; first|refine aE a5 ?_|refine aB a5 ?_)|(apply aP; first|refine aa 7 a5 0 rfl rfl rfl rfl rfl rfl rfl rfl ?_|refine aa 7 a5 1 rfl rfl rfl rfl rfl rfl rfl rfl ?_|refine aa 7 a5 2 rfl rfl rfl rfl rfl rfl rfl rfl ?_|refine aa 8 a5 0 rfl rfl rfl rfl rfl rfl rfl rfl ?_|refine aa 8 a5 1 rfl rfl rfl rfl rfl rfl rfl rfl ?_|refine aa 8 a5 2 rfl rfl rfl rfl rfl rfl rfl rfl ?_|refine aa 12 a5 0 rfl rfl rfl rfl rfl rfl rfl rfl ?_|refine aa 12 a5 1 rfl rfl rfl rfl rfl rfl rfl rfl ?_|refine aa 12 a5 2 rfl rfl rfl rfl rfl rfl rfl rfl ?_|refine ad a5 0 rfl rfl rfl rfl rfl rfl rfl ?_|refine ad a5 1 rfl rfl rfl rfl rfl rfl rfl ?_|refine ad a5 2 rfl rfl rfl rfl rfl rfl rfl ?_|refine ad a5 3 rfl rfl rfl rfl rfl rfl rfl ?_|fail)|refine b4 a5 fun _=>?_|fail)
   refine bk 13 [(0, .v), (1, .v), (2, .v), (3, .v), (4, .v), (5, .l), (6, .v), (7, .v), (8, .v), (9, .v), (10, .l), (11, .v), (12, .v)] none ?_ trivial rfl (by kernel_rfl) (by kernel_rfl) (by kernel_rfl) c9 (by kernel_rfl) rfl
   repeat' (first|refine aD ?_|refine bi a5 ?_|fail)
   refine cK a5 rfl rfl rfl hxr trivial ?_
   repeat' (first|refine aD ?_|fail)
   refine bX a5 1 rfl rfl rfl hc1 trivial ?_
   repeat' (first|refine aD ?_|refine bi a5 ?_|fail)
   refine cK a5 rfl rfl rfl hqr trivial ?_
   repeat' (first|refine aD ?_|fail)
   refine bX a5 1 rfl rfl rfl hc2 trivial ?_
   repeat' (first|refine aD ?_|refine bi a5 ?_|(apply ir;refine lE ?_)|fail)
   refine bz [1, 7, 8, 10, 12, 31, 32, 33, 53, 54, 55, 59, 60, 71] rfl rfl ?_
   repeat' (first|(apply aF; first|refine aE a5 ?_|refine aB a5 ?_)|fail)
   refine ad a5 1 rfl rfl rfl rfl rfl rfl (by rw [Nat.ble_eq, gJ]; show _ + 1 ≤ _; omega) ?_
   rw [fM, jt hxr.1 hxr.2, oP, ← yi hq]
   repeat' (first|refine a6 ?_|refine a7 ?_)
   refine bk 13 [(0, .v), (1, .v), (2, .v), (3, .v), (4, .v), (5, .l), (6, .v), (7, .v), (8, .v), (9, .v), (10, .l), (11, .v), (12, .v)] none ?_ trivial rfl (by kernel_rfl) (by kernel_rfl) (by kernel_rfl) c9 (by kernel_rfl) rfl
   repeat' (first|refine aD ?_|refine bi a5 ?_|fail)
   refine cK a5 rfl rfl rfl hxr trivial ?_
   repeat' (first|refine aD ?_|fail)
   refine bX a5 0 rfl rfl rfl hc3 trivial ?_
   repeat' (first|refine aD ?_|refine bi a5 ?_|fail)
   refine cK a5 rfl rfl rfl hqr trivial ?_
   repeat' (first|refine aD ?_|fail)
   refine bX a5 0 rfl rfl rfl hc4 trivial ?_
   repeat' (first|refine aD ?_|refine bi a5 ?_|(apply ir;refine lE ?_)|fail)
   refine bz [1, 7, 8, 10, 31, 32, 33, 53, 54, 55, 73, 74, 85] rfl rfl ?_
   repeat' (first|(apply aF; first|refine aE a5 ?_|refine aB a5 ?_)|fail)
   refine ad a5 0 rfl rfl rfl rfl rfl rfl (by rw [Nat.ble_eq, gJ]; show _ + 1 ≤ _; omega) ?_
   rw [fM, jt hxr.1 hxr.2, oP, ← z3 hq]
   repeat' (first|refine a4 ?_|refine a6 ?_|refine aH ?_|refine a7 ?_|refine a8 a5 rfl rfl ?_|(apply aU; refine aS ?_)|fail)
   exact az (j + 1) rfl ⟨by rw [Dv]; rfl, trivial⟩ (by omega) (by omega) (fun _ _ h => h)
  ·have hjl : j = gl.Parts.length := by have := Dy h; omega
   subst hjl
   rw [List.take_length]
   repeat' (first|refine a4 ?_|refine aM ?_|refine a6 ?_|refine au ?_|refine aH ?_|refine aw ?_|refine av ?_|refine a7 ?_|refine a8 a5 rfl rfl ?_|(apply aU; refine aS ?_)|fail)
   exact az (i + 1, _, _) rfl ⟨by rw [Dv]; rfl, trivial⟩ ⟨by dsimp only; omega, hC.next hf hT hx hgl⟩ (by dsimp only; omega) (fun _ _ h => h)
 ·have hil : i = f.Glyphs.length := by have := Dy h; rw [hTi] at this; omega
  subst hil
  clear h
  have hdeep : ia f D P := by
   intro z h0 h1 gl hgl
   obtain ⟨j, hj⟩ := List.mem_iff_getElem?.1 (hall z h0 h1)
   exact hC.done j z (by have := (Dp hj).1; omega) hj gl hgl
  have hcd : ∀ F : Int → Int, d9 f.Glyphs.length F = (aT ((bU f.Glyphs.length).map F)).flatten := fun F => by rw [oo]; unfold d9; rw [List.map_map]; rfl
  have hcl : ∀ F : Int → Int, (aT ((bU f.Glyphs.length).map F)).length = f.Glyphs.length := fun F => by rw [aW, Du, dq]
  refine cY (oM (t := 7) (sz := 1) (l := aT ((bU f.Glyphs.length).map D)) 1 rfl rfl (hcd D) (by simp [aT]) (hcl D) (by omega)) ?_
  refine cY (oM (t := 8) (sz := 1) (l := aT ((bU f.Glyphs.length).map P)) 1 rfl rfl (hcd P) (by simp [aT]) (hcl P) (by omega)) ?_
  repeat' (first|refine a9 ?_|refine a4 ?_|refine aM ?_|refine a6 ?_|refine au ?_|refine aw ?_|refine av ?_|refine a8 a5 rfl rfl ?_|refine ce a5 ?_|fail)
  refine aO [] _ (gk [⟨127, [.iptr [.imm 1 (aT ((bU f.Glyphs.length).map D))]], [], (co ((bU f.Glyphs.length).map D) o5).1, (co ((bU f.Glyphs.length).map D) o5).2⟩, ⟨130, [.iptr [.imm 1 (aT ((bU f.Glyphs.length).map P))]], [], (co ((bU f.Glyphs.length).map P) ow).1, (co ((bU f.Glyphs.length).map P) ow).2⟩] ⟨⟨inferInstance, ui _⟩, fun _ => ⟨⟨inferInstance, uj _⟩, fun _ => trivial⟩⟩) rfl rfl (Do _) rfl fun c L1 hc => ?_
  rw [gS] at hc
  have hc : c = bL (lC f.Glyphs.length D P) := hc
  subst hc
  unfold bL
  repeat' (first|refine ah ?_|refine a6 ?_|refine a7 ?_|refine a8 a5 rfl rfl ?_)
  exact aK rfl rfl rfl (.inl ⟨D, P, hdeep, hacy, rfl⟩)
theorem i3 {err : Nat → Int} : ∀ (k i : Nat), (cx err k i).1 = 0 ↔ ∀ j, i ≤ j → j < i + k → err j = 0
 | 0, i => by simp only [cx, true_iff]; intro j h1 h2; omega
 | k + 1, i => by
  simp only [cx]
  by_cases h : err i = 0
  ·rw [if_pos h, i3 k (i + 1)]
   constructor
   ·intro hh j h1 h2
    by_cases e : j = i
    ·subst e; exact h
    ·exact hh j (by omega) (by omega)
   ·intro hh j h1 h2; exact hh j (by omega) (by omega)
  ·rw [if_neg h]
   constructor
   ·intro hh; exact absurd hh h
   ·intro hh; exact hh i (Nat.le_refl _) (by omega)
theorem mM {α : Type} {l : List α} {w : Nat → α → Int} : (co l w).1 = 0 ↔ ∀ i x, l[i]? = some x → w i x = 0 := by
 unfold co cw
 rw [i3]
 constructor
 ·intro h i x hx
  have := h i (Nat.zero_le _) (by have := (Dp hx).1; omega)
  rwa [fm hx] at this
 ·intro h j _ hj
  obtain ⟨x, hx⟩ : ∃ x, l[j]? = some x := ⟨_, Bn (by omega)⟩
  rw [fm hx]
  exact h j x hx
theorem fO {α : Type} {most : Int} {l : List α} {w : Nat → α → Int} : (c5 most l w).1 = 0 ↔ (l.length : Int) ≤ most ∧ ∀ i x, l[i]? = some x → w i x = 0 := by
 have h := mM (l := l) (w := w)
 unfold co at h
 unfold c5 cu
 by_cases hm : (l.length : Int) > most
 ·rw [if_pos hm]
  constructor
  ·intro hh; cases hh
  ·intro hh; omega
 ·rw [if_neg hm, h]
  exact ⟨fun hh => ⟨by omega, hh⟩, fun hh => hh.2⟩
theorem f6 : ∀ {l : List (Int × Int)}, (fC l).1 = 0 ↔ ∀ x ∈ l, x.1 = 0
 | [] => by simp [fC]
 | x :: r => by
  unfold fC
  by_cases h : x.1 = 0
  ·rw [if_pos h, f6]
   constructor
   ·intro hh y hy
    rcases List.mem_cons.1 hy with rfl | hy
    ·exact h
    ·exact hh y hy
   ·intro hh y hy; exact hh y (Dt _ hy)
  ·rw [if_neg h]
   constructor
   ·intro hh; exact absurd hh h
   ·intro hh; exact hh x (List.mem_cons_self ..)
theorem jg {f : aN} (h : (c5 400 f.Glyphs (dQ f)).1 = 0) : rq f := by
 obtain ⟨h1, h2⟩ := fO.1 h
 have hg : ∀ gl ∈ f.Glyphs, ∃ name, mS f gl name = 0 := fun gl hgl => by
  obtain ⟨i, hi⟩ := List.mem_iff_getElem?.1 hgl
  exact ⟨_, h2 i gl hi⟩
 have hgl : ∀ gl ∈ f.Glyphs, gX gl = 0 ∧ (c5 8 gl.Parts (lQ f)).1 = 0 := fun gl hm => by
  obtain ⟨name, hn⟩ := hg gl hm
  unfold mS at hn
  rw [f6] at hn
  exact ⟨hn (gX gl, 0) (by simp), hn (c5 8 gl.Parts (lQ f)) (by simp)⟩
 refine ⟨⟨by omega, fun gl hm => ?_⟩, fun gl hm => ?_, fun gl hm p hp => ?_⟩
 ·have := (fO.1 (hgl gl hm).2).1; omega
 ·have h3 := (hgl gl hm).1
  unfold gX at h3
  split at h3
  ·cases h3
  ·split at h3
   ·cases h3
   ·omega
 ·obtain ⟨i, hi⟩ := List.mem_iff_getElem?.1 hp
  have h3 := (fO.1 (hgl gl hm).2).2 i p hi
  unfold lQ at h3
  split at h3
  ·cases h3
  ·rename_i hh
   simpa using hh
theorem un {f : aN} (hf : rq f) (ha : jc f.Glyphs.length (prt f)) {D P D' P' : Int → Int} (h : ia f D P) (h' : ia f D' P') : ∀ z : Int, 0 ≤ z → z < f.Glyphs.length → D z = D' z ∧ P z = P' z := by
 obtain ⟨r, hr⟩ := ha
 have : ∀ (k : Nat) (z : Int), r z < k → 0 ≤ z → z < f.Glyphs.length → D z = D' z ∧ P z = P' z := by
  intro k
  induction k with
  | zero => intro z hk; exact absurd hk (Nat.not_lt_zero _)
  | succ k ih =>
   intro z hk h0 h1
   obtain ⟨gl, hgl⟩ : ∃ g, f.Glyphs[z.toNat]? = some g := ⟨_, Bn (by omega)⟩
   have hsm : ∀ p ∈ gl.Parts, D p.Glyph = D' p.Glyph ∧ P p.Glyph = P' p.Glyph := fun p hp => by
    have hin := ml.1 (hf.there gl (Dw hgl) p hp)
    have := hr z h0 h1 p.Glyph (by rw [pD hf hgl]; exact List.mem_map_of_mem hp)
    exact ih p.Glyph (by omega) hin.1 hin.2
   obtain ⟨h2, h3⟩ := h z h0 h1 gl hgl
   obtain ⟨h4, h5⟩ := h' z h0 h1 gl hgl
   rw [h2, h3, h4, h5]
   exact ⟨qp fun p hp => (hsm p hp).1, qQ fun p hp => (hsm p hp).2⟩
 intro z h0 h1
 exact this (r z + 1) z (by omega) h0 h1
theorem rR {n : Nat} {D P D' P' : Int → Int} (h : ∀ z : Int, 0 ≤ z → z < n → D z = D' z ∧ P z = P' z) : lC n D P = lC n D' P' := by
 unfold lC
 rw [List.map_congr_left (f := D) (g := D') fun z hz => (h z (dH.1 hz).1 (dH.1 hz).2).1, List.map_congr_left (f := P) (g := P') fun z hz => (h z (dH.1 hz).1 (dH.1 hz).2).2]
open Classical in
noncomputable def lD (f : aN) : Int × Int := if h : ∃ q : (Int → Int) × (Int → Int), ia f q.1 q.2 then lC f.Glyphs.length h.choose.1 h.choose.2 else (33, 0)
theorem qn {f : aN} (hf : rq f) (ha : jc f.Glyphs.length (prt f)) {D P : Int → Int} (h : ia f D P) : lD f = lC f.Glyphs.length D P := by
 unfold lD
 have hex : ∃ q : (Int → Int) × (Int → Int), ia f q.1 q.2 := ⟨(D, P), h⟩
 rw [dif_pos hex]
 exact rR (un hf ha hex.choose_spec h)
theorem yh (f : aN) (hf : rq f) (ha : jc f.Glyphs.length (prt f)) : AC Tryz.prog 55 [.iptr (bV f)] [] fun c _ => c = bL ((lD f).1, (lD f).2) := by
 refine aC Tryz.func55 rfl Tryz.ntmps55 rfl fun B => ?_
 repeat' (first|refine a9 ?_|refine a4 ?_|refine a6 ?_|refine a7 ?_|refine a8 a5 rfl rfl ?_)
 refine aO [] [] (qo f hf (.inl ha)) rfl rfl (Do _) rfl fun c L1 hc => ?_
 rcases hc with ⟨D, P, h1, h2, hc⟩ | ⟨hna, _⟩
 ·rw [← qn hf ha h1] at hc
  subst hc
  unfold bL
  repeat' (first|refine ah ?_|refine a6 ?_|refine a7 ?_|refine a8 a5 rfl rfl ?_)
  exact aK rfl rfl rfl rfl
 ·exact absurd ha hna
def tk (_ : Nat) (l : List gC) : Int := nh l
def pE (f : aN) (_ : Nat) (r : List fv) : Int := xi f.Axes.length r
def j1 (f : aN) (_ : Nat) (l : aQ) : Int := kf f l
noncomputable def zQ (f : aN) : List (Int × Int) := [(om f, 0), c5 400 f.Glyphs (dQ f), lD f, c5 1000 f.Chars (iT f), c5 40 f.Lookups (j1 f), c5 20 f.Features (jX f), c5 3 f.Axes (jO f), c5 16 f.Regions (pE f), c5 20 f.Funcs tk, c5 64 f.Cvt wj]
noncomputable def mR (f : aN) : Int × Int := fC (zQ f)
noncomputable def tj (f : aN) (m1 m2 m3 : Nat) : List Lk := [⟨48, [.iptr (bV f)], [], om f, 0⟩,
 ⟨112, [.iptr [.imm 9 (f.Glyphs.map c7)], .iptr [aA 400], .iptr [.fn 51 [.iptr (bV f), .iptr [.sc (.map (some m1))]]]], [(m1, cg .string (bZ (l7 f)))], (c5 400 f.Glyphs (dQ f)).1, (c5 400 f.Glyphs (dQ f)).2⟩,
 ⟨55, [.iptr (bV f)], [], (lD f).1, (lD f).2⟩,
 ⟨132, [.iptr [.imm 2 (f.Chars.map fb)], .iptr [aA 1000], .iptr [.fn 58 [.iptr (bV f)]]], [], (c5 1000 f.Chars (iT f)).1, (c5 1000 f.Chars (iT f)).2⟩,
 ⟨134, [.iptr [.imm 3 (f.Lookups.map bo)], .iptr [aA 40], .iptr [.fn 61 [.iptr (bV f)]]], [], (c5 40 f.Lookups (j1 f)).1, (c5 40 f.Lookups (j1 f)).2⟩,
 ⟨142, [.iptr [.imm 2 (f.Features.map ca)], .iptr [aA 20], .iptr [.fn 64 [.iptr (bV f), .iptr [.sc (.map (some m2))]]]], [(m2, cg .string (bZ (lh f)))], (c5 20 f.Features (jX f)).1, (c5 20 f.Features (jX f)).2⟩,
 ⟨145, [.iptr [.imm 4 (f.Axes.map ep)], .iptr [aA 3], .iptr [.fn 68 [.iptr [.sc (.map (some m3))]]]], [(m3, cg .string (bZ (kL f)))], (c5 3 f.Axes (jO f)).1, (c5 3 f.Axes (jO f)).2⟩,
 ⟨147, [.iptr [.imm 1 (f.Regions.map dc)], .iptr [aA 16], .iptr [.fn 71 [.iptr (bV f)]]], [], (c5 16 f.Regions (pE f)).1, (c5 16 f.Regions (pE f)).2⟩,
 ⟨151, [.iptr [.imm 1 (f.Funcs.map jS)], .iptr [aA 20], .iptr [.sc (.func (.func 74) #[] #[])]], [], (c5 20 f.Funcs tk).1, (c5 20 f.Funcs tk).2⟩,
 ⟨155, [.iptr [.imm 1 (f.Cvt.map ue)], .iptr [aA 64], .iptr [.sc (.func (.func 77) #[] #[])]], [], (c5 64 f.Cvt wj).1, (c5 64 f.Cvt wj).2⟩]
theorem rY (f : aN) (m1 m2 m3 : Nat) (hA : (c5 400 f.Glyphs (dQ f)).1 = 0 → jc f.Glyphs.length (prt f)) : sh (tj f m1 m2 m3) := by
 refine ⟨⟨inferInstance, uC f⟩, fun _ => ⟨⟨inferInstance, ?_⟩, fun h1 => ⟨⟨inferInstance, yh f (jg h1) (hA h1)⟩, fun _ => ⟨⟨inferInstance, ?_⟩, fun _ => ⟨⟨inferInstance, ?_⟩, fun _ => ⟨⟨inferInstance, ?_⟩, fun _ => ⟨⟨inferInstance, ?_⟩, fun _ => ⟨⟨inferInstance, ?_⟩, fun _ => ⟨⟨inferInstance, ?_⟩, fun _ => ⟨⟨inferInstance, ?_⟩, fun _ => trivial⟩⟩⟩⟩⟩⟩⟩⟩⟩⟩
 ·exact zb (u := .fn 51 [.iptr (bV f), .iptr [.sc (.map (some m1))]]) rfl f.Glyphs 400 (eK f.Glyphs (dQ f)) (fun _ L => L = [(m1, cg .string (bZ (l7 f)))]) _ rfl fun _ => nC fun i x _ => s7 f i x m1
 ·exact zf (u := .fn 58 [.iptr (bV f)]) rfl f.Chars 1000 (eK f.Chars (iT f)) (fun _ _ => True) [] trivial fun hm => ct fun i x hx => ug f i x hx hm
 ·exact zg (u := .fn 61 [.iptr (bV f)]) rfl f.Lookups 40 (eK f.Lookups (j1 f)) (fun _ _ => True) [] trivial fun _ => ct fun i x _ => pc f i x
 ·exact zh (u := .fn 64 [.iptr (bV f), .iptr [.sc (.map (some m2))]]) rfl f.Features 20 (eK f.Features (jX f)) (fun _ L => L = [(m2, cg .string (bZ (lh f)))]) _ rfl fun _ => nC fun i x _ => uv f i x m2
 ·exact zi (u := .fn 68 [.iptr [.sc (.map (some m3))]]) rfl f.Axes 3 (eK f.Axes (jO f)) (fun _ L => L = [(m3, cg .string (bZ (kL f)))]) _ rfl fun _ => nC fun i x _ => u9 f i x m3
 ·exact zj (u := .fn 71 [.iptr (bV f)]) rfl f.Regions 16 (eK f.Regions (pE f)) (fun _ _ => True) [] trivial fun _ => ct fun i x _ => qZ f i x
 ·exact zk (u := .sc (.func (.func 74) #[] #[])) (g := 74) (caps := []) rfl f.Funcs 20 (eK f.Funcs tk) (fun _ _ => True) [] trivial fun _ => ct fun i x _ => uh i x
 ·exact zl (u := .sc (.func (.func 77) #[] #[])) (g := 77) (caps := []) rfl f.Cvt 64 (eK f.Cvt wj) (fun _ _ => True) [] trivial fun _ => ct fun i x _ => wi i x
set_option maxHeartbeats 4000000 in
theorem yO (f : aN) (hA : (c5 400 f.Glyphs (dQ f)).1 = 0 → jc f.Glyphs.length (prt f)) : AC Tryz.prog 25 [cz f] [] fun c _ => c = bL (mR f) := by
 refine aC Tryz.func25 rfl Tryz.ntmps25 rfl fun B => ?_
 repeat' (first|refine a9 ?_|refine a4 ?_|refine a6 ?_|refine a7 ?_|refine a8 a5 rfl rfl ?_|refine aZ ?_|fail)
 refine aO [] _ (wu f.Glyphs) rfl rfl (Do _) rfl fun c L1 ⟨m1, hc, hL⟩ => ?_
 subst hc; subst hL
 repeat' (first|refine a9 ?_|refine a4 ?_|refine a6 ?_|refine a7 ?_|refine a8 a5 rfl rfl ?_|(apply aP; first|refine aa 4 a5 0 rfl rfl rfl rfl rfl rfl rfl rfl ?_|refine aa 4 a5 1 rfl rfl rfl rfl rfl rfl rfl rfl ?_|refine aa 4 a5 2 rfl rfl rfl rfl rfl rfl rfl rfl ?_|refine aa 5 a5 0 rfl rfl rfl rfl rfl rfl rfl rfl ?_|refine aa 5 a5 1 rfl rfl rfl rfl rfl rfl rfl rfl ?_|refine aa 5 a5 2 rfl rfl rfl rfl rfl rfl rfl rfl ?_|refine aa 6 a5 0 rfl rfl rfl rfl rfl rfl rfl rfl ?_|refine aa 6 a5 1 rfl rfl rfl rfl rfl rfl rfl rfl ?_|refine aa 6 a5 2 rfl rfl rfl rfl rfl rfl rfl rfl ?_|refine ad a5 0 rfl rfl rfl rfl rfl rfl rfl ?_|refine ad a5 1 rfl rfl rfl rfl rfl rfl rfl ?_|refine ad a5 2 rfl rfl rfl rfl rfl rfl rfl ?_|refine ad a5 3 rfl rfl rfl rfl rfl rfl rfl ?_|fail)|refine b4 a5 fun _=>?_|fail)
 refine aO [] _ (wv f.Features) rfl rfl (Do _) rfl fun c L1 ⟨m2, hc, hL⟩ => ?_
 subst hc; subst hL
 repeat' (first|refine a9 ?_|refine a4 ?_|refine a6 ?_|refine a7 ?_|refine a8 a5 rfl rfl ?_|(apply aP; first|refine aa 4 a5 0 rfl rfl rfl rfl rfl rfl rfl rfl ?_|refine aa 4 a5 1 rfl rfl rfl rfl rfl rfl rfl rfl ?_|refine aa 4 a5 2 rfl rfl rfl rfl rfl rfl rfl rfl ?_|refine aa 5 a5 0 rfl rfl rfl rfl rfl rfl rfl rfl ?_|refine aa 5 a5 1 rfl rfl rfl rfl rfl rfl rfl rfl ?_|refine aa 5 a5 2 rfl rfl rfl rfl rfl rfl rfl rfl ?_|refine aa 6 a5 0 rfl rfl rfl rfl rfl rfl rfl rfl ?_|refine aa 6 a5 1 rfl rfl rfl rfl rfl rfl rfl rfl ?_|refine aa 6 a5 2 rfl rfl rfl rfl rfl rfl rfl rfl ?_|refine ad a5 0 rfl rfl rfl rfl rfl rfl rfl ?_|refine ad a5 1 rfl rfl rfl rfl rfl rfl rfl ?_|refine ad a5 2 rfl rfl rfl rfl rfl rfl rfl ?_|refine ad a5 3 rfl rfl rfl rfl rfl rfl rfl ?_|fail)|refine b4 a5 fun _=>?_|fail)
 refine aO [] _ (ww f.Axes) rfl rfl (Do _) rfl fun c L1 ⟨m3, hc, hL⟩ => ?_
 subst hc; subst hL
 repeat' (first|refine a9 ?_|refine a6 ?_|refine a7 ?_|(apply aP; first|refine aa 4 a5 0 rfl rfl rfl rfl rfl rfl rfl rfl ?_|refine aa 4 a5 1 rfl rfl rfl rfl rfl rfl rfl rfl ?_|refine aa 4 a5 2 rfl rfl rfl rfl rfl rfl rfl rfl ?_|refine aa 5 a5 0 rfl rfl rfl rfl rfl rfl rfl rfl ?_|refine aa 5 a5 1 rfl rfl rfl rfl rfl rfl rfl rfl ?_|refine aa 5 a5 2 rfl rfl rfl rfl rfl rfl rfl rfl ?_|refine aa 6 a5 0 rfl rfl rfl rfl rfl rfl rfl rfl ?_|refine aa 6 a5 1 rfl rfl rfl rfl rfl rfl rfl rfl ?_|refine aa 6 a5 2 rfl rfl rfl rfl rfl rfl rfl rfl ?_|refine ad a5 0 rfl rfl rfl rfl rfl rfl rfl ?_|refine ad a5 1 rfl rfl rfl rfl rfl rfl rfl ?_|refine ad a5 2 rfl rfl rfl rfl rfl rfl rfl ?_|refine ad a5 3 rfl rfl rfl rfl rfl rfl rfl ?_|fail)|refine b4 a5 fun _=>?_|fail)
 refine bk 36 [(0, .v), (1, .v), (2, .v), (3, .v), (4, .v), (5, .v), (6, .v), (7, .v), (8, .v), (9, .v), (10, .v), (11, .v), (12, .v), (13, .v), (14, .v), (15, .v), (16, .v), (17, .v), (18, .v), (19, .v), (20, .v), (21, .v), (22, .v), (23, .v), (24, .v), (25, .v), (26, .v), (27, .v), (28, .v), (29, .v), (30, .v), (31, .v), (32, .v), (33, .e), (34, .v), (35, .v)] none ?_ trivial rfl (by kernel_rfl) (by kernel_rfl) (by kernel_rfl) c9 (by kernel_rfl) rfl
 repeat' (first|refine aD ?_|refine bi a5 ?_|(apply cL;refine df ?_)|fail)
 refine df (hc := ⟨AW f.Cvt 64⟩) ?_
 repeat' (first|refine aD ?_|refine lF a5 ?_|fail)
 refine iU (L := [(m3, cg .string (bZ (kL f))), (m2, cg .string (bZ (lh f))), (m1, cg .string (bZ (l7 f)))]) _ [] (gk (tj f m1 m2 m3) (rY f m1 m2 m3 hA)) rfl rfl (by rw [List.append_nil]; exact (List.reverse_perm _).symm) trivial fun c L1 hc => ?_
 rw [gS] at hc
 have hc : c = bL (mR f) := hc
 subst hc
 unfold bL
 repeat' (first|refine aD ?_|refine bi a5 ?_|fail)
 refine bz [50, 51] rfl rfl ?_
 repeat' (first|refine ah ?_|refine a6 ?_|refine a7 ?_|refine a8 a5 rfl rfl ?_)
 exact aK rfl rfl rfl rfl
end Go.Proofs.YtpmdfoaadejmkaaGreatDoor
namespace Go.Proofs.YtpmdfoaadejmkaaGreatDoor
open Go.RowKit
attribute [local irreducible] AT bh AX AO Av Kt b6 di DA cC
def C5 (c : UInt8) (m : Bool) : bb := ⟨⟨#[c]⟩, 0, m, [], [], [], [], [], []⟩
def pB : List bb := [C5 97 false, C5 98 false, C5 99 false, C5 100 false, C5 109 true]
def dP (ls : List aQ) : aN := ⟨1000, pB, [], ls, [], [], [], [], []⟩
def xz : List aQ := [⟨3, false, [⟨[], [[0], [1]], [], [2], [], 0⟩]⟩, ⟨1, false, [⟨[], [[2]], [], [3], [], 0⟩]⟩]
theorem nf (ls : List aQ) : jc (dP ls).Glyphs.length (prt (dP ls)) := by
 refine ⟨fun _ => 0, fun g h0 h1 p hp => ?_⟩
 exfalso
 have hg : g.toNat < 5 := by have : g < 5 := h1; omega
 unfold prt at hp
 obtain ⟨x, hx⟩ : ∃ x, (dP ls).Glyphs[g.toNat]? = some x := ⟨_, Bn hg⟩
 have hm : x.Parts = [] := by
  have : ∀ y ∈ pB, y.Parts = [] := by decide +kernel
  exact this x (Dw hx)
 rw [hx] at hp
 dsimp only at hp
 rw [hm] at hp
 simp at hp
theorem lS (ls : List aQ) : (c5 400 pB (dQ (dP ls))).1 = 0 := by
 have h0 : (c5 400 pB (dQ (dP []))).1 = 0 := by decide
 exact h0
theorem uV (ls : List aQ) : ia (dP ls) (fun _ => 0) (fun _ => 0) := by
 intro z h0 h1 gl hgl
 have h1 : z < 5 := h1
 have : z = 0 ∨ z = 1 ∨ z = 2 ∨ z = 3 ∨ z = 4 := by omega
 rcases this with rfl | rfl | rfl | rfl | rfl <;> (injection hgl with e; subst e; exact ⟨by decide, by decide⟩)
theorem qT {ls : List aQ} (h : (c5 40 ls (j1 (dP ls))).1 = 0) : (mR (dP ls)).1 = 0 := by
 refine f6.2 fun x hx => ?_
 have hc : (lD (dP ls)).1 = 0 := by
  rw [qn (jg (lS ls)) (nf ls) (uV ls)]
  show (lC 5 (fun _ => 0) (fun _ => 0)).1 = 0
  decide
 simp only [zQ, List.mem_cons, List.not_mem_nil, or_false] at hx
 rcases hx with rfl | rfl | rfl | rfl | rfl | rfl | rfl | rfl | rfl | rfl
 ·rfl
 ·exact lS ls
 ·exact hc
 ·rfl
 ·exact h
 ·rfl
 ·rfl
 ·rfl
 ·rfl
 ·rfl
def wQ (ls : List aQ) : Bool := decide ((c5 40 ls (j1 (dP ls))).1 = 0)
theorem iC : ∀ (l : List Int) (i : Nat) (g : Int), dK i (l ++ [g]) = dK i l ++ [⟨g, (i + l.length : Nat), 0, 0, 0, 0⟩]
 | [], i, g => rfl
 | x :: l, i, g => by
  rw [Ds, dK, iC l (i + 1) g, dK, Ds, List.length_cons, show i + 1 + l.length = i + (l.length + 1) by omega]
theorem g8 : ∀ (l : List Int) (i : Nat), (dK i l).length = l.length
 | [], _ => rfl
 | x :: l, i => by rw [dK, List.length_cons, g8 l, List.length_cons]
theorem oq (l : List Int) (hl : l.length ≤ 1000000) : bn Tryz.prog 29 [.imm 1 (aT l)] (.imm 6 ((cN l).map bN)) := by
 refine aC Tryz.func29 rfl Tryz.ntmps29 rfl fun B => ?_
 have hil := aW l
 repeat' (first|refine a9 ?_|refine a4 ?_|refine ak ?_|refine a6 ?_|refine a7 ?_|refine a8 a5 rfl rfl ?_|refine tB (d := 5) a5 fun _=>?_|fail)
 refine aL [0] (α := Nat × Option (Nat × Nat)) (fun s => [(4, aA s.1), (3, .vec s.2 6 ((cN (l.take s.1)).map bN))]) (fun s => s.1 ≤ l.length) (fun s => tok s.2 67 6 s.1) (fun s => l.length - s.1) (0, some (_, 0)) rfl ⟨rfl, rfl, trivial⟩ (Nat.zero_le _) (fun _ _ h => h) ?_
 rintro ⟨i, q⟩ hi
 dsimp only at hi ⊢
 try dsimp only [Ds, Dr, Dq, Dn]
 repeat' (first|refine a9 ?_|refine a4 ?_|refine a6 ?_|refine a7 ?_|refine a8 a5 rfl rfl ?_)
 refine ar rfl (fun h1 => ?_) (fun h1 => ?_)
 ·have hi2 : i < l.length := by have := Dz h1; omega
  obtain ⟨g, hg⟩ : ∃ z, l[i]? = some z := ⟨_, Bn hi2⟩
  have hgg := bJ hg
  have hml : ((cN (l.take i)).map bN).length = i := by unfold cN; rw [Du, g8, List.length_take]; omega
  have hsn : (cN (l.take i)).map bN ++ [bN ⟨g, (i : Nat), 0, 0, 0, 0⟩] = (cN (l.take (i + 1))).map bN := by
   rw [List.take_add_one, hg]
   unfold cN
   show _ = (dK 0 (l.take i ++ [g])).map bN
   rw [iC, List.map_append, List.length_take, Nat.min_eq_left (by omega), Nat.zero_add]
   rfl
  generalize (cN (l.take i)).map bN = A0 at *
  clear h1
  repeat' (first|refine a9 ?_|refine a4 ?_|refine ak ?_|refine ai ?_|refine a6 ?_|refine a8 a5 rfl rfl ?_|(apply aF; first|refine aE a5 ?_|refine aB a5 ?_)|refine ce a5 ?_|fail)
  refine cj a5 [] rfl rfl rfl rfl (by rw [hml, List.append_nil]) (by rw [hml]; simp; omega) (by rw [hml]; simp; omega) rfl fun q' => ?_
  repeat' (first|refine a4 ?_|refine a6 ?_|refine aH ?_|refine a7 ?_|refine a8 a5 rfl rfl ?_|(apply aU; refine aS ?_)|fail)
  refine az (i + 1, q') rfl ⟨by rw [Dv]; rfl, by dsimp only; rw [← hsn]; rfl, trivial⟩ hi2 (by dsimp only; omega) (fun _ _ h => ?_)
  rw [List.length_append, hml, List.append_nil] at h
  exact h
 ·have hi2 : i = l.length := by have := Dy h1; omega
  subst hi2
  rw [List.take_length]
  clear h1
  repeat' (first|refine a9 ?_|refine a4 ?_|refine ah ?_|refine aM ?_|refine a6 ?_|refine au ?_|refine aw ?_|refine av ?_|refine a7 ?_|refine a8 a5 rfl rfl ?_)
  refine bB (bT (t := 2) (c' := .imm 6 ((cN l).map bN)) rfl fun σ v h => VR.im h) ?_
  refine dk (List.nil_sublist _) ?_
  exact an rfl rfl rfl
theorem mT (run : List aG) (l : List Int) (hl : l.length ≤ 1000000) : bn Tryz.prog 30 [.imm 6 (run.map bN), .imm 1 (aT l)] (dx (decide (run.map aG.Glyph = l))) := by
 refine aC Tryz.func30 rfl Tryz.ntmps30 rfl fun B => ?_
 have hil := aW l
 have hrl : (run.map bN).length = run.length := Du ..
 repeat' (first|refine a9 ?_|refine a4 ?_|refine a6 ?_|refine a7 ?_|refine a8 a5 rfl rfl ?_)
 refine ar rfl (fun h1 => ?_) (fun h1 => ?_)
 ·have hne : ¬ run.length = l.length := by have := Dz h1; omega
  rw [decide_eq_false (fun e => hne (by rw [← e, Du]))]
  repeat' (first|refine a9 ?_|refine a4 ?_|refine ah ?_|refine a6 ?_|refine aq ?_|refine a7 ?_|refine a8 a5 rfl rfl ?_)
  exact an rfl rfl rfl
 ·have heq : run.length = l.length := by have := Dy h1; omega
  clear h1
  repeat' (first|refine a9 ?_|refine a4 ?_|refine ak ?_|refine ai ?_|refine a6 ?_|refine a7 ?_|refine a8 a5 rfl rfl ?_)
  refine aL [0, 1] (α := Nat) (fun i => [(5, aA i)]) (fun i => i ≤ l.length ∧ (run.map aG.Glyph).take i = l.take i) (fun _ => []) (fun i => l.length - i) 0 rfl ⟨rfl, trivial⟩ ⟨Nat.zero_le _, rfl⟩ (fun _ _ h => h) ?_
  rintro i ⟨hi, hti⟩
  try dsimp only [Ds, Dr, Dq, Dn]
  repeat' (first|refine a9 ?_|refine a4 ?_|refine a6 ?_|refine a7 ?_|refine a8 a5 rfl rfl ?_)
  refine ar rfl (fun h1 => ?_) (fun h1 => ?_)
  ·have hi2 : i < l.length := by have := Dz h1; omega
   obtain ⟨g, hg⟩ : ∃ z, l[i]? = some z := ⟨_, Bn hi2⟩
   obtain ⟨x, hx⟩ : ∃ z, run[i]? = some z := ⟨_, Bn (by omega)⟩
   have hgg := bJ hg
   have hxg : (run.map bN)[i]? = some (bN x) := by simp [hx]
   have hmg : (run.map aG.Glyph)[i]? = some x.Glyph := by simp [hx]
   clear h1
   repeat' (first|refine a9 ?_|refine ak ?_|refine ai ?_|refine a6 ?_)
   refine bk 9 [(0, .v), (1, .v), (2, .v), (3, .v), (4, .v), (5, .v), (6, .v), (7, .v), (8, .v)] none ?_ trivial rfl (by kernel_rfl) (by kernel_rfl) (by kernel_rfl) c9 (by kernel_rfl) rfl
   repeat' (first|refine aD ?_|refine bi a5 ?_|(apply cD;refine d3 a5 ?_)|fail)
   refine bz [0, 1, 5, 21, 25] rfl rfl ?_
   repeat' (first|refine a6 ?_|refine a7 ?_|refine a8 a5 rfl rfl ?_)
   refine ar rfl (fun h1 => ?_) (fun h1 => ?_)
   ·have hne : x.Glyph ≠ g := Dz h1
    rw [decide_eq_false (fun e => hne (by rw [e, hg] at hmg; cases hmg; rfl))]
    repeat' (first|refine a9 ?_|refine a4 ?_|refine ah ?_|refine a6 ?_|refine aq ?_|refine aJ ?_|refine bf ?_|refine a7 ?_|refine a8 a5 rfl rfl ?_)
    exact an rfl rfl rfl
   ·have heg : x.Glyph = g := by have h1' : ¬ x.Glyph ≠ g := Dy h1; exact Classical.not_not.1 h1'
    repeat' (first|refine a4 ?_|refine ai ?_|refine a6 ?_|refine aH ?_|refine a7 ?_|refine a8 a5 rfl rfl ?_|(apply aU; refine aS ?_)|fail)
    exact az (i + 1) rfl ⟨by rw [Dv]; rfl, trivial⟩ ⟨hi2, by rw [List.take_add_one, List.take_add_one, hti, hg, hmg, heg]⟩ (by omega) (fun _ _ h => h)
  ·have hi2 : i = l.length := by have := Dy h1; omega
   subst hi2
   rw [List.take_length, List.take_of_length_le (by rw [Du]; omega)] at hti
   rw [decide_eq_true hti]
   repeat' (first|refine a9 ?_|refine a4 ?_|refine ah ?_|refine aM ?_|refine a6 ?_|refine au ?_|refine aw ?_|refine av ?_|refine a7 ?_|refine a8 a5 rfl rfl ?_)
   exact an rfl rfl rfl
theorem ux {f : aN} (hr : (mR f).1 = 0) (ha : jc f.Glyphs.length (prt f)) : AC Tryz.prog 25 [cz f] [] fun c _ => ∃ n : Int, c = bL (0, n) :=
 AC.mono (yO f fun _ => ha) fun c L hc => ⟨(mR f).2, by rw [hc, ← hr]⟩
def xv (N : Nat) (s : List Int) : Bool := decide (s.Pairwise (· < ·)) && s.all fun g => decide (0 ≤ g) && decide (g < (N : Int))
def xn (N : Nat) (r : aV) : Bool := r.Back.all (xv N) && (r.In.all (xv N) && (r.Ahead.all (xv N) && (decide (r.Back.length ≤ 200) && (decide (r.In.length + r.Ahead.length ≤ 200) && (decide (r.Out.length ≤ 1000000) && (decide (r.Calls.length ≤ 1000000) && r.Calls.all fun c => decide (0 ≤ c.At) && decide (c.At ≤ 1000000)))))))
def tv (N : Nat) (l : aQ) : Bool := decide (l.Rules.length ≤ 6) && l.Rules.all (xn N)
theorem pJ {N : Nat} {s : List Int} (h : xv N s = true) : ii s ∧ ∀ g ∈ s, 0 ≤ g ∧ g < (N : Int) := by
 unfold xv at h
 simp only [Bool.and_eq_true, decide_eq_true_eq, List.all_eq_true] at h
 exact h
structure vv (N : Nat) (r : aV) : Prop where
 b : pU N r
 out : r.Out.length ≤ 1000000
 calls : r.Calls.length ≤ 1000000
 at_ : ∀ c ∈ r.Calls, 0 ≤ c.At ∧ c.At ≤ 1000000
theorem xo {N : Nat} {r : aV} (h : xn N r = true) : vv N r := by
 unfold xn at h
 simp only [Bool.and_eq_true, decide_eq_true_eq, List.all_eq_true] at h
 obtain ⟨h1, h2, h3, h4, h5, h6, h7, h8⟩ := h
 exact ⟨⟨fun s hs => pJ (h1 s hs), fun s hs => pJ (h2 s hs), fun s hs => pJ (h3 s hs), h4, h5⟩, h6, h7, h8⟩
structure nS (f : aN) : Prop where
 glyphs : 0 < f.Glyphs.length ∧ f.Glyphs.length ≤ 65536
 lookups : f.Lookups.length ≤ 1000000
 few : ∀ l ∈ f.Lookups, l.Rules.length ≤ 6
 rule : ∀ l ∈ f.Lookups, ∀ r ∈ l.Rules, vv f.Glyphs.length r
theorem nS.new {f : aN} (h : nS f) : zH f := by
 refine ⟨h.glyphs, h.lookups, fun l hl => ⟨h.few l hl, fun r hr => (h.rule l hl r hr).b⟩, fun l hl r hr => ?_⟩
 have hb := h.rule l hl r hr
 have hg := h.glyphs.2
 exact ⟨⟨by have := hb.b.long; omega, fun s hs => by have := dR (f0 (hb.b.in_ s hs).1) (hb.b.in_ s hs).2; omega⟩, hb.out, hb.calls⟩
theorem nS.eng {f : aN} (h : nS f) {E : ma} (hE : Br f E) : ln E := ⟨hE.auto, fun e he r hr hin => by
 have hl : e.l ∈ f.Lookups := by rw [← hE.ls]; exact List.mem_map.2 ⟨e, he, rfl⟩
 have hb := h.rule e.l hl r hr
 exact ⟨hin, hb.out, hb.calls, hb.at_⟩⟩
theorem Ba {f : aN} (h : nS f) (hr : (mR f).1 = 0) (ha : jc f.Glyphs.length (prt f)) : AC Tryz.prog 15 [cz f] [] fun c _ => ∃ E, ln E ∧ E.ls = f.Lookups ∧ E.ms = f.Glyphs.map bb.Mark ∧ c = .tup [.iptr (da E), aA 0] :=
 AC.mono (B9 f h.new (ux hr ha)) fun c L ⟨E, hE, hc⟩ => ⟨E, h.eng hE, hE.ls, hE.ms, hc⟩
theorem Bc {ls : List aQ} (h : ls.all (tv 5) = true) (hl : ls.length ≤ 1000000) : nS (dP ls) := by
 rw [List.all_eq_true] at h
 have hh : ∀ l ∈ ls, l.Rules.length ≤ 6 ∧ ∀ r ∈ l.Rules, vv 5 r := fun l hl => by
  have := h l hl
  unfold tv at this
  simp only [Bool.and_eq_true, decide_eq_true_eq, List.all_eq_true] at this
  exact ⟨this.1, fun r hr => xo (this.2 r hr)⟩
 exact ⟨⟨Nat.succ_pos _, by show (5 : Nat) ≤ 65536; omega⟩, hl, fun l hl => (hh l hl).1, fun l hl => (hh l hl).2⟩
theorem uW {ls : List aQ} (h : ls.all (tv 5) = true) (hl : ls.length ≤ 1000000) (hr : (mR (dP ls)).1 = 0) : AC Tryz.prog 15 [cz (dP ls)] [] fun c _ => ∃ E, ln E ∧ E.ls = ls ∧ E.ms = f8 ∧ c = .tup [.iptr (da E), aA 0] :=
 AC.mono (Ba (Bc h hl) hr (nf ls)) fun c L ⟨E, h1, h2, h3, h4⟩ => ⟨E, h1, h2, h3, h4⟩
theorem oC (ls : List aQ) : bn Tryz.prog 28 [.imm 3 (ls.map bo)] (cz (dP ls)) := by
 refine aC Tryz.func28 rfl Tryz.ntmps28 rfl fun B => ?_
 repeat' (first|refine a9 ?_|refine a4 ?_|refine ah ?_|refine a6 ?_|refine a7 ?_|refine a8 a5 rfl rfl ?_|(apply aP; first|refine ad a5 0 rfl rfl rfl rfl rfl rfl rfl ?_|refine ad a5 1 rfl rfl rfl rfl rfl rfl rfl ?_|refine ad a5 2 rfl rfl rfl rfl rfl rfl rfl ?_|refine ad a5 3 rfl rfl rfl rfl rfl rfl rfl ?_|fail)|refine b4 a5 fun _=>?_|refine ce a5 ?_|fail)
 refine bB (e9 0 (cs' := bV (dP ls)) rfl fun σ vs h => nU.vrs ?_ h) (yc a5 0 rfl rfl rfl rfl rfl rfl)
 repeat' first | exact dJ.refl _ | exact dJ.nil _ | exact True.intro | refine dJ.agg ?_ | refine dJ.imm ?_ | refine And.intro ?_ ?_
end Go.Proofs.YtpmdfoaadejmkaaGreatDoor
