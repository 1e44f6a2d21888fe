/-
  The program: Glyphs.
-/
import Derived.Test.YtjjpkibjffmceaaGreatM21
import Derived.Test.YtjjpkibjffmceaaGreatM13
import Derived.Test.YtjjpkibjffmceaaGreatM06
import Derived.Test.YtjjpkibjffmceaaGreatM05
import Derived.Test.YtjjpkibjffmceaaGreatM20
namespace Go.Proofs.YtjjpkibjffmceaaGreat
open Go.RowKit
attribute [local irreducible] AT bV AX AO Av Kt bC eH DA dl
open Go.MapKept
theorem rQ : ∀ {S T : List Int}, S.Nodup → (∀ z ∈ S, z ∈ T) → S.length ≤ T.length
 | [], _, _, _ => Nat.zero_le _
 | z :: S, T, h, hs => by
  have hz := hs z (List.mem_cons_self ..)
  rw [List.nodup_cons] at h
  have h1 := rQ (S := S) (T := T.erase z) h.2 fun y hy => (List.mem_erase_of_ne (fun e => h.1 (by rw [← e]; exact hy))).2 (hs y (Gt _ hy))
  have h2 := List.length_erase_of_mem hz
  have h3 := List.length_pos_of_mem hz
  rw [List.length_cons]
  omega
theorem r6 {f : aI} {S : List Int} {hs : List iN} (hS : co f.Glyphs.length S) : ∀ z ∈ S, z ∈ eJ f S hs := by
 intro z hz
 have := hS.dom z hz
 refine fV.2 (Or.inr ⟨List.mem_append.2 (Or.inl (List.mem_flatMap.2 ⟨z, hz, List.mem_cons_self ..⟩)), this.1, this.2⟩)
def gH (f : aI) : Nat → List Int → List iN → List Int
 | 0, S, _ => S
 | k + 1, S, hs => if (eJ f S hs).length = S.length then S else gH f k (eJ f S hs) (hs.map (adv f S))
def wx (rs : List Int) (cs : List ep) : List Int := (cs.filter fun c => decide (c.Rune ∈ rs)).map ep.Glyph
def dQ (f : aI) (rs : List Int) : List Int := da f.Glyphs.length [] (0 :: wx rs f.Chars)
noncomputable def gY (f : aI) (rs : List Int) (fs : List ByteArray) : List Int := gH f (f.Glyphs.length + 1) (dQ f rs) (eF f (da f.Lookups.length [] (reachN f fs)))
def qi (z : Int) : Bool := decide (z < 0 ∨ z > 1114111)
def EW : AV := .sc (.slice none 0 0)
noncomputable def lX (f : aI) (rs : List Int) (fs : List ByteArray) : AV := if (kR f).1 = 0 then (if rs.any qi = true then .tup [EW, aM 80] else .tup [.imm 1 (aT (dY (gY f rs fs))), aM 0]) else .tup [EW, aM 1]
def o9 (rs : List Int) (fs : List ByteArray) : AV := .agg [.imm 1 (aT rs), .imm 1 (ey fs)]
theorem wy (rs : List Int) {cs : List ep} {i : Nat} {c : ep} (h : cs[i]? = some c) : wx rs (cs.take (i + 1)) = wx rs (cs.take i) ++ if decide (c.Rune ∈ rs) = true then [c.Glyph] else [] := by
 unfold wx
 rw [List.take_add_one, h, Option.toList_some, List.filter_append, List.map_append]
 congr 1
 by_cases e : c.Rune ∈ rs <;> simp [e]
theorem mI.adv {f : aI} {S : List Int} {hs : List iN} (h : mI hs) : mI (hs.map (adv f S)) := by
 intro x hx
 obtain ⟨y, hy, rfl⟩ := List.mem_map.1 hx
 exact h y hy
structure GS where
 k : Nat
 p : Nat
 b : Nat
 ka : Option (Nat × Nat)
 S : List Int
 hq : HQ
def Fv (f : aI) (T : List Int) (x : GS) : Prop := f.Glyphs.length < x.S.length + x.k ∧ co f.Glyphs.length x.S ∧ mI (x.hq.map (·.2)) ∧ x.hq.length ≤ 100000000 ∧ gH f x.k x.S (x.hq.map (·.2)) = T
def Fd (p b n : Nat) (k : Option (Nat × Nat)) (S : List Int) : Nat × AB := (p, .box [.sc (.slice (some ⟨b, 0, none⟩) n n), .vec k 1 (aT S)] 131)
def FG (b n : Nat) (k : Option (Nat × Nat)) (S : List Int) : AL := (b, .box (gj S n) 4) :: tok k 124 1 (aT S).length
theorem tR {p b n : Nat} {k : Option (Nat × Nat)} {S : List Int} : bM p b n k S = Fd p b n k S :: FG b n k S := rfl
theorem CS {f : aI} {gp : Nat} {kg : Option (Nat × Nat)} {hq : HQ} {p b p' b' n : Nat} {k k' : Option (Nat × Nat)} {S S' : List Int} : (fS f gp kg hq (bM p b n k S ++ bM p' b' n k' S')).Perm (Fd p' b' n k' S' :: Fd p b n k S :: (FG b' n k' S' ++ (FG b n k S ++ fS f gp kg hq []))) := by
 have h1 := tc (f := f) (gp := gp) (k := kg) (hq := hq) (A := []) (X := bM p b n k S) (M := bM p' b' n k' S')
 have h2 := tc (f := f) (gp := gp) (k := kg) (hq := hq) (A := []) (X := bM p' b' n k' S') (M := [])
 simp only [Gq, List.append_nil] at h1 h2
 refine h1.trans ((List.Perm.append_left _ h2).trans ((List.perm_append_comm_assoc _ _ _).trans ?_))
 rw [tR, tR]
 refine List.Perm.cons _ ?_
 rw [Gr]
 exact List.perm_middle
set_option maxHeartbeats 4000000 in
theorem u3 (f : aI) (hs : er f) (hR : bQ Tryz.prog 41 [ct f] (cO (decide ((kR f).1 = 0)))) (rs : List Int) (fs : List ByteArray) : bQ Tryz.prog 12 [ct f, o9 rs fs] (lX f rs fs) := by
 refine aQ Tryz.func12 rfl Tryz.ntmps12 rfl fun B => ?_
 have hGl := hs.glyphs
 unfold o9
 repeat' (first|refine ae ?_|refine a6 ?_|refine a7 ?_|refine a8 ?_|refine aa a2 rfl rfl ?_|refine bg ?_|fail)
 refine bc (hc := ⟨hR⟩) ?_
 repeat' (first|refine a7 ?_|refine a8 ?_|refine aa a2 rfl rfl ?_)
 unfold lX
 refine aw rfl (fun h => ?_) (fun h => ?_)
 ·have h : ¬ (kR f).1 = 0 := by simpa using h
  rw [if_neg h]
  repeat' (first|refine ae ?_|refine a6 ?_|refine aq ?_|refine a7 ?_|refine aE ?_|refine a8 ?_|refine aa a2 rfl rfl ?_)
  exact b9 rfl rfl rfl rfl
 have h : (kR f).1 = 0 := by simpa using h
 rw [if_pos h]
 clear h
 repeat' (first|refine ae ?_|refine a6 ?_|refine ar ?_|refine a7 ?_)
 refine eZ KJ fun m => ?_
 rw [pJ]
 repeat' (first|refine ae ?_|refine a6 ?_|refine ak ?_|refine a7 ?_|refine a8 ?_|refine aa a2 rfl rfl ?_)
 refine cG 19 rfl rfl fun hlen => ?_
 rw [aR] at hlen
 refine aJ [2, 3, 6, 19, 20] (α := Nat) (fun i => [(21, aM i)]) (fun i => i ≤ rs.length ∧ (rs.take i).any qi = false) (fun i => [(m, cq KJ (ev (rs.take i)))]) (fun i => rs.length - i) 0 rfl ⟨rfl, trivial⟩ ⟨Nat.zero_le _, rfl⟩ (fun _ _ h => h) ?_
 rintro i ⟨hi, ha⟩
 try dsimp only [Gr, Gq, Gp, Gj]
 repeat' (first|refine ae ?_|refine a6 ?_|refine a7 ?_|refine a8 ?_|refine aa a2 rfl rfl ?_)
 refine aw rfl (fun h => ?_) (fun h => ?_)
 ·have hil : i < rs.length := by have := Gz h; simp [aR] at this; omega
  obtain ⟨z, hz⟩ : ∃ z, rs[i]? = some z := ⟨_, Ee hil⟩
  have hzg := bW hz
  repeat' (first|refine ae ?_|refine a6 ?_|refine ak ?_|refine ar ?_|refine a7 ?_|refine a8 ?_|refine aa a2 rfl rfl ?_|(apply aX; first|refine aW a2 ?_|refine aP a2 ?_)|fail)
  refine dq (t := 30) [2, 3, 6, 8, 19, 20, 21] (z < 0 ∨ z > 1114111) rfl (fun Q' K => ?_) ?_
  ·repeat' (first|refine a8 ?_|refine aa a2 rfl rfl ?_|refine aF rfl rfl ?_|refine aL rfl rfl rfl rfl ?_|refine bf rfl rfl rfl (fun _ => ?_) (fun _ => ?_))
   all_goals exact K _ _ rfl rfl (by clear K; simp_all <;> omega)
  repeat' (first|refine a7 ?_)
  refine aw rfl (fun h2 => ?_) (fun h2 => ?_)
  ·have : rs.any qi = true := List.any_eq_true.2 ⟨z, Gx hz, h2⟩
   rw [if_pos this]
   repeat' (first|refine ae ?_|refine a6 ?_|refine aq ?_|refine a7 ?_|refine aE ?_|refine aS ?_|refine bJ ?_|refine a8 ?_|refine aa a2 rfl rfl ?_)
   exact b9 rfl rfl rfl rfl
  repeat' (first|refine a6 ?_|refine ar ?_|refine a7 ?_|refine aa a2 rfl rfl ?_)
  refine dP 0 (ev (rs.take (i + 1))) Tryz.underlying120 Tryz.underlying3 rfl rfl rfl rfl rfl (pI hz) (nY hz) ?_
  repeat' (first|refine a6 ?_|refine a7 ?_|refine aH ?_|refine a8 ?_|refine aa a2 rfl rfl ?_|(apply aV; refine aU ?_)|fail)
  refine aB (i + 1) rfl ⟨by rw [Gw]; rfl, trivial⟩ ⟨by omega, ?_⟩ (by omega) (fun _ _ h => h)
  rw [List.take_add_one, hz, List.any_append, ha]
  have : qi z = false := h2
  simp [this]
 have hil : i = rs.length := by have := Gy h; simp [aR] at this; omega
 subst hil
 rw [List.take_length] at ha
 rw [List.take_length, if_neg (by rw [ha]; exact fun e => by cases e)]
 clear h hi ha hlen
 repeat' (first|refine ae ?_|refine a6 ?_|refine aO ?_|refine a7 ?_|refine au ?_|refine ay ?_|refine av ?_|refine aa a2 rfl rfl ?_|refine bG a2 ?_|fail)
 refine bb [] _ (Ao f hs [0]) rfl rfl (Gm _) rfl fun c L1 ⟨p, b, ka, hc, hL⟩ => ?_
 subst hc; subst hL
 refine aN (aK List.perm_append_comm) ?_
 repeat' (first|refine ae ?_|refine a6 ?_|refine ak ?_|refine a7 ?_|refine a8 ?_|refine aa a2 rfl rfl ?_)
 refine cG 38 rfl rfl fun hcl => ?_
 rw [Gu] at hcl
 refine aJ [2, 3, 6, 9, 38, 39] (α := Nat × Option (Nat × Nat)) (fun x => [(40, aM x.1)]) (fun x => x.1 ≤ f.Chars.length) (fun x => [(m, cq KJ (ev rs))] ++ bM p b f.Glyphs.length x.2 (dQ { f with Chars := f.Chars.take x.1 } rs)) (fun x => f.Chars.length - x.1) (0, ka) rfl ⟨rfl, trivial⟩ (Nat.zero_le _) (fun _ _ h => h) ?_
 rintro ⟨i, k⟩ hi
 dsimp only at hi ⊢
 have hok : co f.Glyphs.length (dQ { f with Chars := f.Chars.take i } rs) := co.nil.add _
 try dsimp only [Gr, Gq, Gp, Gj]
 repeat' (first|refine ae ?_|refine a6 ?_|refine a7 ?_|refine a8 ?_|refine aa a2 rfl rfl ?_)
 refine aw rfl (fun h => ?_) (fun h => ?_)
 ·have hil : i < f.Chars.length := by have := Gz h; simp at this; omega
  obtain ⟨t, ht⟩ : ∃ z, f.Chars[i]? = some z := ⟨_, Ee hil⟩
  have htg := bn (c := cw) ht
  have had := wy rs ht
  repeat' (first|refine ae ?_|refine a6 ?_|refine ak ?_|refine ar ?_|refine a7 ?_|refine a8 ?_|refine aa a2 rfl rfl ?_|(apply aX; first|refine aW a2 ?_|refine aP a2 ?_)|(apply aG; first|refine ah 11 a2 0 rfl rfl rfl rfl rfl rfl rfl rfl ?_|refine ah 11 a2 1 rfl rfl rfl rfl rfl rfl rfl rfl ?_|refine ah 11 a2 2 rfl rfl rfl rfl rfl rfl rfl rfl ?_|refine ai a2 0 rfl rfl rfl rfl rfl rfl rfl ?_|refine ai a2 1 rfl rfl rfl rfl rfl rfl rfl ?_|refine ai a2 2 rfl rfl rfl rfl rfl rfl rfl ?_|refine ai a2 3 rfl rfl rfl rfl rfl rfl rfl ?_|fail)|refine b7 a2 fun _=>?_|fail)
  refine tu 0 (.bool false) Tryz.underlying120 Tryz.underlying3 rfl rfl rfl rfl (by kernel_rfl) rfl ?_
  have hM : ((ev rs (.int .i64 t.Rune)).getD (.sc (.bool false))) = cO (decide (t.Rune ∈ rs)) := by
   unfold ev
   simp only
   by_cases e : t.Rune ∈ rs <;> simp [e]
  rw [hM]
  repeat' (first|refine a7 ?_|refine a8 ?_)
  refine aw rfl (fun h2 => ?_) (fun h2 => ?_)
  ·rw [if_pos h2] at had
   repeat' (first|refine a6 ?_|refine aa a2 rfl rfl ?_|refine bG a2 ?_|fail)
   refine bb (bM p b f.Glyphs.length k (dQ { f with Chars := f.Chars.take i } rs)) [(m, cq KJ (ev rs))] (lF p b f.Glyphs.length k _ [t.Glyph] (by omega) hok) rfl rfl (List.perm_append_comm (l₁ := [(m, cq KJ (ev rs))])) rfl fun c L1 ⟨k', hL1⟩ => ?_
   subst hL1
   have hst : da f.Glyphs.length (dQ { f with Chars := f.Chars.take i } rs) [t.Glyph] = dQ { f with Chars := f.Chars.take (i + 1) } rs := by
    unfold dQ
    dsimp only
    rw [had, eW, Gr]
   rw [hst]
   refine aN (aK List.perm_append_comm) ?_
   repeat' (first|refine a6 ?_|refine a7 ?_|refine aH ?_|refine a8 ?_|refine aa a2 rfl rfl ?_|(apply aV; refine aU ?_)|fail)
   exact aB (i + 1, k') rfl ⟨by rw [Gw]; rfl, trivial⟩ (by dsimp only; omega) (by dsimp only; omega) (fun _ _ h => h)
  ·rw [h2] at had
   simp only [Bool.false_eq_true, if_false, List.append_nil] at had
   have hst : dQ { f with Chars := f.Chars.take (i + 1) } rs = dQ { f with Chars := f.Chars.take i } rs := by
    unfold dQ
    dsimp only
    rw [had]
   repeat' (first|refine a6 ?_|refine ar ?_|refine a7 ?_|refine aH ?_|refine a8 ?_|refine aa a2 rfl rfl ?_|(apply aV; refine aU ?_)|fail)
   exact aB (i + 1, k) rfl ⟨by rw [Gw]; rfl, trivial⟩ (by dsimp only; omega) (by dsimp only; omega) (fun _ _ h => by dsimp only; rw [hst]; exact h)
 have hil : i = f.Chars.length := by have := Gy h; simp at this; omega
 subst hil
 rw [List.take_length] at hok ⊢
 clear h hi
 refine bI (bY (List.sublist_cons_self ..)) ?_
 haveI : AD Tryz.prog 13 [ct f, .imm 1 (ey fs)] (.imm 1 (aT (reachN f fs))) := ⟨mc f fs hs⟩
 repeat' (first|refine ae ?_|refine aO ?_|refine a7 ?_|refine au ?_|refine ay ?_|refine av ?_)
 refine bt 5 [(0, .v), (1, .v), (2, .v), (3, .v), (4, .v)] none ?_ trivial rfl (by kernel_rfl) (by kernel_rfl) (by kernel_rfl) mixed (by kernel_rfl) rfl
 repeat' (first|refine aC ?_|refine aZ a2 ?_|(apply bB;refine bP ?_)|fail)
 refine bq [9, 54, 58] rfl rfl ?_
 repeat' (first|fail)
 refine bb [] (bM p b f.Glyphs.length k (dQ f rs)) (rR f hs (reachN f fs)) rfl rfl (Gm _) rfl fun c L1 ⟨gp, kg, hq, hc, hL, hh⟩ => ?_
 subst hc; subst hL
 have hok : co f.Glyphs.length (dQ f rs) := hok
 have hg0 : fS f gp kg hq [] ++ bM p b f.Glyphs.length k (dQ f rs) = fS f gp kg hq (bM p b f.Glyphs.length k (dQ f rs)) := by unfold fS; simp
 rw [hg0]
 repeat' (first|refine ak ?_|refine a7 ?_|refine a8 ?_|refine aa a2 rfl rfl ?_)
 refine aJ [12] (α := GS) (fun x => [(9, fJ x.p)]) (Fv f (gY f rs fs)) (fun x => fS f gp kg x.hq (bM x.p x.b f.Glyphs.length x.ka x.S)) (fun x => x.k) ⟨f.Glyphs.length + 1, p, b, k, dQ f rs, hq⟩ rfl ⟨rfl, trivial⟩ ⟨by dsimp only; omega, hok, by dsimp only; rw [hh]; exact BU hs _, DF hs hh, by dsimp only; rw [hh]; rfl⟩ (fun _ _ h => h) ?_
 clear hh hg0 hok
 rintro ⟨r, p, b, ka, S, hq⟩ ⟨h1, hS, h3, h4, h5⟩
 dsimp only at h1 hS h3 h4 h5 ⊢
 have td := hS.len
 obtain ⟨r, rfl⟩ : ∃ r', r = r' + 1 := ⟨r - 1, by omega⟩
 have hS' := pU f S (hq.map (·.2))
 have hS'l := hS'.len
 try dsimp only [Gr, Gq, Gp, Gj]
 repeat' (first|refine ae ?_|refine a6 ?_|refine ak ?_|refine aa a2 rfl rfl ?_)
 refine bb (fS f gp kg hq (bM p b f.Glyphs.length ka S)) [] (Cu f hs gp p b kg ka hq S hS h3 h4) rfl rfl (by rw [List.append_nil]) rfl fun c L1 ⟨np, nb, kn, hq', hc, hL, h6, h7⟩ => ?_
 subst hc; subst hL
 rw [List.append_nil]
 refine aN (aK CS) ?_
 unfold Fd
 repeat' (first|refine ae ?_|refine a7 ?_|refine a8 ?_|refine aa a2 rfl rfl ?_)
 refine bt 10 [(0, .v), (1, .v), (2, .v), (3, .l), (4, .v), (5, .v), (6, .v), (7, .v), (8, .l), (9, .v)] none ?_ trivial rfl (by kernel_rfl) (by kernel_rfl) (by kernel_rfl) mixed (by kernel_rfl) rfl
 repeat' (first|refine aC ?_|refine aZ a2 ?_|refine df a2 0 rfl rfl rfl rfl (by first|trivial|rfl) ?_|refine df a2 1 rfl rfl rfl rfl (by first|trivial|rfl) ?_)
 refine bq [9, 12, 13, 67, 72] rfl rfl ?_
 repeat' (first|refine a7 ?_|refine a8 ?_|refine aa a2 rfl rfl ?_)
 refine bI (aK (L' := fS f gp kg hq' (bM p b f.Glyphs.length ka S ++ bM np nb f.Glyphs.length kn (eJ f S (hq.map (·.2))))) CS.symm) ?_
 refine aw rfl (fun h2 => ?_) (fun h2 => ?_)
 ·have he : (eJ f S (hq.map (·.2))).length = S.length := by
   simp [aR] at h2
   exact Int.ofNat.inj h2
  rw [gH, if_pos he] at h5
  repeat' (first|refine ae ?_|refine a6 ?_|refine aa a2 rfl rfl ?_)
  refine bb (bM p b f.Glyphs.length ka S) (fS f gp kg hq' (bM np nb f.Glyphs.length kn (eJ f S (hq.map (·.2))))) (A9 p b f.Glyphs.length ka S (by omega)) rfl rfl (by simpa using tc (f := f) (gp := gp) (k := kg) (hq := hq') (A := []) (X := bM p b f.Glyphs.length ka S) (M := bM np nb f.Glyphs.length kn (eJ f S (hq.map (·.2))))) rfl fun c L1 ⟨hc, hL⟩ => ?_
  subst hc; subst hL
  rw [h5]
  repeat' (first|refine aq ?_|refine a7 ?_|refine aE ?_|refine aS ?_|refine bJ ?_|refine a8 ?_|refine aa a2 rfl rfl ?_)
  exact b9 rfl rfl rfl rfl
 ·have he : ¬ (eJ f S (hq.map (·.2))).length = S.length := by
   simp [aR] at h2
   exact fun e => h2 (congrArg Int.ofNat e)
  rw [gH, if_neg he] at h5
  have hle := rQ hS.nodup (r6 (hs := hq.map (·.2)) hS)
  repeat' (first|refine a6 ?_|refine ar ?_|refine a7 ?_|refine aH ?_|refine a8 ?_|refine aa a2 rfl rfl ?_)
  refine aB ⟨r, np, nb, kn, eJ f S (hq.map (·.2)), hq'⟩ rfl ⟨rfl, trivial⟩ ⟨by dsimp only; omega, hS', ?_, ?_, ?_⟩ (by dsimp only; omega) (fun _ _ hw => ?_)
  ·dsimp only
   rw [h7]
   exact h3.adv
  ·dsimp only
   have := congrArg List.length h6
   simp only [Gu] at this
   omega
  ·dsimp only
   rw [h7]
   exact h5
  ·dsimp only
   refine hw.sublist ?_
   unfold fS
   exact ((((List.sublist_append_right _ _).append_left _).append_left _).cons_cons _)
theorem qr (f : aI) (hs : er f) (hA : (cr 400 f.Glyphs (ei f)).1 = 0 → jV f.Glyphs.length (prt f)) (rs : List Int) (fs : List ByteArray) : bQ Tryz.prog 12 [ct f, o9 rs fs] (lX f rs fs) := u3 f hs (A8 f hA) rs fs
end Go.Proofs.YtjjpkibjffmceaaGreat
namespace Go.Proofs.YtjjpkibjffmceaaGreat
open Go.RowKit
attribute [local irreducible] AT bV AX AO Av Kt bC eH DA dl
def eb (a b : AV) : Prop := ∀ σ v, VR σ a v → VR σ b v
def nD : List AV → List AV → Prop
 | [], [] => True
 | a :: r, b :: q => eb a b ∧ nD r q
 | _, _ => False
def Eg : List (List AV) → List (List AV) → Prop
 | [], [] => True
 | a :: r, b :: q => nD a b ∧ Eg r q
 | _, _ => False
theorem eb.refl (a : AV) : eb a a := fun _ _ h => h
theorem eb.nil (n : Nat) : eb (.sc (.slice none 0 0)) (.imm n []) := fun _ _ h => fL n h
theorem nD.len : ∀ {a b : List AV}, nD a b → a.length = b.length
 | [], [], _ => rfl
 | _ :: _, _ :: _, h => by simp [h.2.len]
theorem nD.at : ∀ {a b : List AV}, nD a b → ∀ (i : Nat) c c', a[i]? = some c → b[i]? = some c' → eb c c'
 | x :: a, y :: b, h, 0, c, c', h1, h2 => by
  simp at h1 h2
  subst h1; subst h2
  exact h.1
 | _ :: a, _ :: b, h, i + 1, c, c', h1, h2 => h.2.at i c c' (by simpa using h1) (by simpa using h2)
theorem nD.vrs {a b : List AV} (h : nD a b) {σ : cD} {vs : List Value} (hv : dI σ a vs) : dI σ b vs := wj h.len (fun i c c' h1 h2 => h.at i c c' h1 h2 σ) hv
theorem Eg.len : ∀ {a b : List (List AV)}, Eg a b → a.length = b.length
 | [], [], _ => rfl
 | _ :: _, _ :: _, h => by simp [h.2.len]
theorem Eg.at : ∀ {a b : List (List AV)}, Eg a b → ∀ (i : Nat) c c', a[i]? = some c → b[i]? = some c' → nD c c'
 | x :: a, y :: b, h, 0, c, c', h1, h2 => by
  simp at h1 h2
  subst h1; subst h2
  exact h.1
 | _ :: a, _ :: b, h, i + 1, c, c', h1, h2 => h.2.at i c c' (by simpa using h1) (by simpa using h2)
theorem eb.agg {a b : List AV} (h : nD a b) : eb (.agg a) (.agg b) := fun σ v hv => by
 cases hv with
 | agg _ vs hl hx h1 => exact .agg _ _ (h.len ▸ hl) (fun i c u hc hu => (h.vrs (σ := σ) ⟨hl, hx⟩).2 i c u hc hu) h1
theorem eb.imm {s : Nat} {a b : List (List AV)} (h : Eg a b) : eb (.imm s a) (.imm s b) := fun σ v hv => by
 cases hv with
 | imm _ _ A cap hc hm hs ha hx hh =>
  have hl := h.len
  rw [hl]
  have get : ∀ {i : Nat} {e : List AV}, b[i]? = some e → ∃ e', a[i]? = some e' ∧ nD e' e := fun {i e} he => by
   have hi : i < a.length := by rw [hl]; exact (Gn he).1
   exact ⟨_, Ee hi, h.at i _ _ (Ee hi) he⟩
  refine .imm s b A cap (hl ▸ hc) hm (fun e he => ?_) (fun hb => ha fun e => hb (List.eq_nil_of_length_eq_zero (by rw [← hl, e]; rfl))) (fun i b' off j hA hi hj => hx i b' off j hA (hl ▸ hi) hj) fun i e b' off j c u he hA hj hu => ?_
  ·obtain ⟨i, hi⟩ := List.mem_iff_getElem?.1 he
   obtain ⟨e', h1, h2⟩ := get hi
   rw [← h2.len]
   exact hs _ (Gx h1)
  ·obtain ⟨e', h1, h2⟩ := get he
   have hj' : j < e'.length := by rw [h2.len]; exact (Gn hj).1
   exact h2.at j _ c (Ee hj') hj σ u (hh i e' b' off j _ u h1 hA (Ee hj') hu)
section
variable {P : Program} {nt : Nat} {fr : cg} {B : Bs} {L : AL}
theorem rZ {fn : Func} {t : Tmp} {e : TypeId} {b k : Nat} {cs : List Value} {tmps : Array Value} {w : World} [CY P e k] (h : fn.results = #[.cell t e]) (ht : tmps.getD t undef = .pointer (some ⟨b, 0, none⟩)) (hl : cs.length = k) (hc : ∀ j v, cs[j]? = some v → w.cell? ⟨b, 0 + j, none⟩ = some v) :
  (results fn tmps).run P w = .ok (.agg cs.toArray) w := by
 rw [Array.getD_eq_getD_getElem?] at ht
 simp [results, h, ht, asAddr, gd hl hc]
end
end Go.Proofs.YtjjpkibjffmceaaGreat
namespace Go.Proofs.YtjjpkibjffmceaaGreat
open Go.RowKit
attribute [local irreducible] AT bV AX AO Av Kt bC eH DA dl
def zm (name : ByteArray) (mark : Bool) (parts : List cR) : bo := ⟨name, 0, mark, [], [], parts, [], [], []⟩
def rH : aI := ⟨1000, [zm ⟨#[46, 110, 111, 116, 100, 101, 102]⟩ false [], zm ⟨#[97]⟩ false [], zm ⟨#[98]⟩ false [], zm ⟨#[99]⟩ false [⟨1, 0, 0⟩], zm ⟨#[109]⟩ true []], [⟨1, 1⟩, ⟨2, 2⟩, ⟨3, 3⟩],
 [⟨3, false, [⟨[], [[1], [2]], [], [3], [], 0⟩]⟩, ⟨4, false, [⟨[], [[1]], [], [], [⟨0, 0⟩], 0⟩]⟩], [⟨⟨#[108, 105, 103, 97]⟩, [0]⟩, ⟨⟨#[99, 97, 108, 116]⟩, [1]⟩], [], [], [], []⟩
section
variable {P : Program} {tt : TT} {nt : Nat} {fr : cg} {B : Bs} {L L' : AL}
theorem iH (ok : fa P tt) (i : Nat) (L' : AL) {fn : Func} {Post : AV → AL → Prop} {t : Tmp} {e e' : TypeId} {b k : Nat} {cs : List AV} (hr : fn.results = #[.cell t e]) (hk : ED tt e = some k) (hv : ci fr t = some (.sc (.pointer (some ⟨b, 0, none⟩)))) (hL : L[i]? = some (b, .box cs e')) (hl : Nat.beq cs.length k = true) (hs : L'.Sublist L) (h : Post (.agg cs) L') :
  AX P .ret (bodyPost P fn (jk B Post)) nt [] fr B L := by
 unfold AX
 intro σ a w ha hw
 haveI := dm ok hk
 obtain ⟨vs, hb, hs', h1⟩ := hw.boxCell hL
 have hl := Nat.eq_of_beq_eq_true hl
 refine ⟨ha.defers, _, rZ (cs := vs) hr (ha.look t _ hv).sc_inv (hs'.1.symm.trans hl) (fun j v hj => by rw [dW hb, Nat.zero_add]; simpa using hj), _, σ, _, L', rfl, .agg cs vs hs'.1 hs'.2 h1, hw.sublist hs, h⟩
theorem eb.im {k : Option (Nat × Nat)} {sz : Nat} {l : List (List AV)} : eb (.vec k sz l) (.imm sz l) := fun _ _ h => VR.im h
theorem eb.vecN (n : Nat) : eb (.sc (.slice none 0 0)) (.vec none n []) := fun _ _ h => cy n h
end
section
variable {P : Program} {r : Option Nat} {Q : Exit → Act → World → Prop} {nt : Nat} {D : List Deferred} {fr fr1 : cg} {B : Bs} {L : AL}
theorem rj {A C : Code} (ks : List Nat) (L1 : AL) (hk : gF fr ks = some fr1) (hA : ∀ Q', (∀ fr', gF fr' ks = some fr1 → AX P .normal Q' nt D fr' B L1) → AT P r A Q' nt D fr B L) (hB : AT P r C Q nt D fr1 B L1) : AT P r A (Kt P r C Q) nt D fr B L :=
 hA _ fun _ h => a7 (B8 ks h hB)
end
theorem eU {A T R : AL} : (A ++ (T ++ R)).Perm (T ++ (A ++ R)) := List.perm_append_comm_assoc ..
theorem F0 {A T1 T R : AL} : (A ++ (T1 ++ (T ++ R))).Perm (T ++ (A ++ (T1 ++ R))) := by
 have := eU (A := A ++ T1) (T := T) (R := R)
 simpa [List.append_assoc] using this
end Go.Proofs.YtjjpkibjffmceaaGreat
