/-
  The program: Glyphs.
-/
import Derived.Test.YtjjpkibjffmceaaGreatM21
import Derived.Test.YtjjpkibjffmceaaGreatM13
import Derived.Test.YtjjpkibjffmceaaGreatM06
import Derived.Test.YtjjpkibjffmceaaGreatM05
import Derived.Test.YtjjpkibjffmceaaGreatM20
namespace Go.Proofs.YtjjpkibjffmceaaGreat
open Go.RowKit
attribute [local irreducible] AT bT AX AO Av Kt bk ej DA cX
open Go.MapKept
theorem rh : ∀ {S T : List Int}, S.Nodup → (∀ z ∈ S, z ∈ T) → S.length ≤ T.length
 | [], _, _, _ => Nat.zero_le _
 | z :: S, T, h, hs => by
  have hz := hs z (List.mem_cons_self ..)
  rw [List.nodup_cons] at h
  have h1 := rh (S := S) (T := T.erase z) h.2 fun y hy => (List.mem_erase_of_ne (fun e => h.1 (by rw [← e]; exact hy))).2 (hs y (Gt _ hy))
  have h2 := List.length_erase_of_mem hz
  have h3 := List.length_pos_of_mem hz
  rw [List.length_cons]
  omega
theorem qz {f : aJ} {S : List Int} {hs : List ix} (hS : ce f.Glyphs.length S) : ∀ z ∈ S, z ∈ ew f S hs := by
 intro z hz
 have := hS.dom z hz
 refine eX.2 (Or.inr ⟨List.mem_append.2 (Or.inl (List.mem_flatMap.2 ⟨z, hz, List.mem_cons_self ..⟩)), this.1, this.2⟩)
def gr (f : aJ) : Nat → List Int → List ix → List Int
 | 0, S, _ => S
 | k + 1, S, hs => if (ew f S hs).length = S.length then S else gr f k (ew f S hs) (hs.map (adv f S))
def xJ (rs : List Int) (cs : List dO) : List Int := (cs.filter fun c => decide (c.Rune ∈ rs)).map dO.Glyph
def eu (f : aJ) (rs : List Int) : List Int := cS f.Glyphs.length [] (0 :: xJ rs f.Chars)
noncomputable def oG (f : aJ) (rs : List Int) (fs : List ByteArray) : List Int := gr f (f.Glyphs.length + 1) (eu f rs) (er f (cS f.Lookups.length [] (dx f fs)))
def rX (z : Int) : Bool := decide (z < 0 ∨ z > 1114111)
def Eg : AV := .sc (.slice none 0 0)
noncomputable def lI (f : aJ) (rs : List Int) (fs : List ByteArray) : AV := if (kE f).1 = 0 then (if rs.any rX = true then .tup [Eg, aM 80] else .tup [.imm 1 (aU (dM (oG f rs fs))), aM 0]) else .tup [Eg, aM 1]
def nD (rs : List Int) (fs : List ByteArray) : AV := .agg [.imm 1 (aU rs), .imm 1 (gi fs)]
theorem vO (rs : List Int) {cs : List dO} {i : Nat} {c : dO} (h : cs[i]? = some c) : xJ rs (cs.take (i + 1)) = xJ rs (cs.take i) ++ if decide (c.Rune ∈ rs) = true then [c.Glyph] else [] := by
 unfold xJ
 rw [List.take_add_one, h, Option.toList_some, List.filter_append, List.map_append]
 congr 1
 by_cases e : c.Rune ∈ rs <;> simp [e]
theorem mj.adv {f : aJ} {S : List Int} {hs : List ix} (h : mj hs) : mj (hs.map (adv f S)) := by
 intro x hx
 obtain ⟨y, hy, rfl⟩ := List.mem_map.1 hx
 exact h y hy
structure GS where
 k : Nat
 p : Nat
 b : Nat
 ka : Option (Nat × Nat)
 S : List Int
 hq : HQ
def EP (f : aJ) (T : List Int) (x : GS) : Prop := f.Glyphs.length < x.S.length + x.k ∧ ce f.Glyphs.length x.S ∧ mj (x.hq.map (·.2)) ∧ x.hq.length ≤ 100000000 ∧ gr f x.k x.S (x.hq.map (·.2)) = T
def EC (p b n : Nat) (k : Option (Nat × Nat)) (S : List Int) : Nat × AB := (p, .box [.sc (.slice (some ⟨b, 0, none⟩) n n), .vec k 1 (aU S)] 131)
def F0 (b n : Nat) (k : Option (Nat × Nat)) (S : List Int) : AL := (b, .box (fV S n) 4) :: tok k 124 1 (aU S).length
theorem t7 {p b n : Nat} {k : Option (Nat × Nat)} {S : List Int} : bJ p b n k S = EC p b n k S :: F0 b n k S := rfl
theorem C0 {f : aJ} {gp : Nat} {kg : Option (Nat × Nat)} {hq : HQ} {p b p' b' n : Nat} {k k' : Option (Nat × Nat)} {S S' : List Int} : (fE f gp kg hq (bJ p b n k S ++ bJ p' b' n k' S')).Perm (EC p' b' n k' S' :: EC p b n k S :: (F0 b' n k' S' ++ (F0 b n k S ++ fE f gp kg hq []))) := by
 have h1 := sq (f := f) (gp := gp) (k := kg) (hq := hq) (A := []) (X := bJ p b n k S) (M := bJ p' b' n k' S')
 have h2 := sq (f := f) (gp := gp) (k := kg) (hq := hq) (A := []) (X := bJ p' b' n k' S') (M := [])
 simp only [Gq, List.append_nil] at h1 h2
 refine h1.trans ((List.Perm.append_left _ h2).trans ((List.perm_append_comm_assoc _ _ _).trans ?_))
 rw [t7, t7]
 refine List.Perm.cons _ ?_
 rw [Gr]
 exact List.perm_middle
set_option maxHeartbeats 4000000 in
theorem tp (f : aJ) (hs : dZ f) (hR : bO Tryz.prog 41 [cr f] (cF (decide ((kE f).1 = 0)))) (rs : List Int) (fs : List ByteArray) : bO Tryz.prog 12 [cr f, nD rs fs] (lI f rs fs) := by
 refine aP Tryz.func12 rfl Tryz.ntmps12 rfl fun B => ?_
 have hGl := hs.glyphs
 unfold nD
 repeat' (first|refine ah ?_|refine a7 ?_|refine a8 ?_|refine aa ?_|refine ae a6 rfl rfl ?_|refine be ?_|fail)
 refine bh (hc := ⟨hR⟩) ?_
 repeat' (first|refine a8 ?_|refine aa ?_|refine ae a6 rfl rfl ?_)
 unfold lI
 refine aw rfl (fun h => ?_) (fun h => ?_)
 ·have h : ¬ (kE f).1 = 0 := by simpa using h
  rw [if_neg h]
  repeat' (first|refine ah ?_|refine a7 ?_|refine ar ?_|refine a8 ?_|refine aF ?_|refine aa ?_|refine ae a6 rfl rfl ?_)
  exact b6 rfl rfl rfl rfl
 have h : (kE f).1 = 0 := by simpa using h
 rw [if_pos h]
 clear h
 repeat' (first|refine ah ?_|refine a7 ?_|refine au ?_|refine a8 ?_)
 refine eN KJ fun m => ?_
 rw [p9]
 repeat' (first|refine ah ?_|refine a7 ?_|refine aq ?_|refine a8 ?_|refine aa ?_|refine ae a6 rfl rfl ?_)
 refine cz 19 rfl rfl fun hlen => ?_
 rw [aQ] at hlen
 refine aN [2, 3, 6, 19, 20] (α := Nat) (fun i => [(21, aM i)]) (fun i => i ≤ rs.length ∧ (rs.take i).any rX = false) (fun i => [(m, cj KJ (ea (rs.take i)))]) (fun i => rs.length - i) 0 rfl ⟨rfl, trivial⟩ ⟨Nat.zero_le _, rfl⟩ (fun _ _ h => h) ?_
 rintro i ⟨hi, ha⟩
 try dsimp only [Gr, Gq, Gp, Gj]
 repeat' (first|refine ah ?_|refine a7 ?_|refine a8 ?_|refine aa ?_|refine ae a6 rfl rfl ?_)
 refine aw rfl (fun h => ?_) (fun h => ?_)
 ·have hil : i < rs.length := by have := Gz h; simp [aQ] at this; omega
  obtain ⟨z, hz⟩ : ∃ z, rs[i]? = some z := ⟨_, Ds hil⟩
  have hzg := bN hz
  repeat' (first|refine ah ?_|refine a7 ?_|refine aq ?_|refine au ?_|refine a8 ?_|refine aa ?_|refine ae a6 rfl rfl ?_|(apply aY; first|refine aX a6 ?_|refine aS a6 ?_)|fail)
  refine cZ (t := 30) [2, 3, 6, 8, 19, 20, 21] (z < 0 ∨ z > 1114111) rfl (fun Q' K => ?_) ?_
  ·repeat' (first|refine aa ?_|refine ae a6 rfl rfl ?_|refine aG rfl rfl ?_|refine aL rfl rfl rfl rfl ?_|refine bc rfl rfl rfl (fun _ => ?_) (fun _ => ?_))
   all_goals exact K _ _ rfl rfl (by clear K; simp_all <;> omega)
  repeat' (first|refine a8 ?_)
  refine aw rfl (fun h2 => ?_) (fun h2 => ?_)
  ·have : rs.any rX = true := List.any_eq_true.2 ⟨z, Gx hz, h2⟩
   rw [if_pos this]
   repeat' (first|refine ah ?_|refine a7 ?_|refine ar ?_|refine a8 ?_|refine aF ?_|refine aT ?_|refine bE ?_|refine aa ?_|refine ae a6 rfl rfl ?_)
   exact b6 rfl rfl rfl rfl
  repeat' (first|refine a7 ?_|refine au ?_|refine a8 ?_|refine ae a6 rfl rfl ?_)
  refine dD 0 (ea (rs.take (i + 1))) Tryz.underlying120 Tryz.underlying3 rfl rfl rfl rfl rfl (p8 hz) (nv hz) ?_
  repeat' (first|refine a7 ?_|refine a8 ?_|refine aI ?_|refine aa ?_|refine ae a6 rfl rfl ?_|(apply aW; refine aV ?_)|fail)
  refine aC (i + 1) rfl ⟨by rw [Gw]; rfl, trivial⟩ ⟨by omega, ?_⟩ (by omega) (fun _ _ h => h)
  rw [List.take_add_one, hz, List.any_append, ha]
  have : rX z = false := h2
  simp [this]
 have hil : i = rs.length := by have := Gy h; simp [aQ] at this; omega
 subst hil
 rw [List.take_length] at ha
 rw [List.take_length, if_neg (by rw [ha]; exact fun e => by cases e)]
 clear h hi ha hlen
 repeat' (first|refine ah ?_|refine a7 ?_|refine aR ?_|refine a8 ?_|refine av ?_|refine aB ?_|refine ay ?_|refine ae a6 rfl rfl ?_|refine bz a6 ?_|fail)
 refine b7 [] _ (zy f hs [0]) rfl rfl (Gm _) rfl fun c L1 ⟨p, b, ka, hc, hL⟩ => ?_
 subst hc; subst hL
 refine aO (aK List.perm_append_comm) ?_
 repeat' (first|refine ah ?_|refine a7 ?_|refine aq ?_|refine a8 ?_|refine aa ?_|refine ae a6 rfl rfl ?_)
 refine cz 38 rfl rfl fun hcl => ?_
 rw [Gu] at hcl
 refine aN [2, 3, 6, 9, 38, 39] (α := Nat × Option (Nat × Nat)) (fun x => [(40, aM x.1)]) (fun x => x.1 ≤ f.Chars.length) (fun x => [(m, cj KJ (ea rs))] ++ bJ p b f.Glyphs.length x.2 (eu { f with Chars := f.Chars.take x.1 } rs)) (fun x => f.Chars.length - x.1) (0, ka) rfl ⟨rfl, trivial⟩ (Nat.zero_le _) (fun _ _ h => h) ?_
 rintro ⟨i, k⟩ hi
 dsimp only at hi ⊢
 have hok : ce f.Glyphs.length (eu { f with Chars := f.Chars.take i } rs) := ce.nil.add _
 try dsimp only [Gr, Gq, Gp, Gj]
 repeat' (first|refine ah ?_|refine a7 ?_|refine a8 ?_|refine aa ?_|refine ae a6 rfl rfl ?_)
 refine aw rfl (fun h => ?_) (fun h => ?_)
 ·have hil : i < f.Chars.length := by have := Gz h; simp at this; omega
  obtain ⟨t, ht⟩ : ∃ z, f.Chars[i]? = some z := ⟨_, Ds hil⟩
  have htg := bj (c := ci) ht
  have had := vO rs ht
  repeat' (first|refine ah ?_|refine a7 ?_|refine aq ?_|refine au ?_|refine a8 ?_|refine aa ?_|refine ae a6 rfl rfl ?_|(apply aY; first|refine aX a6 ?_|refine aS a6 ?_)|(apply aH; first|refine ai 11 a6 0 rfl rfl rfl rfl rfl rfl rfl rfl ?_|refine ai 11 a6 1 rfl rfl rfl rfl rfl rfl rfl rfl ?_|refine ai 11 a6 2 rfl rfl rfl rfl rfl rfl rfl rfl ?_|refine aj a6 0 rfl rfl rfl rfl rfl rfl rfl ?_|refine aj a6 1 rfl rfl rfl rfl rfl rfl rfl ?_|refine aj a6 2 rfl rfl rfl rfl rfl rfl rfl ?_|refine aj a6 3 rfl rfl rfl rfl rfl rfl rfl ?_|fail)|refine b5 a6 fun _=>?_|fail)
  refine sF 0 (.bool false) Tryz.underlying120 Tryz.underlying3 rfl rfl rfl rfl (by kernel_rfl) rfl ?_
  have hM : ((ea rs (.int .i64 t.Rune)).getD (.sc (.bool false))) = cF (decide (t.Rune ∈ rs)) := by
   unfold ea
   simp only
   by_cases e : t.Rune ∈ rs <;> simp [e]
  rw [hM]
  repeat' (first|refine a8 ?_|refine aa ?_)
  refine aw rfl (fun h2 => ?_) (fun h2 => ?_)
  ·rw [if_pos h2] at had
   repeat' (first|refine a7 ?_|refine ae a6 rfl rfl ?_|refine bz a6 ?_|fail)
   refine b7 (bJ p b f.Glyphs.length k (eu { f with Chars := f.Chars.take i } rs)) [(m, cj KJ (ea rs))] (lr p b f.Glyphs.length k _ [t.Glyph] (by omega) hok) rfl rfl (List.perm_append_comm (l₁ := [(m, cj KJ (ea rs))])) rfl fun c L1 ⟨k', hL1⟩ => ?_
   subst hL1
   have hst : cS f.Glyphs.length (eu { f with Chars := f.Chars.take i } rs) [t.Glyph] = eu { f with Chars := f.Chars.take (i + 1) } rs := by
    unfold eu
    dsimp only
    rw [had, eI, Gr]
   rw [hst]
   refine aO (aK List.perm_append_comm) ?_
   repeat' (first|refine a7 ?_|refine a8 ?_|refine aI ?_|refine aa ?_|refine ae a6 rfl rfl ?_|(apply aW; refine aV ?_)|fail)
   exact aC (i + 1, k') rfl ⟨by rw [Gw]; rfl, trivial⟩ (by dsimp only; omega) (by dsimp only; omega) (fun _ _ h => h)
  ·rw [h2] at had
   simp only [Bool.false_eq_true, if_false, List.append_nil] at had
   have hst : eu { f with Chars := f.Chars.take (i + 1) } rs = eu { f with Chars := f.Chars.take i } rs := by
    unfold eu
    dsimp only
    rw [had]
   repeat' (first|refine a7 ?_|refine au ?_|refine a8 ?_|refine aI ?_|refine aa ?_|refine ae a6 rfl rfl ?_|(apply aW; refine aV ?_)|fail)
   exact aC (i + 1, k) rfl ⟨by rw [Gw]; rfl, trivial⟩ (by dsimp only; omega) (by dsimp only; omega) (fun _ _ h => by dsimp only; rw [hst]; exact h)
 have hil : i = f.Chars.length := by have := Gy h; simp at this; omega
 subst hil
 rw [List.take_length] at hok ⊢
 clear h hi
 refine bK (bY (List.sublist_cons_self ..)) ?_
 haveI : AD Tryz.prog 13 [cr f, .imm 1 (gi fs)] (.imm 1 (aU (dx f fs))) := ⟨lP f fs hs⟩
 repeat' (first|refine ah ?_|refine aR ?_|refine a8 ?_|refine av ?_|refine aB ?_|refine ay ?_)
 refine bt 5 [(0, .v), (1, .v), (2, .v), (3, .v), (4, .v)] none ?_ trivial rfl (by kernel_rfl) (by kernel_rfl) (by kernel_rfl) mixed (by kernel_rfl) rfl
 repeat' (first|refine aE ?_|refine aZ a6 ?_|(apply bX;refine cm ?_)|fail)
 refine br [9, 54, 58] rfl rfl ?_
 repeat' (first|fail)
 refine b7 [] (bJ p b f.Glyphs.length k (eu f rs)) (ri f hs (dx f fs)) rfl rfl (Gm _) rfl fun c L1 ⟨gp, kg, hq, hc, hL, hh⟩ => ?_
 subst hc; subst hL
 have hok : ce f.Glyphs.length (eu f rs) := hok
 have hg0 : fE f gp kg hq [] ++ bJ p b f.Glyphs.length k (eu f rs) = fE f gp kg hq (bJ p b f.Glyphs.length k (eu f rs)) := by unfold fE; simp
 rw [hg0]
 repeat' (first|refine aq ?_|refine a8 ?_|refine aa ?_|refine ae a6 rfl rfl ?_)
 refine aN [12] (α := GS) (fun x => [(9, fp x.p)]) (EP f (oG f rs fs)) (fun x => fE f gp kg x.hq (bJ x.p x.b f.Glyphs.length x.ka x.S)) (fun x => x.k) ⟨f.Glyphs.length + 1, p, b, k, eu f rs, hq⟩ rfl ⟨rfl, trivial⟩ ⟨by dsimp only; omega, hok, by dsimp only; rw [hh]; exact B4 hs _, CM hs hh, by dsimp only; rw [hh]; rfl⟩ (fun _ _ h => h) ?_
 clear hh hg0 hok
 rintro ⟨r, p, b, ka, S, hq⟩ ⟨h1, hS, h3, h4, h5⟩
 dsimp only at h1 hS h3 h4 h5 ⊢
 have sr := hS.len
 obtain ⟨r, rfl⟩ : ∃ r', r = r' + 1 := ⟨r - 1, by omega⟩
 have hS' := pk f S (hq.map (·.2))
 have hS'l := hS'.len
 try dsimp only [Gr, Gq, Gp, Gj]
 repeat' (first|refine ah ?_|refine a7 ?_|refine aq ?_|refine ae a6 rfl rfl ?_)
 refine b7 (fE f gp kg hq (bJ p b f.Glyphs.length ka S)) [] (BF f hs gp p b kg ka hq S hS h3 h4) rfl rfl (by rw [List.append_nil]) rfl fun c L1 ⟨np, nb, kn, hq', hc, hL, h6, h7⟩ => ?_
 subst hc; subst hL
 rw [List.append_nil]
 refine aO (aK C0) ?_
 unfold EC
 repeat' (first|refine ah ?_|refine a8 ?_|refine aa ?_|refine ae a6 rfl rfl ?_)
 refine bt 10 [(0, .v), (1, .v), (2, .v), (3, .l), (4, .v), (5, .v), (6, .v), (7, .v), (8, .l), (9, .v)] none ?_ trivial rfl (by kernel_rfl) (by kernel_rfl) (by kernel_rfl) mixed (by kernel_rfl) rfl
 repeat' (first|refine aE ?_|refine aZ a6 ?_|refine cI a6 0 rfl rfl rfl rfl (by first|trivial|rfl) ?_|refine cI a6 1 rfl rfl rfl rfl (by first|trivial|rfl) ?_)
 refine br [9, 12, 13, 67, 72] rfl rfl ?_
 repeat' (first|refine a8 ?_|refine aa ?_|refine ae a6 rfl rfl ?_)
 refine bK (aK (L' := fE f gp kg hq' (bJ p b f.Glyphs.length ka S ++ bJ np nb f.Glyphs.length kn (ew f S (hq.map (·.2))))) C0.symm) ?_
 refine aw rfl (fun h2 => ?_) (fun h2 => ?_)
 ·have he : (ew f S (hq.map (·.2))).length = S.length := by
   simp [aQ] at h2
   exact Int.ofNat.inj h2
  rw [gr, if_pos he] at h5
  repeat' (first|refine ah ?_|refine a7 ?_|refine ae a6 rfl rfl ?_)
  refine b7 (bJ p b f.Glyphs.length ka S) (fE f gp kg hq' (bJ np nb f.Glyphs.length kn (ew f S (hq.map (·.2))))) (zj p b f.Glyphs.length ka S (by omega)) rfl rfl (by simpa using sq (f := f) (gp := gp) (k := kg) (hq := hq') (A := []) (X := bJ p b f.Glyphs.length ka S) (M := bJ np nb f.Glyphs.length kn (ew f S (hq.map (·.2))))) rfl fun c L1 ⟨hc, hL⟩ => ?_
  subst hc; subst hL
  rw [h5]
  repeat' (first|refine ar ?_|refine a8 ?_|refine aF ?_|refine aT ?_|refine bE ?_|refine aa ?_|refine ae a6 rfl rfl ?_)
  exact b6 rfl rfl rfl rfl
 ·have he : ¬ (ew f S (hq.map (·.2))).length = S.length := by
   simp [aQ] at h2
   exact fun e => h2 (congrArg Int.ofNat e)
  rw [gr, if_neg he] at h5
  have hle := rh hS.nodup (qz (hs := hq.map (·.2)) hS)
  repeat' (first|refine a7 ?_|refine au ?_|refine a8 ?_|refine aI ?_|refine aa ?_|refine ae a6 rfl rfl ?_)
  refine aC ⟨r, np, nb, kn, ew f S (hq.map (·.2)), hq'⟩ rfl ⟨rfl, trivial⟩ ⟨by dsimp only; omega, hS', ?_, ?_, ?_⟩ (by dsimp only; omega) (fun _ _ hw => ?_)
  ·dsimp only
   rw [h7]
   exact h3.adv
  ·dsimp only
   have := congrArg List.length h6
   simp only [Gu] at this
   omega
  ·dsimp only
   rw [h7]
   exact h5
  ·dsimp only
   refine hw.sublist ?_
   unfold fE
   exact ((((List.sublist_append_right _ _).append_left _).append_left _).cons_cons _)
theorem pP (f : aJ) (hs : dZ f) (hA : (ck 400 f.Glyphs (dU f)).1 = 0 → jA f.Glyphs.length (prt f)) (rs : List Int) (fs : List ByteArray) : bO Tryz.prog 12 [cr f, nD rs fs] (lI f rs fs) := tp f hs (zi f hA) rs fs
end Go.Proofs.YtjjpkibjffmceaaGreat
namespace Go.Proofs.YtjjpkibjffmceaaGreat
open Go.RowKit
attribute [local irreducible] AT bT AX AO Av Kt bk ej DA cX
def dw (a b : AV) : Prop := ∀ σ v, VR σ a v → VR σ b v
def mZ : List AV → List AV → Prop
 | [], [] => True
 | a :: r, b :: q => dw a b ∧ mZ r q
 | _, _ => False
def Dt : List (List AV) → List (List AV) → Prop
 | [], [] => True
 | a :: r, b :: q => mZ a b ∧ Dt r q
 | _, _ => False
theorem dw.refl (a : AV) : dw a a := fun _ _ h => h
theorem dw.nil (n : Nat) : dw (.sc (.slice none 0 0)) (.imm n []) := fun _ _ h => fw n h
theorem mZ.len : ∀ {a b : List AV}, mZ a b → a.length = b.length
 | [], [], _ => rfl
 | _ :: _, _ :: _, h => by simp [h.2.len]
theorem mZ.at : ∀ {a b : List AV}, mZ a b → ∀ (i : Nat) c c', a[i]? = some c → b[i]? = some c' → dw c c'
 | x :: a, y :: b, h, 0, c, c', h1, h2 => by
  simp at h1 h2
  subst h1; subst h2
  exact h.1
 | _ :: a, _ :: b, h, i + 1, c, c', h1, h2 => h.2.at i c c' (by simpa using h1) (by simpa using h2)
theorem mZ.vrs {a b : List AV} (h : mZ a b) {σ : cw} {vs : List Value} (hv : dv σ a vs) : dv σ b vs := vA h.len (fun i c c' h1 h2 => h.at i c c' h1 h2 σ) hv
theorem Dt.len : ∀ {a b : List (List AV)}, Dt a b → a.length = b.length
 | [], [], _ => rfl
 | _ :: _, _ :: _, h => by simp [h.2.len]
theorem Dt.at : ∀ {a b : List (List AV)}, Dt a b → ∀ (i : Nat) c c', a[i]? = some c → b[i]? = some c' → mZ c c'
 | x :: a, y :: b, h, 0, c, c', h1, h2 => by
  simp at h1 h2
  subst h1; subst h2
  exact h.1
 | _ :: a, _ :: b, h, i + 1, c, c', h1, h2 => h.2.at i c c' (by simpa using h1) (by simpa using h2)
theorem dw.agg {a b : List AV} (h : mZ a b) : dw (.agg a) (.agg b) := fun σ v hv => by
 cases hv with
 | agg _ vs hl hx h1 => exact .agg _ _ (h.len ▸ hl) (fun i c u hc hu => (h.vrs (σ := σ) ⟨hl, hx⟩).2 i c u hc hu) h1
theorem dw.imm {s : Nat} {a b : List (List AV)} (h : Dt a b) : dw (.imm s a) (.imm s b) := fun σ v hv => by
 cases hv with
 | imm _ _ A cap hc hm hs ha hx hh =>
  have hl := h.len
  rw [hl]
  have get : ∀ {i : Nat} {e : List AV}, b[i]? = some e → ∃ e', a[i]? = some e' ∧ mZ e' e := fun {i e} he => by
   have hi : i < a.length := by rw [hl]; exact (Gn he).1
   exact ⟨_, Ds hi, h.at i _ _ (Ds hi) he⟩
  refine .imm s b A cap (hl ▸ hc) hm (fun e he => ?_) (fun hb => ha fun e => hb (List.eq_nil_of_length_eq_zero (by rw [← hl, e]; rfl))) (fun i b' off j hA hi hj => hx i b' off j hA (hl ▸ hi) hj) fun i e b' off j c u he hA hj hu => ?_
  ·obtain ⟨i, hi⟩ := List.mem_iff_getElem?.1 he
   obtain ⟨e', h1, h2⟩ := get hi
   rw [← h2.len]
   exact hs _ (Gx h1)
  ·obtain ⟨e', h1, h2⟩ := get he
   have hj' : j < e'.length := by rw [h2.len]; exact (Gn hj).1
   exact h2.at j _ c (Ds hj') hj σ u (hh i e' b' off j _ u h1 hA (Ds hj') hu)
section
variable {P : Program} {nt : Nat} {fr : ca} {B : Bs} {L : AL}
theorem rr {fn : Func} {t : Tmp} {e : TypeId} {b k : Nat} {cs : List Value} {tmps : Array Value} {w : World} [C6 P e k] (h : fn.results = #[.cell t e]) (ht : tmps.getD t undef = .pointer (some ⟨b, 0, none⟩)) (hl : cs.length = k) (hc : ∀ j v, cs[j]? = some v → w.cell? ⟨b, 0 + j, none⟩ = some v) :
  (results fn tmps).run P w = .ok (.agg cs.toArray) w := by
 rw [Array.getD_eq_getD_getElem?] at ht
 simp [results, h, ht, asAddr, fP hl hc]
end
end Go.Proofs.YtjjpkibjffmceaaGreat
namespace Go.Proofs.YtjjpkibjffmceaaGreat
open Go.RowKit
attribute [local irreducible] AT bT AX AO Av Kt bk ej DA cX
def yr (name : ByteArray) (mark : Bool) (parts : List cB) : bf := ⟨name, 0, mark, [], [], parts, [], [], []⟩
def r6 : aJ := ⟨1000, [yr ⟨#[46, 110, 111, 116, 100, 101, 102]⟩ false [], yr ⟨#[97]⟩ false [], yr ⟨#[98]⟩ false [], yr ⟨#[99]⟩ false [⟨1, 0, 0⟩], yr ⟨#[109]⟩ true []], [⟨1, 1⟩, ⟨2, 2⟩, ⟨3, 3⟩],
 [⟨3, false, [⟨[], [[1], [2]], [], [3], [], 0⟩]⟩, ⟨4, false, [⟨[], [[1]], [], [], [⟨0, 0⟩], 0⟩]⟩], [⟨⟨#[108, 105, 103, 97]⟩, [0]⟩, ⟨⟨#[99, 97, 108, 116]⟩, [1]⟩], [], [], [], []⟩
section
variable {P : Program} {tt : TT} {nt : Nat} {fr : ca} {B : Bs} {L L' : AL}
theorem ip (ok : eW P tt) (i : Nat) (L' : AL) {fn : Func} {Post : AV → AL → Prop} {t : Tmp} {e e' : TypeId} {b k : Nat} {cs : List AV} (hr : fn.results = #[.cell t e]) (hk : DU tt e = some k) (hv : cb fr t = some (.sc (.pointer (some ⟨b, 0, none⟩)))) (hL : L[i]? = some (b, .box cs e')) (hl : Nat.beq cs.length k = true) (hs : L'.Sublist L) (h : Post (.agg cs) L') :
  AX P .ret (bodyPost P fn (iV B Post)) nt [] fr B L := by
 unfold AX
 intro σ a w ha hw
 haveI := cY ok hk
 obtain ⟨vs, hb, hs', h1⟩ := hw.boxCell hL
 have hl := Nat.eq_of_beq_eq_true hl
 refine ⟨ha.defers, _, rr (cs := vs) hr (ha.look t _ hv).sc_inv (hs'.1.symm.trans hl) (fun j v hj => by rw [dK hb, Nat.zero_add]; simpa using hj), _, σ, _, L', rfl, .agg cs vs hs'.1 hs'.2 h1, hw.sublist hs, h⟩
theorem dw.im {k : Option (Nat × Nat)} {sz : Nat} {l : List (List AV)} : dw (.vec k sz l) (.imm sz l) := fun _ _ h => VR.im h
theorem dw.vecN (n : Nat) : dw (.sc (.slice none 0 0)) (.vec none n []) := fun _ _ h => co n h
end
section
variable {P : Program} {r : Option Nat} {Q : Exit → Act → World → Prop} {nt : Nat} {D : List Deferred} {fr fr1 : ca} {B : Bs} {L : AL}
theorem qL {A C : Code} (ks : List Nat) (L1 : AL) (hk : gq fr ks = some fr1) (hA : ∀ Q', (∀ fr', gq fr' ks = some fr1 → AX P .normal Q' nt D fr' B L1) → AT P r A Q' nt D fr B L) (hB : AT P r C Q nt D fr1 B L1) : AT P r A (Kt P r C Q) nt D fr B L :=
 hA _ fun _ h => a8 (A9 ks h hB)
end
theorem eG {A T R : AL} : (A ++ (T ++ R)).Perm (T ++ (A ++ R)) := List.perm_append_comm_assoc ..
theorem El {A T1 T R : AL} : (A ++ (T1 ++ (T ++ R))).Perm (T ++ (A ++ (T1 ++ R))) := by
 have := eG (A := A ++ T1) (T := T) (R := R)
 simpa [List.append_assoc] using this
end Go.Proofs.YtjjpkibjffmceaaGreat
