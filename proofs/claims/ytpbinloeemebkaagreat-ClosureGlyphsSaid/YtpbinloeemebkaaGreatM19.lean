/-
  The program: Glyphs.
-/
import Derived.Test.YtpbinloeemebkaaGreatM18
import Derived.Test.YtpbinloeemebkaaGreatM07
import Derived.Test.YtpbinloeemebkaaGreatM06
namespace Go.Proofs.YtpbinloeemebkaaGreat
open Go.RowKit
attribute [local irreducible] AT bN AX AO Av Kt bi dE DA d6
open Go.MapKept
abbrev KJ : TypeDesc := .int .i64
def cQ (l : List Int) : Value → Option AV
 | .int .i64 z => if z ∈ l then some (c8 true) else none
 | _ => none
theorem kp : (fun _ => none) = cQ [] := by
 funext v
 unfold cQ
 split <;> simp
theorem sB {l : List Int} {i : Nat} {z : Int} (h : l[i]? = some z) : cQ (l.take (i + 1)) (.int .i64 z) = some (c8 true) := by
 unfold cQ
 simp only
 rw [if_pos (by rw [List.take_add_one, h]; simp)]
theorem ri {l : List Int} {i : Nat} {z : Int} (h : l[i]? = some z) (q : Value) (hq : q ≠ .int .i64 z) : cQ (l.take (i + 1)) q = cQ (l.take i) q := by
 unfold cQ
 split
 ·rename_i t
  have hne : t ≠ z := fun e => hq (by rw [e])
  rw [List.take_add_one, h]
  simp [hne]
 ·rfl
theorem lJ : ∀ {S T : List Int}, S.Nodup → (∀ z ∈ S, z ∈ T) → S.length ≤ T.length
 | [], _, _, _ => Nat.zero_le _
 | z :: S, T, h, hs => by
  have hz := hs z (List.mem_cons_self ..)
  rw [List.nodup_cons] at h
  have h1 := lJ (S := S) (T := T.erase z) h.2 fun y hy => (List.mem_erase_of_ne (fun e => h.1 (by rw [← e]; exact hy))).2 (hs y (List.mem_cons_of_mem _ hy))
  have h2 := List.length_erase_of_mem hz
  have h3 := List.length_pos_of_mem hz
  rw [List.length_cons]
  omega
theorem p9 {f : aH} {S : List Int} {hs : List gB} (hS : cm f.Glyphs.length S) : ∀ z ∈ S, z ∈ dC f S hs := by
 intro z hz
 have := hS.dom z hz
 refine dw.2 (Or.inr ⟨List.mem_append.2 (Or.inl (List.mem_flatMap.2 ⟨z, hz, List.mem_cons_self ..⟩)), this.1, this.2⟩)
def eE (f : aH) : Nat → List Int → List gB → List Int
 | 0, S, _ => S
 | k + 1, S, hs => if (dC f S hs).length = S.length then S else eE f k (dC f S hs) (hs.map (adv f S))
def mr (rs : List Int) (cs : List eS) : List Int := (cs.filter fun c => decide (c.Rune ∈ rs)).map eS.Glyph
def du (f : aH) (rs : List Int) : List Int := bR f.Glyphs.length [] (0 :: mr rs f.Chars)
noncomputable def nr (f : aH) (rs : List Int) (fs : List ByteArray) : List Int := eE f (f.Glyphs.length + 1) (du f rs) (dq f (bR f.Lookups.length [] (dc f fs)))
def mt (z : Int) : Bool := decide (z < 0 ∨ z > 1114111)
def uG : AV := .sc (.slice none 0 0)
noncomputable def eJ (f : aH) (rs : List Int) (fs : List ByteArray) : AV := if (er f).1 = 0 then (if rs.any mt = true then .tup [uG, aQ 80] else .tup [.imm 1 (aV (dt (nr f rs fs))), aQ 0]) else .tup [uG, aQ 1]
def lq (rs : List Int) (fs : List ByteArray) : AV := .agg [.imm 1 (aV rs), .imm 1 (jJ fs)]
theorem oH (rs : List Int) {cs : List eS} {i : Nat} {c : eS} (h : cs[i]? = some c) : mr rs (cs.take (i + 1)) = mr rs (cs.take i) ++ if decide (c.Rune ∈ rs) = true then [c.Glyph] else [] := by
 unfold mr
 rw [List.take_add_one, h, Option.toList_some, List.filter_append, List.map_append]
 congr 1
 by_cases e : c.Rune ∈ rs <;> simp [e]
theorem lm.adv {f : aH} {S : List Int} {hs : List gB} (h : lm hs) : lm (hs.map (adv f S)) := by
 intro x hx
 obtain ⟨y, hy, rfl⟩ := List.mem_map.1 hx
 exact h y hy
structure GS where
 k : Nat
 p : Nat
 b : Nat
 ka : Option (Nat × Nat)
 S : List Int
 hq : HQ
def BP (f : aH) (T : List Int) (x : GS) : Prop := f.Glyphs.length < x.S.length + x.k ∧ cm f.Glyphs.length x.S ∧ lm (x.hq.map (·.2)) ∧ x.hq.length ≤ 100000000 ∧ eE f x.k x.S (x.hq.map (·.2)) = T
def BD (p b n : Nat) (k : Option (Nat × Nat)) (S : List Int) : Nat × AB := (p, .box [.sc (.slice (some ⟨b, 0, none⟩) n n), .vec k 1 (aV S)] 106)
def C7 (b n : Nat) (k : Option (Nat × Nat)) (S : List Int) : AL := (b, .box (dZ S n) 4) :: tok k 99 1 (aV S).length
theorem rl {p b n : Nat} {k : Option (Nat × Nat)} {S : List Int} : b9 p b n k S = BD p b n k S :: C7 b n k S := rfl
theorem z8 {f : aH} {gp : Nat} {kg : Option (Nat × Nat)} {hq : HQ} {p b p' b' n : Nat} {k k' : Option (Nat × Nat)} {S S' : List Int} : (eF f gp kg hq (b9 p b n k S ++ b9 p' b' n k' S')).Perm (BD p' b' n k' S' :: BD p b n k S :: (C7 b' n k' S' ++ (C7 b n k S ++ eF f gp kg hq []))) := by
 have h1 := qL (f := f) (gp := gp) (k := kg) (hq := hq) (A := []) (X := b9 p b n k S) (M := b9 p' b' n k' S')
 have h2 := qL (f := f) (gp := gp) (k := kg) (hq := hq) (A := []) (X := b9 p' b' n k' S') (M := [])
 simp only [List.nil_append, List.append_nil] at h1 h2
 refine h1.trans ((List.Perm.append_left _ h2).trans ((List.perm_append_comm_assoc _ _ _).trans ?_))
 rw [rl, rl]
 refine List.Perm.cons _ ?_
 rw [List.cons_append]
 exact List.perm_middle
set_option maxHeartbeats 4000000 in
theorem mM (f : aH) (hs : ck f) (hR : bo Tryz.prog 34 [bw f] (c8 (decide ((er f).1 = 0)))) (rs : List Int) (fs : List ByteArray) : bo Tryz.prog 15 [bw f, lq rs fs] (eJ f rs fs) := by
 refine aU Tryz.func15 rfl Tryz.ntmps15 rfl fun B => ?_
 have hGl := hs.glyphs
 unfold lq
 (repeat' (first|refine ah ?_|refine a6 ?_|refine a8 ?_|refine aa ?_|refine ae a7 rfl rfl ?_|refine b6 ?_|fail))
 refine aY (hc := ⟨hR⟩) ?_
 (repeat' (first|refine a8 ?_|refine aa ?_|refine ae a7 rfl rfl ?_|fail))
 unfold eJ
 refine av rfl (fun h => ?_) (fun h => ?_)
 ·have h : ¬ (er f).1 = 0 := by simpa using h
  rw [if_neg h]
  (repeat' (first|refine ah ?_|refine a6 ?_|refine au ?_|refine a8 ?_|refine ar ?_|refine aa ?_|refine ae a7 rfl rfl ?_|fail))
  exact b4 rfl rfl rfl rfl
 have h : (er f).1 = 0 := by simpa using h
 rw [if_pos h]
 clear h
 (repeat' (first|refine ah ?_|refine a6 ?_|refine ak ?_|refine a8 ?_|fail))
 refine dW KJ fun m => ?_
 rw [kp]
 (repeat' (first|refine ah ?_|refine a6 ?_|refine am ?_|refine a8 ?_|refine aa ?_|refine ae a7 rfl rfl ?_|fail))
 refine cg 19 rfl rfl fun hlen => ?_
 rw [aM] at hlen
 refine aL [2, 3, 6, 19, 20] (α := Nat) (fun i => [(21, aQ i)]) (fun i => i ≤ rs.length ∧ (rs.take i).any mt = false) (fun i => [(m, c6 KJ (cQ (rs.take i)))]) (fun i => rs.length - i) 0 rfl ⟨rfl, trivial⟩ ⟨Nat.zero_le _, rfl⟩ (fun _ _ h => h) ?_
 rintro i ⟨hi, ha⟩
 try dsimp only [List.cons_append, List.nil_append, List.map_cons, List.map_nil]
 (repeat' (first|refine ah ?_|refine a6 ?_|refine a8 ?_|refine aa ?_|refine ae a7 rfl rfl ?_|fail))
 refine av rfl (fun h => ?_) (fun h => ?_)
 ·have hil : i < rs.length := by have := of_decide_eq_true h; simp [aM] at this; omega
  obtain ⟨z, hz⟩ : ∃ z, rs[i]? = some z := ⟨_, List.getElem?_eq_getElem hil⟩
  have hzg := bk hz
  (repeat' (first|refine ah ?_|refine a6 ?_|refine am ?_|refine ak ?_|refine a8 ?_|refine aa ?_|refine ae a7 rfl rfl ?_|(apply aP; first|refine aO a7 ?_|refine aI a7 ?_)|fail))
  refine bv (t := 30) [2, 3, 6, 8, 19, 20, 21] (z < 0 ∨ z > 1114111) rfl (fun Q' K => ?_) ?_
  ·(repeat' (first|refine aa ?_|refine ae a7 rfl rfl ?_|refine aw rfl rfl ?_|refine aD rfl rfl rfl rfl ?_|refine aS rfl rfl rfl (fun _ => ?_) (fun _ => ?_)|fail))
   all_goals exact K _ _ rfl rfl (by clear K; simp_all <;> omega)
  (repeat' (first|refine a8 ?_|fail))
  refine av rfl (fun h2 => ?_) (fun h2 => ?_)
  ·have : rs.any mt = true := List.any_eq_true.2 ⟨z, List.mem_of_getElem? hz, h2⟩
   rw [if_pos this]
   (repeat' (first|refine ah ?_|refine a6 ?_|refine au ?_|refine a8 ?_|refine ar ?_|refine aG ?_|refine aK ?_|refine aa ?_|refine ae a7 rfl rfl ?_|fail))
   exact b4 rfl rfl rfl rfl
  (repeat' (first|refine a6 ?_|refine ak ?_|refine a8 ?_|refine ae a7 rfl rfl ?_|fail))
  refine cG 0 (cQ (rs.take (i + 1))) Tryz.underlying96 Tryz.underlying3 rfl rfl rfl rfl rfl (sB hz) (ri hz) ?_
  (repeat' (first|refine a6 ?_|refine a8 ?_|refine aJ ?_|refine aa ?_|refine ae a7 rfl rfl ?_|(apply aX; refine aW ?_)|fail))
  refine aE (i + 1) rfl ⟨by rw [Int.natCast_add]; rfl, trivial⟩ ⟨by omega, ?_⟩ (by omega) (fun _ _ h => h)
  rw [List.take_add_one, hz, List.any_append, ha]
  have : mt z = false := h2
  simp [this]
 have hil : i = rs.length := by have := of_decide_eq_false h; simp [aM] at this; omega
 subst hil
 rw [List.take_length] at ha
 rw [List.take_length, if_neg (by rw [ha]; exact fun e => by cases e)]
 clear h hi ha hlen
 (repeat' (first|refine ah ?_|refine a6 ?_|refine aR ?_|refine a8 ?_|refine az ?_|refine aC ?_|refine aA ?_|refine ae a7 rfl rfl ?_|refine bM a7 ?_|fail))
 refine aZ [] _ (rm f hs [0]) rfl rfl (List.Perm.refl _) rfl fun c L1 ⟨p, b, ka, hc, hL⟩ => ?_
 subst hc; subst hL
 refine bh (bc List.perm_append_comm) ?_
 (repeat' (first|refine ah ?_|refine a6 ?_|refine am ?_|refine a8 ?_|refine aa ?_|refine ae a7 rfl rfl ?_|fail))
 refine cg 38 rfl rfl fun hcl => ?_
 rw [List.length_map] at hcl
 refine aL [2, 3, 6, 9, 38, 39] (α := Nat × Option (Nat × Nat)) (fun x => [(40, aQ x.1)]) (fun x => x.1 ≤ f.Chars.length) (fun x => [(m, c6 KJ (cQ rs))] ++ b9 p b f.Glyphs.length x.2 (du { f with Chars := f.Chars.take x.1 } rs)) (fun x => f.Chars.length - x.1) (0, ka) rfl ⟨rfl, trivial⟩ (Nat.zero_le _) (fun _ _ h => h) ?_
 rintro ⟨i, k⟩ hi
 dsimp only at hi ⊢
 have hok : cm f.Glyphs.length (du { f with Chars := f.Chars.take i } rs) := cm.nil.add _
 try dsimp only [List.cons_append, List.nil_append, List.map_cons, List.map_nil]
 (repeat' (first|refine ah ?_|refine a6 ?_|refine a8 ?_|refine aa ?_|refine ae a7 rfl rfl ?_|fail))
 refine av rfl (fun h => ?_) (fun h => ?_)
 ·have hil : i < f.Chars.length := by have := of_decide_eq_true h; simp at this; omega
  obtain ⟨t, ht⟩ : ∃ z, f.Chars[i]? = some z := ⟨_, List.getElem?_eq_getElem hil⟩
  have htg := b5 (c := dY) ht
  have had := oH rs ht
  (repeat' (first|refine ah ?_|refine a6 ?_|refine am ?_|refine ak ?_|refine a8 ?_|refine aa ?_|refine ae a7 rfl rfl ?_|(apply aP; first|refine aO a7 ?_|refine aI a7 ?_)|(apply aT; first|refine ai 11 a7 0 rfl rfl rfl rfl rfl rfl rfl rfl ?_|refine ai 11 a7 1 rfl rfl rfl rfl rfl rfl rfl rfl ?_|refine ai 11 a7 2 rfl rfl rfl rfl rfl rfl rfl rfl ?_|refine aj a7 0 rfl rfl rfl rfl rfl rfl rfl ?_|refine aj a7 1 rfl rfl rfl rfl rfl rfl rfl ?_|refine aj a7 2 rfl rfl rfl rfl rfl rfl rfl ?_|refine aj a7 3 rfl rfl rfl rfl rfl rfl rfl ?_|fail)|refine bb a7 fun _=>?_|fail))
  refine gX 0 (.bool false) Tryz.underlying96 Tryz.underlying3 rfl rfl rfl rfl (by kernel_rfl) rfl ?_
  have hM : ((cQ rs (.int .i64 t.Rune)).getD (.sc (.bool false))) = c8 (decide (t.Rune ∈ rs)) := by
   unfold cQ
   simp only
   by_cases e : t.Rune ∈ rs <;> simp [e]
  rw [hM]
  (repeat' (first|refine a8 ?_|refine aa ?_|fail))
  refine av rfl (fun h2 => ?_) (fun h2 => ?_)
  ·rw [if_pos h2] at had
   (repeat' (first|refine a6 ?_|refine ae a7 rfl rfl ?_|refine bM a7 ?_|fail))
   refine aZ (b9 p b f.Glyphs.length k (du { f with Chars := f.Chars.take i } rs)) [(m, c6 KJ (cQ rs))] (kz p b f.Glyphs.length k _ [t.Glyph] (by omega) hok) rfl rfl (List.perm_append_comm (l₁ := [(m, c6 KJ (cQ rs))])) rfl fun c L1 ⟨k', hL1⟩ => ?_
   subst hL1
   have hst : bR f.Glyphs.length (du { f with Chars := f.Chars.take i } rs) [t.Glyph] = du { f with Chars := f.Chars.take (i + 1) } rs := by
    unfold du
    dsimp only
    rw [had, dT, List.cons_append]
   rw [hst]
   refine bh (bc List.perm_append_comm) ?_
   (repeat' (first|refine a6 ?_|refine a8 ?_|refine aJ ?_|refine aa ?_|refine ae a7 rfl rfl ?_|(apply aX; refine aW ?_)|fail))
   exact aE (i + 1, k') rfl ⟨by rw [Int.natCast_add]; rfl, trivial⟩ (by dsimp only; omega) (by dsimp only; omega) (fun _ _ h => h)
  ·rw [h2] at had
   simp only [Bool.false_eq_true, if_false, List.append_nil] at had
   have hst : du { f with Chars := f.Chars.take (i + 1) } rs = du { f with Chars := f.Chars.take i } rs := by
    unfold du
    dsimp only
    rw [had]
   (repeat' (first|refine a6 ?_|refine ak ?_|refine a8 ?_|refine aJ ?_|refine aa ?_|refine ae a7 rfl rfl ?_|(apply aX; refine aW ?_)|fail))
   exact aE (i + 1, k) rfl ⟨by rw [Int.natCast_add]; rfl, trivial⟩ (by dsimp only; omega) (by dsimp only; omega) (fun _ _ h => by dsimp only; rw [hst]; exact h)
 have hil : i = f.Chars.length := by have := of_decide_eq_false h; simp at this; omega
 subst hil
 rw [List.take_length] at hok ⊢
 clear h hi
 refine fy (dA (List.sublist_cons_self ..)) ?_
 haveI : AD Tryz.prog 13 [bw f, .imm 1 (jJ fs)] (.imm 1 (aV (dc f fs))) := ⟨kR f fs hs⟩
 (repeat' (first|refine ah ?_|refine aR ?_|refine a8 ?_|refine az ?_|refine aC ?_|refine aA ?_|fail))
 refine bj 5 [(0, .v), (1, .v), (2, .v), (3, .v), (4, .v)] none ?_ trivial rfl (by kernel_rfl) (by kernel_rfl) (by kernel_rfl) mixed (by kernel_rfl) rfl
 (repeat' (first|refine aN ?_|refine bf a7 ?_|(apply cZ;refine dl ?_)|fail))
 refine bl [9, 54, 58] rfl rfl ?_
 (repeat' (first|fail))
 refine aZ [] (b9 p b f.Glyphs.length k (du f rs)) (kV f hs (dc f fs)) rfl rfl (List.Perm.refl _) rfl fun c L1 ⟨gp, kg, hq, hc, hL, hh⟩ => ?_
 subst hc; subst hL
 have hok : cm f.Glyphs.length (du f rs) := hok
 have hg0 : eF f gp kg hq [] ++ b9 p b f.Glyphs.length k (du f rs) = eF f gp kg hq (b9 p b f.Glyphs.length k (du f rs)) := by unfold eF; simp
 rw [hg0]
 (repeat' (first|refine am ?_|refine a8 ?_|refine aa ?_|refine ae a7 rfl rfl ?_|fail))
 refine aL [12] (α := GS) (fun x => [(9, eV x.p)]) (BP f (nr f rs fs)) (fun x => eF f gp kg x.hq (b9 x.p x.b f.Glyphs.length x.ka x.S)) (fun x => x.k) ⟨f.Glyphs.length + 1, p, b, k, du f rs, hq⟩ rfl ⟨rfl, trivial⟩ ⟨by dsimp only; omega, hok, by dsimp only; rw [hh]; exact td hs _, wg hs hh, by dsimp only; rw [hh]; rfl⟩ (fun _ _ h => h) ?_
 clear hh hg0 hok
 rintro ⟨r, p, b, ka, S, hq⟩ ⟨h1, hS, h3, h4, h5⟩
 dsimp only at h1 hS h3 h4 h5 ⊢
 have qN := hS.len
 obtain ⟨r, rfl⟩ : ∃ r', r = r' + 1 := ⟨r - 1, by omega⟩
 have hS' := jl f S (hq.map (·.2))
 have hS'l := hS'.len
 try dsimp only [List.cons_append, List.nil_append, List.map_cons, List.map_nil]
 (repeat' (first|refine ah ?_|refine a6 ?_|refine am ?_|refine ae a7 rfl rfl ?_|fail))
 refine aZ (eF f gp kg hq (b9 p b f.Glyphs.length ka S)) [] (tF f hs gp p b kg ka hq S hS h3 h4) rfl rfl (by rw [List.append_nil]) rfl fun c L1 ⟨np, nb, kn, hq', hc, hL, h6, h7⟩ => ?_
 subst hc; subst hL
 rw [List.append_nil]
 refine bh (bc z8) ?_
 unfold BD
 (repeat' (first|refine ah ?_|refine a8 ?_|refine aa ?_|refine ae a7 rfl rfl ?_|fail))
 refine bj 10 [(0, .v), (1, .v), (2, .v), (3, .l), (4, .v), (5, .v), (6, .v), (7, .v), (8, .l), (9, .v)] none ?_ trivial rfl (by kernel_rfl) (by kernel_rfl) (by kernel_rfl) mixed (by kernel_rfl) rfl
 (repeat' (first|refine aN ?_|refine bf a7 ?_|refine dI a7 0 rfl rfl rfl rfl (by first|trivial|rfl) ?_|refine dI a7 1 rfl rfl rfl rfl (by first|trivial|rfl) ?_|fail))
 refine bl [9, 12, 13, 67, 72] rfl rfl ?_
 (repeat' (first|refine a8 ?_|refine aa ?_|refine ae a7 rfl rfl ?_|fail))
 refine fy (bc (L' := eF f gp kg hq' (b9 p b f.Glyphs.length ka S ++ b9 np nb f.Glyphs.length kn (dC f S (hq.map (·.2))))) z8.symm) ?_
 refine av rfl (fun h2 => ?_) (fun h2 => ?_)
 ·have he : (dC f S (hq.map (·.2))).length = S.length := by
   simp [aM] at h2
   exact Int.ofNat.inj h2
  rw [eE, if_pos he] at h5
  (repeat' (first|refine ah ?_|refine a6 ?_|refine ae a7 rfl rfl ?_|fail))
  refine aZ (b9 p b f.Glyphs.length ka S) (eF f gp kg hq' (b9 np nb f.Glyphs.length kn (dC f S (hq.map (·.2))))) (wY p b f.Glyphs.length ka S (by omega)) rfl rfl (by simpa using qL (f := f) (gp := gp) (k := kg) (hq := hq') (A := []) (X := b9 p b f.Glyphs.length ka S) (M := b9 np nb f.Glyphs.length kn (dC f S (hq.map (·.2))))) rfl fun c L1 ⟨hc, hL⟩ => ?_
  subst hc; subst hL
  rw [h5]
  (repeat' (first|refine au ?_|refine a8 ?_|refine ar ?_|refine aG ?_|refine aK ?_|refine aa ?_|refine ae a7 rfl rfl ?_|fail))
  exact b4 rfl rfl rfl rfl
 ·have he : ¬ (dC f S (hq.map (·.2))).length = S.length := by
   simp [aM] at h2
   exact fun e => h2 (congrArg Int.ofNat e)
  rw [eE, if_neg he] at h5
  have hle := lJ hS.nodup (p9 (hs := hq.map (·.2)) hS)
  (repeat' (first|refine a6 ?_|refine ak ?_|refine a8 ?_|refine aJ ?_|refine aa ?_|refine ae a7 rfl rfl ?_|fail))
  refine aE ⟨r, np, nb, kn, dC f S (hq.map (·.2)), hq'⟩ rfl ⟨rfl, trivial⟩ ⟨by dsimp only; omega, hS', ?_, ?_, ?_⟩ (by dsimp only; omega) (fun _ _ hw => ?_)
  ·dsimp only
   rw [h7]
   exact h3.adv
  ·dsimp only
   have := congrArg List.length h6
   simp only [List.length_map] at this
   omega
  ·dsimp only
   rw [h7]
   exact h5
  ·dsimp only
   refine hw.sublist ?_
   unfold eF
   exact ((((List.sublist_append_right _ _).append_left _).append_left _).cons_cons _)
theorem oB (f : aH) (hs : ck f) (hA : (bW 400 f.Glyphs (cM f)).1 = 0 → fF f.Glyphs.length (prt f)) (rs : List Int) (fs : List ByteArray) : bo Tryz.prog 15 [bw f, lq rs fs] (eJ f rs fs) := mM f hs (wX f hA) rs fs
end Go.Proofs.YtpbinloeemebkaaGreat

namespace Go.Proofs.YtpbinloeemebkaaGreat
open Go.ChangeShapes Go.WideShapes Go.ChangeAt Go.RowKit Go.Deep Go.Joins
section
variable {H : Type} {enc : TypeId × Value → H} {W : World}
theorem Cx : fU enc Tryz.prog W 39 (fun p : List Int × List ByteArray × Unit => [.imm 1 (aV p.1), .imm 1 (jJ p.2.1)]) (fun p => cX p.1 ∧ cX p.2.1) := (ct (N := 2) Tryz.underlying39 (by kernel_rfl) (b8 (s := 1) rfl (by kernel_rfl) AF (b8 (s := 1) rfl (by kernel_rfl) Cw d5))).map id (fun _ => rfl) fun _ h => ⟨h.1, h.2.1⟩
set_option maxRecDepth 100000 in
theorem uJ {base : Nat} {v : Value} {d : DataW H} {p : List MemPlace} (hok : Value.okWide Tryz.prog W .any base 39 v) (h : DataW.Trod enc Tryz.prog W 0 (fun _ => true) true 39 v d p) (hl : q8 Tryz.prog 39 d) : ∃ l n, VR (gV W) (lq l n) v := by
 obtain ⟨cs, rfl, hsz⟩ := okWide_struct Tryz.underlying39 hok
 obtain ⟨fuel, hf⟩ := h
 obtain ⟨x, h1, h2, h3⟩ := Cx (enc := enc) fuel cs.toList _ (by simpa [Value.cells] using hf) hl
 have := VR.agg (σ := gV W) _ _ h1.1 h1.2 h2
 exact ⟨x.1, x.2.1, by unfold lq; simpa using this⟩
end
end Go.Proofs.YtpbinloeemebkaaGreat

namespace Go.Proofs.YtpbinloeemebkaaGreat
open Go.RowKit
attribute [local irreducible] AT bN AX AO Av Kt bi dE DA d6
def sP (a b : AV) : Prop := ∀ σ v, VR σ a v → VR σ b v
def tO : List AV → List AV → Prop
 | [], [] => True
 | a :: r, b :: q => sP a b ∧ tO r q
 | _, _ => False
def AA : List (List AV) → List (List AV) → Prop
 | [], [] => True
 | a :: r, b :: q => tO a b ∧ AA r q
 | _, _ => False
theorem sP.refl (a : AV) : sP a a := fun _ _ h => h
theorem sP.nil (n : Nat) : sP (.sc (.slice none 0 0)) (.imm n []) := fun _ _ h => iG n h
theorem tO.len : ∀ {a b : List AV}, tO a b → a.length = b.length
 | [], [], _ => rfl
 | _ :: _, _ :: _, h => by simp [h.2.len]
theorem tO.at : ∀ {a b : List AV}, tO a b → ∀ (i : Nat) c c', a[i]? = some c → b[i]? = some c' → sP c c'
 | x :: a, y :: b, h, 0, c, c', h1, h2 => by
  simp at h1 h2
  subst h1; subst h2
  exact h.1
 | _ :: a, _ :: b, h, i + 1, c, c', h1, h2 => h.2.at i c c' (by simpa using h1) (by simpa using h2)
theorem tO.vrs {a b : List AV} (h : tO a b) {σ : ce} {vs : List Value} (hv : d4 σ a vs) : d4 σ b vs := tH h.len (fun i c c' h1 h2 => h.at i c c' h1 h2 σ) hv
theorem AA.len : ∀ {a b : List (List AV)}, AA a b → a.length = b.length
 | [], [], _ => rfl
 | _ :: _, _ :: _, h => by simp [h.2.len]
theorem AA.at : ∀ {a b : List (List AV)}, AA a b → ∀ (i : Nat) c c', a[i]? = some c → b[i]? = some c' → tO c c'
 | x :: a, y :: b, h, 0, c, c', h1, h2 => by
  simp at h1 h2
  subst h1; subst h2
  exact h.1
 | _ :: a, _ :: b, h, i + 1, c, c', h1, h2 => h.2.at i c c' (by simpa using h1) (by simpa using h2)
theorem sP.agg {a b : List AV} (h : tO a b) : sP (.agg a) (.agg b) := fun σ v hv => by
 cases hv with
 | agg _ vs hl hx h1 => exact .agg _ _ (h.len ▸ hl) (fun i c u hc hu => (h.vrs (σ := σ) ⟨hl, hx⟩).2 i c u hc hu) h1
theorem sP.imm {s : Nat} {a b : List (List AV)} (h : AA a b) : sP (.imm s a) (.imm s b) := fun σ v hv => by
 cases hv with
 | imm _ _ A cap hc hm hs ha hx hh =>
  have hl := h.len
  rw [hl]
  have get : ∀ {i : Nat} {e : List AV}, b[i]? = some e → ∃ e', a[i]? = some e' ∧ tO e' e := fun {i e} he => by
   have hi : i < a.length := by rw [hl]; exact (List.getElem?_eq_some_iff.1 he).1
   exact ⟨_, List.getElem?_eq_getElem hi, h.at i _ _ (List.getElem?_eq_getElem hi) he⟩
  refine .imm s b A cap (hl ▸ hc) hm (fun e he => ?_) (fun hb => ha fun e => hb (List.eq_nil_of_length_eq_zero (by rw [← hl, e]; rfl))) (fun i b' off j hA hi hj => hx i b' off j hA (hl ▸ hi) hj) fun i e b' off j c u he hA hj hu => ?_
  ·obtain ⟨i, hi⟩ := List.mem_iff_getElem?.1 he
   obtain ⟨e', h1, h2⟩ := get hi
   rw [← h2.len]
   exact hs _ (List.mem_of_getElem? h1)
  ·obtain ⟨e', h1, h2⟩ := get he
   have hj' : j < e'.length := by rw [h2.len]; exact (List.getElem?_eq_some_iff.1 hj).1
   exact h2.at j _ c (List.getElem?_eq_getElem hj') hj σ u (hh i e' b' off j _ u h1 hA (List.getElem?_eq_getElem hj') hu)
theorem AC.args {P : Program} {f : FuncId} {a b : List AV} {L : AL} {Post : AV → AL → Prop} (h : AC P f b L Post) (k : tO a b) : AC P f a L Post := fun σ w vs hv hs => h σ w vs (k.vrs hv) hs
section
variable {P : Program} {nt : Nat} {fr : c9} {B : Bs} {L : AL}
theorem l6 {fn : Func} {t : Tmp} {e : TypeId} {b k : Nat} {cs : List Value} {tmps : Array Value} {w : World} [zb P e k] (h : fn.results = #[.cell t e]) (ht : tmps.getD t undef = .pointer (some ⟨b, 0, none⟩)) (hl : cs.length = k) (hc : ∀ j v, cs[j]? = some v → w.cell? ⟨b, 0 + j, none⟩ = some v) :
  (results fn tmps).run P w = .ok (.agg cs.toArray) w := by
 rw [Array.getD_eq_getD_getElem?] at ht
 simp [results, h, ht, asAddr, fa hl hc]
theorem xC (ok : eW P tt) (i : Nat) {fn : Func} {Post : AV → AL → Prop} {t : Tmp} {e e' : TypeId} {b k : Nat} {cs : List AV} (hr : fn.results = #[.cell t e]) (hk : B0 tt e = some k) (hv : bZ fr t = some (.sc (.pointer (some ⟨b, 0, none⟩)))) (hL : L[i]? = some (b, .box cs e')) (hl : Nat.beq cs.length k = true) (h : Post (.agg cs) L) :
  AX P .ret (bodyPost P fn (ib B Post)) nt [] fr B L := by
 unfold AX
 intro σ a w ha hw
 haveI := mQ ok hk
 obtain ⟨vs, hb, hs, h1⟩ := hw.boxCell hL
 have hl := Nat.eq_of_beq_eq_true hl
 refine ⟨ha.defers, _, l6 (cs := vs) hr (ha.look t _ hv).sc_inv (hs.1.symm.trans hl) (fun j v hj => by rw [da hb, Nat.zero_add]; simpa using hj), _, σ, _, L, rfl, .agg cs vs hs.1 hs.2 h1, hw, h⟩
end
def wp (name : ByteArray) (ea : Bool) (parts : List bE) : be := ⟨name, 0, ea, [], [], parts, [], [], []⟩
def bD : aH := ⟨1000, [wp ⟨#[46, 110, 111, 116, 100, 101, 102]⟩ false [], wp ⟨#[97]⟩ false [], wp ⟨#[98]⟩ false [], wp ⟨#[99]⟩ false [⟨1, 0, 0⟩], wp ⟨#[109]⟩ true []], [⟨1, 1⟩, ⟨2, 2⟩, ⟨3, 3⟩],
 [⟨3, false, [⟨[], [[1], [2]], [], [3], [], 0⟩]⟩, ⟨4, false, [⟨[], [[1]], [], [], [⟨0, 0⟩], 0⟩]⟩], [⟨⟨#[108, 105, 103, 97]⟩, [0]⟩, ⟨⟨#[99, 97, 108, 116]⟩, [1]⟩], [], [], [], []⟩
set_option maxHeartbeats 2000000 in
theorem zP : bo Tryz.prog 24 [] (bw bD) := by
 refine aU Tryz.func24 rfl Tryz.ntmps24 rfl fun B => ?_
 (repeat' (first|refine ah ?_|refine a6 ?_|refine au ?_|refine a8 ?_|refine aa ?_|refine ae a7 rfl rfl ?_|(apply aT; first|refine aj a7 0 rfl rfl rfl rfl rfl rfl rfl ?_|refine aj a7 1 rfl rfl rfl rfl rfl rfl rfl ?_|refine aj a7 2 rfl rfl rfl rfl rfl rfl rfl ?_|refine aj a7 3 rfl rfl rfl rfl rfl rfl rfl ?_|fail)|refine bb a7 fun _=>?_|refine bM a7 ?_|fail))
 refine bU (iF 0 (cs' := bO bD) rfl fun σ vs h => tO.vrs ?_ h) (xC a7 0 rfl rfl rfl rfl rfl rfl)
 repeat' first | exact sP.refl _ | exact sP.nil _ | exact True.intro | refine sP.agg ?_ | refine sP.imm ?_ | refine And.intro ?_ ?_
instance : AD Tryz.prog 24 [] (bw bD) := ⟨zP⟩
theorem kO : ck bD := by
 unfold ck
 decide
theorem tf : fF bD.Glyphs.length (prt bD) := by
 refine ⟨fun z => if z = 3 then 1 else 0, fun g h0 h1 p hp => ?_⟩
 have h1 : g < 5 := h1
 have : g = 0 ∨ g = 1 ∨ g = 2 ∨ g = 3 ∨ g = 4 := by omega
 rcases this with rfl | rfl | rfl | rfl | rfl
 ·rw [show prt bD 0 = [] by decide] at hp; cases hp
 ·rw [show prt bD 1 = [] by decide] at hp; cases hp
 ·rw [show prt bD 2 = [] by decide] at hp; cases hp
 ·rw [show prt bD 3 = [1] by decide] at hp
  rw [List.mem_singleton.1 hp]
  decide
 ·rw [show prt bD 4 = [] by decide] at hp; cases hp
theorem oU : (bW 400 bD.Glyphs (cM bD)).1 = 0 := by decide
theorem yc : j6 bD = 0 := by decide
theorem wm : (bW 1000 bD.Chars (dR bD)).1 = 0 := by decide
theorem wq : (bW 40 bD.Lookups (jx bD)).1 = 0 := by decide
theorem wn : (bW 20 bD.Features (ek bD)).1 = 0 := by decide
theorem yb : ev bD (fun z => if z = 3 then 1 else 0) (fun z => 0) := by
 intro z h0 h1 gl hgl
 have h1 : z < 5 := h1
 have : z = 0 ∨ z = 1 ∨ z = 2 ∨ z = 3 ∨ z = 4 := by omega
 rcases this with rfl | rfl | rfl | rfl | rfl <;> (injection hgl with e; subst e; exact ⟨by decide, by decide⟩)
theorem wo : (er bD).1 = 0 := by
 refine cn.2 fun x hx => ?_
 have hc : (gd bD).1 = 0 := by
  rw [kH (eC oU) tf yb]
  decide
 simp only [qF, List.mem_cons, List.not_mem_nil, or_false] at hx
 rcases hx with rfl | rfl | rfl | rfl | rfl | rfl | rfl | rfl | rfl | rfl
 ·exact yc
 ·exact oU
 ·exact hc
 ·exact wm
 ·exact wq
 ·exact wn
 ·rfl
 ·rfl
 ·rfl
 ·rfl
end Go.Proofs.YtpbinloeemebkaaGreat

namespace Go.Proofs.YtpbinloeemebkaaGreat
open Go.RowKit
attribute [local irreducible] AT bN AX AO Av Kt bi dE DA d6
def gn : ByteArray := ⟨#[108, 105, 103, 97]⟩
def f8 : ByteArray := ⟨#[99, 97, 108, 116]⟩
def wI : ByteArray := ⟨#[110, 111, 110, 101]⟩
def gU (fs : List ByteArray) : List Int := (if gi fs gn || gi fs f8 then [0] else []) ++ (if gi fs f8 then [1] else [])
theorem pG (fs : List ByteArray) (z : Int) : z ∈ gU fs ↔ (z = 0 ∧ (gi fs gn = true ∨ gi fs f8 = true)) ∨ (z = 1 ∧ gi fs f8 = true) := by
 unfold gU
 cases gi fs gn <;> cases gi fs f8 <;> simp
theorem pE (fs : List ByteArray) (z : Int) : z ∈ gU fs ↔ gM bD fs z := by
 rw [pG]
 have b1 : gi fs gn = true → gM bD fs 0 := fun h => .base (t := ⟨gn, [0]⟩) (by simp [bD, gn]) h (by simp) (by decide) (by decide)
 have b2 : gi fs f8 = true → gM bD fs 1 := fun h => .base (t := ⟨f8, [1]⟩) (by simp [bD, f8]) h (by simp) (by decide) (by decide)
 constructor
 ·rintro (⟨rfl, h | h⟩ | ⟨rfl, h⟩)
  ·exact b1 h
  ·exact .call (c := ⟨0, 0⟩) (r := ⟨[], [[1]], [], [], [⟨0, 0⟩], 0⟩) (l := ⟨4, false, [⟨[], [[1]], [], [], [⟨0, 0⟩], 0⟩]⟩) (b2 h) rfl rfl (List.mem_singleton.2 rfl) (List.mem_singleton.2 rfl) (by decide)
  ·exact b2 h
 ·intro h
  induction h with
  | base ht hn hm h0 h1 =>
   rename_i t n
   have ht : t ∈ [(⟨gn, [0]⟩ : bA), ⟨f8, [1]⟩] := ht
   simp only [List.mem_cons, List.not_mem_nil, or_false] at ht
   rcases ht with rfl | rfl
   ·exact .inl ⟨List.mem_singleton.1 hm, .inl hn⟩
   ·exact .inr ⟨List.mem_singleton.1 hm, hn⟩
  | call h hl hk hr hc hn ih =>
   rename_i m l r c
   rcases ih with ⟨rfl, _⟩ | ⟨rfl, hx⟩
   ·have hl : some (⟨3, false, [⟨[], [[1], [2]], [], [3], [], 0⟩]⟩ : bC) = some l := hl
    injection hl with hl
    subst hl
    exact absurd hk (by decide)
   ·have hl : some (⟨4, false, [⟨[], [[1]], [], [], [⟨0, 0⟩], 0⟩]⟩ : bC) = some l := hl
    injection hl with hl
    subst hl
    have hr := List.mem_singleton.1 hr
    subst hr
    have hc := List.mem_singleton.1 hc
    subst hc
    exact .inl ⟨rfl, .inr hx⟩
theorem oV (fs : List ByteArray) : dc bD fs = d3 (gU fs) 2 := (nU fun z _ _ => pE fs z).symm
def eK (rs : List Int) (fs : List ByteArray) : List Int := eE bD 6 (du bD rs) (dq bD (bR 2 [] (d3 (gU fs) 2)))
theorem mc (f : aH) : ∀ (k : Nat) (S : List Int) (hs : List gB), cm f.Glyphs.length S → cm f.Glyphs.length (eE f k S hs)
 | 0, _, _, h => h
 | k + 1, S, hs, h => by
  unfold eE
  split
  ·exact h
  ·exact mc f k _ _ (jl f S hs)
theorem sb (rs : List Int) (fs : List ByteArray) : nr bD rs fs = eK rs fs := by
 unfold nr eK
 rw [oV]
 rfl
theorem Bi (rs : List Int) (fs : List ByteArray) : eJ bD rs fs = if rs.any mt = true then .tup [uG, aQ 80] else .tup [.imm 1 (aV (d3 (eK rs fs) 5)), aQ 0] := by
 unfold eJ
 rw [if_pos wo, sb, kr (n := 5) (by
  unfold eK
  exact mc bD 6 _ _ (cm.nil.add _))]
theorem nl (rs : List Int) (fs : List ByteArray) : bo Tryz.prog 15 [bw bD, lq rs fs] (eJ bD rs fs) := oB bD kO (fun _ => tf) rs fs
set_option maxHeartbeats 1000000 in
theorem wk (rs : List Int) (fs : List ByteArray) (hr : rs.any mt = false) : bo Tryz.prog 25 [.imm 1 (aV rs), .imm 1 (jJ fs), .imm 1 (aV (d3 (eK rs fs) 5))] (c8 true) := by
 refine aU Tryz.func25 rfl Tryz.ntmps25 rfl fun B => ?_
 have hg := nl rs fs
 rw [Bi, hr, if_neg (fun e => by cases e)] at hg
 unfold lq at hg
 (repeat' (first|refine ah ?_|refine a6 ?_|refine a8 ?_|refine aa ?_|refine ae a7 rfl rfl ?_|(apply ba;refine aY ?_)|fail))
 refine aY (hc := ⟨hg⟩) ?_
 (repeat' (first|refine ah ?_|refine a6 ?_|refine au ?_|refine a8 ?_|refine aa ?_|refine ae a7 rfl rfl ?_|refine aw rfl rfl ?_|(apply ba;refine aY ?_)|fail))
 exact aB rfl rfl (by simp)
def so : aH := ⟨0, [], [], [], [], [], [], [], []⟩
theorem Cm (rs : List Int) (fs : List ByteArray) : eJ so rs fs = .tup [uG, aQ 1] := by
 unfold eJ
 rw [if_neg]
 intro h
 have := cn.1 h (j6 so, 0) (by simp [qF])
 exact absurd this (by decide)
theorem Bc : d3 (eK [1] [gn]) 5 = [0, 1] := by decide
theorem Bd : d3 (eK [1, 2] [gn]) 5 = [0, 1, 2, 3] := by decide
theorem Be : d3 (eK [1, 2] []) 5 = [0, 1, 2] := by decide
theorem Bg : d3 (eK [3] []) 5 = [0, 1, 3] := by decide
theorem Bh : d3 (eK [1, 2, 9] [f8, wI]) 5 = [0, 1, 2, 3] := by decide
theorem Al : d3 (gU [f8]) 2 = [0, 1] := by decide
theorem wi : eQ bD [0] [1, 2, 3] = true := by decide
theorem uH : eQ bD [0] [1, 2] = false := by decide
theorem mJ (S : List Int) (fs : List ByteArray) (rs : List Int) (hS : d3 (eK rs fs) 5 = S) (hr : rs.any mt = false) : bo Tryz.prog 25 [.imm 1 (aV rs), .imm 1 (jJ fs), .imm 1 (aV S)] (c8 true) := hS ▸ wk rs fs hr
theorem nX (rs : List Int) (S : List Int) (hS : d3 (eK rs []) 5 = S) (hr : rs.any mt = false) : bo Tryz.prog 25 [.imm 1 (aV rs), .sc (.slice none 0 0), .imm 1 (aV S)] (c8 true) :=
 AC.args (mJ S [] rs hS hr) ⟨.refl _, .nil 1, .refl _, trivial⟩
set_option maxHeartbeats 2000000 in
theorem tW : bo Tryz.prog 11 [] (c8 true) := by
 refine aU Tryz.func11 rfl Tryz.ntmps11 rfl fun B => ?_
 have g1 : bo Tryz.prog 15 [bw bD, .agg [.imm 1 (aV [-1]), .sc (.slice none 0 0)]] (.tup [uG, aQ 80]) := by
  have h := nl [-1] []
  rw [Bi, if_pos (by decide)] at h
  exact AC.args h ⟨.refl _, .agg ⟨.refl _, .nil 1, trivial⟩, trivial⟩
 have g2 : bo Tryz.prog 15 [.agg [aQ 0, .sc (.slice none 0 0), .sc (.slice none 0 0), .sc (.slice none 0 0), .sc (.slice none 0 0), .sc (.slice none 0 0), .sc (.slice none 0 0), .sc (.slice none 0 0), .sc (.slice none 0 0)], .agg [.sc (.slice none 0 0), .sc (.slice none 0 0)]] (.tup [uG, aQ 1]) := by
  have h := oB so (by unfold ck; decide) (fun _ => ⟨fun _ => 0, fun g h0 h1 => by have h1 : g < 0 := h1; omega⟩) [] []
  rw [Cm] at h
  exact AC.args h ⟨.agg ⟨.refl _, .nil 9, .nil 2, .nil 3, .nil 2, .nil 4, .nil 1, .nil 1, .nil 1, trivial⟩, .agg ⟨.nil 1, .nil 1, trivial⟩, trivial⟩
 have g3 : bo Tryz.prog 13 [bw bD, .imm 1 (jJ [f8])] (.imm 1 (aV [0, 1])) := by
  have h := kR bD [f8] kO
  rw [oV, Al] at h
  exact h
 have g4 : bo Tryz.prog 19 [bw bD, .imm 1 (aV [0]), .imm 1 (aV [1, 2])] (c8 false) := by
  have h := oA bD kO [0] [1, 2]
  rw [uH] at h
  exact h
 have g6 : bo Tryz.prog 19 [bw bD, .imm 1 (aV [0]), .imm 1 (aV [1, 2, 3])] (c8 true) := by
  have h := oA bD kO [0] [1, 2, 3]
  rw [wi] at h
  exact h
 have g5 : bo Tryz.prog 12 [.imm 1 (aV [0, 1]), .imm 1 (aV [0, 1])] (c8 true) := rj [0, 1] [0, 1]
 have k1 := mJ [0, 1] [gn] [1] Bc (by decide)
 have k2 := mJ [0, 1, 2, 3] [gn] [1, 2] Bd (by decide)
 have k3 := nX [1, 2] [0, 1, 2] Be (by decide)
 have k4 := nX [3] [0, 1, 3] Bg (by decide)
 have k5 := mJ [0, 1, 2, 3] [f8, wI] [1, 2, 9] Bh (by decide)
 (repeat' (first|refine ah ?_|refine a6 ?_|refine a8 ?_|refine aa ?_|refine ae a7 rfl rfl ?_|refine bM a7 ?_|(apply ba;refine aY ?_)|fail))
 refine aY (hc := ⟨g1⟩) ?_
 (repeat' (first|refine ah ?_|refine a6 ?_|refine a8 ?_|refine aa ?_|refine ae a7 rfl rfl ?_|fail))
 refine aY (hc := ⟨g2⟩) ?_
 (repeat' (first|refine ah ?_|refine a6 ?_|refine a8 ?_|refine aa ?_|refine ae a7 rfl rfl ?_|refine bM a7 ?_|fail))
 refine aY (hc := ⟨k1⟩) ?_
 (repeat' (first|refine ae a7 rfl rfl ?_|refine aw rfl rfl ?_|refine bM a7 ?_|fail))
 refine aY (hc := ⟨k2⟩) ?_
 (repeat' (first|refine ae a7 rfl rfl ?_|refine aw rfl rfl ?_|refine bM a7 ?_|fail))
 refine aY (hc := ⟨k3⟩) ?_
 (repeat' (first|refine ae a7 rfl rfl ?_|refine aw rfl rfl ?_|refine bM a7 ?_|fail))
 refine aY (hc := ⟨k4⟩) ?_
 (repeat' (first|refine ae a7 rfl rfl ?_|refine aw rfl rfl ?_|refine bM a7 ?_|fail))
 refine aY (hc := ⟨k5⟩) ?_
 (repeat' (first|refine ae a7 rfl rfl ?_|refine aw rfl rfl ?_|refine bM a7 ?_|(apply ba;refine aY ?_)|fail))
 refine aY (hc := ⟨g3⟩) ?_
 (repeat' (first|refine aw rfl rfl ?_|refine bM a7 ?_|fail))
 refine aY (hc := ⟨g5⟩) ?_
 (repeat' (first|refine ae a7 rfl rfl ?_|refine aw rfl rfl ?_|refine bM a7 ?_|(apply ba;refine aY ?_)|fail))
 refine aY (hc := ⟨g4⟩) ?_
 (repeat' (first|refine ae a7 rfl rfl ?_|refine aw rfl rfl ?_|refine bM a7 ?_|(apply ba;refine aY ?_)|fail))
 refine aY (hc := ⟨g6⟩) ?_
 (repeat' (first|refine au ?_|refine a8 ?_|refine aa ?_|refine ae a7 rfl rfl ?_|fail))
 exact aB rfl rfl rfl
end Go.Proofs.YtpbinloeemebkaaGreat

namespace Go.Proofs.YtpbinloeemebkaaGreat
open Go.RowKit
attribute [local irreducible] AT bN AX AO Av Kt bi dE DA d6
theorem pC {n : Nat} {l : List Int} {z : Int} : vh n l z = true ↔ (0 ≤ z ∧ z < n) ∧ z ∈ l := by
 unfold vh
 rw [Bool.and_eq_true, decide_eq_true_iff, List.contains_iff_mem]
theorem kq {f : aH} {S T : List Int} (h : ∀ z ∈ S, z ∈ T) {ign : Bool} {z : Int} (hs : fe f S ign z = true) : fe f T ign z = true := by
 unfold fe at hs ⊢
 rw [Bool.and_eq_true] at hs ⊢
 exact ⟨pC.2 ⟨(pC.1 hs.1).1, h _ (pC.1 hs.1).2⟩, hs.2⟩
theorem sJ {h : gB} {p q : Int → Bool} (hpq : ∀ z, p z = true → q z = true) {z : Int} (hz : z ∈ eu h p) : z ∈ eu h q := by
 unfold eu at hz ⊢
 split
 ·rename_i hk
  rw [if_pos hk] at hz
  obtain ⟨x, hx, rfl⟩ := List.mem_map.1 hz
  rw [List.mem_filter] at hx
  exact List.mem_map.2 ⟨x, List.mem_filter.2 ⟨hx.1, hpq _ hx.2⟩, rfl⟩
 ·rename_i hk
  rw [if_neg hk] at hz
  exact hz
theorem jQ {f : aH} {S T : List Int} (h : ∀ z ∈ S, z ∈ T) {x : gB} {z : Int} (hz : z ∈ cH f S x) : z ∈ cH f T x := by
 unfold cH at hz ⊢
 split at hz
 ·rename_i hc
  rw [if_pos]
  ·exact sJ (fun _ => kq h) hz
  ·rw [List.all_eq_true] at hc ⊢
   intro s hs
   have := hc s hs
   rw [List.any_eq_true] at this ⊢
   obtain ⟨y, hy, hp⟩ := this
   exact ⟨y, hy, kq h hp⟩
 ·cases hz
theorem iB {f : aH} {ks gs : List Int} {z : Int} : z ∈ c5 f ks gs ↔ (z ∈ dK f (bR f.Glyphs.length [] gs) ∨ ∃ h ∈ dq f (bR f.Lookups.length [] ks), z ∈ cH f (bR f.Glyphs.length [] gs) h) ∧ 0 ≤ z ∧ z < f.Glyphs.length := by
 unfold c5 dC
 rw [dw, List.mem_append, List.mem_flatMap]
 constructor
 ·rintro (h | h)
  ·cases h
  ·exact h
 ·exact Or.inr
theorem mP {n : Nat} {a b : List Int} (h : ∀ z ∈ a, z ∈ b) : ∀ z ∈ bR n [] a, z ∈ bR n [] b := by
 intro z hz
 rcases dw.1 hz with k | ⟨k, k2⟩
 ·cases k
 ·exact dw.2 (Or.inr ⟨h z k, k2⟩)
theorem jP {f : aH} {ks ks' gs gs' : List Int} (hk : ∀ z ∈ ks, z ∈ ks') (hg : ∀ z ∈ gs, z ∈ gs') : ∀ z ∈ c5 f ks gs, z ∈ c5 f ks' gs' := by
 intro z hz
 rw [iB] at hz ⊢
 refine ⟨?_, hz.2⟩
 rcases hz.1 with h | ⟨x, hx, h⟩
 ·refine Or.inl ?_
  unfold dK at h ⊢
  obtain ⟨y, hy, h⟩ := List.mem_flatMap.1 h
  exact List.mem_flatMap.2 ⟨y, mP hg y hy, h⟩
 ·refine Or.inr ⟨x, ?_, jQ (mP hg) h⟩
  unfold dq at hx ⊢
  obtain ⟨y, hy, h⟩ := List.mem_flatMap.1 hx
  exact List.mem_flatMap.2 ⟨y, mP hk y hy, h⟩
theorem ow {f : aH} {ks gs : List Int} {z : Int} (hz : z ∈ gs) (h0 : 0 ≤ z) (h1 : z < f.Glyphs.length) : z ∈ c5 f ks gs := by
 rw [iB]
 refine ⟨Or.inl ?_, h0, h1⟩
 unfold dK
 exact List.mem_flatMap.2 ⟨z, dw.2 (Or.inr ⟨hz, h0, h1⟩), List.mem_cons_self ..⟩
end Go.Proofs.YtpbinloeemebkaaGreat

namespace Go.Proofs.YtpbinloeemebkaaGreat
open Go.RowKit
attribute [local irreducible] AT bN AX AO Av Kt bi dE DA d6
def iy (S G : List Int) : Bool := S.any fun z => G.contains z
def mq (l : List (List Int)) (G : List Int) : Bool := l.all fun q => iy q G
set_option maxHeartbeats 1000000 in
theorem ux (S G : List Int) : bo Tryz.prog 203 [.imm 1 (aV S), .imm 1 (aV G)] (c8 (iy S G)) := by
 refine aU Tryz.func203 rfl Tryz.ntmps203 rfl fun B => ?_
 refine cg 0 rfl rfl fun hlen => ?_
 rw [aM] at hlen
 have hsl := aM S
 (repeat' (first|refine ah ?_|refine a6 ?_|refine am ?_|refine a8 ?_|refine aa ?_|refine ae a7 rfl rfl ?_|fail))
 refine aL [0, 1] (α := Nat) (fun i => [(5, aQ i)]) (fun i => i ≤ S.length ∧ iy (S.take i) G = false) (fun _ => []) (fun i => S.length - i) 0 rfl ⟨rfl, trivial⟩ ⟨Nat.zero_le _, rfl⟩ (fun _ _ h => h) ?_
 rintro i ⟨hi, ha⟩
 try dsimp only [List.cons_append, List.nil_append, List.map_cons, List.map_nil]
 (repeat' (first|refine ah ?_|refine a6 ?_|refine a8 ?_|refine aa ?_|refine ae a7 rfl rfl ?_|fail))
 refine av rfl (fun h => ?_) (fun h => ?_)
 ·have hil : i < S.length := by have := of_decide_eq_true h; omega
  obtain ⟨z, hz⟩ : ∃ z, S[i]? = some z := ⟨_, List.getElem?_eq_getElem hil⟩
  have hzg := bk hz
  (repeat' (first|refine ah ?_|refine a6 ?_|refine am ?_|refine ak ?_|refine a8 ?_|refine aa ?_|refine ae a7 rfl rfl ?_|(apply aP; first|refine aO a7 ?_|refine aI a7 ?_)|(apply ba;refine aY ?_)|fail))
  refine av rfl (fun h2 => ?_) (fun h2 => ?_)
  ·(repeat' (first|refine ah ?_|refine a6 ?_|refine au ?_|refine a8 ?_|refine ar ?_|refine aG ?_|refine aK ?_|refine aa ?_|refine ae a7 rfl rfl ?_|fail))
   refine aB rfl rfl ?_
   rw [show iy S G = true from List.any_eq_true.2 ⟨z, List.mem_of_getElem? hz, h2⟩]
  ·(repeat' (first|refine a6 ?_|refine ak ?_|refine a8 ?_|refine aJ ?_|refine aa ?_|refine ae a7 rfl rfl ?_|(apply aX; refine aW ?_)|fail))
   refine aE (i + 1) rfl ⟨by rw [Int.natCast_add]; rfl, trivial⟩ ⟨by omega, ?_⟩ (by omega) (fun _ _ h => h)
   unfold iy at ha ⊢
   rw [List.take_add_one, hz, List.any_append, ha]
   simpa using h2
 have hil : i = S.length := by have := of_decide_eq_false h; omega
 subst hil
 rw [List.take_length] at ha
 (repeat' (first|refine ah ?_|refine a6 ?_|refine au ?_|refine aR ?_|refine a8 ?_|refine az ?_|refine aC ?_|refine aA ?_|refine aa ?_|refine ae a7 rfl rfl ?_|fail))
 refine aB rfl rfl ?_
 rw [ha]
instance (S G : List Int) : AD Tryz.prog 203 [.imm 1 (aV S), .imm 1 (aV G)] (c8 (iy S G)) := ⟨ux S G⟩
set_option maxHeartbeats 1000000 in
theorem sV (l : List (List Int)) (G : List Int) : bo Tryz.prog 120 [.imm 1 (c7 l), .imm 1 (aV G)] (c8 (mq l G)) := by
 refine aU Tryz.func120 rfl Tryz.ntmps120 rfl fun B => ?_
 refine cg 0 rfl rfl fun hlen => ?_
 rw [cq] at hlen
 have hsl := cq l
 (repeat' (first|refine ah ?_|refine a6 ?_|refine am ?_|refine a8 ?_|refine aa ?_|refine ae a7 rfl rfl ?_|fail))
 refine aL [0, 1] (α := Nat) (fun i => [(5, aQ i)]) (fun i => i ≤ l.length ∧ mq (l.take i) G = true) (fun _ => []) (fun i => l.length - i) 0 rfl ⟨rfl, trivial⟩ ⟨Nat.zero_le _, rfl⟩ (fun _ _ h => h) ?_
 rintro i ⟨hi, ha⟩
 try dsimp only [List.cons_append, List.nil_append, List.map_cons, List.map_nil]
 (repeat' (first|refine ah ?_|refine a6 ?_|refine a8 ?_|refine aa ?_|refine ae a7 rfl rfl ?_|fail))
 refine av rfl (fun h => ?_) (fun h => ?_)
 ·have hil : i < l.length := by have := of_decide_eq_true h; omega
  obtain ⟨q, hq⟩ : ∃ z, l[i]? = some z := ⟨_, List.getElem?_eq_getElem hil⟩
  have hqg := fq hq
  (repeat' (first|refine ah ?_|refine a6 ?_|refine am ?_|refine ak ?_|refine a8 ?_|refine aa ?_|refine ae a7 rfl rfl ?_|(apply aP; first|refine aO a7 ?_|refine aI a7 ?_)|(apply ba;refine aY ?_)|fail))
  refine av rfl (fun h2 => ?_) (fun h2 => ?_)
  ·have h2 : iy q G = false := by simpa using h2
   (repeat' (first|refine ah ?_|refine a6 ?_|refine au ?_|refine a8 ?_|refine ar ?_|refine aG ?_|refine aK ?_|refine aa ?_|refine ae a7 rfl rfl ?_|fail))
   refine aB rfl rfl ?_
   have : mq l G = false := by
    rw [Bool.eq_false_iff]
    intro e
    unfold mq at e
    rw [List.all_eq_true] at e
    rw [e q (List.mem_of_getElem? hq)] at h2
    cases h2
   rw [this]
  ·have h2 : iy q G = true := by simpa using h2
   (repeat' (first|refine a6 ?_|refine ak ?_|refine a8 ?_|refine aJ ?_|refine aa ?_|refine ae a7 rfl rfl ?_|(apply aX; refine aW ?_)|fail))
   refine aE (i + 1) rfl ⟨by rw [Int.natCast_add]; rfl, trivial⟩ ⟨by omega, ?_⟩ (by omega) (fun _ _ h => h)
   unfold mq at ha ⊢
   rw [List.take_add_one, hq, List.all_append, ha]
   simpa using h2
 have hil : i = l.length := by have := of_decide_eq_false h; omega
 subst hil
 rw [List.take_length] at ha
 (repeat' (first|refine ah ?_|refine a6 ?_|refine au ?_|refine aR ?_|refine a8 ?_|refine az ?_|refine aC ?_|refine aA ?_|refine aa ?_|refine ae a7 rfl rfl ?_|fail))
 refine aB rfl rfl ?_
 rw [ha]
instance (l : List (List Int)) (G : List Int) : AD Tryz.prog 120 [.imm 1 (c7 l), .imm 1 (aV G)] (c8 (mq l G)) := ⟨sV l G⟩
def fJ (f : aH) (ign : Bool) (G : List Int) : List Int := G.filter fun z => !ign || !(kT f z)
theorem sC {f : aH} {ign : Bool} {G : List Int} {i : Nat} {z : Int} (h : G[i]? = some z) : fJ f ign (G.take (i + 1)) = fJ f ign (G.take i) ++ if (!ign || !(kT f z)) = true then [z] else [] := by
 unfold fJ
 rw [List.take_add_one, h, Option.toList_some, List.filter_append]
 congr 1
 by_cases e : (!ign || !(kT f z)) = true
 ·rw [if_pos e, List.filter_cons, if_pos e]; rfl
 ·rw [if_neg e, List.filter_cons, if_neg e]; rfl
set_option maxHeartbeats 4000000 in
theorem x5 (f : aH) (l : bC) (G : List Int) (hG : ∀ z ∈ G, 0 ≤ z ∧ z < f.Glyphs.length) (hl : G.length ≤ 1000000) : bo Tryz.prog 60 [bw f, .agg (bq l), .imm 1 (aV G)] (.imm 1 (aV (fJ f l.Ignore G))) := by
 refine aU Tryz.func60 rfl Tryz.ntmps60 rfl fun B => ?_
 have hgl := aM G
 (repeat' (first|refine ah ?_|refine a6 ?_|refine am ?_|refine a8 ?_|refine aa ?_|refine ae a7 rfl rfl ?_|refine b6 ?_|refine nF (n := 0) a7 fun _=>?_|fail))
 rename_i kb
 refine aL [2, 3, 4] (α := Nat × Option (Nat × Nat)) (fun x => [(8, aQ x.1), (7, .vec x.2 1 (aV (fJ f l.Ignore (G.take x.1))))]) (fun x => x.1 ≤ G.length) (fun x => tok x.2 3 1 (aV (fJ f l.Ignore (G.take x.1))).length) (fun x => G.length - x.1) (0, some (kb, 0)) rfl ⟨rfl, rfl, trivial⟩ (Nat.zero_le _) (fun _ _ h => h) ?_
 rintro ⟨i, q⟩ hi
 dsimp only at hi ⊢
 have hsl : (aV (fJ f l.Ignore (G.take i))).length ≤ 1000000 := by
  rw [aM]
  have := List.length_filter_le (fun z => !l.Ignore || !(kT f z)) (G.take i)
  rw [List.length_take] at this
  unfold fJ
  omega
 try dsimp only [List.cons_append, List.nil_append, List.map_cons, List.map_nil]
 (repeat' (first|refine ah ?_|refine a6 ?_|refine a8 ?_|refine aa ?_|refine ae a7 rfl rfl ?_|fail))
 refine av rfl (fun h => ?_) (fun h => ?_)
 ·have hil : i < G.length := by have := of_decide_eq_true h; omega
  obtain ⟨z, hz⟩ : ∃ z, G[i]? = some z := ⟨_, List.getElem?_eq_getElem hil⟩
  have hzg := bk hz
  have hzd := hG z (List.mem_of_getElem? hz)
  obtain ⟨gl, hg⟩ : ∃ g, f.Glyphs[z.toNat]? = some g := ⟨_, List.getElem?_eq_getElem (by omega)⟩
  have hgg := b5 (c := bz) hg
  have hm : kT f z = gl.Mark := by unfold kT; rw [hg]
  have hst := sC (f := f) (ign := l.Ignore) hz
  rw [hm] at hst
  obtain ⟨kd, ign, rls⟩ := l
  dsimp only at hst hsl ⊢
  cases ign
  ·(repeat' (first|refine ah ?_|refine am ?_|refine ak ?_|refine a8 ?_|fail))
   refine bj 15 [(0, .v), (1, .v), (2, .v), (3, .v), (4, .v), (5, .v), (6, .v), (7, .v), (8, .v), (9, .v), (10, .v), (11, .v), (12, .v), (13, .v), (14, .v)] none ?_ trivial rfl (by kernel_rfl) (by kernel_rfl) (by kernel_rfl) mixed (by kernel_rfl) rfl
   (repeat' (first|refine aN ?_|refine bf a7 ?_|refine f3 rfl rfl ?_|fail))
   refine bl [2, 3, 4, 7, 8, 30] rfl rfl ?_
   (repeat' (first|refine a6 ?_|refine a8 ?_|refine aa ?_|refine ae a7 rfl rfl ?_|(apply aP; first|refine aO a7 ?_|refine aI a7 ?_)|refine bM a7 ?_|refine bI rfl ?_|fail))
   refine cF a7 [] rfl rfl rfl rfl (by rw [List.append_nil]) (by simp; omega) (by simp; omega) rfl fun q' => ?_
   rw [List.append_nil]
   (repeat' (first|refine a6 ?_|refine a8 ?_|refine aJ ?_|refine aa ?_|refine ae a7 rfl rfl ?_|(apply aX; refine aW ?_)|fail))
   simp only [Bool.not_false, Bool.true_or, if_true] at hst
   exact aE (i + 1, q') rfl ⟨by rw [Int.natCast_add]; rfl, by rw [hst]; dsimp only; rw [← cE]; rfl, trivial⟩ (by dsimp only; omega) (by dsimp only; omega) (fun _ _ h => by dsimp only; rw [hst, ← cE]; exact h)
  ·(repeat' (first|refine ah ?_|refine am ?_|refine ak ?_|refine a8 ?_|fail))
   refine bj 15 [(0, .v), (1, .v), (2, .v), (3, .v), (4, .v), (5, .v), (6, .v), (7, .v), (8, .v), (9, .v), (10, .v), (11, .v), (12, .v), (13, .v), (14, .v)] none ?_ trivial rfl (by kernel_rfl) (by kernel_rfl) (by kernel_rfl) mixed (by kernel_rfl) rfl
   (repeat' (first|refine aN ?_|refine bf a7 ?_|(apply bs;refine bH a7 ?_)|fail))
   refine bl [2, 3, 4, 7, 8, 30] rfl rfl ?_
   (repeat' (first|refine a8 ?_|refine aa ?_|fail))
   refine av rfl (fun h2 => ?_) (fun h2 => ?_)
   ·have h2 : gl.Mark = false := by simpa using h2
    (repeat' (first|refine a6 ?_|refine ae a7 rfl rfl ?_|(apply aP; first|refine aO a7 ?_|refine aI a7 ?_)|refine bM a7 ?_|fail))
    refine cF a7 [] rfl rfl rfl rfl (by rw [List.append_nil]) (by simp; omega) (by simp; omega) rfl fun q' => ?_
    rw [List.append_nil]
    (repeat' (first|refine a6 ?_|refine a8 ?_|refine aJ ?_|refine aa ?_|refine ae a7 rfl rfl ?_|(apply aX; refine aW ?_)|fail))
    simp only [h2, Bool.not_true, Bool.not_false, Bool.false_or, if_true] at hst
    exact aE (i + 1, q') rfl ⟨by rw [Int.natCast_add]; rfl, by rw [hst]; dsimp only; rw [← cE]; rfl, trivial⟩ (by dsimp only; omega) (by dsimp only; omega) (fun _ _ h => by dsimp only; rw [hst, ← cE]; exact h)
   ·have h2 : gl.Mark = true := by simpa using h2
    (repeat' (first|refine a6 ?_|refine ak ?_|refine a8 ?_|refine aJ ?_|refine aa ?_|refine ae a7 rfl rfl ?_|(apply aX; refine aW ?_)|fail))
    simp only [h2, Bool.not_true, Bool.or_self, Bool.false_eq_true, if_false, List.append_nil] at hst
    exact aE (i + 1, q) rfl ⟨by rw [Int.natCast_add]; rfl, by rw [hst]; rfl, trivial⟩ (by dsimp only; omega) (by dsimp only; omega) (fun _ _ h => by dsimp only; rw [hst]; exact h)
 have hil : i = G.length := by have := of_decide_eq_false h; omega
 subst hil
 rw [List.take_length]
 (repeat' (first|refine ah ?_|refine a6 ?_|refine au ?_|refine aR ?_|refine a8 ?_|refine az ?_|refine aC ?_|refine aA ?_|refine aa ?_|refine ae a7 rfl rfl ?_|fail))
 exact bU (cw (t := 6) (c' := .imm 1 (aV (fJ f l.Ignore G))) rfl fun σ v h => VR.im h) (aB rfl rfl rfl)
end Go.Proofs.YtpbinloeemebkaaGreat
