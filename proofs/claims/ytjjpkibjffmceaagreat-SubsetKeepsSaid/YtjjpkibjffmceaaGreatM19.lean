/-
  The program: the lookups that can be done.
-/
import Derived.Test.YtjjpkibjffmceaaGreatM18
namespace Go.Proofs.YtjjpkibjffmceaaGreat
open Go.RowKit
attribute [local irreducible] AT bT AX AO Av Kt bk ej DA cX
open Go.MapKept
def ib (l : List ByteArray) : Value → Option AV
 | .string s => if gc l s then some (cF true) else none
 | _ => none
theorem uu : (fun _ => none) = ib ([] : List ByteArray) := by
 funext v
 unfold ib
 split <;> rfl
theorem ut {l : List ByteArray} {i : Nat} {s : ByteArray} (h : l[i]? = some s) : ib (l.take (i + 1)) (.string s) = some (cF true) := by
 unfold ib
 simp only
 rw [if_pos (oE.2 (by rw [List.take_add_one, h]; simp))]
theorem sH {l : List ByteArray} {i : Nat} {s : ByteArray} (h : l[i]? = some s) (q : Value) (hq : q ≠ .string s) : ib (l.take (i + 1)) q = ib (l.take i) q := by
 unfold ib
 split
 ·rename_i t
  have : gc (l.take (i + 1)) t = gc (l.take i) t := by
   rw [Bool.eq_iff_iff, oE, oE, List.take_add_one, h, List.mem_append]
   constructor
   ·rintro (h | h)
    ·exact h
    ·simp at h; subst h; exact absurd rfl hq
   ·exact Or.inl
  rw [this]
 ·rfl
theorem eI (n : Nat) (l a b : List Int) : cS n (cS n l a) b = cS n l (a ++ b) := by unfold cS; rw [List.foldl_append]
theorem kP {n : Nat} {l : List Int} {z y : Int} : y ∈ addOne n l z ↔ y ∈ l ∨ (y = z ∧ 0 ≤ z ∧ z < n) := by
 unfold addOne
 split
 ·rename_i h
  rw [List.mem_append, List.mem_singleton]
  constructor
  ·rintro (h1 | h1)
   ·exact Or.inl h1
   ·exact Or.inr ⟨h1, h.1, h.2.1⟩
  ·rintro (h1 | h1)
   ·exact Or.inl h1
   ·exact Or.inr h1.1
 ·rename_i h
  constructor
  ·exact Or.inl
  ·rintro (h1 | ⟨h1, h2, h3⟩)
   ·exact h1
   ·subst h1; exact Classical.byContradiction fun hn => h ⟨h2, h3, hn⟩
theorem eX {n : Nat} {l ns : List Int} {y : Int} : y ∈ cS n l ns ↔ y ∈ l ∨ (y ∈ ns ∧ 0 ≤ y ∧ y < n) := by
 unfold cS
 induction ns generalizing l with
 | nil => simp
 | cons z ns ih =>
  rw [List.foldl_cons, ih, kP, List.mem_cons]
  constructor
  ·rintro ((h | ⟨h1, h2, h3⟩) | ⟨h1, h2, h3⟩)
   ·exact Or.inl h
   ·subst h1; exact Or.inr ⟨Or.inl rfl, h2, h3⟩
   ·exact Or.inr ⟨Or.inr h1, h2, h3⟩
  ·rintro (h | ⟨h1 | h1, h2, h3⟩)
   ·exact Or.inl (Or.inl h)
   ·subst h1; exact Or.inl (Or.inr ⟨rfl, h2, h3⟩)
   ·exact Or.inr ⟨h1, h2, h3⟩
theorem fG.start2 {f : aJ} {fs : List ByteArray} : fG f fs (cS f.Lookups.length [] (o8 fs f.Features)) 0 where
 reach z hz := by
  rcases eX.1 hz with h | ⟨h1, h2, h3⟩
  ·cases h
  ·obtain ⟨t, ht, h4, h5⟩ := rS.1 h1
   exact .base ht h4 h5 h2 h3
 nodup := (ce.nil.add _).nodup
 base z hz h0 h1 := eX.2 (Or.inr ⟨hz, h0, h1⟩)
 done j hj := absurd hj (Nat.not_lt_zero _)
theorem fG.addOne {f : aJ} {fs : List ByteArray} {l : List Int} {i m : Nat} {n : Int} (h : fG f fs l i) (hn : kB f fs n) (hi : i ≤ l.length) : fG f fs (addOne m l n) i := by
 unfold Go.Proofs.YtjjpkibjffmceaaGreat.addOne
 split
 ·rename_i hc
  exact h.add hn hc.2.2 hi
 ·exact h
theorem tu {l : List Int} {m i : Nat} {n z : Int} (h : l[i]? = some z) : (addOne m l n)[i]? = some z := by
 unfold addOne
 split
 ·rw [List.getElem?_append_left (Gn h).1]; exact h
 ·exact h
theorem zg {rec : Loop} (h1 : rec.state = .ready) (h2 : rec.pending = none) : ({ ({ rec with state := .busy } : Loop) with state := .ready, pending := none } : Loop) = rec := by cases rec; simp_all
set_option maxHeartbeats 4000000 in
theorem lP (f : aJ) (fs : List ByteArray) (hs : dZ f) : bO Tryz.prog 13 [cr f, .imm 1 (gi fs)] (.imm 1 (aU (dx f fs))) := by
 refine nZ Tryz.func13 rfl Tryz.ntmps13 rfl fun B => ?_
 have hF := hs.features
 have hLk := hs.lookups
 refine cz 1 rfl rfl fun hlen => ?_
 rw [fR] at hlen
 repeat' (first|refine ah ?_|refine a7 ?_|refine a8 ?_|refine aa ?_|refine ae a6 rfl rfl ?_|refine be ?_|fail)
 refine eN .string fun bm => ?_
 rw [uu]
 repeat' (first|refine ah ?_|refine a7 ?_|refine aq ?_|refine a8 ?_|refine aa ?_|refine ae a6 rfl rfl ?_)
 refine aN [2, 5, 17, 18] (α := Nat) (fun i => [(19, aM i)]) (fun i => i ≤ fs.length) (fun i => [(bm, cj .string (ib (fs.take i)))]) (fun i => fs.length - i) 0 rfl ⟨rfl, trivial⟩ (Nat.zero_le _) (fun _ _ h => h) fun i hi => ?_
 try dsimp only [Gr, Gq, Gp, Gj]
 repeat' (first|refine ah ?_|refine a7 ?_|refine a8 ?_|refine aa ?_|refine ae a6 rfl rfl ?_)
 refine aw rfl (fun h => ?_) (fun h => ?_)
 ·have hil : i < fs.length := by have := Gz h; simp [fR] at this; omega
  obtain ⟨z, hz⟩ : ∃ z, fs[i]? = some z := ⟨_, Ds hil⟩
  have hzg := ta hz
  repeat' (first|refine ah ?_|refine a7 ?_|refine aq ?_|refine au ?_|refine a8 ?_|refine aa ?_|refine ae a6 rfl rfl ?_|(apply aY; first|refine aX a6 ?_|refine aS a6 ?_)|fail)
  refine dD 0 (ib (fs.take (i + 1))) Tryz.underlying132 Tryz.underlying9 rfl rfl trivial rfl rfl (ut hz) (sH hz) ?_
  repeat' (first|refine a7 ?_|refine a8 ?_|refine aI ?_|refine aa ?_|refine ae a6 rfl rfl ?_|(apply aW; refine aV ?_)|fail)
  exact aC (i + 1) rfl ⟨by rw [Gw]; rfl, trivial⟩ (by omega) (by omega) (fun _ _ h => h)
 have hil : i = fs.length := by have := Gy h; simp [fR] at this; omega
 subst hil
 rw [List.take_length]
 clear h
 repeat' (first|refine ah ?_|refine a7 ?_|refine aR ?_|refine a8 ?_|refine av ?_|refine aB ?_|refine ay ?_|refine ae a6 rfl rfl ?_)
 refine b7 [] [(bm, cj .string (ib fs))] (BX (f.Lookups.map bn).length (by simpa using by omega)) rfl rfl (Gm _) rfl fun c L1 ⟨p, b, hc, hL1⟩ => ?_
 subst hc; subst hL1
 rw [Gu]
 refine aO (aK List.perm_append_comm) ?_
 repeat' (first|refine ah ?_|refine a7 ?_|refine aq ?_|refine a8 ?_|refine aa ?_|refine ae a6 rfl rfl ?_|(apply aH; first|refine ai 8 a6 0 rfl rfl rfl rfl rfl rfl rfl rfl ?_|refine ai 8 a6 1 rfl rfl rfl rfl rfl rfl rfl rfl ?_|refine ai 8 a6 2 rfl rfl rfl rfl rfl rfl rfl rfl ?_|refine ai 10 a6 0 rfl rfl rfl rfl rfl rfl rfl rfl ?_|refine ai 10 a6 1 rfl rfl rfl rfl rfl rfl rfl rfl ?_|refine ai 10 a6 2 rfl rfl rfl rfl rfl rfl rfl rfl ?_|refine ai 13 a6 0 rfl rfl rfl rfl rfl rfl rfl rfl ?_|refine ai 13 a6 1 rfl rfl rfl rfl rfl rfl rfl rfl ?_|refine ai 13 a6 2 rfl rfl rfl rfl rfl rfl rfl rfl ?_|refine ai 15 a6 0 rfl rfl rfl rfl rfl rfl rfl rfl ?_|refine ai 15 a6 1 rfl rfl rfl rfl rfl rfl rfl rfl ?_|refine ai 15 a6 2 rfl rfl rfl rfl rfl rfl rfl rfl ?_|refine aj a6 0 rfl rfl rfl rfl rfl rfl rfl ?_|refine aj a6 1 rfl rfl rfl rfl rfl rfl rfl ?_|refine aj a6 2 rfl rfl rfl rfl rfl rfl rfl ?_|refine aj a6 3 rfl rfl rfl rfl rfl rfl rfl ?_|fail)|refine b5 a6 fun _=>?_|fail)
 refine aN [2, 5, 8, 31, 32] (α := Nat × Option (Nat × Nat)) (fun x => [(33, aM x.1)]) (fun x => x.1 ≤ f.Features.length) (fun x => [(bm, cj .string (ib fs))] ++ du p b f.Lookups.length x.2 (cS f.Lookups.length [] (o8 fs (f.Features.take x.1)))) (fun x => f.Features.length - x.1) (0, none) rfl ⟨rfl, trivial⟩ (Nat.zero_le _) (fun _ _ h => h) ?_
 rintro ⟨i, k⟩ hi
 dsimp only at hi ⊢
 have hok := (ce.nil (n := f.Lookups.length)).add (o8 fs (f.Features.take i))
 try dsimp only [Gr, Gq, Gp, Gj]
 repeat' (first|refine ah ?_|refine a7 ?_|refine a8 ?_|refine aa ?_|refine ae a6 rfl rfl ?_)
 refine aw rfl (fun h => ?_) (fun h => ?_)
 ·have hil : i < f.Features.length := by have := Gz h; simp at this; omega
  obtain ⟨t, ht⟩ : ∃ z, f.Features[i]? = some z := ⟨_, Ds hil⟩
  have htg := bj (c := bw) ht
  have had := xK fs f.Features i ht
  repeat' (first|refine ah ?_|refine a7 ?_|refine aq ?_|refine au ?_|refine a8 ?_|refine aa ?_|refine ae a6 rfl rfl ?_|(apply aY; first|refine aX a6 ?_|refine aS a6 ?_)|(apply aH; first|refine ai 8 a6 0 rfl rfl rfl rfl rfl rfl rfl rfl ?_|refine ai 8 a6 1 rfl rfl rfl rfl rfl rfl rfl rfl ?_|refine ai 8 a6 2 rfl rfl rfl rfl rfl rfl rfl rfl ?_|refine ai 10 a6 0 rfl rfl rfl rfl rfl rfl rfl rfl ?_|refine ai 10 a6 1 rfl rfl rfl rfl rfl rfl rfl rfl ?_|refine ai 10 a6 2 rfl rfl rfl rfl rfl rfl rfl rfl ?_|refine ai 13 a6 0 rfl rfl rfl rfl rfl rfl rfl rfl ?_|refine ai 13 a6 1 rfl rfl rfl rfl rfl rfl rfl rfl ?_|refine ai 13 a6 2 rfl rfl rfl rfl rfl rfl rfl rfl ?_|refine ai 15 a6 0 rfl rfl rfl rfl rfl rfl rfl rfl ?_|refine ai 15 a6 1 rfl rfl rfl rfl rfl rfl rfl rfl ?_|refine ai 15 a6 2 rfl rfl rfl rfl rfl rfl rfl rfl ?_|refine aj a6 0 rfl rfl rfl rfl rfl rfl rfl ?_|refine aj a6 1 rfl rfl rfl rfl rfl rfl rfl ?_|refine aj a6 2 rfl rfl rfl rfl rfl rfl rfl ?_|refine aj a6 3 rfl rfl rfl rfl rfl rfl rfl ?_|fail)|refine b5 a6 fun _=>?_|fail)
  refine sF 0 (.bool false) Tryz.underlying132 Tryz.underlying9 rfl rfl trivial rfl (by kernel_rfl) rfl ?_
  have hM : ((ib fs (.string t.Name)).getD (.sc (.bool false))) = cF (gc fs t.Name) := by
   unfold ib
   simp only
   cases gc fs t.Name <;> rfl
  rw [hM]
  repeat' (first|refine a8 ?_|refine aa ?_)
  refine aw rfl (fun h2 => ?_) (fun h2 => ?_)
  ·rw [if_pos h2] at had
   repeat' (first|refine a7 ?_|refine ae a6 rfl rfl ?_)
   refine b7 (du p b f.Lookups.length k (cS f.Lookups.length [] (o8 fs (f.Features.take i)))) [(bm, cj .string (ib fs))] (xA p b f.Lookups.length k _ t.Lookups (by omega) hok) rfl rfl (List.perm_append_comm (l₁ := [(bm, cj .string (ib fs))])) rfl fun c L1 ⟨k', hL1⟩ => ?_
   subst hL1
   rw [eI, ← had]
   refine aO (aK List.perm_append_comm) ?_
   repeat' (first|refine a7 ?_|refine a8 ?_|refine aI ?_|refine aa ?_|refine ae a6 rfl rfl ?_|(apply aW; refine aV ?_)|fail)
   exact aC (i + 1, k') rfl ⟨by rw [Gw]; rfl, trivial⟩ (by dsimp only; omega) (by dsimp only; omega) (fun _ _ h => h)
  ·rw [h2] at had
   simp only [Bool.false_eq_true, if_false, List.append_nil] at had
   repeat' (first|refine a7 ?_|refine au ?_|refine a8 ?_|refine aI ?_|refine aa ?_|refine ae a6 rfl rfl ?_|(apply aW; refine aV ?_)|fail)
   exact aC (i + 1, k) rfl ⟨by rw [Gw]; rfl, trivial⟩ (by dsimp only; omega) (by dsimp only; omega) (fun _ _ h => by dsimp only; rw [had]; exact h)
 have hil : i = f.Features.length := by have := Gy h; simp at this; omega
 subst hil
 rw [List.take_length]
 rw [List.take_length] at hok
 clear h
 repeat' (first|refine ah ?_|refine a7 ?_|refine aq ?_|refine aR ?_|refine a8 ?_|refine av ?_|refine aB ?_|refine ay ?_|refine aa ?_|refine ae a6 rfl rfl ?_|(apply bA;refine bh ?_)|fail)
 refine j5 (fr' := [(47, .fn 91 [.iptr [fp p]]), (2, .iptr (bZ f)), (8, .iptr [fp p])]) (L' := du p b f.Lookups.length k (cS f.Lookups.length [] (o8 fs f.Features))) ⟨rfl, rfl, rfl, trivial⟩ (fun _ _ h => h.sublist (List.sublist_cons_self ..)) ?_
 refine jC (ps := [48]) rfl fun σ0 l db rec hrec => ?_
 have hy : ∀ (i : Nat) (x : List Int × Option (Nat × Nat)) (z : Int), (i ≤ x.1.length ∧ ce f.Lookups.length x.1 ∧ fG f fs x.1 i) → x.1[i]? = some z → AY Tryz.prog σ0 l [aM z] (du p b f.Lookups.length x.2 x.1 ++ ([(db, gO)] ++ [(l, gk rec)])) fun c L => c = cF true ∧ ∃ x' : List Int × Option (Nat × Nat), (i + 1 ≤ x'.1.length ∧ ce f.Lookups.length x'.1 ∧ fG f fs x'.1 (i + 1)) ∧ L = du p b f.Lookups.length x'.2 x'.1 ++ ([(db, gO)] ++ [(l, gk rec)]) := by
  rintro i ⟨l1, k1⟩ z ⟨hi1, hok1, hw1⟩ hz
  dsimp only at hi1 hok1 hw1 hz ⊢
  rw [← List.append_assoc]
  refine rW hrec rfl rfl fun B1 hB1 => ?_
  repeat' (first|refine a7 ?_|refine aa ?_|refine ae a6 rfl rfl ?_)
  refine jD hrec.state ?_
  have hil := (Gn hz).1
  have hzr := (hw1.reach z (Gx hz)).in
  obtain ⟨x, hx⟩ : ∃ x, f.Lookups[z.toNat]? = some x := ⟨_, Ds (by omega)⟩
  have hxg := bj (c := bn) hx
  repeat' (first|refine ah ?_|refine a7 ?_|refine aq ?_|refine a8 ?_|refine aa ?_|refine ae a6 rfl rfl ?_|(apply aY; first|refine aX a6 ?_|refine aS a6 ?_)|fail)
  have hrr := zg hrec.state hrec.pending
  refine aw rfl (fun h => ?_) (fun h => ?_)
  ·have hK := Gz h
   repeat' (first|refine aR ?_|refine av ?_|refine aB ?_)
   refine oa ?_
   rw [hrr]
   exact ⟨rfl, (l1, k1), ⟨hil, hok1, hw1.next hz hx fun e => absurd e hK⟩, List.append_assoc ..⟩
  have hK : x.Kind = 4 := Decidable.not_not.1 (Gy h)
  clear h
  have hRl := hs.rulesL (Gx hx)
  repeat' (first|refine ah ?_|refine a7 ?_|refine aq ?_|refine au ?_|refine a8 ?_|refine aa ?_|refine ae a6 rfl rfl ?_|(apply aY; first|refine aX a6 ?_|refine aS a6 ?_)|fail)
  refine aN [2, 8, 48, 61, 62] (α := List Int × Nat × Option (Nat × Nat)) (fun y => [(63, aM y.2.1)]) (fun y => y.2.1 ≤ x.Rules.length ∧ i < y.1.length ∧ y.1[i]? = some z ∧ ce f.Lookups.length y.1 ∧ fG f fs y.1 i ∧ iY f y.1 (x.Rules.take y.2.1)) (fun y => du p b f.Lookups.length y.2.2 y.1 ++ [(db, gO)] ++ [(l, gk { rec with state := .busy })]) (fun y => x.Rules.length - y.2.1) (l1, 0, k1) rfl ⟨rfl, trivial⟩ ⟨Nat.zero_le _, hil, hz, hok1, hw1, fun r hr => by cases hr⟩ (fun _ _ h => h) ?_
  clear hil hz hok1 hw1 hi1
  rintro ⟨l1, j, k1⟩ ⟨hj, hil, hz, hok1, hw1, hR⟩
  dsimp only at hj hil hz hok1 hw1 hR ⊢
  try dsimp only [Gr, Gq, Gp, Gj]
  repeat' (first|refine ah ?_|refine a7 ?_|refine a8 ?_|refine aa ?_|refine ae a6 rfl rfl ?_)
  refine aw rfl (fun h => ?_) (fun h => ?_)
  ·have hjl : j < x.Rules.length := by have := Gz h; simp at this; omega
   obtain ⟨r, hr⟩ : ∃ r, x.Rules[j]? = some r := ⟨_, Ds hjl⟩
   have hrg := bj (c := bC) hr
   have hCl := hs.calls (Gx hx) (Gx hr)
   clear h
   repeat' (first|refine ah ?_|refine a7 ?_|refine aq ?_|refine au ?_|refine a8 ?_|refine aa ?_|refine ae a6 rfl rfl ?_|(apply aY; first|refine aX a6 ?_|refine aS a6 ?_)|(apply aH; first|refine ai 8 a6 0 rfl rfl rfl rfl rfl rfl rfl rfl ?_|refine ai 8 a6 1 rfl rfl rfl rfl rfl rfl rfl rfl ?_|refine ai 8 a6 2 rfl rfl rfl rfl rfl rfl rfl rfl ?_|refine ai 10 a6 0 rfl rfl rfl rfl rfl rfl rfl rfl ?_|refine ai 10 a6 1 rfl rfl rfl rfl rfl rfl rfl rfl ?_|refine ai 10 a6 2 rfl rfl rfl rfl rfl rfl rfl rfl ?_|refine ai 13 a6 0 rfl rfl rfl rfl rfl rfl rfl rfl ?_|refine ai 13 a6 1 rfl rfl rfl rfl rfl rfl rfl rfl ?_|refine ai 13 a6 2 rfl rfl rfl rfl rfl rfl rfl rfl ?_|refine ai 15 a6 0 rfl rfl rfl rfl rfl rfl rfl rfl ?_|refine ai 15 a6 1 rfl rfl rfl rfl rfl rfl rfl rfl ?_|refine ai 15 a6 2 rfl rfl rfl rfl rfl rfl rfl rfl ?_|refine aj a6 0 rfl rfl rfl rfl rfl rfl rfl ?_|refine aj a6 1 rfl rfl rfl rfl rfl rfl rfl ?_|refine aj a6 2 rfl rfl rfl rfl rfl rfl rfl ?_|refine aj a6 3 rfl rfl rfl rfl rfl rfl rfl ?_|fail)|refine b5 a6 fun _=>?_|fail)
   refine aN [2, 8, 48, 61, 62, 63, 68, 69] (α := List Int × Nat × Option (Nat × Nat)) (fun y => [(70, aM y.2.1)]) (fun y => y.2.1 ≤ r.Calls.length ∧ i < y.1.length ∧ y.1[i]? = some z ∧ ce f.Lookups.length y.1 ∧ fG f fs y.1 i ∧ iY f y.1 (x.Rules.take j) ∧ CallsIn f y.1 (r.Calls.take y.2.1)) (fun y => du p b f.Lookups.length y.2.2 y.1 ++ [(db, gO)] ++ [(l, gk { rec with state := .busy })]) (fun y => r.Calls.length - y.2.1) (l1, 0, k1) rfl ⟨rfl, trivial⟩ ⟨Nat.zero_le _, hil, hz, hok1, hw1, hR, fun c hc => by cases hc⟩ (fun _ _ h => h) ?_
   clear hil hz hok1 hw1 hR
   rintro ⟨l1, c, k1⟩ ⟨hc, hil, hz, hok1, hw1, hR, hCs⟩
   dsimp only at hc hil hz hok1 hw1 hR hCs ⊢
   try dsimp only [Gr, Gq, Gp, Gj]
   repeat' (first|refine ah ?_|refine a7 ?_|refine a8 ?_|refine aa ?_|refine ae a6 rfl rfl ?_)
   refine aw rfl (fun h => ?_) (fun h => ?_)
   ·have hcl : c < r.Calls.length := by have := Gz h; simp at this; omega
    obtain ⟨q, hq⟩ : ∃ q, r.Calls[c]? = some q := ⟨_, Ds hcl⟩
    have hqg := bj (c := dP) hq
    clear h
    repeat' (first|refine ah ?_|refine a7 ?_|refine aq ?_|refine au ?_|refine a8 ?_|refine aa ?_|refine ae a6 rfl rfl ?_|(apply aY; first|refine aX a6 ?_|refine aS a6 ?_)|(apply aH; first|refine ai 8 a6 0 rfl rfl rfl rfl rfl rfl rfl rfl ?_|refine ai 8 a6 1 rfl rfl rfl rfl rfl rfl rfl rfl ?_|refine ai 8 a6 2 rfl rfl rfl rfl rfl rfl rfl rfl ?_|refine ai 10 a6 0 rfl rfl rfl rfl rfl rfl rfl rfl ?_|refine ai 10 a6 1 rfl rfl rfl rfl rfl rfl rfl rfl ?_|refine ai 10 a6 2 rfl rfl rfl rfl rfl rfl rfl rfl ?_|refine ai 13 a6 0 rfl rfl rfl rfl rfl rfl rfl rfl ?_|refine ai 13 a6 1 rfl rfl rfl rfl rfl rfl rfl rfl ?_|refine ai 13 a6 2 rfl rfl rfl rfl rfl rfl rfl rfl ?_|refine ai 15 a6 0 rfl rfl rfl rfl rfl rfl rfl rfl ?_|refine ai 15 a6 1 rfl rfl rfl rfl rfl rfl rfl rfl ?_|refine ai 15 a6 2 rfl rfl rfl rfl rfl rfl rfl rfl ?_|refine aj a6 0 rfl rfl rfl rfl rfl rfl rfl ?_|refine aj a6 1 rfl rfl rfl rfl rfl rfl rfl ?_|refine aj a6 2 rfl rfl rfl rfl rfl rfl rfl ?_|refine aj a6 3 rfl rfl rfl rfl rfl rfl rfl ?_|fail)|refine b5 a6 fun _=>?_|(apply bA;refine bh ?_)|fail)
    refine aw rfl (fun h => ?_) (fun h => ?_)
    ·repeat' (first|refine a7 ?_|refine ae a6 rfl rfl ?_|refine bz a6 ?_|fail)
     refine b7 (du p b f.Lookups.length k1 l1) ([(db, gO)] ++ [(l, gk { rec with state := .busy })]) (xA p b f.Lookups.length k1 l1 [q.Lookup] (by omega) hok1) rfl rfl (by rw [← List.append_assoc]; exact Gm _) rfl fun c' L1 ⟨k', hL1⟩ => ?_
     subst hL1
     rw [← List.append_assoc]
     repeat' (first|refine a7 ?_|refine a8 ?_|refine aI ?_|refine aa ?_|refine ae a6 rfl rfl ?_|(apply aW; refine aV ?_)|fail)
     have hsub : ∀ z ∈ l1, z ∈ addOne f.Lookups.length l1 q.Lookup := fun z hz => kP.2 (Or.inl hz)
     have hge := tu (m := f.Lookups.length) (n := q.Lookup) hz
     refine aC (addOne f.Lookups.length l1 q.Lookup, c + 1, k') rfl ⟨by rw [Gw]; rfl, trivial⟩ ⟨by dsimp only; omega, (Gn hge).1, hge, hok1.one _, hw1.addOne (.call (hw1.reach z (Gx hz)) hx hK (Gx hr) (Gx hq) h) (by omega), hR.mono hsub, ?_⟩ (by dsimp only; omega) (fun _ _ h => h)
     intro y hy hyn
     dsimp only at hy ⊢
     rw [List.take_add_one, hq] at hy
     rcases Gl hy with hy | hy
     ·exact hsub _ (hCs y hy hyn)
     ·simp at hy
      subst hy
      have := s5 hyn
      exact kP.2 (Or.inr ⟨rfl, this.1, this.2⟩)
    ·repeat' (first|refine a7 ?_|refine au ?_|refine a8 ?_|refine aI ?_|refine aa ?_|refine ae a6 rfl rfl ?_|(apply aW; refine aV ?_)|fail)
     refine aC (l1, c + 1, k1) rfl ⟨by rw [Gw]; rfl, trivial⟩ ⟨by dsimp only; omega, hil, hz, hok1, hw1, hR, ?_⟩ (by dsimp only; omega) (fun _ _ h => h)
     intro y hy hyn
     dsimp only at hy ⊢
     rw [List.take_add_one, hq] at hy
     rcases Gl hy with hy | hy
     ·exact hCs y hy hyn
     ·simp at hy; subst hy; rw [h] at hyn; cases hyn
   ·have hcl : c = r.Calls.length := by have := Gy h; simp at this; omega
    subst hcl
    rw [List.take_length] at hCs
    repeat' (first|refine a7 ?_|refine aR ?_|refine a8 ?_|refine av ?_|refine aI ?_|refine aB ?_|refine ay ?_|refine aa ?_|refine ae a6 rfl rfl ?_|(apply aW; refine aV ?_)|fail)
    refine aC (l1, j + 1, k1) rfl ⟨by rw [Gw]; rfl, trivial⟩ ⟨by dsimp only; omega, hil, hz, hok1, hw1, fun y hy => ?_⟩ (by dsimp only; omega) (fun _ _ h => h)
    dsimp only at hy ⊢
    rw [List.take_add_one, hr] at hy
    rcases Gl hy with hy | hy
    ·exact hR y hy
    ·simp at hy; subst hy; exact hCs
  ·have hjl : j = x.Rules.length := by have := Gy h; simp at this; omega
   subst hjl
   rw [List.take_length] at hR
   repeat' (first|refine aR ?_|refine av ?_|refine aI ?_|refine aB ?_|refine ay ?_)
   refine oa ?_
   rw [hrr]
   exact ⟨rfl, (l1, k1), ⟨hil, hok1, hw1.next hz hx fun _ => hR⟩, List.append_assoc ..⟩
 have hp := z8 (n := f.Lookups.length) (α := List Int × Option (Nat × Nat)) (·.1) (·.2) (fun _ => [(db, gO)] ++ [(l, gk rec)]) (fun i x => i ≤ x.1.length ∧ ce f.Lookups.length x.1 ∧ fG f fs x.1 i) (by omega) (fun i x hj => ⟨hj.1, hj.2.1.len⟩) hy (_, k) ⟨Nat.zero_le _, hok, fG.start2⟩
 dsimp only at hp
 rw [← List.append_assoc] at hp
 refine ⟨_, hp, ?_⟩
 ·rintro c L' ⟨⟨l1, k1⟩, ⟨_, hok1, hw1⟩, hL'⟩
  dsimp only at hok1 hw1 hL'
  refine ⟨rec, du p b f.Lookups.length k1 l1 ++ [(db, gO)], by rw [hL', List.append_assoc], (by rw [hrec.state]; intro e; cases e), ?_⟩
  rw [hrec.pending]
  show AX _ _ _ _ _ _ _ _
  repeat' (first|refine ah ?_|refine a7 ?_|refine a8 ?_|refine aI ?_|refine ae a6 rfl rfl ?_)
  refine b7 (du p b f.Lookups.length k1 l1) [(db, gO)] (zk p b f.Lookups.length k1 l1 (by have := hok1.len; omega)) rfl rfl (Gm _) rfl fun c L1 ⟨hc, hL1⟩ => ?_
  subst hc; subst hL1
  rw [lc hok1, hw1.end]
  repeat' (first|refine ar ?_|refine a8 ?_|refine aa ?_|refine ae a6 rfl rfl ?_)
  exact j6 [db] (du p b f.Lookups.length k1 l1) rfl (Gm _) (cs := [.imm 1 (aU (dx f fs))]) (show cb _ 4 = some _ ∧ True from ⟨rfl, trivial⟩) rfl
end Go.Proofs.YtjjpkibjffmceaaGreat
namespace Go.Proofs.YtjjpkibjffmceaaGreat
open Go.RowKit
attribute [local irreducible] AT bT AX AO Av Kt bk ej DA cX
def BS (n : Nat) (l : List Int) (z : Int) : Bool := decide (0 ≤ z ∧ z < n) && l.contains z
theorem E5 (p b n : Nat) (k : Option (Nat × Nat)) (l : List Int) (z : Int) : AC Tryz.prog 87 [fp p, aM z] (bJ p b n k l) fun c L => c = cF (BS n l z) ∧ L = bJ p b n k l := by
 refine aP Tryz.func87 rfl Tryz.ntmps87 rfl fun B => ?_
 unfold BS
 by_cases h0 : 0 ≤ z
 ·by_cases h1 : z < n
  ·have hfg := mA l n h0 h1
   rw [decide_eq_true (And.intro h0 h1)]
   unfold bJ
   repeat' (first|refine ah ?_|refine a7 ?_|refine a8 ?_|refine aa ?_|refine ae a6 rfl rfl ?_)
   rw [decide_eq_true h0]
   repeat' (first|refine ae a6 rfl rfl ?_|refine aG rfl rfl ?_|(apply bB; first|refine ak a6 0 rfl rfl rfl rfl rfl ?_|refine ak a6 1 rfl rfl rfl rfl rfl ?_|refine ak a6 2 rfl rfl rfl rfl rfl ?_|refine ak a6 3 rfl rfl rfl rfl rfl ?_|refine aD a6 0 rfl rfl rfl rfl rfl ?_|refine aD a6 1 rfl rfl rfl rfl rfl ?_|refine aD a6 2 rfl rfl rfl rfl rfl ?_|refine ak a6 1 rfl rfl rfl (by assumption) rfl ?_|refine ak a6 0 rfl rfl rfl (by assumption) rfl ?_|fail)|fail)
   rw [decide_eq_true h1]
   repeat' (first|refine ar ?_|refine a8 ?_|refine aa ?_|refine ae a6 rfl rfl ?_|refine aG rfl rfl ?_|(apply bB; first|refine ak a6 0 rfl rfl rfl rfl rfl ?_|refine ak a6 1 rfl rfl rfl rfl rfl ?_|refine ak a6 2 rfl rfl rfl rfl rfl ?_|refine ak a6 3 rfl rfl rfl rfl rfl ?_|refine aD a6 0 rfl rfl rfl rfl rfl ?_|refine aD a6 1 rfl rfl rfl rfl rfl ?_|refine aD a6 2 rfl rfl rfl rfl rfl ?_|refine ak a6 1 rfl rfl rfl (by assumption) rfl ?_|refine ak a6 0 rfl rfl rfl (by assumption) rfl ?_|fail)|(apply aY; first|refine aX a6 ?_|refine aS a6 ?_)|fail)
   exact aA rfl rfl ⟨rfl, rfl⟩
  ·rw [decide_eq_false (fun h => h1 h.2)]
   unfold bJ
   repeat' (first|refine ah ?_|refine a7 ?_|refine a8 ?_|refine aa ?_|refine ae a6 rfl rfl ?_)
   rw [decide_eq_true h0]
   repeat' (first|refine ae a6 rfl rfl ?_|refine aG rfl rfl ?_|(apply bB; first|refine ak a6 0 rfl rfl rfl rfl rfl ?_|refine ak a6 1 rfl rfl rfl rfl rfl ?_|refine ak a6 2 rfl rfl rfl rfl rfl ?_|refine ak a6 3 rfl rfl rfl rfl rfl ?_|refine aD a6 0 rfl rfl rfl rfl rfl ?_|refine aD a6 1 rfl rfl rfl rfl rfl ?_|refine aD a6 2 rfl rfl rfl rfl rfl ?_|refine ak a6 1 rfl rfl rfl (by assumption) rfl ?_|refine ak a6 0 rfl rfl rfl (by assumption) rfl ?_|fail)|fail)
   rw [decide_eq_false h1]
   repeat' (first|refine ar ?_|refine a8 ?_|refine aa ?_|refine ae a6 rfl rfl ?_|refine aL rfl rfl rfl rfl ?_)
   exact aA rfl rfl ⟨rfl, rfl⟩
 ·rw [decide_eq_false (fun h => h0 h.1)]
  unfold bJ
  repeat' (first|refine ah ?_|refine a7 ?_|refine a8 ?_|refine aa ?_|refine ae a6 rfl rfl ?_)
  rw [decide_eq_false h0]
  repeat' (first|refine ar ?_|refine a8 ?_|refine aa ?_|refine ae a6 rfl rfl ?_|refine aL rfl rfl rfl rfl ?_)
  exact aA rfl rfl ⟨rfl, rfl⟩
theorem CO {g : FuncId} {caps : List AV} {u : AV} [bD Tryz.prog g] (hu : iU u = some (g, caps)) (l : List Int) (p : Int → Bool) (L0 : AL) (hw : ∀ z, AC Tryz.prog g ([aM z] ++ caps) L0 fun c L' => c = cF (p z) ∧ L' = L0) : AC Tryz.prog 201 [.imm 1 (aU l), u] L0 fun c L => (∃ z : Int, c = aM z ∧ (0 ≤ z ↔ l.any p = true)) ∧ L = L0 := by
 refine aP Tryz.func201 rfl Tryz.ntmps201 rfl fun B => ?_
 have hll := aQ l
 refine cz 0 rfl rfl fun hlen => ?_
 rw [aQ] at hlen
 repeat' (first|refine ah ?_|refine a7 ?_|refine aq ?_|refine a8 ?_|refine aa ?_|refine ae a6 rfl rfl ?_)
 refine aN [0, 1, 7] (α := Nat) (fun i => [(8, aM i)]) (fun i => i ≤ l.length ∧ (l.take i).any p = false) (fun _ => L0) (fun i => l.length - i) 0 rfl ⟨rfl, trivial⟩ ⟨Nat.zero_le _, by simp⟩ (fun _ _ h => h) fun i ⟨hi, ha⟩ => ?_
 try dsimp only [Gr, Gq, Gp, Gj]
 repeat' (first|refine ah ?_|refine a7 ?_|refine a8 ?_|refine aa ?_|refine ae a6 rfl rfl ?_)
 refine aw rfl (fun h => ?_) (fun h => ?_)
 ·have hil : i < l.length := by have := Gz h; rw [aQ] at this; omega
  obtain ⟨z, hz⟩ : ∃ z, l[i]? = some z := ⟨_, Ds hil⟩
  have hzg := bN hz
  repeat' (first|refine ah ?_|refine a7 ?_|refine aq ?_|refine au ?_|refine a8 ?_|refine aa ?_|refine ae a6 rfl rfl ?_|(apply aY; first|refine aX a6 ?_|refine aS a6 ?_)|fail)
  refine cV L0 [] (hw z) rfl hu rfl (bR rfl) rfl rfl fun c L1 ⟨hc, hL⟩ => ?_
  subst hc; subst hL
  rw [List.append_nil]
  repeat' (first|refine a8 ?_|refine aa ?_)
  refine aw rfl (fun h2 => ?_) (fun h2 => ?_)
  ·repeat' (first|refine ah ?_|refine a7 ?_|refine ar ?_|refine a8 ?_|refine aF ?_|refine aT ?_|refine bE ?_|refine aa ?_|refine ae a6 rfl rfl ?_)
   refine aA rfl rfl ⟨⟨i, rfl, ?_⟩, rfl⟩
   exact ⟨fun _ => List.any_eq_true.2 ⟨z, Gx hz, h2⟩, fun _ => by omega⟩
  ·repeat' (first|refine a7 ?_|refine au ?_|refine a8 ?_|refine aI ?_|refine aa ?_|refine ae a6 rfl rfl ?_|(apply aW; refine aV ?_)|fail)
   refine aC (i + 1) rfl ⟨by rw [Gw]; rfl, trivial⟩ ⟨by omega, ?_⟩ (by omega) (fun _ _ h => h)
   rw [List.take_add_one, hz, List.any_append, ha]
   simpa using h2
 ·have hil : i = l.length := by have := Gy h; rw [aQ] at this; omega
  subst hil
  rw [List.take_length] at ha
  repeat' (first|refine ah ?_|refine a7 ?_|refine ar ?_|refine aR ?_|refine a8 ?_|refine av ?_|refine aB ?_|refine ay ?_|refine aa ?_|refine ae a6 rfl rfl ?_)
  refine aA rfl rfl ⟨⟨-1, rfl, ?_⟩, rfl⟩
  rw [ha]
  exact ⟨fun h => absurd h (by decide), fun h => by cases h⟩
theorem w6 {g : FuncId} {caps : List AV} {u : AV} [bD Tryz.prog g] (hu : iU u = some (g, caps)) (l : List Int) (p : Int → Bool) (L0 : AL) (hw : ∀ z, AC Tryz.prog g ([aM z] ++ caps) L0 fun c L' => c = cF (p z) ∧ L' = L0) : AC Tryz.prog 148 [.imm 1 (aU l), u] L0 fun c L => c = cF (l.any p) ∧ L = L0 := by
 refine aP Tryz.func148 rfl Tryz.ntmps148 rfl fun B => ?_
 repeat' (first|refine ah ?_|refine a7 ?_|refine a8 ?_|refine aa ?_|refine ae a6 rfl rfl ?_)
 refine b7 L0 [] (CO hu l p L0 hw) rfl (fe hu) (bR rfl) rfl fun c L1 ⟨⟨z, hc, hz⟩, hL⟩ => ?_
 subst hc; subst hL
 rw [List.append_nil]
 repeat' (first|refine ar ?_|refine a8 ?_|refine aa ?_|refine ae a6 rfl rfl ?_)
 refine aA rfl rfl ⟨?_, rfl⟩
 refine congrArg (fun b => cF b) ?_
 rw [Bool.eq_iff_iff, decide_eq_true_eq]
 exact hz
end Go.Proofs.YtjjpkibjffmceaaGreat
