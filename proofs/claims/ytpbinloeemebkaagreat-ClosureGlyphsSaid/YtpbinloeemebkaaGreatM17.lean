/-
  The program: the lookups that can be done.
-/
import Derived.Test.YtpbinloeemebkaaGreatM16
namespace Go.Proofs.YtpbinloeemebkaaGreat
open Go.RowKit
attribute [local irreducible] AT bN AX AO Av Kt bi dE DA d6
open Go.MapKept
def gm (l : List ByteArray) : Value → Option AV
 | .string s => if gi l s then some (c8 true) else none
 | _ => none
theorem sn : (fun _ => none) = gm ([] : List ByteArray) := by
 funext v
 unfold gm
 split <;> rfl
theorem sm {l : List ByteArray} {i : Nat} {s : ByteArray} (h : l[i]? = some s) : gm (l.take (i + 1)) (.string s) = some (c8 true) := by
 unfold gm
 simp only
 rw [if_pos (j5.2 (by rw [List.take_add_one, h]; simp))]
theorem qY {l : List ByteArray} {i : Nat} {s : ByteArray} (h : l[i]? = some s) (q : Value) (hq : q ≠ .string s) : gm (l.take (i + 1)) q = gm (l.take i) q := by
 unfold gm
 split
 ·rename_i t
  have : gi (l.take (i + 1)) t = gi (l.take i) t := by
   rw [Bool.eq_iff_iff, j5, j5, List.take_add_one, h, List.mem_append]
   constructor
   ·rintro (h | h)
    ·exact h
    ·simp at h; subst h; exact absurd rfl hq
   ·exact Or.inl
  rw [this]
 ·rfl
theorem dT (n : Nat) (l a b : List Int) : bR n (bR n l a) b = bR n l (a ++ b) := by unfold bR; rw [List.foldl_append]
theorem jX {n : Nat} {l : List Int} {z y : Int} : y ∈ addOne n l z ↔ y ∈ l ∨ (y = z ∧ 0 ≤ z ∧ z < n) := by
 unfold addOne
 split
 ·rename_i h
  rw [List.mem_append, List.mem_singleton]
  constructor
  ·rintro (h1 | h1)
   ·exact Or.inl h1
   ·exact Or.inr ⟨h1, h.1, h.2.1⟩
  ·rintro (h1 | h1)
   ·exact Or.inl h1
   ·exact Or.inr h1.1
 ·rename_i h
  constructor
  ·exact Or.inl
  ·rintro (h1 | ⟨h1, h2, h3⟩)
   ·exact h1
   ·subst h1; exact Classical.byContradiction fun hn => h ⟨h2, h3, hn⟩
theorem dw {n : Nat} {l ns : List Int} {y : Int} : y ∈ bR n l ns ↔ y ∈ l ∨ (y ∈ ns ∧ 0 ≤ y ∧ y < n) := by
 unfold bR
 induction ns generalizing l with
 | nil => simp
 | cons z ns ih =>
  rw [List.foldl_cons, ih, jX, List.mem_cons]
  constructor
  ·rintro ((h | ⟨h1, h2, h3⟩) | ⟨h1, h2, h3⟩)
   ·exact Or.inl h
   ·subst h1; exact Or.inr ⟨Or.inl rfl, h2, h3⟩
   ·exact Or.inr ⟨Or.inr h1, h2, h3⟩
  ·rintro (h | ⟨h1 | h1, h2, h3⟩)
   ·exact Or.inl (Or.inl h)
   ·subst h1; exact Or.inl (Or.inr ⟨rfl, h2, h3⟩)
   ·exact Or.inr ⟨h1, h2, h3⟩
theorem dH.start2 {f : aH} {fs : List ByteArray} : dH f fs (bR f.Lookups.length [] (iT fs f.Features)) 0 where
 reach z hz := by
  rcases dw.1 hz with h | ⟨h1, h2, h3⟩
  ·cases h
  ·obtain ⟨t, ht, h4, h5⟩ := mV.1 h1
   exact .base ht h4 h5 h2 h3
 nodup := (cm.nil.add _).nodup
 base z hz h0 h1 := dw.2 (Or.inr ⟨hz, h0, h1⟩)
 done j hj := absurd hj (Nat.not_lt_zero _)
theorem dH.addOne {f : aH} {fs : List ByteArray} {l : List Int} {i m : Nat} {n : Int} (h : dH f fs l i) (hn : gM f fs n) (hi : i ≤ l.length) : dH f fs (addOne m l n) i := by
 unfold Go.Proofs.YtpbinloeemebkaaGreat.addOne
 split
 ·rename_i hc
  exact h.add hn hc.2.2 hi
 ·exact h
theorem rD {l : List Int} {m i : Nat} {n z : Int} (h : l[i]? = some z) : (addOne m l n)[i]? = some z := by
 unfold addOne
 split
 ·rw [List.getElem?_append_left (List.getElem?_eq_some_iff.1 h).1]; exact h
 ·exact h
theorem wU {rec : Loop} (h1 : rec.state = .ready) (h2 : rec.pending = none) : ({ ({ rec with state := .busy } : Loop) with state := .ready, pending := none } : Loop) = rec := by cases rec; simp_all
set_option maxHeartbeats 4000000 in
theorem kR (f : aH) (fs : List ByteArray) (hs : ck f) : bo Tryz.prog 13 [bw f, .imm 1 (jJ fs)] (.imm 1 (aV (dc f fs))) := by
 refine iS Tryz.func13 rfl Tryz.ntmps13 rfl fun B => ?_
 have hF := hs.features
 have hLk := hs.lookups
 refine cg 1 rfl rfl fun hlen => ?_
 rw [i7] at hlen
 (repeat' (first|refine ah ?_|refine a6 ?_|refine a8 ?_|refine aa ?_|refine ae a7 rfl rfl ?_|refine b6 ?_|fail))
 refine dW .string fun bm => ?_
 rw [sn]
 (repeat' (first|refine ah ?_|refine a6 ?_|refine am ?_|refine a8 ?_|refine aa ?_|refine ae a7 rfl rfl ?_|fail))
 refine aL [2, 5, 17, 18] (α := Nat) (fun i => [(19, aQ i)]) (fun i => i ≤ fs.length) (fun i => [(bm, c6 .string (gm (fs.take i)))]) (fun i => fs.length - i) 0 rfl ⟨rfl, trivial⟩ (Nat.zero_le _) (fun _ _ h => h) fun i hi => ?_
 try dsimp only [List.cons_append, List.nil_append, List.map_cons, List.map_nil]
 (repeat' (first|refine ah ?_|refine a6 ?_|refine a8 ?_|refine aa ?_|refine ae a7 rfl rfl ?_|fail))
 refine av rfl (fun h => ?_) (fun h => ?_)
 ·have hil : i < fs.length := by have := of_decide_eq_true h; simp [i7] at this; omega
  obtain ⟨z, hz⟩ : ∃ z, fs[i]? = some z := ⟨_, List.getElem?_eq_getElem hil⟩
  have hzg := ro hz
  (repeat' (first|refine ah ?_|refine a6 ?_|refine am ?_|refine ak ?_|refine a8 ?_|refine aa ?_|refine ae a7 rfl rfl ?_|(apply aP; first|refine aO a7 ?_|refine aI a7 ?_)|fail))
  refine cG 0 (gm (fs.take (i + 1))) Tryz.underlying78 Tryz.underlying9 rfl rfl trivial rfl rfl (sm hz) (qY hz) ?_
  (repeat' (first|refine a6 ?_|refine a8 ?_|refine aJ ?_|refine aa ?_|refine ae a7 rfl rfl ?_|(apply aX; refine aW ?_)|fail))
  exact aE (i + 1) rfl ⟨by rw [Int.natCast_add]; rfl, trivial⟩ (by omega) (by omega) (fun _ _ h => h)
 have hil : i = fs.length := by have := of_decide_eq_false h; simp [i7] at this; omega
 subst hil
 rw [List.take_length]
 clear h
 (repeat' (first|refine ah ?_|refine a6 ?_|refine aR ?_|refine a8 ?_|refine az ?_|refine aC ?_|refine aA ?_|refine ae a7 rfl rfl ?_|fail))
 refine aZ [] [(bm, c6 .string (gm fs))] (z6 (f.Lookups.map bq).length (by simpa using by omega)) rfl rfl (List.Perm.refl _) rfl fun c L1 ⟨p, b, hc, hL1⟩ => ?_
 subst hc; subst hL1
 rw [List.length_map]
 refine bh (bc List.perm_append_comm) ?_
 (repeat' (first|refine ah ?_|refine a6 ?_|refine am ?_|refine a8 ?_|refine aa ?_|refine ae a7 rfl rfl ?_|(apply aT; first|refine ai 8 a7 0 rfl rfl rfl rfl rfl rfl rfl rfl ?_|refine ai 8 a7 1 rfl rfl rfl rfl rfl rfl rfl rfl ?_|refine ai 8 a7 2 rfl rfl rfl rfl rfl rfl rfl rfl ?_|refine ai 10 a7 0 rfl rfl rfl rfl rfl rfl rfl rfl ?_|refine ai 10 a7 1 rfl rfl rfl rfl rfl rfl rfl rfl ?_|refine ai 10 a7 2 rfl rfl rfl rfl rfl rfl rfl rfl ?_|refine ai 13 a7 0 rfl rfl rfl rfl rfl rfl rfl rfl ?_|refine ai 13 a7 1 rfl rfl rfl rfl rfl rfl rfl rfl ?_|refine ai 13 a7 2 rfl rfl rfl rfl rfl rfl rfl rfl ?_|refine ai 15 a7 0 rfl rfl rfl rfl rfl rfl rfl rfl ?_|refine ai 15 a7 1 rfl rfl rfl rfl rfl rfl rfl rfl ?_|refine ai 15 a7 2 rfl rfl rfl rfl rfl rfl rfl rfl ?_|refine aj a7 0 rfl rfl rfl rfl rfl rfl rfl ?_|refine aj a7 1 rfl rfl rfl rfl rfl rfl rfl ?_|refine aj a7 2 rfl rfl rfl rfl rfl rfl rfl ?_|refine aj a7 3 rfl rfl rfl rfl rfl rfl rfl ?_|fail)|refine bb a7 fun _=>?_|fail))
 refine aL [2, 5, 8, 31, 32] (α := Nat × Option (Nat × Nat)) (fun x => [(33, aQ x.1)]) (fun x => x.1 ≤ f.Features.length) (fun x => [(bm, c6 .string (gm fs))] ++ cW p b f.Lookups.length x.2 (bR f.Lookups.length [] (iT fs (f.Features.take x.1)))) (fun x => f.Features.length - x.1) (0, none) rfl ⟨rfl, trivial⟩ (Nat.zero_le _) (fun _ _ h => h) ?_
 rintro ⟨i, k⟩ hi
 dsimp only at hi ⊢
 have hok := (cm.nil (n := f.Lookups.length)).add (iT fs (f.Features.take i))
 try dsimp only [List.cons_append, List.nil_append, List.map_cons, List.map_nil]
 (repeat' (first|refine ah ?_|refine a6 ?_|refine a8 ?_|refine aa ?_|refine ae a7 rfl rfl ?_|fail))
 refine av rfl (fun h => ?_) (fun h => ?_)
 ·have hil : i < f.Features.length := by have := of_decide_eq_true h; simp at this; omega
  obtain ⟨t, ht⟩ : ∃ z, f.Features[i]? = some z := ⟨_, List.getElem?_eq_getElem hil⟩
  have htg := b5 (c := bS) ht
  have had := qj fs f.Features i ht
  (repeat' (first|refine ah ?_|refine a6 ?_|refine am ?_|refine ak ?_|refine a8 ?_|refine aa ?_|refine ae a7 rfl rfl ?_|(apply aP; first|refine aO a7 ?_|refine aI a7 ?_)|(apply aT; first|refine ai 8 a7 0 rfl rfl rfl rfl rfl rfl rfl rfl ?_|refine ai 8 a7 1 rfl rfl rfl rfl rfl rfl rfl rfl ?_|refine ai 8 a7 2 rfl rfl rfl rfl rfl rfl rfl rfl ?_|refine ai 10 a7 0 rfl rfl rfl rfl rfl rfl rfl rfl ?_|refine ai 10 a7 1 rfl rfl rfl rfl rfl rfl rfl rfl ?_|refine ai 10 a7 2 rfl rfl rfl rfl rfl rfl rfl rfl ?_|refine ai 13 a7 0 rfl rfl rfl rfl rfl rfl rfl rfl ?_|refine ai 13 a7 1 rfl rfl rfl rfl rfl rfl rfl rfl ?_|refine ai 13 a7 2 rfl rfl rfl rfl rfl rfl rfl rfl ?_|refine ai 15 a7 0 rfl rfl rfl rfl rfl rfl rfl rfl ?_|refine ai 15 a7 1 rfl rfl rfl rfl rfl rfl rfl rfl ?_|refine ai 15 a7 2 rfl rfl rfl rfl rfl rfl rfl rfl ?_|refine aj a7 0 rfl rfl rfl rfl rfl rfl rfl ?_|refine aj a7 1 rfl rfl rfl rfl rfl rfl rfl ?_|refine aj a7 2 rfl rfl rfl rfl rfl rfl rfl ?_|refine aj a7 3 rfl rfl rfl rfl rfl rfl rfl ?_|fail)|refine bb a7 fun _=>?_|fail))
  refine gX 0 (.bool false) Tryz.underlying78 Tryz.underlying9 rfl rfl trivial rfl (by kernel_rfl) rfl ?_
  have hM : ((gm fs (.string t.Name)).getD (.sc (.bool false))) = c8 (gi fs t.Name) := by
   unfold gm
   simp only
   cases gi fs t.Name <;> rfl
  rw [hM]
  (repeat' (first|refine a8 ?_|refine aa ?_|fail))
  refine av rfl (fun h2 => ?_) (fun h2 => ?_)
  ·rw [if_pos h2] at had
   (repeat' (first|refine a6 ?_|refine ae a7 rfl rfl ?_|fail))
   refine aZ (cW p b f.Lookups.length k (bR f.Lookups.length [] (iT fs (f.Features.take i)))) [(bm, c6 .string (gm fs))] (vw p b f.Lookups.length k _ t.Lookups (by omega) hok) rfl rfl (List.perm_append_comm (l₁ := [(bm, c6 .string (gm fs))])) rfl fun c L1 ⟨k', hL1⟩ => ?_
   subst hL1
   rw [dT, ← had]
   refine bh (bc List.perm_append_comm) ?_
   (repeat' (first|refine a6 ?_|refine a8 ?_|refine aJ ?_|refine aa ?_|refine ae a7 rfl rfl ?_|(apply aX; refine aW ?_)|fail))
   exact aE (i + 1, k') rfl ⟨by rw [Int.natCast_add]; rfl, trivial⟩ (by dsimp only; omega) (by dsimp only; omega) (fun _ _ h => h)
  ·rw [h2] at had
   simp only [Bool.false_eq_true, if_false, List.append_nil] at had
   (repeat' (first|refine a6 ?_|refine ak ?_|refine a8 ?_|refine aJ ?_|refine aa ?_|refine ae a7 rfl rfl ?_|(apply aX; refine aW ?_)|fail))
   exact aE (i + 1, k) rfl ⟨by rw [Int.natCast_add]; rfl, trivial⟩ (by dsimp only; omega) (by dsimp only; omega) (fun _ _ h => by dsimp only; rw [had]; exact h)
 have hil : i = f.Features.length := by have := of_decide_eq_false h; simp at this; omega
 subst hil
 rw [List.take_length]
 rw [List.take_length] at hok
 clear h
 (repeat' (first|refine ah ?_|refine a6 ?_|refine am ?_|refine aR ?_|refine a8 ?_|refine az ?_|refine aC ?_|refine aA ?_|refine aa ?_|refine ae a7 rfl rfl ?_|(apply ba;refine aY ?_)|fail))
 refine fA (fr' := [(47, .fn 51 [.iptr [eV p]]), (2, .iptr (bO f)), (8, .iptr [eV p])]) (L' := cW p b f.Lookups.length k (bR f.Lookups.length [] (iT fs f.Features))) ⟨rfl, rfl, rfl, trivial⟩ (fun _ _ h => h.sublist (List.sublist_cons_self ..)) ?_
 refine eY (ps := [48]) rfl fun σ0 l db rec hrec => ?_
 have hy : ∀ (i : Nat) (x : List Int × Option (Nat × Nat)) (z : Int), (i ≤ x.1.length ∧ cm f.Lookups.length x.1 ∧ dH f fs x.1 i) → x.1[i]? = some z → AY Tryz.prog σ0 l [aQ z] (cW p b f.Lookups.length x.2 x.1 ++ ([(db, dO)] ++ [(l, dV rec)])) fun c L => c = c8 true ∧ ∃ x' : List Int × Option (Nat × Nat), (i + 1 ≤ x'.1.length ∧ cm f.Lookups.length x'.1 ∧ dH f fs x'.1 (i + 1)) ∧ L = cW p b f.Lookups.length x'.2 x'.1 ++ ([(db, dO)] ++ [(l, dV rec)]) := by
  rintro i ⟨l1, k1⟩ z ⟨hi1, hok1, hw1⟩ hz
  dsimp only at hi1 hok1 hw1 hz ⊢
  rw [← List.append_assoc]
  refine kE hrec rfl rfl fun B1 hB1 => ?_
  (repeat' (first|refine a6 ?_|refine aa ?_|refine ae a7 rfl rfl ?_|fail))
  refine eZ hrec.state ?_
  have hil := (List.getElem?_eq_some_iff.1 hz).1
  have hzr := (hw1.reach z (List.mem_of_getElem? hz)).in
  obtain ⟨x, hx⟩ : ∃ x, f.Lookups[z.toNat]? = some x := ⟨_, List.getElem?_eq_getElem (by omega)⟩
  have hxg := b5 (c := bq) hx
  (repeat' (first|refine ah ?_|refine a6 ?_|refine am ?_|refine a8 ?_|refine aa ?_|refine ae a7 rfl rfl ?_|(apply aP; first|refine aO a7 ?_|refine aI a7 ?_)|fail))
  have hrr := wU hrec.state hrec.pending
  refine av rfl (fun h => ?_) (fun h => ?_)
  ·have hK := of_decide_eq_true h
   (repeat' (first|refine aR ?_|refine az ?_|refine aC ?_|fail))
   refine g7 ?_
   rw [hrr]
   exact ⟨rfl, (l1, k1), ⟨hil, hok1, hw1.next hz hx fun e => absurd e hK⟩, List.append_assoc ..⟩
  have hK : x.Kind = 4 := Decidable.not_not.1 (of_decide_eq_false h)
  clear h
  have hRl := hs.rulesL (List.mem_of_getElem? hx)
  (repeat' (first|refine ah ?_|refine a6 ?_|refine am ?_|refine ak ?_|refine a8 ?_|refine aa ?_|refine ae a7 rfl rfl ?_|(apply aP; first|refine aO a7 ?_|refine aI a7 ?_)|fail))
  refine aL [2, 8, 48, 61, 62] (α := List Int × Nat × Option (Nat × Nat)) (fun y => [(63, aQ y.2.1)]) (fun y => y.2.1 ≤ x.Rules.length ∧ i < y.1.length ∧ y.1[i]? = some z ∧ cm f.Lookups.length y.1 ∧ dH f fs y.1 i ∧ fS f y.1 (x.Rules.take y.2.1)) (fun y => cW p b f.Lookups.length y.2.2 y.1 ++ [(db, dO)] ++ [(l, dV { rec with state := .busy })]) (fun y => x.Rules.length - y.2.1) (l1, 0, k1) rfl ⟨rfl, trivial⟩ ⟨Nat.zero_le _, hil, hz, hok1, hw1, fun r hr => by cases hr⟩ (fun _ _ h => h) ?_
  clear hil hz hok1 hw1 hi1
  rintro ⟨l1, j, k1⟩ ⟨hj, hil, hz, hok1, hw1, hR⟩
  dsimp only at hj hil hz hok1 hw1 hR ⊢
  try dsimp only [List.cons_append, List.nil_append, List.map_cons, List.map_nil]
  (repeat' (first|refine ah ?_|refine a6 ?_|refine a8 ?_|refine aa ?_|refine ae a7 rfl rfl ?_|fail))
  refine av rfl (fun h => ?_) (fun h => ?_)
  ·have hjl : j < x.Rules.length := by have := of_decide_eq_true h; simp at this; omega
   obtain ⟨r, hr⟩ : ∃ r, x.Rules[j]? = some r := ⟨_, List.getElem?_eq_getElem hjl⟩
   have hrg := b5 (c := ca) hr
   have hCl := hs.calls (List.mem_of_getElem? hx) (List.mem_of_getElem? hr)
   clear h
   (repeat' (first|refine ah ?_|refine a6 ?_|refine am ?_|refine ak ?_|refine a8 ?_|refine aa ?_|refine ae a7 rfl rfl ?_|(apply aP; first|refine aO a7 ?_|refine aI a7 ?_)|(apply aT; first|refine ai 8 a7 0 rfl rfl rfl rfl rfl rfl rfl rfl ?_|refine ai 8 a7 1 rfl rfl rfl rfl rfl rfl rfl rfl ?_|refine ai 8 a7 2 rfl rfl rfl rfl rfl rfl rfl rfl ?_|refine ai 10 a7 0 rfl rfl rfl rfl rfl rfl rfl rfl ?_|refine ai 10 a7 1 rfl rfl rfl rfl rfl rfl rfl rfl ?_|refine ai 10 a7 2 rfl rfl rfl rfl rfl rfl rfl rfl ?_|refine ai 13 a7 0 rfl rfl rfl rfl rfl rfl rfl rfl ?_|refine ai 13 a7 1 rfl rfl rfl rfl rfl rfl rfl rfl ?_|refine ai 13 a7 2 rfl rfl rfl rfl rfl rfl rfl rfl ?_|refine ai 15 a7 0 rfl rfl rfl rfl rfl rfl rfl rfl ?_|refine ai 15 a7 1 rfl rfl rfl rfl rfl rfl rfl rfl ?_|refine ai 15 a7 2 rfl rfl rfl rfl rfl rfl rfl rfl ?_|refine aj a7 0 rfl rfl rfl rfl rfl rfl rfl ?_|refine aj a7 1 rfl rfl rfl rfl rfl rfl rfl ?_|refine aj a7 2 rfl rfl rfl rfl rfl rfl rfl ?_|refine aj a7 3 rfl rfl rfl rfl rfl rfl rfl ?_|fail)|refine bb a7 fun _=>?_|fail))
   refine aL [2, 8, 48, 61, 62, 63, 68, 69] (α := List Int × Nat × Option (Nat × Nat)) (fun y => [(70, aQ y.2.1)]) (fun y => y.2.1 ≤ r.Calls.length ∧ i < y.1.length ∧ y.1[i]? = some z ∧ cm f.Lookups.length y.1 ∧ dH f fs y.1 i ∧ fS f y.1 (x.Rules.take j) ∧ CallsIn f y.1 (r.Calls.take y.2.1)) (fun y => cW p b f.Lookups.length y.2.2 y.1 ++ [(db, dO)] ++ [(l, dV { rec with state := .busy })]) (fun y => r.Calls.length - y.2.1) (l1, 0, k1) rfl ⟨rfl, trivial⟩ ⟨Nat.zero_le _, hil, hz, hok1, hw1, hR, fun c hc => by cases hc⟩ (fun _ _ h => h) ?_
   clear hil hz hok1 hw1 hR
   rintro ⟨l1, c, k1⟩ ⟨hc, hil, hz, hok1, hw1, hR, hCs⟩
   dsimp only at hc hil hz hok1 hw1 hR hCs ⊢
   try dsimp only [List.cons_append, List.nil_append, List.map_cons, List.map_nil]
   (repeat' (first|refine ah ?_|refine a6 ?_|refine a8 ?_|refine aa ?_|refine ae a7 rfl rfl ?_|fail))
   refine av rfl (fun h => ?_) (fun h => ?_)
   ·have hcl : c < r.Calls.length := by have := of_decide_eq_true h; simp at this; omega
    obtain ⟨q, hq⟩ : ∃ q, r.Calls[c]? = some q := ⟨_, List.getElem?_eq_getElem hcl⟩
    have hqg := b5 (c := g8) hq
    clear h
    (repeat' (first|refine ah ?_|refine a6 ?_|refine am ?_|refine ak ?_|refine a8 ?_|refine aa ?_|refine ae a7 rfl rfl ?_|(apply aP; first|refine aO a7 ?_|refine aI a7 ?_)|(apply aT; first|refine ai 8 a7 0 rfl rfl rfl rfl rfl rfl rfl rfl ?_|refine ai 8 a7 1 rfl rfl rfl rfl rfl rfl rfl rfl ?_|refine ai 8 a7 2 rfl rfl rfl rfl rfl rfl rfl rfl ?_|refine ai 10 a7 0 rfl rfl rfl rfl rfl rfl rfl rfl ?_|refine ai 10 a7 1 rfl rfl rfl rfl rfl rfl rfl rfl ?_|refine ai 10 a7 2 rfl rfl rfl rfl rfl rfl rfl rfl ?_|refine ai 13 a7 0 rfl rfl rfl rfl rfl rfl rfl rfl ?_|refine ai 13 a7 1 rfl rfl rfl rfl rfl rfl rfl rfl ?_|refine ai 13 a7 2 rfl rfl rfl rfl rfl rfl rfl rfl ?_|refine ai 15 a7 0 rfl rfl rfl rfl rfl rfl rfl rfl ?_|refine ai 15 a7 1 rfl rfl rfl rfl rfl rfl rfl rfl ?_|refine ai 15 a7 2 rfl rfl rfl rfl rfl rfl rfl rfl ?_|refine aj a7 0 rfl rfl rfl rfl rfl rfl rfl ?_|refine aj a7 1 rfl rfl rfl rfl rfl rfl rfl ?_|refine aj a7 2 rfl rfl rfl rfl rfl rfl rfl ?_|refine aj a7 3 rfl rfl rfl rfl rfl rfl rfl ?_|fail)|refine bb a7 fun _=>?_|(apply ba;refine aY ?_)|fail))
    refine av rfl (fun h => ?_) (fun h => ?_)
    ·(repeat' (first|refine a6 ?_|refine ae a7 rfl rfl ?_|refine bM a7 ?_|fail))
     refine aZ (cW p b f.Lookups.length k1 l1) ([(db, dO)] ++ [(l, dV { rec with state := .busy })]) (vw p b f.Lookups.length k1 l1 [q.Lookup] (by omega) hok1) rfl rfl (by rw [← List.append_assoc]; exact List.Perm.refl _) rfl fun c' L1 ⟨k', hL1⟩ => ?_
     subst hL1
     rw [← List.append_assoc]
     (repeat' (first|refine a6 ?_|refine a8 ?_|refine aJ ?_|refine aa ?_|refine ae a7 rfl rfl ?_|(apply aX; refine aW ?_)|fail))
     have hsub : ∀ z ∈ l1, z ∈ addOne f.Lookups.length l1 q.Lookup := fun z hz => jX.2 (Or.inl hz)
     have hge := rD (m := f.Lookups.length) (n := q.Lookup) hz
     refine aE (addOne f.Lookups.length l1 q.Lookup, c + 1, k') rfl ⟨by rw [Int.natCast_add]; rfl, trivial⟩ ⟨by dsimp only; omega, (List.getElem?_eq_some_iff.1 hge).1, hge, hok1.one _, hw1.addOne (.call (hw1.reach z (List.mem_of_getElem? hz)) hx hK (List.mem_of_getElem? hr) (List.mem_of_getElem? hq) h) (by omega), hR.mono hsub, ?_⟩ (by dsimp only; omega) (fun _ _ h => h)
     intro y hy hyn
     dsimp only at hy ⊢
     rw [List.take_add_one, hq] at hy
     rcases List.mem_append.1 hy with hy | hy
     ·exact hsub _ (hCs y hy hyn)
     ·simp at hy
      subst hy
      have := mZ hyn
      exact jX.2 (Or.inr ⟨rfl, this.1, this.2⟩)
    ·(repeat' (first|refine a6 ?_|refine ak ?_|refine a8 ?_|refine aJ ?_|refine aa ?_|refine ae a7 rfl rfl ?_|(apply aX; refine aW ?_)|fail))
     refine aE (l1, c + 1, k1) rfl ⟨by rw [Int.natCast_add]; rfl, trivial⟩ ⟨by dsimp only; omega, hil, hz, hok1, hw1, hR, ?_⟩ (by dsimp only; omega) (fun _ _ h => h)
     intro y hy hyn
     dsimp only at hy ⊢
     rw [List.take_add_one, hq] at hy
     rcases List.mem_append.1 hy with hy | hy
     ·exact hCs y hy hyn
     ·simp at hy; subst hy; rw [h] at hyn; cases hyn
   ·have hcl : c = r.Calls.length := by have := of_decide_eq_false h; simp at this; omega
    subst hcl
    rw [List.take_length] at hCs
    (repeat' (first|refine a6 ?_|refine aR ?_|refine a8 ?_|refine az ?_|refine aJ ?_|refine aC ?_|refine aA ?_|refine aa ?_|refine ae a7 rfl rfl ?_|(apply aX; refine aW ?_)|fail))
    refine aE (l1, j + 1, k1) rfl ⟨by rw [Int.natCast_add]; rfl, trivial⟩ ⟨by dsimp only; omega, hil, hz, hok1, hw1, fun y hy => ?_⟩ (by dsimp only; omega) (fun _ _ h => h)
    dsimp only at hy ⊢
    rw [List.take_add_one, hr] at hy
    rcases List.mem_append.1 hy with hy | hy
    ·exact hR y hy
    ·simp at hy; subst hy; exact hCs
  ·have hjl : j = x.Rules.length := by have := of_decide_eq_false h; simp at this; omega
   subst hjl
   rw [List.take_length] at hR
   (repeat' (first|refine aR ?_|refine az ?_|refine aJ ?_|refine aC ?_|refine aA ?_|fail))
   refine g7 ?_
   rw [hrr]
   exact ⟨rfl, (l1, k1), ⟨hil, hok1, hw1.next hz hx fun _ => hR⟩, List.append_assoc ..⟩
 have hp := wO (n := f.Lookups.length) (α := List Int × Option (Nat × Nat)) (·.1) (·.2) (fun _ => [(db, dO)] ++ [(l, dV rec)]) (fun i x => i ≤ x.1.length ∧ cm f.Lookups.length x.1 ∧ dH f fs x.1 i) (by omega) (fun i x hj => ⟨hj.1, hj.2.1.len⟩) hy (_, k) ⟨Nat.zero_le _, hok, dH.start2⟩
 dsimp only at hp
 rw [← List.append_assoc] at hp
 refine ⟨_, hp, ?_⟩
 ·rintro c L' ⟨⟨l1, k1⟩, ⟨_, hok1, hw1⟩, hL'⟩
  dsimp only at hok1 hw1 hL'
  refine ⟨rec, cW p b f.Lookups.length k1 l1 ++ [(db, dO)], by rw [hL', List.append_assoc], (by rw [hrec.state]; intro e; cases e), ?_⟩
  rw [hrec.pending]
  show AX _ _ _ _ _ _ _ _
  (repeat' (first|refine ah ?_|refine a6 ?_|refine a8 ?_|refine aJ ?_|refine ae a7 rfl rfl ?_|fail))
  refine aZ (cW p b f.Lookups.length k1 l1) [(db, dO)] (wZ p b f.Lookups.length k1 l1 (by have := hok1.len; omega)) rfl rfl (List.Perm.refl _) rfl fun c L1 ⟨hc, hL1⟩ => ?_
  subst hc; subst hL1
  rw [kr hok1, hw1.end]
  (repeat' (first|refine au ?_|refine a8 ?_|refine aa ?_|refine ae a7 rfl rfl ?_|fail))
  exact eI [db] (cW p b f.Lookups.length k1 l1) rfl (List.Perm.refl _) (cs := [.imm 1 (aV (dc f fs))]) (show bZ _ 4 = some _ ∧ True from ⟨rfl, trivial⟩) rfl
end Go.Proofs.YtpbinloeemebkaaGreat

namespace Go.Proofs.YtpbinloeemebkaaGreat
open Go.RowKit
attribute [local irreducible] AT bN AX AO Av Kt bi dE DA d6
def vh (n : Nat) (l : List Int) (z : Int) : Bool := decide (0 ≤ z ∧ z < n) && l.contains z
theorem yV (p b n : Nat) (k : Option (Nat × Nat)) (l : List Int) (z : Int) : AC Tryz.prog 47 [eV p, aQ z] (b9 p b n k l) fun c L => c = c8 (vh n l z) ∧ L = b9 p b n k l := by
 refine aU Tryz.func47 rfl Tryz.ntmps47 rfl fun B => ?_
 unfold vh
 by_cases h0 : 0 ≤ z
 ·by_cases h1 : z < n
  ·have hfg := jv l n h0 h1
   rw [decide_eq_true (And.intro h0 h1)]
   unfold b9
   (repeat' (first|refine ah ?_|refine a6 ?_|refine a8 ?_|refine aa ?_|refine ae a7 rfl rfl ?_|fail))
   rw [decide_eq_true h0]
   (repeat' (first|refine ae a7 rfl rfl ?_|refine aw rfl rfl ?_|(apply bn; first|refine aq a7 0 rfl rfl rfl rfl rfl ?_|refine aq a7 1 rfl rfl rfl rfl rfl ?_|refine aq a7 2 rfl rfl rfl rfl rfl ?_|refine aq a7 3 rfl rfl rfl rfl rfl ?_|refine aF a7 0 rfl rfl rfl rfl rfl ?_|refine aF a7 1 rfl rfl rfl rfl rfl ?_|refine aF a7 2 rfl rfl rfl rfl rfl ?_|refine aq a7 1 rfl rfl rfl (by assumption) rfl ?_|refine aq a7 0 rfl rfl rfl (by assumption) rfl ?_|fail)|fail))
   rw [decide_eq_true h1]
   (repeat' (first|refine au ?_|refine a8 ?_|refine aa ?_|refine ae a7 rfl rfl ?_|refine aw rfl rfl ?_|(apply bn; first|refine aq a7 0 rfl rfl rfl rfl rfl ?_|refine aq a7 1 rfl rfl rfl rfl rfl ?_|refine aq a7 2 rfl rfl rfl rfl rfl ?_|refine aq a7 3 rfl rfl rfl rfl rfl ?_|refine aF a7 0 rfl rfl rfl rfl rfl ?_|refine aF a7 1 rfl rfl rfl rfl rfl ?_|refine aF a7 2 rfl rfl rfl rfl rfl ?_|refine aq a7 1 rfl rfl rfl (by assumption) rfl ?_|refine aq a7 0 rfl rfl rfl (by assumption) rfl ?_|fail)|(apply aP; first|refine aO a7 ?_|refine aI a7 ?_)|fail))
   exact aB rfl rfl ⟨rfl, rfl⟩
  ·rw [decide_eq_false (fun h => h1 h.2)]
   unfold b9
   (repeat' (first|refine ah ?_|refine a6 ?_|refine a8 ?_|refine aa ?_|refine ae a7 rfl rfl ?_|fail))
   rw [decide_eq_true h0]
   (repeat' (first|refine ae a7 rfl rfl ?_|refine aw rfl rfl ?_|(apply bn; first|refine aq a7 0 rfl rfl rfl rfl rfl ?_|refine aq a7 1 rfl rfl rfl rfl rfl ?_|refine aq a7 2 rfl rfl rfl rfl rfl ?_|refine aq a7 3 rfl rfl rfl rfl rfl ?_|refine aF a7 0 rfl rfl rfl rfl rfl ?_|refine aF a7 1 rfl rfl rfl rfl rfl ?_|refine aF a7 2 rfl rfl rfl rfl rfl ?_|refine aq a7 1 rfl rfl rfl (by assumption) rfl ?_|refine aq a7 0 rfl rfl rfl (by assumption) rfl ?_|fail)|fail))
   rw [decide_eq_false h1]
   (repeat' (first|refine au ?_|refine a8 ?_|refine aa ?_|refine ae a7 rfl rfl ?_|refine aD rfl rfl rfl rfl ?_|fail))
   exact aB rfl rfl ⟨rfl, rfl⟩
 ·rw [decide_eq_false (fun h => h0 h.1)]
  unfold b9
  (repeat' (first|refine ah ?_|refine a6 ?_|refine a8 ?_|refine aa ?_|refine ae a7 rfl rfl ?_|fail))
  rw [decide_eq_false h0]
  (repeat' (first|refine au ?_|refine a8 ?_|refine aa ?_|refine ae a7 rfl rfl ?_|refine aD rfl rfl rfl rfl ?_|fail))
  exact aB rfl rfl ⟨rfl, rfl⟩
theorem zX {g : FuncId} {caps : List AV} {u : AV} [bt Tryz.prog g] (hu : iL u = some (g, caps)) (l : List Int) (p : Int → Bool) (L0 : AL) (hw : ∀ z, AC Tryz.prog g ([aQ z] ++ caps) L0 fun c L' => c = c8 (p z) ∧ L' = L0) : AC Tryz.prog 192 [.imm 1 (aV l), u] L0 fun c L => (∃ z : Int, c = aQ z ∧ (0 ≤ z ↔ l.any p = true)) ∧ L = L0 := by
 refine aU Tryz.func192 rfl Tryz.ntmps192 rfl fun B => ?_
 have hll := aM l
 refine cg 0 rfl rfl fun hlen => ?_
 rw [aM] at hlen
 (repeat' (first|refine ah ?_|refine a6 ?_|refine am ?_|refine a8 ?_|refine aa ?_|refine ae a7 rfl rfl ?_|fail))
 refine aL [0, 1, 7] (α := Nat) (fun i => [(8, aQ i)]) (fun i => i ≤ l.length ∧ (l.take i).any p = false) (fun _ => L0) (fun i => l.length - i) 0 rfl ⟨rfl, trivial⟩ ⟨Nat.zero_le _, by simp⟩ (fun _ _ h => h) fun i ⟨hi, ha⟩ => ?_
 try dsimp only [List.cons_append, List.nil_append, List.map_cons, List.map_nil]
 (repeat' (first|refine ah ?_|refine a6 ?_|refine a8 ?_|refine aa ?_|refine ae a7 rfl rfl ?_|fail))
 refine av rfl (fun h => ?_) (fun h => ?_)
 ·have hil : i < l.length := by have := of_decide_eq_true h; rw [aM] at this; omega
  obtain ⟨z, hz⟩ : ∃ z, l[i]? = some z := ⟨_, List.getElem?_eq_getElem hil⟩
  have hzg := bk hz
  (repeat' (first|refine ah ?_|refine a6 ?_|refine am ?_|refine ak ?_|refine a8 ?_|refine aa ?_|refine ae a7 rfl rfl ?_|(apply aP; first|refine aO a7 ?_|refine aI a7 ?_)|fail))
  refine cy L0 [] (hw z) rfl hu rfl (bK rfl) rfl rfl fun c L1 ⟨hc, hL⟩ => ?_
  subst hc; subst hL
  rw [List.append_nil]
  (repeat' (first|refine a8 ?_|refine aa ?_|fail))
  refine av rfl (fun h2 => ?_) (fun h2 => ?_)
  ·(repeat' (first|refine ah ?_|refine a6 ?_|refine au ?_|refine a8 ?_|refine ar ?_|refine aG ?_|refine aK ?_|refine aa ?_|refine ae a7 rfl rfl ?_|fail))
   refine aB rfl rfl ⟨⟨i, rfl, ?_⟩, rfl⟩
   exact ⟨fun _ => List.any_eq_true.2 ⟨z, List.mem_of_getElem? hz, h2⟩, fun _ => by omega⟩
  ·(repeat' (first|refine a6 ?_|refine ak ?_|refine a8 ?_|refine aJ ?_|refine aa ?_|refine ae a7 rfl rfl ?_|(apply aX; refine aW ?_)|fail))
   refine aE (i + 1) rfl ⟨by rw [Int.natCast_add]; rfl, trivial⟩ ⟨by omega, ?_⟩ (by omega) (fun _ _ h => h)
   rw [List.take_add_one, hz, List.any_append, ha]
   simpa using h2
 ·have hil : i = l.length := by have := of_decide_eq_false h; rw [aM] at this; omega
  subst hil
  rw [List.take_length] at ha
  (repeat' (first|refine ah ?_|refine a6 ?_|refine au ?_|refine aR ?_|refine a8 ?_|refine az ?_|refine aC ?_|refine aA ?_|refine aa ?_|refine ae a7 rfl rfl ?_|fail))
  refine aB rfl rfl ⟨⟨-1, rfl, ?_⟩, rfl⟩
  rw [ha]
  exact ⟨fun h => absurd h (by decide), fun h => by cases h⟩
theorem u3 {g : FuncId} {caps : List AV} {u : AV} [bt Tryz.prog g] (hu : iL u = some (g, caps)) (l : List Int) (p : Int → Bool) (L0 : AL) (hw : ∀ z, AC Tryz.prog g ([aQ z] ++ caps) L0 fun c L' => c = c8 (p z) ∧ L' = L0) : AC Tryz.prog 114 [.imm 1 (aV l), u] L0 fun c L => c = c8 (l.any p) ∧ L = L0 := by
 refine aU Tryz.func114 rfl Tryz.ntmps114 rfl fun B => ?_
 (repeat' (first|refine ah ?_|refine a6 ?_|refine a8 ?_|refine aa ?_|refine ae a7 rfl rfl ?_|fail))
 refine aZ L0 [] (zX hu l p L0 hw) rfl (eo hu) (bK rfl) rfl fun c L1 ⟨⟨z, hc, hz⟩, hL⟩ => ?_
 subst hc; subst hL
 rw [List.append_nil]
 (repeat' (first|refine au ?_|refine a8 ?_|refine aa ?_|refine ae a7 rfl rfl ?_|fail))
 refine aB rfl rfl ⟨?_, rfl⟩
 refine congrArg (fun b => c8 b) ?_
 rw [Bool.eq_iff_iff, decide_eq_true_eq]
 exact hz
end Go.Proofs.YtpbinloeemebkaaGreat

namespace Go.Proofs.YtpbinloeemebkaaGreat
open Go.RowKit
attribute [local irreducible] AT bN AX AO Av Kt bi dE DA d6
structure gB where
 rule : bJ
 kind : Int
 ign : Bool
 unmet : List (List Int)
def s5 (h : gB) : List AV := ca h.rule ++ [aQ h.kind, c8 h.ign, .imm 1 (c7 h.unmet)]
def dD (x : Nat × gB) : Nat × AB := (x.1, .box (s5 x.2) 135)
def fI (f : aH) (k : Option (Nat × Nat)) (qs : List Nat) : List AV := bO f ++ [.vec k 1 (qs.map fun q => [eV q])]
def kT (f : aH) (n : Int) : Bool := match f.Glyphs[n.toNat]? with | some g => g.Mark | none => false
def fe (f : aH) (S : List Int) (ign : Bool) (n : Int) : Bool := vh f.Glyphs.length S n && !(ign && kT f n)
set_option maxHeartbeats 1000000 in
theorem tA (f : aH) (ap b gp q : Nat) (k kg : Option (Nat × Nat)) (S : List Int) (qs : List Nat) (h : gB) (n : Int) : AC Tryz.prog 56 [aQ n, .iptr [eV ap], .iptr [eV q], .iptr [eV gp]] (dD (q, h) :: (gp, .box (fI f kg qs) 131) :: b9 ap b f.Glyphs.length k S) fun c L => c = c8 (fe f S h.ign n) ∧ L = dD (q, h) :: (gp, .box (fI f kg qs) 131) :: b9 ap b f.Glyphs.length k S := by
 refine aU Tryz.func56 rfl Tryz.ntmps56 rfl fun B => ?_
 unfold fe
 (repeat' (first|refine ah ?_|refine a6 ?_|refine a8 ?_|refine aa ?_|refine ae a7 rfl rfl ?_|fail))
 refine aZ (b9 ap b f.Glyphs.length k S) [dD (q, h), (gp, .box (fI f kg qs) 131)] (yV ap b f.Glyphs.length k S n) rfl rfl (List.perm_append_comm (l₁ := [dD (q, h), (gp, .box (fI f kg qs) 131)])) rfl fun c L1 ⟨hc, hL⟩ => ?_
 subst hc; subst hL
 refine bh (bc List.perm_append_comm) ?_
 cases hi : vh f.Glyphs.length S n with
 | false =>
  (repeat' (first|refine au ?_|refine a8 ?_|refine aa ?_|refine ae a7 rfl rfl ?_|refine aD rfl rfl rfl rfl ?_|refine bT rfl rfl rfl ?_|fail))
  exact aB rfl rfl ⟨rfl, rfl⟩
 | true =>
  have hr : 0 ≤ n ∧ n < f.Glyphs.length := by
   unfold vh at hi
   rw [Bool.and_eq_true, decide_eq_true_eq] at hi
   exact hi.1
  obtain ⟨gl, hg⟩ : ∃ g, f.Glyphs[n.toNat]? = some g := ⟨_, List.getElem?_eq_getElem (by omega)⟩
  have hgg := b5 (c := bz) hg
  have hm : kT f n = gl.Mark := by unfold kT; rw [hg]
  rw [hm]
  obtain ⟨rule, kind, ign, unmet⟩ := h
  unfold dD s5 fI
  dsimp only
  (repeat' (first|refine ae a7 rfl rfl ?_|refine aw rfl rfl ?_|(apply bn; first|refine aq a7 0 rfl rfl rfl rfl rfl ?_|refine aq a7 1 rfl rfl rfl rfl rfl ?_|refine aq a7 2 rfl rfl rfl rfl rfl ?_|refine aq a7 3 rfl rfl rfl rfl rfl ?_|refine aF a7 0 rfl rfl rfl rfl rfl ?_|refine aF a7 1 rfl rfl rfl rfl rfl ?_|refine aF a7 2 rfl rfl rfl rfl rfl ?_|refine aq a7 1 rfl rfl rfl (by assumption) rfl ?_|refine aq a7 0 rfl rfl rfl (by assumption) rfl ?_|fail)|fail))
  cases ign
  ·(repeat' (first|refine au ?_|refine a8 ?_|refine aa ?_|refine ae a7 rfl rfl ?_|refine aw rfl rfl ?_|refine aD rfl rfl rfl rfl ?_|fail))
   exact aB rfl rfl ⟨rfl, rfl⟩
  ·(repeat' (first|refine au ?_|refine a8 ?_|refine aa ?_|refine ae a7 rfl rfl ?_|refine aw rfl rfl ?_|(apply bn; first|refine aq a7 0 rfl rfl rfl rfl rfl ?_|refine aq a7 1 rfl rfl rfl rfl rfl ?_|refine aq a7 2 rfl rfl rfl rfl rfl ?_|refine aq a7 3 rfl rfl rfl rfl rfl ?_|refine aF a7 0 rfl rfl rfl rfl rfl ?_|refine aF a7 1 rfl rfl rfl rfl rfl ?_|refine aF a7 2 rfl rfl rfl rfl rfl ?_|refine aq a7 1 rfl rfl rfl (by assumption) rfl ?_|refine aq a7 0 rfl rfl rfl (by assumption) rfl ?_|fail)|(apply aP; first|refine aO a7 ?_|refine aI a7 ?_)|fail))
   exact aB rfl rfl ⟨rfl, rfl⟩
def gB.rest (h : gB) (p : Int → Bool) : gB := { h with unmet := h.unmet.dropWhile fun s => s.any p }
set_option maxHeartbeats 1000000 in
theorem sg {g : FuncId} {caps : List AV} [bt Tryz.prog g] (q : Nat) (h : gB) (p : Int → Bool) (rest : AL) (hw : ∀ un z, AC Tryz.prog g ([aQ z] ++ caps) (dD (q, { h with unmet := un }) :: rest) fun c L' => c = c8 (p z) ∧ L' = dD (q, { h with unmet := un }) :: rest) : AC Tryz.prog 57 [eV q, .fn g caps] (dD (q, h) :: rest) fun c L => c = c8 (h.unmet.all fun s => s.any p) ∧ L = dD (q, h.rest p) :: rest := by
 refine aU Tryz.func57 rfl Tryz.ntmps57 rfl fun B => ?_
 (repeat' (first|refine ah ?_|refine a6 ?_|refine am ?_|refine a8 ?_|refine aa ?_|refine ae a7 rfl rfl ?_|fail))
 refine aL [0, 1] (α := List (List Int)) (fun _ => []) (fun un => (h.unmet.all fun s => s.any p) = (un.all fun s => s.any p) ∧ (h.unmet.dropWhile fun s => s.any p) = un.dropWhile fun s => s.any p) (fun un => dD (q, { h with unmet := un }) :: rest) (fun un => un.length) h.unmet rfl trivial ⟨rfl, rfl⟩ (fun _ _ h => h) ?_
 rintro un ⟨h1, h2⟩
 try dsimp only [List.cons_append, List.nil_append, List.map_cons, List.map_nil]
 cases un with
 | nil =>
  unfold dD s5
  dsimp only
  (repeat' (first|refine ah ?_|refine a6 ?_|refine au ?_|refine aR ?_|refine a8 ?_|refine az ?_|refine aC ?_|refine aA ?_|refine aa ?_|refine ae a7 rfl rfl ?_|refine aD rfl rfl rfl rfl ?_|(apply bn; first|refine aq a7 0 rfl rfl rfl rfl rfl ?_|refine aq a7 1 rfl rfl rfl rfl rfl ?_|refine aq a7 2 rfl rfl rfl rfl rfl ?_|refine aq a7 3 rfl rfl rfl rfl rfl ?_|refine aF a7 0 rfl rfl rfl rfl rfl ?_|refine aF a7 1 rfl rfl rfl rfl rfl ?_|refine aF a7 2 rfl rfl rfl rfl rfl ?_|refine aq a7 1 rfl rfl rfl (by assumption) rfl ?_|refine aq a7 0 rfl rfl rfl (by assumption) rfl ?_|fail)|refine bV rfl ?_|fail))
  refine aB rfl rfl ⟨by rw [h1]; rfl, ?_⟩
  unfold gB.rest
  rw [h2]
  rfl
 | cons s un =>
  have hsg : (c7 (s :: un))[(0 : Int).toNat]? = some [.imm 1 (aV s)] := rfl
  have hpos : decide (0 < (((c7 (s :: un)).length : Nat) : Int)) = true := decide_eq_true (by rw [cq, List.length_cons]; omega)
  have hw' := hw (s :: un)
  unfold dD s5 at hw' ⊢
  dsimp only at hw' ⊢
  (repeat' (first|refine ah ?_|refine a6 ?_|refine ae a7 rfl rfl ?_|(apply bn; first|refine aq a7 0 rfl rfl rfl rfl rfl ?_|refine aq a7 1 rfl rfl rfl rfl rfl ?_|refine aq a7 2 rfl rfl rfl rfl rfl ?_|refine aq a7 3 rfl rfl rfl rfl rfl ?_|refine aF a7 0 rfl rfl rfl rfl rfl ?_|refine aF a7 1 rfl rfl rfl rfl rfl ?_|refine aF a7 2 rfl rfl rfl rfl rfl ?_|refine aq a7 1 rfl rfl rfl (by assumption) rfl ?_|refine aq a7 0 rfl rfl rfl (by assumption) rfl ?_|fail)|fail))
  rw [hpos]
  (repeat' (first|refine ae a7 rfl rfl ?_|refine aw rfl rfl ?_|(apply bn; first|refine aq a7 0 rfl rfl rfl rfl rfl ?_|refine aq a7 1 rfl rfl rfl rfl rfl ?_|refine aq a7 2 rfl rfl rfl rfl rfl ?_|refine aq a7 3 rfl rfl rfl rfl rfl ?_|refine aF a7 0 rfl rfl rfl rfl rfl ?_|refine aF a7 1 rfl rfl rfl rfl rfl ?_|refine aF a7 2 rfl rfl rfl rfl rfl ?_|refine aq a7 1 rfl rfl rfl (by assumption) rfl ?_|refine aq a7 0 rfl rfl rfl (by assumption) rfl ?_|fail)|(apply aP; first|refine aO a7 ?_|refine aI a7 ?_)|fail))
  refine aZ ((q, AB.box (ca h.rule ++ [aQ h.kind, c8 h.ign, AV.imm 1 (c7 (s :: un))]) 135) :: rest) [] (u3 rfl s p _ hw') rfl rfl (bK rfl) rfl fun c L1 ⟨hc, hL⟩ => ?_
  subst hc; subst hL
  rw [List.append_nil]
  cases hs : s.any p with
  | false =>
   (repeat' (first|refine ah ?_|refine a6 ?_|refine au ?_|refine aR ?_|refine a8 ?_|refine az ?_|refine aC ?_|refine aA ?_|refine aa ?_|refine ae a7 rfl rfl ?_|(apply bn; first|refine aq a7 0 rfl rfl rfl rfl rfl ?_|refine aq a7 1 rfl rfl rfl rfl rfl ?_|refine aq a7 2 rfl rfl rfl rfl rfl ?_|refine aq a7 3 rfl rfl rfl rfl rfl ?_|refine aF a7 0 rfl rfl rfl rfl rfl ?_|refine aF a7 1 rfl rfl rfl rfl rfl ?_|refine aF a7 2 rfl rfl rfl rfl rfl ?_|refine aq a7 1 rfl rfl rfl (by assumption) rfl ?_|refine aq a7 0 rfl rfl rfl (by assumption) rfl ?_|fail)|refine bV rfl ?_|fail))
   refine aB rfl rfl ⟨?_, ?_⟩
   ·rw [h1, List.all_cons, hs]
    rfl
   ·unfold gB.rest
    rw [h2, List.dropWhile_cons_of_neg (by simpa using hs)]
  | true =>
   (repeat' (first|refine a6 ?_|refine am ?_|refine ak ?_|refine a8 ?_|refine aa ?_|refine ae a7 rfl rfl ?_|(apply bn; first|refine aq a7 0 rfl rfl rfl rfl rfl ?_|refine aq a7 1 rfl rfl rfl rfl rfl ?_|refine aq a7 2 rfl rfl rfl rfl rfl ?_|refine aq a7 3 rfl rfl rfl rfl rfl ?_|refine aF a7 0 rfl rfl rfl rfl rfl ?_|refine aF a7 1 rfl rfl rfl rfl rfl ?_|refine aF a7 2 rfl rfl rfl rfl rfl ?_|refine aq a7 1 rfl rfl rfl (by assumption) rfl ?_|refine aq a7 0 rfl rfl rfl (by assumption) rfl ?_|fail)|refine bI rfl ?_|fail))
   refine eh (zo (lo := 1) (bL a7 rfl).1 rfl rfl rfl rfl rfl (by rw [cq, List.length_cons]; omega)) rfl rfl ?_
   (repeat' (first|refine aJ ?_|refine aa ?_|refine ae a7 rfl rfl ?_|(apply aT; first|refine aj a7 0 rfl rfl rfl rfl rfl rfl rfl ?_|refine aj a7 1 rfl rfl rfl rfl rfl rfl rfl ?_|refine aj a7 2 rfl rfl rfl rfl rfl rfl rfl ?_|refine aj a7 3 rfl rfl rfl rfl rfl rfl rfl ?_|fail)|fail))
   refine aE un rfl trivial ⟨?_, ?_⟩ (by simp) (fun _ _ h => h)
   ·rw [h1, List.all_cons, hs, Bool.true_and]
   ·rw [h2, List.dropWhile_cons_of_pos (by simpa using hs)]
section
variable {P : Program} {tt : TT} {l : List Oper} {fr : c9} {fin : lj} {sk : mx} {acc : c9} {L : AL} {k : Nat} {dd : Option Tmp} {ty t t' : TypeId} {pos : String} {af : Array Edge} {g : Option (Nat × Bool)} {x y : Operand} {u : AV}
theorem rU (ok : eW P tt) (hi : Nat) {e sz by_ s : Nat} {l1 : List (List AV)} {q : IntKind} {a : Int} (ht : mj tt t = some (e, sz, by_)) (hx : bB (dp l.toArray acc fr af.toList) x = some u) (hu : j7 u = some (s, l1)) (hs : Nat.beq s sz = true) (hy : bB (dp l.toArray acc fr af.toList) y = some (.sc (.int q a))) (ha : a = (hi : Int)) (h1 : hi ≤ l1.length) (hg : mp ⟨dd, .slice t x none (some y) none, ty, pos, af, g⟩ acc) (h : DA P l fr fin sk ((k, .imm s (l1.take hi)) :: acc) L) :
  d6 P l fr fin k .v ⟨dd, .slice t x none (some y) none, ty, pos, af, g⟩ sk acc L := iX hg (fun _ _ => (zn (bL ok ht).1 hx (df hu) hs hy ha h1).ao) h
end
def eu (h : gB) (p : Int → Bool) : List Int := if h.kind = 1 ∨ h.kind = 5 then ((h.rule.Out.zip (h.rule.In.headD [])).filter fun x => p x.2).map (·.1) else if h.kind = 2 then h.rule.Out else if h.kind = 3 then h.rule.Out.take 1 else []
theorem s7 (l : List Int) : (aV l).take (min l.length 1) = aV (l.take 1) := by
 cases l with
 | nil => rfl
 | cons x l => rw [show min (x :: l).length 1 = 1 by rw [List.length_cons]; omega]; rfl
theorem lf {l k : List Int} {i : Nat} {a b : Int} (ha : l[i]? = some a) (hb : k[i]? = some b) : (l.zip k).take (i + 1) = (l.zip k).take i ++ [(a, b)] := by
 rw [List.take_add_one, show (l.zip k)[i]? = some (a, b) by rw [List.getElem?_zip_eq_some]; exact ⟨ha, hb⟩]
 rfl
set_option maxHeartbeats 4000000 in
theorem yN {g : FuncId} {caps : List AV} [bt Tryz.prog g] (q : Nat) (h : gB) (p : Int → Bool) (rest : AL) (hw : ∀ z, AC Tryz.prog g ([aQ z] ++ caps) (dD (q, h) :: rest) fun c L' => c = c8 (p z) ∧ L' = dD (q, h) :: rest) (hin : h.rule.In ≠ []) (hout : h.rule.Out.length ≤ 1000000) (np nb n : Nat) (k : Option (Nat × Nat)) (l : List Int) (hn : n ≤ 1000000) (hl : cm n l) : AC Tryz.prog 58 [eV q, .fn g caps, eV np] (dD (q, h) :: rest ++ b9 np nb n k l) fun _ L => ∃ k', L = dD (q, h) :: rest ++ b9 np nb n k' (bR n l (eu h p)) := by
 refine aU Tryz.func58 rfl Tryz.ntmps58 rfl fun B => ?_
 obtain ⟨y, hy⟩ : ∃ y, h.rule.In[0]? = some y := ⟨_, List.getElem?_eq_getElem (List.length_pos_iff.2 hin)⟩
 have hyg := fq hy
 have hd : h.rule.In.headD [] = y := by
  cases hI : h.rule.In with
  | nil => exact absurd hI hin
  | cons y' q => rw [hI] at hy; simpa using hy
 have hadd := kz np nb n k l
 have hOl := aM h.rule.Out
 have hYl := aM y
 by_cases h1 : h.kind = 1
 ·have ht : eu h p = ((h.rule.Out.zip y).filter fun x => p x.2).map (·.1) := by unfold eu; rw [if_pos (.inl h1), hd]
  rw [ht]
  unfold dD s5 at hw ⊢
  dsimp only at hw ⊢
  (repeat' (first|refine ah ?_|refine a6 ?_|refine am ?_|refine a8 ?_|refine aa ?_|refine ae a7 rfl rfl ?_|(apply bn; first|refine aq a7 0 rfl rfl rfl rfl rfl ?_|refine aq a7 1 rfl rfl rfl rfl rfl ?_|refine aq a7 2 rfl rfl rfl rfl rfl ?_|refine aq a7 3 rfl rfl rfl rfl rfl ?_|refine aF a7 0 rfl rfl rfl rfl rfl ?_|refine aF a7 1 rfl rfl rfl rfl rfl ?_|refine aF a7 2 rfl rfl rfl rfl rfl ?_|refine aq a7 1 rfl rfl rfl (by assumption) rfl ?_|refine aq a7 0 rfl rfl rfl (by assumption) rfl ?_|fail)|fail))
  refine av rfl (fun hh => ?_) (fun hh => absurd h1 (of_decide_eq_false hh))
  rw [decide_eq_true h1]
  (repeat' (first|refine ah ?_|refine a6 ?_|refine ak ?_|refine a8 ?_|refine aa ?_|refine ae a7 rfl rfl ?_|(apply bn; first|refine aq a7 0 rfl rfl rfl rfl rfl ?_|refine aq a7 1 rfl rfl rfl rfl rfl ?_|refine aq a7 2 rfl rfl rfl rfl rfl ?_|refine aq a7 3 rfl rfl rfl rfl rfl ?_|refine aF a7 0 rfl rfl rfl rfl rfl ?_|refine aF a7 1 rfl rfl rfl rfl rfl ?_|refine aF a7 2 rfl rfl rfl rfl rfl ?_|refine aq a7 1 rfl rfl rfl (by assumption) rfl ?_|refine aq a7 0 rfl rfl rfl (by assumption) rfl ?_|fail)|(apply aP; first|refine aO a7 ?_|refine aI a7 ?_)|refine bI rfl ?_|fail))
  refine bj 17 [(0, .v), (1, .v), (2, .v), (3, .v), (4, .l), (5, .v), (6, .v), (7, .v), (8, .v), (9, .l), (10, .v), (11, .v), (12, .v), (13, .v), (14, .v), (15, .v), (16, .v)] none ?_ trivial rfl (by kernel_rfl) (by kernel_rfl) (by kernel_rfl) mixed (by kernel_rfl) rfl
  (repeat' (first|refine aN ?_|refine bf a7 ?_|refine dI a7 0 rfl rfl rfl rfl (by first|trivial|rfl) ?_|fail))
  refine rU a7 (min h.rule.Out.length y.length) rfl rfl rfl rfl rfl (by rw [hOl, hYl]; omega) (by rw [hOl]; omega) trivial ?_
  (repeat' (first|refine aN ?_|refine bf a7 ?_|fail))
  refine bl [1, 2, 6, 37, 38, 39] rfl rfl ?_
  (repeat' (first|refine am ?_|refine a8 ?_|refine aa ?_|fail))
  have hm : ((aV h.rule.Out).take (min h.rule.Out.length y.length)).length = min h.rule.Out.length y.length := by rw [List.length_take, hOl]; omega
  refine aL [1, 2, 6, 37, 38] (α := Nat × Option (Nat × Nat)) (fun x => [(39, aQ x.1)]) (fun x => x.1 ≤ min h.rule.Out.length y.length) (fun x => (q, AB.box (ca h.rule ++ [aQ h.kind, c8 h.ign, AV.imm 1 (c7 h.unmet)]) 135) :: rest ++ b9 np nb n x.2 (bR n l ((((h.rule.Out.zip y).take x.1).filter fun x => p x.2).map (·.1)))) (fun x => min h.rule.Out.length y.length - x.1) (0, k) rfl ⟨rfl, trivial⟩ (Nat.zero_le _) (fun _ _ h => h) ?_
  rintro ⟨i, k1⟩ hi
  dsimp only at hi ⊢
  try dsimp only [List.cons_append, List.nil_append, List.map_cons, List.map_nil]
  (repeat' (first|refine ah ?_|refine a6 ?_|refine a8 ?_|refine aa ?_|refine ae a7 rfl rfl ?_|fail))
  refine av rfl (fun e => ?_) (fun e => ?_)
  ·have hil : i < min h.rule.Out.length y.length := by have := of_decide_eq_true e; rw [hm] at this; omega
   obtain ⟨o, ho⟩ : ∃ z, h.rule.Out[i]? = some z := ⟨_, List.getElem?_eq_getElem (by omega)⟩
   obtain ⟨z, hz⟩ : ∃ z, y[i]? = some z := ⟨_, List.getElem?_eq_getElem (by omega)⟩
   have hog : ((aV h.rule.Out).take (min h.rule.Out.length y.length))[i]? = some [aQ o] := by rw [List.getElem?_take, if_pos hil]; exact bk ho
   have hzg := bk hz
   have hzt := lf ho hz
   (repeat' (first|refine ah ?_|refine a6 ?_|refine am ?_|refine ak ?_|refine a8 ?_|refine aa ?_|refine ae a7 rfl rfl ?_|(apply aP; first|refine aO a7 ?_|refine aI a7 ?_)|fail))
   refine cy ((q, AB.box (ca h.rule ++ [aQ h.kind, c8 h.ign, AV.imm 1 (c7 h.unmet)]) 135) :: rest) _ (hw z) rfl rfl rfl (List.Perm.refl _) rfl rfl fun c L1 ⟨hc, hL⟩ => ?_
   subst hc; subst hL
   (repeat' (first|refine a8 ?_|refine aa ?_|fail))
   refine av rfl (fun e2 => ?_) (fun e2 => ?_)
   ·(repeat' (first|refine a6 ?_|refine ae a7 rfl rfl ?_|refine bM a7 ?_|fail))
    refine aZ (b9 np nb n k1 (bR n l ((((h.rule.Out.zip y).take i).filter fun x => p x.2).map (·.1)))) _ (kz np nb n k1 _ [o] hn (hl.add _)) rfl rfl List.perm_append_comm rfl fun c L1 ⟨k', hL⟩ => ?_
    subst hL
    refine bh (bc List.perm_append_comm) ?_
    (repeat' (first|refine a6 ?_|refine a8 ?_|refine aJ ?_|refine aa ?_|refine ae a7 rfl rfl ?_|(apply aX; refine aW ?_)|fail))
    refine aE (i + 1, k') rfl ⟨by rw [Int.natCast_add]; rfl, trivial⟩ (by dsimp only; omega) (by dsimp only; omega) (fun _ _ h => ?_)
    dsimp only
    rw [hzt, List.filter_append, List.map_append, ← dT]
    simpa [e2] using h
   ·(repeat' (first|refine a6 ?_|refine ak ?_|refine a8 ?_|refine aJ ?_|refine aa ?_|refine ae a7 rfl rfl ?_|(apply aX; refine aW ?_)|fail))
    refine aE (i + 1, k1) rfl ⟨by rw [Int.natCast_add]; rfl, trivial⟩ (by dsimp only; omega) (by dsimp only; omega) (fun _ _ h => ?_)
    dsimp only
    rw [hzt, List.filter_append, List.map_append, ← dT]
    simpa [e2, bR] using h
  ·have hil : i = min h.rule.Out.length y.length := by have := of_decide_eq_false e; rw [hm] at this; omega
   subst hil
   (repeat' (first|refine aR ?_|refine az ?_|refine aJ ?_|refine aC ?_|refine aA ?_|fail))
   refine cB rfl ⟨k1, ?_⟩
   rw [List.take_of_length_le (by rw [List.length_zip]; exact Nat.le_refl _)]
 by_cases h5 : h.kind = 5
 ·have ht : eu h p = ((h.rule.Out.zip y).filter fun x => p x.2).map (·.1) := by unfold eu; rw [if_pos (.inr h5), hd]
  rw [ht]
  unfold dD s5 at hw ⊢
  dsimp only at hw ⊢
  (repeat' (first|refine ah ?_|refine a6 ?_|refine am ?_|refine a8 ?_|refine aa ?_|refine ae a7 rfl rfl ?_|(apply bn; first|refine aq a7 0 rfl rfl rfl rfl rfl ?_|refine aq a7 1 rfl rfl rfl rfl rfl ?_|refine aq a7 2 rfl rfl rfl rfl rfl ?_|refine aq a7 3 rfl rfl rfl rfl rfl ?_|refine aF a7 0 rfl rfl rfl rfl rfl ?_|refine aF a7 1 rfl rfl rfl rfl rfl ?_|refine aF a7 2 rfl rfl rfl rfl rfl ?_|refine aq a7 1 rfl rfl rfl (by assumption) rfl ?_|refine aq a7 0 rfl rfl rfl (by assumption) rfl ?_|fail)|fail))
  refine av rfl (fun hh => absurd (of_decide_eq_true hh) h1) (fun _ => ?_)
  (repeat' (first|refine a6 ?_|refine a8 ?_|refine aa ?_|refine ae a7 rfl rfl ?_|fail))
  rw [decide_eq_true h5]
  (repeat' (first|refine ah ?_|refine a6 ?_|refine a8 ?_|refine aa ?_|refine ae a7 rfl rfl ?_|(apply bn; first|refine aq a7 0 rfl rfl rfl rfl rfl ?_|refine aq a7 1 rfl rfl rfl rfl rfl ?_|refine aq a7 2 rfl rfl rfl rfl rfl ?_|refine aq a7 3 rfl rfl rfl rfl rfl ?_|refine aF a7 0 rfl rfl rfl rfl rfl ?_|refine aF a7 1 rfl rfl rfl rfl rfl ?_|refine aF a7 2 rfl rfl rfl rfl rfl ?_|refine aq a7 1 rfl rfl rfl (by assumption) rfl ?_|refine aq a7 0 rfl rfl rfl (by assumption) rfl ?_|fail)|(apply aP; first|refine aO a7 ?_|refine aI a7 ?_)|refine bI rfl ?_|fail))
  refine bj 17 [(0, .v), (1, .v), (2, .v), (3, .v), (4, .l), (5, .v), (6, .v), (7, .v), (8, .v), (9, .l), (10, .v), (11, .v), (12, .v), (13, .v), (14, .v), (15, .v), (16, .v)] none ?_ trivial rfl (by kernel_rfl) (by kernel_rfl) (by kernel_rfl) mixed (by kernel_rfl) rfl
  (repeat' (first|refine aN ?_|refine bf a7 ?_|refine dI a7 0 rfl rfl rfl rfl (by first|trivial|rfl) ?_|fail))
  refine rU a7 (min h.rule.Out.length y.length) rfl rfl rfl rfl rfl (by rw [hOl, hYl]; omega) (by rw [hOl]; omega) trivial ?_
  (repeat' (first|refine aN ?_|refine bf a7 ?_|fail))
  refine bl [1, 2, 6, 37, 38, 39] rfl rfl ?_
  (repeat' (first|refine am ?_|refine a8 ?_|refine aa ?_|fail))
  have hm : ((aV h.rule.Out).take (min h.rule.Out.length y.length)).length = min h.rule.Out.length y.length := by rw [List.length_take, hOl]; omega
  refine aL [1, 2, 6, 37, 38] (α := Nat × Option (Nat × Nat)) (fun x => [(39, aQ x.1)]) (fun x => x.1 ≤ min h.rule.Out.length y.length) (fun x => (q, AB.box (ca h.rule ++ [aQ h.kind, c8 h.ign, AV.imm 1 (c7 h.unmet)]) 135) :: rest ++ b9 np nb n x.2 (bR n l ((((h.rule.Out.zip y).take x.1).filter fun x => p x.2).map (·.1)))) (fun x => min h.rule.Out.length y.length - x.1) (0, k) rfl ⟨rfl, trivial⟩ (Nat.zero_le _) (fun _ _ h => h) ?_
  rintro ⟨i, k1⟩ hi
  dsimp only at hi ⊢
  try dsimp only [List.cons_append, List.nil_append, List.map_cons, List.map_nil]
  (repeat' (first|refine ah ?_|refine a6 ?_|refine a8 ?_|refine aa ?_|refine ae a7 rfl rfl ?_|fail))
  refine av rfl (fun e => ?_) (fun e => ?_)
  ·have hil : i < min h.rule.Out.length y.length := by have := of_decide_eq_true e; rw [hm] at this; omega
   obtain ⟨o, ho⟩ : ∃ z, h.rule.Out[i]? = some z := ⟨_, List.getElem?_eq_getElem (by omega)⟩
   obtain ⟨z, hz⟩ : ∃ z, y[i]? = some z := ⟨_, List.getElem?_eq_getElem (by omega)⟩
   have hog : ((aV h.rule.Out).take (min h.rule.Out.length y.length))[i]? = some [aQ o] := by rw [List.getElem?_take, if_pos hil]; exact bk ho
   have hzg := bk hz
   have hzt := lf ho hz
   (repeat' (first|refine ah ?_|refine a6 ?_|refine am ?_|refine ak ?_|refine a8 ?_|refine aa ?_|refine ae a7 rfl rfl ?_|(apply aP; first|refine aO a7 ?_|refine aI a7 ?_)|fail))
   refine cy ((q, AB.box (ca h.rule ++ [aQ h.kind, c8 h.ign, AV.imm 1 (c7 h.unmet)]) 135) :: rest) _ (hw z) rfl rfl rfl (List.Perm.refl _) rfl rfl fun c L1 ⟨hc, hL⟩ => ?_
   subst hc; subst hL
   (repeat' (first|refine a8 ?_|refine aa ?_|fail))
   refine av rfl (fun e2 => ?_) (fun e2 => ?_)
   ·(repeat' (first|refine a6 ?_|refine ae a7 rfl rfl ?_|refine bM a7 ?_|fail))
    refine aZ (b9 np nb n k1 (bR n l ((((h.rule.Out.zip y).take i).filter fun x => p x.2).map (·.1)))) _ (kz np nb n k1 _ [o] hn (hl.add _)) rfl rfl List.perm_append_comm rfl fun c L1 ⟨k', hL⟩ => ?_
    subst hL
    refine bh (bc List.perm_append_comm) ?_
    (repeat' (first|refine a6 ?_|refine a8 ?_|refine aJ ?_|refine aa ?_|refine ae a7 rfl rfl ?_|(apply aX; refine aW ?_)|fail))
    refine aE (i + 1, k') rfl ⟨by rw [Int.natCast_add]; rfl, trivial⟩ (by dsimp only; omega) (by dsimp only; omega) (fun _ _ h => ?_)
    dsimp only
    rw [hzt, List.filter_append, List.map_append, ← dT]
    simpa [e2] using h
   ·(repeat' (first|refine a6 ?_|refine ak ?_|refine a8 ?_|refine aJ ?_|refine aa ?_|refine ae a7 rfl rfl ?_|(apply aX; refine aW ?_)|fail))
    refine aE (i + 1, k1) rfl ⟨by rw [Int.natCast_add]; rfl, trivial⟩ (by dsimp only; omega) (by dsimp only; omega) (fun _ _ h => ?_)
    dsimp only
    rw [hzt, List.filter_append, List.map_append, ← dT]
    simpa [e2, bR] using h
  ·have hil : i = min h.rule.Out.length y.length := by have := of_decide_eq_false e; rw [hm] at this; omega
   subst hil
   (repeat' (first|refine aR ?_|refine az ?_|refine aJ ?_|refine aC ?_|refine aA ?_|fail))
   refine cB rfl ⟨k1, ?_⟩
   rw [List.take_of_length_le (by rw [List.length_zip]; exact Nat.le_refl _)]
 have ht : eu h p = if h.kind = 2 then h.rule.Out else if h.kind = 3 then h.rule.Out.take 1 else [] := by unfold eu; rw [if_neg (by omega)]
 rw [ht]
 unfold dD s5
 dsimp only
 (repeat' (first|refine ah ?_|refine a6 ?_|refine am ?_|refine a8 ?_|refine aa ?_|refine ae a7 rfl rfl ?_|(apply bn; first|refine aq a7 0 rfl rfl rfl rfl rfl ?_|refine aq a7 1 rfl rfl rfl rfl rfl ?_|refine aq a7 2 rfl rfl rfl rfl rfl ?_|refine aq a7 3 rfl rfl rfl rfl rfl ?_|refine aF a7 0 rfl rfl rfl rfl rfl ?_|refine aF a7 1 rfl rfl rfl rfl rfl ?_|refine aF a7 2 rfl rfl rfl rfl rfl ?_|refine aq a7 1 rfl rfl rfl (by assumption) rfl ?_|refine aq a7 0 rfl rfl rfl (by assumption) rfl ?_|fail)|fail))
 refine av rfl (fun h => absurd (of_decide_eq_true h) h1) (fun _ => ?_)
 (repeat' (first|refine a6 ?_|refine a8 ?_|refine aa ?_|refine ae a7 rfl rfl ?_|fail))
 rw [decide_eq_false h5]
 (repeat' (first|refine ah ?_|refine a6 ?_|refine a8 ?_|refine aa ?_|refine ae a7 rfl rfl ?_|refine bV rfl ?_|fail))
 refine av rfl (fun e => ?_) (fun e => ?_)
 ·have e' := of_decide_eq_true e
  rw [if_pos e']
  (repeat' (first|refine a6 ?_|refine ae a7 rfl rfl ?_|(apply bn; first|refine aq a7 0 rfl rfl rfl rfl rfl ?_|refine aq a7 1 rfl rfl rfl rfl rfl ?_|refine aq a7 2 rfl rfl rfl rfl rfl ?_|refine aq a7 3 rfl rfl rfl rfl rfl ?_|refine aF a7 0 rfl rfl rfl rfl rfl ?_|refine aF a7 1 rfl rfl rfl rfl rfl ?_|refine aF a7 2 rfl rfl rfl rfl rfl ?_|refine aq a7 1 rfl rfl rfl (by assumption) rfl ?_|refine aq a7 0 rfl rfl rfl (by assumption) rfl ?_|fail)|fail))
  refine aZ (b9 np nb n k l) _ (kz np nb n k l h.rule.Out hn hl) rfl rfl List.perm_append_comm rfl fun c L1 ⟨k', hL⟩ => ?_
  subst hL
  refine bh (bc List.perm_append_comm) ?_
  (repeat' (first|refine aJ ?_|refine aa ?_|fail))
  exact cB rfl ⟨k', rfl⟩
 have e2 := of_decide_eq_false e
 rw [if_neg e2]
 (repeat' (first|refine ah ?_|refine a6 ?_|refine a8 ?_|refine aa ?_|refine ae a7 rfl rfl ?_|fail))
 refine av rfl (fun e => ?_) (fun e => ?_)
 ·have e' := of_decide_eq_true e
  rw [if_pos e']
  (repeat' (first|fail))
  refine bj 15 [(0, .v), (1, .v), (2, .v), (3, .v), (4, .v), (5, .l), (6, .v), (7, .v), (8, .v), (9, .v), (10, .l), (11, .v), (12, .v), (13, .v), (14, .e)] none ?_ trivial rfl (by kernel_rfl) (by kernel_rfl) (by kernel_rfl) mixed (by kernel_rfl) rfl
  (repeat' (first|refine aN ?_|refine bf a7 ?_|refine dI a7 0 rfl rfl rfl rfl (by first|trivial|rfl) ?_|fail))
  refine rU a7 (min h.rule.Out.length 1) rfl rfl rfl rfl rfl (by rw [hOl]; omega) (by rw [hOl]; omega) trivial ?_
  (repeat' (first|refine aN ?_|fail))
  refine fB (b9 np nb n k l) _ (kz np nb n k l (h.rule.Out.take 1) hn hl) rfl (by rw [show (aV h.rule.Out).take (min h.rule.Out.length 1) = aV (h.rule.Out.take 1) from s7 _]; rfl) List.perm_append_comm trivial fun c L1 ⟨k', hL⟩ => ?_
  subst hL
  (repeat' (first|fail))
  refine bl [] rfl rfl ?_
  (repeat' (first|refine aJ ?_|refine aa ?_|fail))
  exact bU (bc List.perm_append_comm) (cB rfl ⟨k', rfl⟩)
 ·have e' := of_decide_eq_false e
  rw [if_neg e']
  (repeat' (first|refine ak ?_|refine aJ ?_|fail))
  exact cB rfl ⟨k, rfl⟩
end Go.Proofs.YtpbinloeemebkaaGreat
