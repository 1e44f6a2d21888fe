/-
  What is right by the document: the small parts.
-/
import Derived.Test.YtpbinloeemebkaaGreatM20
import Derived.Test.YtpbinloeemebkaaGreatM16
import Derived.Test.YtpbinloeemebkaaGreatM14
namespace Go.Proofs.YtpbinloeemebkaaGreat
open Go.RowKit
attribute [local irreducible] AT bN AX AO Av Kt bi dE DA d6
def vi (f : FuncId) (args : List AV) (C : Prop) : Prop := AC Tryz.prog f args [] fun c L => L = [] ∧ ∃ e : Int, c = aQ e ∧ (e = 0 ↔ C)
def j8 (i : ew) : Prop := (1 ≤ i.Op ∧ i.Op ≤ 39) ∧ -999999999 ≤ i.A ∧ i.A ≤ 999999999
theorem oS {l : List ew} {i : Nat} {x : ew} (h : l[i]? = some x) (hx : ¬ j8 x) : ¬ (l.length ≤ 200 ∧ ∀ x ∈ l, j8 x) := fun h2 => hx (h2.2 x (List.mem_of_getElem? h))
theorem cN {α : Type} {p : α → Prop} {l : List α} {i : Nat} {x : α} (h : l[i]? = some x) (ha : ∀ y ∈ l.take i, p y) (hx : p x) : ∀ y ∈ l.take (i + 1), p y := by
 rw [List.take_add_one, h]
 intro y hy
 rcases List.mem_append.1 hy with hy | hy
 ·exact ha y hy
 ·simp at hy
  exact hy ▸ hx
set_option maxHeartbeats 4000000 in
theorem wK (l : List ew) : vi 202 [.imm 2 (l.map ga)] (l.length ≤ 200 ∧ ∀ x ∈ l, j8 x) := by
 refine aU Tryz.func202 rfl Tryz.ntmps202 rfl fun B => ?_
 (repeat' (first|refine ah ?_|refine a6 ?_|refine a8 ?_|refine aa ?_|refine ae a7 rfl rfl ?_|fail))
 refine av rfl (fun h => ?_) (fun h => ?_)
 ·have h := of_decide_eq_true h
  rw [List.length_map] at h
  (repeat' (first|refine ah ?_|refine a6 ?_|refine au ?_|refine a8 ?_|refine ar ?_|refine aa ?_|refine ae a7 rfl rfl ?_|fail))
  exact aB rfl rfl ⟨rfl, 2, rfl, by omega⟩
 have hl : l.length ≤ 200 := by have := of_decide_eq_false h; rw [List.length_map] at this; omega
 clear h
 (repeat' (first|refine ah ?_|refine a6 ?_|refine am ?_|refine ak ?_|refine a8 ?_|refine aa ?_|refine ae a7 rfl rfl ?_|fail))
 refine aL [0] (α := Nat) (fun i => [(3, aQ i)]) (fun i => i ≤ l.length ∧ ∀ x ∈ l.take i, j8 x) (fun _ => []) (fun i => l.length - i) 0 rfl ⟨rfl, trivial⟩ ⟨Nat.zero_le _, fun x hx => by cases hx⟩ (fun _ _ h => h) ?_
 rintro i ⟨hi, ha⟩
 try dsimp only [List.cons_append, List.nil_append, List.map_cons, List.map_nil]
 (repeat' (first|refine ah ?_|refine a6 ?_|refine a8 ?_|refine aa ?_|refine ae a7 rfl rfl ?_|fail))
 refine av rfl (fun h => ?_) (fun h => ?_)
 ·have hil : i < l.length := by have := of_decide_eq_true h; rw [List.length_map] at this; omega
  obtain ⟨x, hx⟩ : ∃ z, l[i]? = some z := ⟨_, List.getElem?_eq_getElem hil⟩
  have hxg := b5 (c := ga) hx
  (repeat' (first|refine ah ?_|refine a6 ?_|refine am ?_|refine ak ?_|refine a8 ?_|refine ae a7 rfl rfl ?_|(apply aP; first|refine aO a7 ?_|refine aI a7 ?_)|fail))
  refine bv (t := 26) [0, 3] (x.Op < 1 ∨ x.Op > 39) rfl (fun Q' K => ?_) ?_
  ·(repeat' (first|refine aa ?_|refine ae a7 rfl rfl ?_|refine aw rfl rfl ?_|refine aD rfl rfl rfl rfl ?_|(apply aP; first|refine aO a7 ?_|refine aI a7 ?_)|refine aS rfl rfl rfl (fun _ => ?_) (fun _ => ?_)|fail))
   all_goals exact K _ _ rfl rfl (by clear K; simp_all <;> omega)
  (repeat' (first|refine a8 ?_|fail))
  refine av rfl (fun h2 => ?_) (fun h2 => ?_)
  ·have h2 := of_decide_eq_true h2
   (repeat' (first|refine ah ?_|refine a6 ?_|refine au ?_|refine a8 ?_|refine ar ?_|refine aG ?_|refine aK ?_|refine aa ?_|refine ae a7 rfl rfl ?_|fail))
   exact aB rfl rfl ⟨rfl, 50, rfl, by simp only [show ¬ (50 : Int) = 0 by omega, false_iff]; exact oS hx (by unfold j8; omega)⟩
  have h2 := of_decide_eq_false h2
  (repeat' (first|refine ah ?_|refine a6 ?_|refine ak ?_|refine a8 ?_|refine ae a7 rfl rfl ?_|(apply aP; first|refine aO a7 ?_|refine aI a7 ?_)|fail))
  refine bv (t := 40) [0, 3] (x.A < -999999999 ∨ x.A > 999999999) rfl (fun Q' K => ?_) ?_
  ·(repeat' (first|refine aa ?_|refine ae a7 rfl rfl ?_|refine aw rfl rfl ?_|refine aD rfl rfl rfl rfl ?_|(apply aP; first|refine aO a7 ?_|refine aI a7 ?_)|refine aS rfl rfl rfl (fun _ => ?_) (fun _ => ?_)|fail))
   all_goals exact K _ _ rfl rfl (by clear K; simp_all <;> omega)
  (repeat' (first|refine a8 ?_|fail))
  refine av rfl (fun h3 => ?_) (fun h3 => ?_)
  ·have h3 := of_decide_eq_true h3
   (repeat' (first|refine ah ?_|refine a6 ?_|refine au ?_|refine a8 ?_|refine ar ?_|refine aG ?_|refine aK ?_|refine aa ?_|refine ae a7 rfl rfl ?_|fail))
   exact aB rfl rfl ⟨rfl, 3, rfl, by simp only [show ¬ (3 : Int) = 0 by omega, false_iff]; exact oS hx (by unfold j8; omega)⟩
  have h3 := of_decide_eq_false h3
  (repeat' (first|refine a6 ?_|refine ak ?_|refine a8 ?_|refine aJ ?_|refine aa ?_|refine ae a7 rfl rfl ?_|(apply aX; refine aW ?_)|fail))
  exact aE (i + 1) rfl ⟨by rw [Int.natCast_add]; rfl, trivial⟩ ⟨by omega, cN hx ha (by unfold j8; omega)⟩ (by omega) (fun _ _ h => h)
 have hil : i = l.length := by have := of_decide_eq_false h; rw [List.length_map] at this; omega
 subst hil
 rw [List.take_length] at ha
 (repeat' (first|refine ah ?_|refine a6 ?_|refine au ?_|refine aR ?_|refine a8 ?_|refine az ?_|refine aC ?_|refine aA ?_|refine aa ?_|refine ae a7 rfl rfl ?_|fail))
 exact aB rfl rfl ⟨rfl, 0, rfl, by simp only [true_iff]; exact ⟨hl, ha⟩⟩
set_option maxHeartbeats 4000000 in
theorem wz (n : Int) : bo Tryz.prog 200 [aQ n] (c8 (cx n)) := by
 refine aU Tryz.func200 rfl Tryz.ntmps200 rfl fun B => ?_
 (repeat' (first|refine ah ?_|refine a6 ?_|refine a8 ?_|refine aa ?_|refine ae a7 rfl rfl ?_|fail))
 refine bv (t := 2) [] (-16384 ≤ n ∧ n ≤ 16384) rfl (fun Q' K => ?_) ?_
 ·(repeat' (first|refine aa ?_|refine ae a7 rfl rfl ?_|refine aw rfl rfl ?_|refine aD rfl rfl rfl rfl ?_|refine aS rfl rfl rfl (fun _ => ?_) (fun _ => ?_)|fail))
  all_goals exact K _ _ rfl rfl (by clear K; simp_all <;> omega)
 (repeat' (first|refine au ?_|refine a8 ?_|fail))
 exact aB rfl rfl rfl
instance (n : Int) : AD Tryz.prog 200 [aQ n] (c8 (cx n)) := ⟨wz n⟩
def i9 (t : dB) : Bool := decide ((-64 ≤ t.Start ∧ t.Start ≤ t.Peak ∧ t.Peak ≤ t.End ∧ t.End ≤ 64) ∧ (t.Peak = 0 ∨ t.Start ≥ 0 ∨ t.End ≤ 0))
set_option maxHeartbeats 4000000 in
theorem vc (t : dB) : bo Tryz.prog 201 [.agg (gO t)] (c8 (i9 t)) := by
 refine aU Tryz.func201 rfl Tryz.ntmps201 rfl fun B => ?_
 obtain ⟨a, b, c⟩ := t
 unfold i9 gO
 dsimp only
 (repeat' (first|refine ah ?_|refine a6 ?_|refine a8 ?_|refine aa ?_|refine ae a7 rfl rfl ?_|refine b6 ?_|fail))
 refine bv (t := 2) [] ((-64 ≤ a ∧ a ≤ b ∧ b ≤ c ∧ c ≤ 64) ∧ (b = 0 ∨ a ≥ 0 ∨ c ≤ 0)) rfl (fun Q' K => ?_) ?_
 ·(repeat' (first|refine aa ?_|refine ae a7 rfl rfl ?_|refine aw rfl rfl ?_|refine aD rfl rfl rfl rfl ?_|refine bT rfl rfl rfl ?_|refine aS rfl rfl rfl (fun _ => ?_) (fun _ => ?_)|fail))
  all_goals exact K _ _ rfl rfl (by clear K; simp_all <;> omega)
 (repeat' (first|refine au ?_|refine a8 ?_|fail))
 exact aB rfl rfl rfl
instance (t : dB) : AD Tryz.prog 201 [.agg (gO t)] (c8 (i9 t)) := ⟨vc t⟩
def iJ (n : Int) (last : Int) : List Int → Bool
 | [] => decide (last = n - 1)
 | e :: l => decide (¬ (e < 0 ∨ e ≥ n ∨ e < last + 2)) && iJ n e l
set_option maxHeartbeats 4000000 in
theorem ub (pts : List e7) (ends : List Int) (hp : pts.length ≤ 1000000) (he : ends.length ≤ 1000000) : bo Tryz.prog 252 [.agg [.imm 3 (pts.map dv), .imm 1 (aV ends)]] (c8 (iJ pts.length (-1) ends)) := by
 refine aU Tryz.func252 rfl Tryz.ntmps252 rfl fun B => ?_
 have hei := aM ends
 have hpl : (pts.map dv).length = pts.length := List.length_map ..
 (repeat' (first|refine ah ?_|refine a6 ?_|refine am ?_|refine a8 ?_|refine aa ?_|refine ae a7 rfl rfl ?_|refine b6 ?_|fail))
 refine aL [1] (α := Nat × Int) (fun x => [(4, aQ x.1), (3, aQ x.2)]) (fun x => x.1 ≤ ends.length ∧ (-1 ≤ x.2 ∧ x.2 ≤ pts.length) ∧ iJ pts.length (-1) ends = iJ pts.length x.2 (ends.drop x.1)) (fun _ => []) (fun x => ends.length - x.1) (0, -1) rfl ⟨rfl, rfl, trivial⟩ ⟨Nat.zero_le _, by dsimp only; omega, rfl⟩ (fun _ _ h => h) ?_
 rintro ⟨i, last⟩ ⟨hi, hla, hq⟩
 dsimp only at hi hla hq ⊢
 try dsimp only [List.cons_append, List.nil_append, List.map_cons, List.map_nil]
 (repeat' (first|refine ah ?_|refine a6 ?_|refine a8 ?_|refine aa ?_|refine ae a7 rfl rfl ?_|fail))
 refine av rfl (fun h => ?_) (fun h => ?_)
 ·have hil : i < ends.length := by have := of_decide_eq_true h; omega
  obtain ⟨e, hx⟩ : ∃ z, ends[i]? = some z := ⟨_, List.getElem?_eq_getElem hil⟩
  have hxg := bk hx
  have hdr : ends.drop i = e :: ends.drop (i + 1) := by
   rw [List.drop_eq_getElem_cons hil]
   rw [List.getElem?_eq_getElem hil] at hx
   rw [Option.some.inj hx]
  rw [hdr] at hq
  rw [show iJ pts.length last (e :: ends.drop (i + 1)) = (decide (¬ (e < 0 ∨ e ≥ pts.length ∨ e < last + 2)) && iJ pts.length e (ends.drop (i + 1))) from rfl] at hq
  (repeat' (first|refine ah ?_|refine am ?_|refine ak ?_|refine a8 ?_|fail))
  refine bj 27 [(0, .v), (1, .v), (2, .v), (3, .v), (4, .v), (5, .v), (6, .v), (7, .v), (8, .v), (9, .v), (10, .v), (11, .v), (12, .v), (13, .v), (14, .v), (15, .v), (16, .v), (17, .v), (18, .v), (19, .v), (20, .v), (21, .v), (22, .v), (23, .v), (24, .v), (25, .v), (26, .v)] none ?_ trivial rfl (by kernel_rfl) (by kernel_rfl) (by kernel_rfl) mixed (by kernel_rfl) rfl
  (repeat' (first|refine aN ?_|refine bf a7 ?_|(apply bs;refine bH a7 ?_)|fail))
  by_cases h1 : e < 0
  ·rw [decide_eq_true h1]
   (repeat' (first|refine aN ?_|refine bf a7 ?_|refine f3 rfl rfl ?_|fail))
   refine bl [1, 4, 38] rfl rfl ?_
   (repeat' (first|refine ah ?_|refine a6 ?_|refine au ?_|refine a8 ?_|refine ar ?_|refine aG ?_|refine aK ?_|refine aa ?_|refine ae a7 rfl rfl ?_|refine bI rfl ?_|fail))
   exact aB rfl rfl (by rw [hq, decide_eq_false (by omega)]; rfl)
  rw [decide_eq_false h1]
  (repeat' (first|refine aN ?_|refine bf a7 ?_|(apply bs;refine bH a7 ?_)|fail))
  by_cases h2 : ((pts.map dv).length : Int) ≤ e
  ·rw [decide_eq_true h2]
   (repeat' (first|refine aN ?_|refine bf a7 ?_|refine f3 rfl rfl ?_|fail))
   refine bl [1, 4, 38] rfl rfl ?_
   (repeat' (first|refine ah ?_|refine a6 ?_|refine au ?_|refine a8 ?_|refine ar ?_|refine aG ?_|refine aK ?_|refine aa ?_|refine ae a7 rfl rfl ?_|refine bI rfl ?_|fail))
   exact aB rfl rfl (by rw [hq, decide_eq_false (by omega)]; rfl)
  rw [decide_eq_false h2]
  (repeat' (first|refine aN ?_|refine bf a7 ?_|(apply ey;refine fH ?_)|(apply bs;refine bH a7 ?_)|fail))
  refine bl [1, 4, 38] rfl rfl ?_
  (repeat' (first|refine a8 ?_|refine aa ?_|fail))
  refine av rfl (fun h3 => ?_) (fun h3 => ?_)
  ·have h3 := of_decide_eq_true h3
   (repeat' (first|refine ah ?_|refine a6 ?_|refine au ?_|refine a8 ?_|refine ar ?_|refine aG ?_|refine aK ?_|refine aa ?_|refine ae a7 rfl rfl ?_|fail))
   exact aB rfl rfl (by rw [hq, decide_eq_false (by omega)]; rfl)
  have h3 := of_decide_eq_false h3
  (repeat' (first|refine a6 ?_|refine ak ?_|refine a8 ?_|refine aJ ?_|refine aa ?_|refine ae a7 rfl rfl ?_|(apply aX; refine aW ?_)|(apply aP; first|refine aO a7 ?_|refine aI a7 ?_)|fail))
  refine aE (i + 1, e) rfl ⟨by rw [Int.natCast_add]; rfl, rfl, trivial⟩ ⟨by dsimp only; omega, by dsimp only; omega, ?_⟩ (by dsimp only; omega) (fun _ _ h => h)
  rw [hq, decide_eq_true (by omega), Bool.true_and]
 have hil : i = ends.length := by have := of_decide_eq_false h; omega
 subst hil
 (repeat' (first|refine ah ?_|refine a6 ?_|refine au ?_|refine aR ?_|refine a8 ?_|refine az ?_|refine aC ?_|refine aA ?_|refine aa ?_|refine ae a7 rfl rfl ?_|(apply aX; refine aW ?_)|fail))
 refine aB rfl rfl ?_
 rw [hq, List.drop_length, hpl]
 rfl
end Go.Proofs.YtpbinloeemebkaaGreat

namespace Go.Proofs.YtpbinloeemebkaaGreat
open Go.RowKit
attribute [local irreducible] AT bN AX AO Av Kt bi dE DA d6
theorem bF {e : Int} {C : Prop} (he : ¬ e = 0) (hC : ¬ C) : e = 0 ↔ C := ⟨fun h => absurd h he, fun h => absurd h hC⟩
def kj (f : aH) (p : bE) : Prop := (0 ≤ p.Glyph ∧ p.Glyph < f.Glyphs.length) ∧ cx p.X = true ∧ cx p.Y = true
def kZ (f : aH) (g : be) : Prop := g.Parts.length ≤ 8 ∧ ∀ p ∈ g.Parts, kj f p
set_option maxHeartbeats 4000000 in
theorem wN (f : aH) (g : be) : vi 254 [bw f, .agg (bz g)] (kZ f g) := by
 refine aU Tryz.func254 rfl Tryz.ntmps254 rfl fun B => ?_
 have hml : (f.Glyphs.map bz).length = f.Glyphs.length := List.length_map ..
 (repeat' (first|refine ah ?_|refine a6 ?_|refine a8 ?_|refine aa ?_|refine ae a7 rfl rfl ?_|refine b6 ?_|fail))
 refine av rfl (fun h => ?_) (fun h => ?_)
 ·have h := of_decide_eq_true h
  rw [List.length_map] at h
  (repeat' (first|refine ah ?_|refine a6 ?_|refine au ?_|refine a8 ?_|refine ar ?_|refine aa ?_|refine ae a7 rfl rfl ?_|fail))
  exact aB rfl rfl ⟨rfl, 2, rfl, bF (by omega) fun k => by have := k.1; omega⟩
 have hl : g.Parts.length ≤ 8 := by have := of_decide_eq_false h; rw [List.length_map] at this; omega
 clear h
 (repeat' (first|refine ah ?_|refine a6 ?_|refine am ?_|refine ak ?_|refine a8 ?_|refine aa ?_|refine ae a7 rfl rfl ?_|fail))
 refine aL [2, 3] (α := Nat) (fun i => [(5, aQ i)]) (fun i => i ≤ g.Parts.length ∧ ∀ p ∈ g.Parts.take i, kj f p) (fun _ => []) (fun i => g.Parts.length - i) 0 rfl ⟨rfl, trivial⟩ ⟨Nat.zero_le _, fun x hx => by cases hx⟩ (fun _ _ h => h) ?_
 rintro i ⟨hi, ha⟩
 try dsimp only [List.cons_append, List.nil_append, List.map_cons, List.map_nil]
 (repeat' (first|refine ah ?_|refine a6 ?_|refine a8 ?_|refine aa ?_|refine ae a7 rfl rfl ?_|fail))
 refine av rfl (fun h => ?_) (fun h => ?_)
 ·have hil : i < g.Parts.length := by have := of_decide_eq_true h; rw [List.length_map] at this; omega
  obtain ⟨x, hx⟩ : ∃ z, g.Parts[i]? = some z := ⟨_, List.getElem?_eq_getElem hil⟩
  have hxg := b5 (c := d7) hx
  have hno : ¬ kj f x → ¬ kZ f g := fun h k => h (k.2 x (List.mem_of_getElem? hx))
  (repeat' (first|refine ah ?_|refine a6 ?_|refine am ?_|refine ak ?_|refine a8 ?_|refine aa ?_|refine ae a7 rfl rfl ?_|(apply aP; first|refine aO a7 ?_|refine aI a7 ?_)|(apply aT; first|refine ai 6 a7 0 rfl rfl rfl rfl rfl rfl rfl rfl ?_|refine ai 6 a7 1 rfl rfl rfl rfl rfl rfl rfl rfl ?_|refine ai 6 a7 2 rfl rfl rfl rfl rfl rfl rfl rfl ?_|refine aj a7 0 rfl rfl rfl rfl rfl rfl rfl ?_|refine aj a7 1 rfl rfl rfl rfl rfl rfl rfl ?_|refine aj a7 2 rfl rfl rfl rfl rfl rfl rfl ?_|refine aj a7 3 rfl rfl rfl rfl rfl rfl rfl ?_|fail)|refine bb a7 fun _=>?_|fail))
  refine bv (t := 35) [2, 3, 5, 6] (x.Glyph < 0 ∨ x.Glyph ≥ f.Glyphs.length) rfl (fun Q' K => ?_) ?_
  ·(repeat' (first|refine aa ?_|refine ae a7 rfl rfl ?_|refine aw rfl rfl ?_|refine aD rfl rfl rfl rfl ?_|refine aS rfl rfl rfl (fun _ => ?_) (fun _ => ?_)|fail))
   all_goals exact K _ _ rfl rfl (by clear K; simp_all <;> omega)
  (repeat' (first|refine a8 ?_|fail))
  refine av rfl (fun h2 => ?_) (fun h2 => ?_)
  ·have h2 := of_decide_eq_true h2
   (repeat' (first|refine ah ?_|refine a6 ?_|refine au ?_|refine a8 ?_|refine ar ?_|refine aG ?_|refine aK ?_|refine aa ?_|refine ae a7 rfl rfl ?_|fail))
   exact aB rfl rfl ⟨rfl, 32, rfl, bF (by omega) (hno (by unfold kj; omega))⟩
  have h2 := of_decide_eq_false h2
  (repeat' (first|refine ah ?_|refine a6 ?_|refine ak ?_|refine a8 ?_|refine aa ?_|refine ae a7 rfl rfl ?_|(apply ba;refine aY ?_)|fail))
  refine bv (t := 47) [2, 3, 5] (cx x.X = false ∨ cx x.Y = false) rfl (fun Q' K => ?_) ?_
  ·(repeat' (first|refine aa ?_|refine ae a7 rfl rfl ?_|refine aw rfl rfl ?_|refine aD rfl rfl rfl rfl ?_|refine aS rfl rfl rfl (fun _ => ?_) (fun _ => ?_)|fail))
   all_goals exact K _ _ rfl rfl (by clear K; simp_all)
  (repeat' (first|refine a8 ?_|fail))
  refine av rfl (fun h3 => ?_) (fun h3 => ?_)
  ·have h3 := of_decide_eq_true h3
   (repeat' (first|refine ah ?_|refine a6 ?_|refine au ?_|refine a8 ?_|refine ar ?_|refine aG ?_|refine aK ?_|refine aa ?_|refine ae a7 rfl rfl ?_|fail))
   exact aB rfl rfl ⟨rfl, 30, rfl, bF (by omega) (hno (by unfold kj; rcases h3 with h3 | h3 <;> simp [h3]))⟩
  have h3 := of_decide_eq_false h3
  (repeat' (first|refine a6 ?_|refine ak ?_|refine a8 ?_|refine aJ ?_|refine aa ?_|refine ae a7 rfl rfl ?_|(apply aX; refine aW ?_)|fail))
  exact aE (i + 1) rfl ⟨by rw [Int.natCast_add]; rfl, trivial⟩ ⟨by omega, cN hx ha ⟨by omega, by simpa using h3⟩⟩ (by omega) (fun _ _ h => h)
 have hil : i = g.Parts.length := by have := of_decide_eq_false h; rw [List.length_map] at this; omega
 subst hil
 rw [List.take_length] at ha
 (repeat' (first|refine ah ?_|refine a6 ?_|refine au ?_|refine aR ?_|refine a8 ?_|refine az ?_|refine aC ?_|refine aA ?_|refine aa ?_|refine ae a7 rfl rfl ?_|fail))
 exact aB rfl rfl ⟨rfl, 0, rfl, ⟨fun _ => ⟨hl, ha⟩, fun _ => rfl⟩⟩
end Go.Proofs.YtpbinloeemebkaaGreat

namespace Go.Proofs.YtpbinloeemebkaaGreat
open Go.RowKit
attribute [local irreducible] AT bN AX AO Av Kt bi dE DA d6
def pj (g : be) : Prop := g.Anchors.length ≤ 16 ∧ ∀ i a, g.Anchors[i]? = some a → fZ g i a = 0
def qf (g : be) (a : cU) : Prop := (a.Kind < 1 ∨ a.Kind > 4) ∨ (a.Class < 0 ∨ a.Class > 15) ∨ ((a.Kind = 3 ∨ a.Kind = 4) ∧ a.Class ≠ 0) ∨ [a.X, a.Y].all cx = false ∨ (a.Kind = 2 ∧ g.Mark = false)
instance (g : be) (a : cU) : Decidable (qf g a) := by unfold qf; infer_instance
theorem vx {g : be} {i : Nat} {a : cU} (h : qf g a) : ¬ fZ g i a = 0 := by
 unfold fZ
 unfold qf at h
 rw [if_pos (by rcases h with h | h | h | h | h <;> simp [h])]
 omega
theorem vy {g : be} {i : Nat} {a : cU} (h : ∃ b ∈ g.Anchors.take i, b.Kind = a.Kind ∧ b.Class = a.Class) : ¬ fZ g i a = 0 := by
 unfold fZ
 rw [if_pos (.inr (.inr (.inr (.inr (.inr h)))))]
 omega
theorem xt {g : be} {i : Nat} {a : cU} (h1 : ¬ qf g a) (h2 : ¬ ∃ b ∈ g.Anchors.take i, b.Kind = a.Kind ∧ b.Class = a.Class) : fZ g i a = 0 := by
 unfold fZ
 unfold qf at h1
 rw [if_neg]
 rintro (h | h | h | h | h | h)
 ·exact h1 (.inl h)
 ·exact h1 (.inr (.inl h))
 ·exact h1 (.inr (.inr (.inl h)))
 ·exact h1 (.inr (.inr (.inr (.inl h))))
 ·exact h1 (.inr (.inr (.inr (.inr h))))
 ·exact h2 h
theorem fv {α : Type} {l : List α} {w : Nat → α → Int} {i : Nat} {x : α} (hx : l[i]? = some x) (ha : ∀ j y, j < i → l[j]? = some y → w j y = 0) (h : w i x = 0) : ∀ j y, j < i + 1 → l[j]? = some y → w j y = 0 := by
 intro j y hj hy
 by_cases e : j = i
 ·subst e
  rw [hx] at hy
  exact Option.some.inj hy ▸ h
 ·exact ha j y (by omega) hy
set_option maxHeartbeats 8000000 in
theorem xu (g : be) : vi 255 [.agg (bz g)] (pj g) := by
 refine aU Tryz.func255 rfl Tryz.ntmps255 rfl fun B => ?_
 (repeat' (first|refine ah ?_|refine a6 ?_|refine a8 ?_|refine aa ?_|refine ae a7 rfl rfl ?_|refine b6 ?_|fail))
 refine av rfl (fun h => ?_) (fun h => ?_)
 ·have h := of_decide_eq_true h
  rw [List.length_map] at h
  (repeat' (first|refine ah ?_|refine a6 ?_|refine au ?_|refine a8 ?_|refine ar ?_|refine aa ?_|refine ae a7 rfl rfl ?_|fail))
  exact aB rfl rfl ⟨rfl, 2, rfl, bF (by omega) fun k => by have := k.1; omega⟩
 have hl : g.Anchors.length ≤ 16 := by have := of_decide_eq_false h; rw [List.length_map] at this; omega
 clear h
 (repeat' (first|refine ah ?_|refine a6 ?_|refine am ?_|refine ak ?_|refine a8 ?_|refine aa ?_|refine ae a7 rfl rfl ?_|fail))
 refine aL [1] (α := Nat) (fun i => [(3, aQ i)]) (fun i => i ≤ g.Anchors.length ∧ ∀ j y, j < i → g.Anchors[j]? = some y → fZ g j y = 0) (fun _ => []) (fun i => g.Anchors.length - i) 0 rfl ⟨rfl, trivial⟩ ⟨Nat.zero_le _, fun j y hj => absurd hj (Nat.not_lt_zero _)⟩ (fun _ _ h => h) ?_
 rintro i ⟨hi, ha⟩
 try dsimp only [List.cons_append, List.nil_append, List.map_cons, List.map_nil]
 (repeat' (first|refine ah ?_|refine a6 ?_|refine a8 ?_|refine aa ?_|refine ae a7 rfl rfl ?_|fail))
 refine av rfl (fun h => ?_) (fun h => ?_)
 ·have hil : i < g.Anchors.length := by have := of_decide_eq_true h; rw [List.length_map] at this; omega
  obtain ⟨x, hx⟩ : ∃ z, g.Anchors[i]? = some z := ⟨_, List.getElem?_eq_getElem hil⟩
  have hxg := b5 (c := dx) hx
  have hno : ¬ fZ g i x = 0 → ¬ pj g := fun h k => h (k.2 i x hx)
  (repeat' (first|refine ah ?_|refine a6 ?_|refine am ?_|refine ak ?_|refine a8 ?_|refine aa ?_|refine ae a7 rfl rfl ?_|(apply aP; first|refine aO a7 ?_|refine aI a7 ?_)|(apply aT; first|refine ai 4 a7 0 rfl rfl rfl rfl rfl rfl rfl rfl ?_|refine ai 4 a7 1 rfl rfl rfl rfl rfl rfl rfl rfl ?_|refine ai 4 a7 2 rfl rfl rfl rfl rfl rfl rfl rfl ?_|refine aj a7 0 rfl rfl rfl rfl rfl rfl rfl ?_|refine aj a7 1 rfl rfl rfl rfl rfl rfl rfl ?_|refine aj a7 2 rfl rfl rfl rfl rfl rfl rfl ?_|refine aj a7 3 rfl rfl rfl rfl rfl rfl rfl ?_|fail)|refine bb a7 fun _=>?_|(apply ba;refine aY ?_)|fail))
  refine bv (t := 75) [1, 3, 4] (qf g x) rfl (fun Q' K => ?_) ?_
  ·(repeat' (first|refine aa ?_|refine ae a7 rfl rfl ?_|refine aw rfl rfl ?_|refine aD rfl rfl rfl rfl ?_|refine bT rfl rfl rfl ?_|refine aS rfl rfl rfl (fun _ => ?_) (fun _ => ?_)|fail))
   all_goals exact K _ _ rfl rfl (by clear K hno ha; unfold qf; simp_all [List.all_cons] <;> omega)
  (repeat' (first|refine a8 ?_|fail))
  refine av rfl (fun h2 => ?_) (fun h2 => ?_)
  ·have h2 := of_decide_eq_true h2
   (repeat' (first|refine ah ?_|refine a6 ?_|refine au ?_|refine a8 ?_|refine ar ?_|refine aG ?_|refine aK ?_|refine aa ?_|refine ae a7 rfl rfl ?_|fail))
   exact aB rfl rfl ⟨rfl, 35, rfl, bF (by omega) (hno (vx h2))⟩
  have h2 := of_decide_eq_false h2
  (repeat' (first|refine ah ?_|refine a6 ?_|refine am ?_|refine ak ?_|refine a8 ?_|refine aa ?_|refine ae a7 rfl rfl ?_|fail))
  refine aL [1, 3, 4] (α := Nat) (fun k => [(7, aQ k)]) (fun k => k ≤ i ∧ ∀ b ∈ g.Anchors.take k, ¬ (b.Kind = x.Kind ∧ b.Class = x.Class)) (fun _ => []) (fun k => i - k) 0 rfl ⟨rfl, trivial⟩ ⟨Nat.zero_le _, fun x hx => by cases hx⟩ (fun _ _ h => h) ?_
  clear h
  rintro k ⟨hk, hb⟩
  try dsimp only [List.cons_append, List.nil_append, List.map_cons, List.map_nil]
  (repeat' (first|refine ah ?_|refine a6 ?_|refine a8 ?_|refine aa ?_|refine ae a7 rfl rfl ?_|fail))
  refine av rfl (fun h => ?_) (fun h => ?_)
  ·have hkl : k < i := by have := of_decide_eq_true h; omega
   obtain ⟨y, hy⟩ : ∃ z, g.Anchors[k]? = some z := ⟨_, List.getElem?_eq_getElem (by omega)⟩
   have hyg := b5 (c := dx) hy
   (repeat' (first|refine ah ?_|refine am ?_|refine ak ?_|refine a8 ?_|fail))
   refine bj 20 [(0, .v), (1, .v), (2, .v), (3, .v), (4, .v), (5, .v), (6, .v), (7, .v), (8, .v), (9, .v), (10, .v), (11, .v), (12, .v), (13, .v), (14, .v), (15, .v), (16, .v), (17, .v), (18, .v), (19, .v)] none ?_ trivial rfl (by kernel_rfl) (by kernel_rfl) (by kernel_rfl) mixed (by kernel_rfl) rfl
   (repeat' (first|refine aN ?_|refine bf a7 ?_|(apply bs;refine bH a7 ?_)|fail))
   by_cases h3 : y.Kind = x.Kind
   ·rw [decide_eq_true h3]
    (repeat' (first|refine aN ?_|refine bf a7 ?_|(apply bs;refine bH a7 ?_)|fail))
    refine bl [1, 3, 4, 7, 100] rfl rfl ?_
    (repeat' (first|refine a8 ?_|refine aa ?_|fail))
    refine av rfl (fun h4 => ?_) (fun h4 => ?_)
    ·have h4 := of_decide_eq_true h4
     (repeat' (first|refine ah ?_|refine a6 ?_|refine au ?_|refine a8 ?_|refine ar ?_|refine aG ?_|refine aK ?_|refine aa ?_|refine ae a7 rfl rfl ?_|fail))
     exact aB rfl rfl ⟨rfl, 35, rfl, bF (by omega) (hno (vy ⟨y, List.mem_of_getElem? (by rw [List.getElem?_take, if_pos hkl]; exact hy), h3, h4⟩))⟩
    have h4 := of_decide_eq_false h4
    (repeat' (first|refine a6 ?_|refine ak ?_|refine a8 ?_|refine aJ ?_|refine aa ?_|refine ae a7 rfl rfl ?_|(apply aX; refine aW ?_)|fail))
    exact aE (k + 1) rfl ⟨by rw [Int.natCast_add]; rfl, trivial⟩ ⟨by omega, cN hy hb fun e => h4 e.2⟩ (by omega) (fun _ _ h => h)
   ·rw [decide_eq_false h3]
    (repeat' (first|refine aN ?_|refine bf a7 ?_|refine f3 rfl rfl ?_|fail))
    refine bl [1, 3, 4, 7, 100] rfl rfl ?_
    (repeat' (first|refine a6 ?_|refine ak ?_|refine a8 ?_|refine aJ ?_|refine aa ?_|refine ae a7 rfl rfl ?_|(apply aX; refine aW ?_)|refine bV rfl ?_|fail))
    exact aE (k + 1) rfl ⟨by rw [Int.natCast_add]; rfl, trivial⟩ ⟨by omega, cN hy hb fun e => h3 e.1⟩ (by omega) (fun _ _ h => h)
  have hkl : k = i := by have := of_decide_eq_false h; omega
  subst hkl
  (repeat' (first|refine a6 ?_|refine aR ?_|refine a8 ?_|refine az ?_|refine aJ ?_|refine aC ?_|refine aA ?_|refine aa ?_|refine ae a7 rfl rfl ?_|(apply aX; refine aW ?_)|fail))
  exact aE (k + 1) rfl ⟨by rw [Int.natCast_add]; rfl, trivial⟩ ⟨by omega, fv hx ha (xt h2 fun ⟨b, h5, h6⟩ => hb b h5 h6)⟩ (by omega) (fun _ _ h => h)
 have hil : i = g.Anchors.length := by have := of_decide_eq_false h; rw [List.length_map] at this; omega
 subst hil
 (repeat' (first|refine ah ?_|refine a6 ?_|refine au ?_|refine aR ?_|refine a8 ?_|refine az ?_|refine aC ?_|refine aA ?_|refine aa ?_|refine ae a7 rfl rfl ?_|fail))
 exact aB rfl rfl ⟨rfl, 0, rfl, ⟨fun _ => ⟨hl, fun j y hy => ha j y (List.getElem?_eq_some_iff.1 hy).1 hy⟩, fun _ => rfl⟩⟩
end Go.Proofs.YtpbinloeemebkaaGreat

namespace Go.Proofs.YtpbinloeemebkaaGreat
open Go.RowKit
attribute [local irreducible] AT bN AX AO Av Kt bi dE DA d6
def pq (f : aH) (g : be) : Prop := g.Deltas.length ≤ 400 ∧ ∀ i a, g.Deltas[i]? = some a → k7 f g i a = 0
def vY (f : aH) (d : dh) : Prop := d.Region < 0 ∨ d.Region ≥ f.Regions.length
def vZ (g : be) (d : dh) : Prop := (d.Point < -1 ∨ d.Point ≥ g.Points.length) ∨ [d.X, d.Y].all cx = false ∨ (d.Point = -1 ∧ d.Y ≠ 0)
def xK (g : be) (i : Nat) (d : dh) : Bool := match i with | 0 => false | j + 1 => match g.Deltas[j]? with | some b => decide (d.Region < b.Region ∨ (d.Region = b.Region ∧ d.Point ≤ b.Point)) | none => false
instance (f : aH) (d : dh) : Decidable (vY f d) := by unfold vY; infer_instance
instance (g : be) (d : dh) : Decidable (vZ g d) := by unfold vZ; infer_instance
theorem mC (f : aH) (g : be) (i : Nat) (d : dh) : k7 f g i d = if vY f d then 61 else if vZ g d then 30 else if xK g i d = true then 24 else 0 := rfl
set_option maxHeartbeats 8000000 in
theorem xL (f : aH) (g : be) : vi 256 [bw f, .agg (bz g)] (pq f g) := by
 refine aU Tryz.func256 rfl Tryz.ntmps256 rfl fun B => ?_
 have hml : (f.Regions.map cI).length = f.Regions.length := List.length_map ..
 have hpl : (g.Points.map dv).length = g.Points.length := List.length_map ..
 (repeat' (first|refine ah ?_|refine a6 ?_|refine a8 ?_|refine aa ?_|refine ae a7 rfl rfl ?_|refine b6 ?_|fail))
 refine av rfl (fun h => ?_) (fun h => ?_)
 ·have h := of_decide_eq_true h
  rw [List.length_map] at h
  (repeat' (first|refine ah ?_|refine a6 ?_|refine au ?_|refine a8 ?_|refine ar ?_|refine aa ?_|refine ae a7 rfl rfl ?_|fail))
  exact aB rfl rfl ⟨rfl, 2, rfl, bF (by omega) fun k => by have := k.1; omega⟩
 have hl : g.Deltas.length ≤ 400 := by have := of_decide_eq_false h; rw [List.length_map] at this; omega
 clear h
 (repeat' (first|refine ah ?_|refine a6 ?_|refine am ?_|refine ak ?_|refine a8 ?_|refine aa ?_|refine ae a7 rfl rfl ?_|fail))
 refine aL [2, 3] (α := Nat) (fun i => [(5, aQ i)]) (fun i => i ≤ g.Deltas.length ∧ ∀ j y, j < i → g.Deltas[j]? = some y → k7 f g j y = 0) (fun _ => []) (fun i => g.Deltas.length - i) 0 rfl ⟨rfl, trivial⟩ ⟨Nat.zero_le _, fun j y hj => absurd hj (Nat.not_lt_zero _)⟩ (fun _ _ h => h) ?_
 rintro i ⟨hi, ha⟩
 try dsimp only [List.cons_append, List.nil_append, List.map_cons, List.map_nil]
 (repeat' (first|refine ah ?_|refine a6 ?_|refine a8 ?_|refine aa ?_|refine ae a7 rfl rfl ?_|fail))
 refine av rfl (fun h => ?_) (fun h => ?_)
 ·have hil : i < g.Deltas.length := by have := of_decide_eq_true h; rw [List.length_map] at this; omega
  obtain ⟨x, hx⟩ : ∃ z, g.Deltas[i]? = some z := ⟨_, List.getElem?_eq_getElem hil⟩
  have hxg := b5 (c := e8) hx
  have hno : ¬ k7 f g i x = 0 → ¬ pq f g := fun h k => h (k.2 i x hx)
  (repeat' (first|refine ah ?_|refine a6 ?_|refine am ?_|refine ak ?_|refine a8 ?_|refine aa ?_|refine ae a7 rfl rfl ?_|(apply aP; first|refine aO a7 ?_|refine aI a7 ?_)|(apply aT; first|refine ai 6 a7 0 rfl rfl rfl rfl rfl rfl rfl rfl ?_|refine ai 6 a7 1 rfl rfl rfl rfl rfl rfl rfl rfl ?_|refine ai 6 a7 2 rfl rfl rfl rfl rfl rfl rfl rfl ?_|refine aj a7 0 rfl rfl rfl rfl rfl rfl rfl ?_|refine aj a7 1 rfl rfl rfl rfl rfl rfl rfl ?_|refine aj a7 2 rfl rfl rfl rfl rfl rfl rfl ?_|refine aj a7 3 rfl rfl rfl rfl rfl rfl rfl ?_|fail)|refine bb a7 fun _=>?_|fail))
  refine bv (t := 35) [2, 3, 5, 6] (vY f x) rfl (fun Q' K => ?_) ?_
  ·(repeat' (first|refine aa ?_|refine ae a7 rfl rfl ?_|refine aw rfl rfl ?_|refine aD rfl rfl rfl rfl ?_|refine aS rfl rfl rfl (fun _ => ?_) (fun _ => ?_)|fail))
   all_goals exact K _ _ rfl rfl (by clear K hno ha; unfold vY; simp_all <;> omega)
  (repeat' (first|refine a8 ?_|fail))
  refine av rfl (fun h2 => ?_) (fun h2 => ?_)
  ·have h2 := of_decide_eq_true h2
   (repeat' (first|refine ah ?_|refine a6 ?_|refine au ?_|refine a8 ?_|refine ar ?_|refine aG ?_|refine aK ?_|refine aa ?_|refine ae a7 rfl rfl ?_|fail))
   exact aB rfl rfl ⟨rfl, 61, rfl, bF (by omega) (hno (by rw [mC, if_pos h2]; omega))⟩
  have h2 := of_decide_eq_false h2
  (repeat' (first|refine ah ?_|refine a6 ?_|refine ak ?_|refine a8 ?_|refine aa ?_|refine ae a7 rfl rfl ?_|(apply ba;refine aY ?_)|fail))
  refine bv (t := 71) [2, 3, 5, 6] (vZ g x) rfl (fun Q' K => ?_) ?_
  ·(repeat' (first|refine aa ?_|refine ae a7 rfl rfl ?_|refine aw rfl rfl ?_|refine aD rfl rfl rfl rfl ?_|refine bT rfl rfl rfl ?_|refine aS rfl rfl rfl (fun _ => ?_) (fun _ => ?_)|fail))
   all_goals exact K _ _ rfl rfl (by clear K hno ha; unfold vZ; simp_all [List.all_cons] <;> omega)
  (repeat' (first|refine a8 ?_|fail))
  refine av rfl (fun h3 => ?_) (fun h3 => ?_)
  ·have h3 := of_decide_eq_true h3
   (repeat' (first|refine ah ?_|refine a6 ?_|refine au ?_|refine a8 ?_|refine ar ?_|refine aG ?_|refine aK ?_|refine aa ?_|refine ae a7 rfl rfl ?_|fail))
   exact aB rfl rfl ⟨rfl, 30, rfl, bF (by omega) (hno (by rw [mC, if_neg h2, if_pos h3]; omega))⟩
  have h3 := of_decide_eq_false h3
  have hbad : xK g i x = true → ¬ k7 f g i x = 0 := fun hd => by rw [mC, if_neg h2, if_neg h3, if_pos hd]; omega
  have hgood : xK g i x = false → k7 f g i x = 0 := fun hd => by rw [mC, if_neg h2, if_neg h3, hd]; rfl
  (repeat' (first|refine ah ?_|refine ak ?_|refine a8 ?_|fail))
  refine bj 38 [(0, .v), (1, .v), (2, .v), (3, .v), (4, .v), (5, .v), (6, .v), (7, .v), (8, .v), (9, .v), (10, .v), (11, .v), (12, .v), (13, .v), (14, .v), (15, .v), (16, .v), (17, .v), (18, .v), (19, .v), (20, .v), (21, .v), (22, .v), (23, .v), (24, .v), (25, .v), (26, .v), (27, .v), (28, .v), (29, .v), (30, .v), (31, .v), (32, .v), (33, .v), (34, .v), (35, .v), (36, .v), (37, .v)] none ?_ trivial rfl (by kernel_rfl) (by kernel_rfl) (by kernel_rfl) mixed (by kernel_rfl) rfl
  (repeat' (first|refine aN ?_|refine bf a7 ?_|fail))
  by_cases h4 : (0 : Int) < i
  ·rw [decide_eq_true h4]
   obtain ⟨j, rfl⟩ : ∃ j, i = j + 1 := ⟨i - 1, by omega⟩
   obtain ⟨y, hy⟩ : ∃ z, g.Deltas[j]? = some z := ⟨_, List.getElem?_eq_getElem (by omega)⟩
   have hyg := b5 (c := e8) hy
   have hdl : xK g (j + 1) x = decide (x.Region < y.Region ∨ (x.Region = y.Region ∧ x.Point ≤ y.Point)) := by show (match g.Deltas[j]? with | some b => decide (x.Region < b.Region ∨ (x.Region = b.Region ∧ x.Point ≤ b.Point)) | none => false) = _; rw [hy]
   have hj1 : ((j + 1 : Nat) : Int) - 1 = (j : Int) := by omega
   (repeat' (first|refine aN ?_|refine bf a7 ?_|(apply ey;refine fH ?_)|fail))
   rw [hj1]
   (repeat' (first|refine aN ?_|refine bf a7 ?_|(apply bs;refine bH a7 ?_)|fail))
   by_cases h5 : x.Region < y.Region
   ·rw [decide_eq_true h5]
    (repeat' (first|refine aN ?_|refine bf a7 ?_|refine f3 rfl rfl ?_|refine oK rfl ?_|fail))
    refine bl [2, 3, 5, 109] rfl rfl ?_
    (repeat' (first|refine ah ?_|refine a6 ?_|refine au ?_|refine a8 ?_|refine ar ?_|refine aG ?_|refine aK ?_|refine aa ?_|refine ae a7 rfl rfl ?_|refine bI rfl ?_|fail))
    exact aB rfl rfl ⟨rfl, 24, rfl, bF (by omega) (hno (hbad (by rw [hdl]; exact decide_eq_true (.inl h5))))⟩
   rw [decide_eq_false h5]
   (repeat' (first|refine aN ?_|refine bf a7 ?_|(apply ey;refine fH ?_)|fail))
   rw [hj1]
   (repeat' (first|refine aN ?_|refine bf a7 ?_|(apply bs;refine bH a7 ?_)|fail))
   by_cases h6 : x.Region = y.Region
   ·rw [decide_eq_true h6]
    (repeat' (first|refine aN ?_|refine bf a7 ?_|(apply ey;refine fH ?_)|fail))
    rw [hj1]
    (repeat' (first|refine aN ?_|refine bf a7 ?_|(apply bs;refine bH a7 ?_)|fail))
    refine bl [2, 3, 5, 109] rfl rfl ?_
    (repeat' (first|refine a8 ?_|refine aa ?_|fail))
    refine av rfl (fun h7 => ?_) (fun h7 => ?_)
    ·have h7 := of_decide_eq_true h7
     (repeat' (first|refine ah ?_|refine a6 ?_|refine au ?_|refine a8 ?_|refine ar ?_|refine aG ?_|refine aK ?_|refine aa ?_|refine ae a7 rfl rfl ?_|fail))
     exact aB rfl rfl ⟨rfl, 24, rfl, bF (by omega) (hno (hbad (by rw [hdl]; exact decide_eq_true (.inr ⟨h6, h7⟩))))⟩
    have h7 := of_decide_eq_false h7
    (repeat' (first|refine a6 ?_|refine ak ?_|refine a8 ?_|refine aJ ?_|refine aa ?_|refine ae a7 rfl rfl ?_|(apply aX; refine aW ?_)|fail))
    exact aE (j + 1 + 1) rfl ⟨by rw [Int.natCast_add]; rfl, trivial⟩ ⟨by omega, fv hx ha (hgood (by rw [hdl]; exact decide_eq_false fun e => e.elim h5 fun e => h7 e.2))⟩ (by omega) (fun _ _ h => h)
   rw [decide_eq_false h6]
   (repeat' (first|refine aN ?_|refine bf a7 ?_|refine f3 rfl rfl ?_|fail))
   refine bl [2, 3, 5, 109] rfl rfl ?_
   (repeat' (first|refine a6 ?_|refine ak ?_|refine a8 ?_|refine aJ ?_|refine aa ?_|refine ae a7 rfl rfl ?_|(apply aX; refine aW ?_)|refine bV rfl ?_|fail))
   exact aE (j + 1 + 1) rfl ⟨by rw [Int.natCast_add]; rfl, trivial⟩ ⟨by omega, fv hx ha (hgood (by rw [hdl]; exact decide_eq_false fun e => e.elim h5 fun e => h6 e.1))⟩ (by omega) (fun _ _ h => h)
  ·rw [decide_eq_false h4]
   (repeat' (first|refine aN ?_|refine bf a7 ?_|refine f3 rfl rfl ?_|refine oK rfl ?_|fail))
   refine bl [2, 3, 5, 109] rfl rfl ?_
   (repeat' (first|refine a6 ?_|refine ak ?_|refine a8 ?_|refine aJ ?_|refine aa ?_|refine ae a7 rfl rfl ?_|(apply aX; refine aW ?_)|refine bV rfl ?_|fail))
   have hi0 : i = 0 := by omega
   exact aE (i + 1) rfl ⟨by rw [Int.natCast_add]; rfl, trivial⟩ ⟨by omega, fv hx ha (hgood (by rw [hi0]; rfl))⟩ (by omega) (fun _ _ h => h)
 have hil : i = g.Deltas.length := by have := of_decide_eq_false h; rw [List.length_map] at this; omega
 subst hil
 (repeat' (first|refine ah ?_|refine a6 ?_|refine au ?_|refine aR ?_|refine a8 ?_|refine az ?_|refine aC ?_|refine aA ?_|refine aa ?_|refine ae a7 rfl rfl ?_|fail))
 exact aB rfl rfl ⟨rfl, 0, rfl, ⟨fun _ => ⟨hl, fun j y hy => ha j y (List.getElem?_eq_some_iff.1 hy).1 hy⟩, fun _ => rfl⟩⟩
end Go.Proofs.YtpbinloeemebkaaGreat

namespace Go.Proofs.YtpbinloeemebkaaGreat
open Go.RowKit
attribute [local irreducible] AT bN AX AO Av Kt bi dE DA d6
set_option maxHeartbeats 4000000 in
theorem oX (s : ByteArray) (hs : s.size ≤ 140737488355328) : bo Tryz.prog 199 [ph s] (c8 (cJ s)) := by
 refine aU Tryz.func199 rfl Tryz.ntmps199 rfl fun B => ?_
 (repeat' (first|refine ah ?_|refine a6 ?_|refine am ?_|refine a8 ?_|refine aa ?_|refine ae a7 rfl rfl ?_|fail))
 refine aL [0] (α := Nat) (fun i => [(3, aQ i)]) (fun i => i ≤ s.size ∧ ∀ j, j < i → kf j (iU s j) = true) (fun _ => []) (fun i => s.size - i) 0 rfl ⟨rfl, trivial⟩ ⟨Nat.zero_le _, fun j hj => absurd hj (Nat.not_lt_zero _)⟩ (fun _ _ h => h) fun i hi => ?_
 try dsimp only [List.cons_append, List.nil_append, List.map_cons, List.map_nil]
 (repeat' (first|refine ah ?_|refine a6 ?_|refine a8 ?_|refine aa ?_|refine ae a7 rfl rfl ?_|fail))
 refine av rfl (fun h => ?_) (fun h => ?_)
 ·have hil : i < s.size := by have := of_decide_eq_true h; omega
  obtain ⟨c, hc⟩ := mK hil
  have hb := ij hc
  (repeat' (first|refine ah ?_|refine a6 ?_|refine am ?_|refine ak ?_|refine a8 ?_|refine ae a7 rfl rfl ?_|fail))
  refine mH a7 rfl rfl rfl rfl (by omega) (by rw [Int.toNat_natCast]; exact hc) rfl ?_
  generalize (c.toNat : Int) = z at *
  (repeat' (first|refine ah ?_|refine a6 ?_|refine a8 ?_|refine aa ?_|refine ae a7 rfl rfl ?_|fail))
  refine bv (t := 5) [0, 3, 4] (gT z = true ∨ z = 95 ∨ z = 46) rfl (fun Q' K => ?_) ?_
  ·clear hi hb hc h
   (repeat' (first|refine aa ?_|refine ae a7 rfl rfl ?_|refine aw rfl rfl ?_|refine aD rfl rfl rfl rfl ?_|refine bT rfl rfl rfl ?_|refine aS rfl rfl rfl (fun _ => ?_) (fun _ => ?_)|fail))
   all_goals exact K _ _ rfl rfl (by clear K; unfold gT; simp_all <;> omega)
  (repeat' (first|refine ah ?_|refine a6 ?_|refine a8 ?_|refine ae a7 rfl rfl ?_|fail))
  refine bv (t := 54) [0, 3] (kf i z = false) rfl (fun Q' K => ?_) ?_
  ·clear hi hb hc h
   (repeat' (first|refine aa ?_|refine ae a7 rfl rfl ?_|refine aw rfl rfl ?_|refine aD rfl rfl rfl rfl ?_|refine bT rfl rfl rfl ?_|refine aS rfl rfl rfl (fun _ => ?_) (fun _ => ?_)|fail))
   all_goals exact K _ _ rfl rfl (by clear K; unfold kf; grind)
  (repeat' (first|refine a8 ?_|fail))
  refine av rfl (fun h2 => ?_) (fun h2 => ?_)
  ·have h2 := of_decide_eq_true h2
   (repeat' (first|refine ah ?_|refine a6 ?_|refine au ?_|refine a8 ?_|refine ar ?_|refine aG ?_|refine aK ?_|refine aa ?_|refine ae a7 rfl rfl ?_|fail))
   refine aB rfl rfl ?_
   unfold cJ
   rw [gD hil (by rw [hb]; exact h2), Bool.and_false]
  ·have h2 := of_decide_eq_false h2
   (repeat' (first|refine a6 ?_|refine ak ?_|refine a8 ?_|refine aJ ?_|refine aa ?_|refine ae a7 rfl rfl ?_|(apply aX; refine aW ?_)|fail))
   refine aE (i + 1) rfl ⟨by rw [Int.natCast_add]; rfl, trivial⟩ ⟨by omega, fun j hj => ?_⟩ (by omega) (fun _ _ h => h)
   by_cases e : j = i
   ·subst e; rw [hb]; simpa using h2
   ·exact hi.2 j (by omega)
 have hil : i = s.size := by have := of_decide_eq_false h; omega
 subst hil
 (repeat' (first|refine ah ?_|refine a6 ?_|refine aR ?_|refine a8 ?_|refine az ?_|refine aC ?_|refine aA ?_|refine ae a7 rfl rfl ?_|fail))
 have he : s = (⟨#[]⟩ : ByteArray) ↔ s.size = 0 := by
  constructor
  ·intro e; rw [e]; rfl
  ·intro e
   obtain ⟨a⟩ := s
   have : a = #[] := Array.eq_empty_of_size_eq_zero e
   rw [this]
 refine bv (t := 2) [] (1 ≤ s.size ∧ s.size ≤ 16) rfl (fun Q' K => ?_) ?_
 ·(repeat' (first|refine aa ?_|refine ae a7 rfl rfl ?_|refine aw rfl rfl ?_|refine aD rfl rfl rfl rfl ?_|refine aS rfl rfl rfl (fun _ => ?_) (fun _ => ?_)|fail))
  all_goals exact K _ _ rfl rfl (by clear K hi; simp only [bne_iff_ne, ne_eq, he, decide_eq_true_iff, decide_eq_false_iff_not, Bool.not_eq_true', Bool.not_eq_false', Bool.not_true, Bool.not_false, Bool.false_eq_true, false_iff, true_iff] at * <;> omega)
 (repeat' (first|refine au ?_|refine a8 ?_|fail))
 refine aB rfl rfl ?_
 unfold cJ
 rw [gN.2 hi.2, Bool.and_true]
end Go.Proofs.YtpbinloeemebkaaGreat

namespace Go.Proofs.YtpbinloeemebkaaGreat
open Go.RowKit
attribute [local irreducible] AT bN AX AO Av Kt bi dE DA d6
set_option maxHeartbeats 4000000 in
theorem w6 (l : List Int) (hl : l.length ≤ 1000000) : vi 253 [.imm 1 (aV l)] (∀ e ∈ l, e = 0) := by
 refine aU Tryz.func253 rfl Tryz.ntmps253 rfl fun B => ?_
 have hli := aM l
 (repeat' (first|refine ah ?_|refine a6 ?_|refine am ?_|refine a8 ?_|refine aa ?_|refine ae a7 rfl rfl ?_|fail))
 refine aL [0] (α := Nat) (fun i => [(3, aQ i)]) (fun i => i ≤ l.length ∧ ∀ e ∈ l.take i, e = 0) (fun _ => []) (fun i => l.length - i) 0 rfl ⟨rfl, trivial⟩ ⟨Nat.zero_le _, fun x hx => by cases hx⟩ (fun _ _ h => h) ?_
 rintro i ⟨hi, ha⟩
 try dsimp only [List.cons_append, List.nil_append, List.map_cons, List.map_nil]
 (repeat' (first|refine ah ?_|refine a6 ?_|refine a8 ?_|refine aa ?_|refine ae a7 rfl rfl ?_|fail))
 refine av rfl (fun h => ?_) (fun h => ?_)
 ·have hil : i < l.length := by have := of_decide_eq_true h; omega
  obtain ⟨x, hx⟩ : ∃ z, l[i]? = some z := ⟨_, List.getElem?_eq_getElem hil⟩
  have hxg := bk hx
  (repeat' (first|refine ah ?_|refine a6 ?_|refine am ?_|refine ak ?_|refine a8 ?_|refine aa ?_|refine ae a7 rfl rfl ?_|(apply aP; first|refine aO a7 ?_|refine aI a7 ?_)|fail))
  refine av rfl (fun h2 => ?_) (fun h2 => ?_)
  ·have h2 : ¬ x = 0 := by simpa using h2
   (repeat' (first|refine ah ?_|refine a6 ?_|refine au ?_|refine a8 ?_|refine ar ?_|refine aG ?_|refine aK ?_|refine aa ?_|refine ae a7 rfl rfl ?_|(apply aP; first|refine aO a7 ?_|refine aI a7 ?_)|fail))
   exact aB rfl rfl ⟨rfl, x, rfl, bF h2 fun k => h2 (k x (List.mem_of_getElem? hx))⟩
  have h2 : x = 0 := by simpa using h2
  (repeat' (first|refine a6 ?_|refine ak ?_|refine a8 ?_|refine aJ ?_|refine aa ?_|refine ae a7 rfl rfl ?_|(apply aX; refine aW ?_)|fail))
  exact aE (i + 1) rfl ⟨by rw [Int.natCast_add]; rfl, trivial⟩ ⟨by omega, cN hx ha h2⟩ (by omega) (fun _ _ h => h)
 have hil : i = l.length := by have := of_decide_eq_false h; omega
 subst hil
 rw [List.take_length] at ha
 (repeat' (first|refine ah ?_|refine a6 ?_|refine au ?_|refine aR ?_|refine a8 ?_|refine az ?_|refine aC ?_|refine aA ?_|refine aa ?_|refine ae a7 rfl rfl ?_|fail))
 exact aB rfl rfl ⟨rfl, 0, rfl, ⟨fun _ => ha, fun _ => rfl⟩⟩
structure sN (f : aH) (n : Nat) (g : be) : Prop where
 name : cJ g.Name = true
 new : ∀ y ∈ f.Glyphs.take n, ¬ y.Name = g.Name
 adv : 0 ≤ g.Advance ∧ g.Advance ≤ 16384
 few : g.Points.length ≤ 200 ∧ g.Ends.length ≤ 40
 pts : ∀ p ∈ g.Points, cx p.X = true ∧ cx p.Y = true
 ends : iJ g.Points.length (-1) g.Ends = true
 parts : kZ f g
 ancs : pj g
 dels : pq f g
 hint : g.Hint.length ≤ 200 ∧ ∀ x ∈ g.Hint, j8 x
set_option maxHeartbeats 8000000 in
theorem wc (f : aH) (hs : ck f) (hf : eX f) (n : Nat) (g : be) (hg : f.Glyphs[n]? = some g) : vi 193 [bw f, aQ n] (sN f n g) := by
 refine aU Tryz.func193 rfl Tryz.ntmps193 rfl fun B => ?_
 have hml : (f.Glyphs.map bz).length = f.Glyphs.length := List.length_map ..
 have hpl : (g.Points.map dv).length = g.Points.length := List.length_map ..
 have hel := aM g.Ends
 have hn : n < f.Glyphs.length := (List.getElem?_eq_some_iff.1 hg).1
 have hgg := b5 (c := bz) hg
 have hG := hs.glyphs
 have hfg := hf.glyph g (List.mem_of_getElem? hg)
 haveI a1 : AD Tryz.prog 199 [ph g.Name] (c8 (cJ g.Name)) := ⟨oX g.Name hfg.2.2.2.2.2⟩
 (repeat' (first|refine ah ?_|refine a6 ?_|refine a8 ?_|refine aa ?_|refine ae a7 rfl rfl ?_|refine aw rfl rfl ?_|refine b6 ?_|fail))
 refine av rfl (fun h => absurd (of_decide_eq_true h) (by rw [hml]; omega)) (fun h => ?_)
 clear h
 (repeat' (first|refine ah ?_|refine a6 ?_|refine ak ?_|refine a8 ?_|refine aa ?_|refine ae a7 rfl rfl ?_|(apply aP; first|refine aO a7 ?_|refine aI a7 ?_)|(apply aT; first|refine ai 5 a7 0 rfl rfl rfl rfl rfl rfl rfl rfl ?_|refine ai 5 a7 1 rfl rfl rfl rfl rfl rfl rfl rfl ?_|refine ai 5 a7 2 rfl rfl rfl rfl rfl rfl rfl rfl ?_|refine aj a7 0 rfl rfl rfl rfl rfl rfl rfl ?_|refine aj a7 1 rfl rfl rfl rfl rfl rfl rfl ?_|refine aj a7 2 rfl rfl rfl rfl rfl rfl rfl ?_|refine aj a7 3 rfl rfl rfl rfl rfl rfl rfl ?_|fail)|refine bb a7 fun _=>?_|(apply ba;refine aY ?_)|fail))
 refine av rfl (fun h => ?_) (fun h => ?_)
 ·have h : cJ g.Name = false := by simpa using h
  (repeat' (first|refine ah ?_|refine a6 ?_|refine au ?_|refine a8 ?_|refine ar ?_|refine aa ?_|refine ae a7 rfl rfl ?_|fail))
  exact aB rfl rfl ⟨rfl, 23, rfl, bF (by omega) fun k => by rw [k.name] at h; cases h⟩
 have hname : cJ g.Name = true := by simpa using h
 clear h
 (repeat' (first|refine ah ?_|refine a6 ?_|refine am ?_|refine ak ?_|refine a8 ?_|refine aa ?_|refine ae a7 rfl rfl ?_|fail))
 refine aL [1, 2, 5] (α := Nat) (fun i => [(7, aQ i)]) (fun i => i ≤ n ∧ ∀ y ∈ f.Glyphs.take i, ¬ y.Name = g.Name) (fun _ => []) (fun i => n - i) 0 rfl ⟨rfl, trivial⟩ ⟨Nat.zero_le _, fun x hx => by cases hx⟩ (fun _ _ h => h) ?_
 rintro i ⟨hi, ha⟩
 try dsimp only [List.cons_append, List.nil_append, List.map_cons, List.map_nil]
 (repeat' (first|refine ah ?_|refine a6 ?_|refine a8 ?_|refine aa ?_|refine ae a7 rfl rfl ?_|fail))
 refine av rfl (fun h => ?_) (fun h => ?_)
 ·have hil : i < n := by have := of_decide_eq_true h; omega
  obtain ⟨y, hy⟩ : ∃ z, f.Glyphs[i]? = some z := ⟨_, List.getElem?_eq_getElem (by omega)⟩
  have hyg := b5 (c := bz) hy
  (repeat' (first|refine ah ?_|refine am ?_|refine ak ?_|refine a8 ?_|fail))
  refine bj 8 [(0, .v), (1, .v), (2, .v), (3, .v), (4, .v), (5, .v), (6, .v), (7, .v)] none ?_ trivial rfl (by kernel_rfl) (by kernel_rfl) (by kernel_rfl) mixed (by kernel_rfl) rfl
  (repeat' (first|refine aN ?_|refine bf a7 ?_|(apply bs;refine bH a7 ?_)|fail))
  refine bl [1, 2, 5, 7, 41, 43] rfl rfl ?_
  (repeat' (first|refine a8 ?_|refine aa ?_|refine ae a7 rfl rfl ?_|fail))
  refine av rfl (fun h2 => ?_) (fun h2 => ?_)
  ·have h2 := of_decide_eq_true h2
   (repeat' (first|refine ah ?_|refine a6 ?_|refine au ?_|refine a8 ?_|refine ar ?_|refine aG ?_|refine aK ?_|refine aa ?_|refine ae a7 rfl rfl ?_|fail))
   exact aB rfl rfl ⟨rfl, 24, rfl, bF (by omega) fun k => k.new y (List.mem_of_getElem? (by rw [List.getElem?_take, if_pos hil]; exact hy)) h2⟩
  have h2 := of_decide_eq_false h2
  (repeat' (first|refine a6 ?_|refine ak ?_|refine a8 ?_|refine aJ ?_|refine aa ?_|refine ae a7 rfl rfl ?_|(apply aX; refine aW ?_)|fail))
  exact aE (i + 1) rfl ⟨by rw [Int.natCast_add]; rfl, trivial⟩ ⟨by omega, cN hy ha h2⟩ (by omega) (fun _ _ h => h)
 have hil : i = n := by have := of_decide_eq_false h; omega
 subst hil
 clear h
 (repeat' (first|refine ah ?_|refine a6 ?_|refine aR ?_|refine a8 ?_|refine az ?_|refine aC ?_|refine aA ?_|refine ae a7 rfl rfl ?_|fail))
 refine bv (t := 52) [2, 5] (g.Advance < 0 ∨ g.Advance > 16384) rfl (fun Q' K => ?_) ?_
 ·(repeat' (first|refine aa ?_|refine ae a7 rfl rfl ?_|refine aw rfl rfl ?_|refine aD rfl rfl rfl rfl ?_|refine aS rfl rfl rfl (fun _ => ?_) (fun _ => ?_)|fail))
  all_goals exact K _ _ rfl rfl (by clear K ha hfg hgg; simp_all <;> omega)
 (repeat' (first|refine a8 ?_|fail))
 refine av rfl (fun h => ?_) (fun h => ?_)
 ·have h := of_decide_eq_true h
  (repeat' (first|refine ah ?_|refine a6 ?_|refine au ?_|refine a8 ?_|refine ar ?_|refine aa ?_|refine ae a7 rfl rfl ?_|fail))
  exact aB rfl rfl ⟨rfl, 1, rfl, bF (by omega) fun k => by have := k.adv; omega⟩
 have hadv := of_decide_eq_false h
 clear h
 (repeat' (first|refine ah ?_|refine a6 ?_|refine ak ?_|refine a8 ?_|refine ae a7 rfl rfl ?_|fail))
 refine bv (t := 64) [2, 5] (g.Points.length > 200 ∨ g.Ends.length > 40) rfl (fun Q' K => ?_) ?_
 ·(repeat' (first|refine aa ?_|refine ae a7 rfl rfl ?_|refine aw rfl rfl ?_|refine aD rfl rfl rfl rfl ?_|refine aS rfl rfl rfl (fun _ => ?_) (fun _ => ?_)|fail))
  all_goals exact K _ _ rfl rfl (by clear K ha hfg hgg; simp_all <;> omega)
 (repeat' (first|refine a8 ?_|fail))
 refine av rfl (fun h => ?_) (fun h => ?_)
 ·have h := of_decide_eq_true h
  (repeat' (first|refine ah ?_|refine a6 ?_|refine au ?_|refine a8 ?_|refine ar ?_|refine aa ?_|refine ae a7 rfl rfl ?_|fail))
  exact aB rfl rfl ⟨rfl, 2, rfl, bF (by omega) fun k => by have := k.few; omega⟩
 have hfew := of_decide_eq_false h
 clear h
 (repeat' (first|refine ah ?_|refine a6 ?_|refine am ?_|refine ak ?_|refine a8 ?_|refine aa ?_|refine ae a7 rfl rfl ?_|fail))
 have hp2 : g.Points.length ≤ 200 := by omega
 refine aL [2, 5] (α := Nat) (fun i => [(8, aQ i)]) (fun i => i ≤ g.Points.length ∧ ∀ p ∈ g.Points.take i, cx p.X = true ∧ cx p.Y = true) (fun _ => []) (fun i => g.Points.length - i) 0 rfl ⟨rfl, trivial⟩ ⟨Nat.zero_le _, fun x hx => by cases hx⟩ (fun _ _ h => h) ?_
 rintro k ⟨hk, hpt⟩
 try dsimp only [List.cons_append, List.nil_append, List.map_cons, List.map_nil]
 (repeat' (first|refine ah ?_|refine a6 ?_|refine a8 ?_|refine aa ?_|refine ae a7 rfl rfl ?_|fail))
 refine av rfl (fun h => ?_) (fun h => ?_)
 ·have hkl : k < g.Points.length := by have := of_decide_eq_true h; rw [List.length_map] at this; omega
  obtain ⟨x, hx⟩ : ∃ z, g.Points[k]? = some z := ⟨_, List.getElem?_eq_getElem hkl⟩
  have hxg := b5 (c := dv) hx
  (repeat' (first|refine ah ?_|refine a6 ?_|refine am ?_|refine ak ?_|refine a8 ?_|refine aa ?_|refine ae a7 rfl rfl ?_|(apply aP; first|refine aO a7 ?_|refine aI a7 ?_)|(apply ba;refine aY ?_)|fail))
  refine bv (t := 94) [2, 5, 8] (cx x.X = false ∨ cx x.Y = false) rfl (fun Q' K => ?_) ?_
  ·(repeat' (first|refine aa ?_|refine ae a7 rfl rfl ?_|refine aw rfl rfl ?_|refine aD rfl rfl rfl rfl ?_|refine aS rfl rfl rfl (fun _ => ?_) (fun _ => ?_)|fail))
   all_goals exact K _ _ rfl rfl (by clear K ha hfg hgg hpt; simp_all)
  (repeat' (first|refine a8 ?_|fail))
  refine av rfl (fun h3 => ?_) (fun h3 => ?_)
  ·have h3 := of_decide_eq_true h3
   (repeat' (first|refine ah ?_|refine a6 ?_|refine au ?_|refine a8 ?_|refine ar ?_|refine aG ?_|refine aK ?_|refine aa ?_|refine ae a7 rfl rfl ?_|fail))
   exact aB rfl rfl ⟨rfl, 30, rfl, bF (by omega) fun k => by have := k.pts x (List.mem_of_getElem? hx); rcases h3 with h3 | h3 <;> simp [h3] at this⟩
  have h3 := of_decide_eq_false h3
  (repeat' (first|refine a6 ?_|refine ak ?_|refine a8 ?_|refine aJ ?_|refine aa ?_|refine ae a7 rfl rfl ?_|(apply aX; refine aW ?_)|fail))
  exact aE (k + 1) rfl ⟨by rw [Int.natCast_add]; rfl, trivial⟩ ⟨by omega, cN hx hpt (by simpa using h3)⟩ (by omega) (fun _ _ h => h)
 have hkl : k = g.Points.length := by have := of_decide_eq_false h; rw [List.length_map] at this; omega
 subst hkl
 rw [List.take_length] at hpt
 clear h
 (repeat' (first|refine ah ?_|refine a6 ?_|refine aR ?_|refine a8 ?_|refine az ?_|refine aC ?_|refine aA ?_|refine ae a7 rfl rfl ?_|fail))
 refine aY (hc := ⟨ub g.Points g.Ends (by omega) (by omega)⟩) ?_
 (repeat' (first|refine ah ?_|refine a6 ?_|refine a8 ?_|refine aa ?_|refine ae a7 rfl rfl ?_|fail))
 refine av rfl (fun h => ?_) (fun h => ?_)
 ·have h : iJ g.Points.length (-1) g.Ends = false := by simpa using h
  (repeat' (first|refine ah ?_|refine a6 ?_|refine au ?_|refine a8 ?_|refine ar ?_|refine aa ?_|refine ae a7 rfl rfl ?_|fail))
  exact aB rfl rfl ⟨rfl, 31, rfl, bF (by omega) fun k => by rw [k.ends] at h; cases h⟩
 have hends : iJ g.Points.length (-1) g.Ends = true := by simpa using h
 clear h
 (repeat' (first|refine ah ?_|refine ak ?_|refine a8 ?_|fail))
 refine bj 10 [(0, .v), (1, .v), (3, .v), (5, .v), (6, .v), (8, .v), (9, .v), (2, .e), (4, .e), (7, .e)] none ?_ trivial rfl (by kernel_rfl) (by kernel_rfl) (by kernel_rfl) mixed (by kernel_rfl) rfl
 (repeat' (first|refine aN ?_|refine bf a7 ?_|fail))
 refine fB [] [] (wN f g) rfl rfl (List.Perm.refl _) trivial fun c L1 ⟨hL, e1, hc, he1⟩ => ?_
 subst hc; subst hL
 (repeat' (first|refine aN ?_|fail))
 refine fB [] [] (xu g) rfl rfl (List.Perm.refl _) trivial fun c L1 ⟨hL, e2, hc, he2⟩ => ?_
 subst hc; subst hL
 (repeat' (first|refine aN ?_|fail))
 refine fB [] [] (xL f g) rfl rfl (List.Perm.refl _) trivial fun c L1 ⟨hL, e3, hc, he3⟩ => ?_
 subst hc; subst hL
 (repeat' (first|fail))
 refine bl [102, 104, 107, 109] rfl rfl ?_
 (repeat' (first|fail))
 refine aZ [] [] (wK g.Hint) rfl rfl (List.Perm.refl _) rfl fun c L1 ⟨hL, e4, hc, he4⟩ => ?_
 subst hc; subst hL
 (repeat' (first|refine bM a7 ?_|fail))
 refine aZ [] [] (w6 [e1, e2, e3, e4] (by simp)) rfl rfl (List.Perm.refl _) rfl fun c L1 ⟨hL, e5, hc, he5⟩ => ?_
 subst hc; subst hL
 (repeat' (first|refine au ?_|refine a8 ?_|refine aa ?_|refine ae a7 rfl rfl ?_|fail))
 refine aB rfl rfl ⟨rfl, e5, rfl, ?_⟩
 rw [he5]
 constructor
 ·intro k
  exact { name := hname, new := ha, adv := by omega, few := by omega, pts := hpt, ends := hends, parts := he1.1 (k e1 (by simp)), ancs := he2.1 (k e2 (by simp)), dels := he3.1 (k e3 (by simp)), hint := he4.1 (k e4 (by simp)) }
 ·intro k e he
  simp only [List.mem_cons, List.not_mem_nil, or_false] at he
  rcases he with rfl | rfl | rfl | rfl
  ·exact he1.2 k.parts
  ·exact he2.2 k.ancs
  ·exact he3.2 k.dels
  ·exact he4.2 k.hint
end Go.Proofs.YtpbinloeemebkaaGreat

namespace Go.Proofs.YtpbinloeemebkaaGreat
theorem qt (n : Int) : ∀ (l : List Int) (last : Int), -1 ≤ last → iJ n last l = gK n last l
 | [], _, _ => rfl
 | e :: l, last, h => by
  show (decide (¬ (e < 0 ∨ e ≥ n ∨ e < last + 2)) && iJ n e l) = if e ≥ n ∨ e < last + 2 then false else gK n e l
  by_cases c : e ≥ n ∨ e < last + 2
  ·rw [if_pos c, decide_eq_false (by omega), Bool.false_and]
  ·rw [if_neg c, decide_eq_true (by omega), Bool.true_and]
   exact qt n l e (by omega)
theorem lR {names : List ByteArray} {i : Nat} {s : ByteArray} (h : names[i]? = some s) : eg names i s = true ↔ s ∈ names.take i := by
 unfold eg cL
 rw [decide_eq_true_iff]
 cases hk : names.findIdx? (fun x => decide (x = s)) with
 | none =>
  rw [List.findIdx?_eq_none_iff] at hk
  have := hk s (List.mem_of_getElem? h)
  simp at this
 | some k =>
  rw [List.findIdx?_eq_some_iff_getElem] at hk
  obtain ⟨hl, h1, h2⟩ := hk
  rw [Option.getD_some]
  constructor
  ·intro hki
   have h1 := of_decide_eq_true h1
   rw [List.mem_iff_getElem?]
   exact ⟨k, by rw [List.getElem?_take, if_pos (by omega), List.getElem?_eq_getElem hl, h1]⟩
  ·intro hm
   obtain ⟨j, hj⟩ := List.mem_iff_getElem?.1 hm
   rw [List.getElem?_take] at hj
   split at hj
   ·rename_i hji
    refine Classical.byContradiction fun hn => ?_
    obtain ⟨hjl, hje⟩ := List.getElem?_eq_some_iff.1 hj
    have := h2 j (by omega)
    rw [hje] at this
    simp at this
   ·cases hj
theorem cO {b : Bool} {e : Int} (he : ¬ e = 0) : cS b e = 0 ↔ b = false := by
 unfold cS
 cases b <;> simp [he]
theorem A4 (x y : Int) : [x, y].all cx = true ↔ cx x = true ∧ cx y = true := by simp
theorem v6 (g : be) : gx g = 0 ↔ (0 ≤ g.Advance ∧ g.Advance ≤ 16384) ∧ (g.Points.length ≤ 200 ∧ g.Ends.length ≤ 40) ∧ (∀ p ∈ g.Points, cx p.X = true ∧ cx p.Y = true) ∧ iJ g.Points.length (-1) g.Ends = true := by
 have hp : (cC g.Points Aj).1 = 0 ↔ ∀ p ∈ g.Points, cx p.X = true ∧ cx p.Y = true := by
  rw [dm]
  unfold Aj
  constructor
  ·intro h p hp
   obtain ⟨i, hi⟩ := List.mem_iff_getElem?.1 hp
   have := (cO (by omega)).1 (h i p hi)
   exact (A4 _ _).1 (by simpa using this)
  ·intro h i p hi
   rw [cO (by omega), (A4 _ _).2 (h p (List.mem_of_getElem? hi))]
   rfl
 rw [qt _ _ _ (by omega)]
 unfold gx
 by_cases h1 : g.Advance < 0 ∨ g.Advance > 16384
 ·rw [if_pos h1]
  exact ⟨fun h => absurd h (by omega), fun h => by omega⟩
 rw [if_neg h1]
 by_cases h2 : g.Points.length > 200 ∨ g.Ends.length > 40
 ·rw [if_pos h2]
  exact ⟨fun h => absurd h (by omega), fun h => by omega⟩
 rw [if_neg h2]
 by_cases h3 : (cC g.Points Aj).1 = 0
 ·rw [if_neg (not_not_intro h3), cO (by omega)]
  have hpt := hp.1 h3
  have hall : g.Points.all nM = true := List.all_eq_true.2 fun p hm => by unfold nM; rw [(hpt p hm).1, (hpt p hm).2]; rfl
  unfold gr
  rw [decide_eq_true (by omega), hall, Bool.true_and, Bool.true_and, Bool.not_eq_false']
  exact ⟨fun h => ⟨by omega, by omega, hpt, h⟩, fun h => h.2.2.2⟩
 ·rw [if_pos h3]
  exact ⟨fun h => absurd h h3, fun h => absurd (hp.2 h.2.2.1) h3⟩
theorem uL (f : aH) (g : be) : (bW 8 g.Parts (je f)).1 = 0 ↔ kZ f g := by
 rw [bG]
 unfold kZ
 refine and_congr (by omega) ?_
 have hq : ∀ i p, je f i p = 0 ↔ kj f p := by
  intro i p
  unfold je kj eG
  by_cases h : 0 ≤ p.Glyph ∧ p.Glyph < f.Glyphs.length
  ·rw [decide_eq_true h, if_neg (by simp), cO (by omega), Bool.not_eq_false', A4]
   exact ⟨fun k => ⟨h, k⟩, fun k => k.2⟩
  ·rw [decide_eq_false h, if_pos rfl]
   exact ⟨fun k => absurd k (by omega), fun k => absurd k.1 h⟩
 constructor
 ·intro h p hp
  obtain ⟨i, hi⟩ := List.mem_iff_getElem?.1 hp
  exact (hq i p).1 (h i p hi)
 ·intro h i p hi
  exact (hq i p).2 (h p (List.mem_of_getElem? hi))
theorem qO (l : List ew) : iM l = 0 ↔ l.length ≤ 200 ∧ ∀ x ∈ l, j8 x := by
 unfold iM
 rw [bG]
 refine and_congr (by omega) ?_
 have hq : ∀ i p, ur i p = 0 ↔ j8 p := by
  intro i p
  unfold ur j8
  split
  ·exact ⟨fun h => absurd h (by omega), fun h => by omega⟩
  ·split
   ·exact ⟨fun h => absurd h (by omega), fun h => by omega⟩
   ·exact ⟨fun _ => by omega, fun _ => rfl⟩
 constructor
 ·intro h p hp
  obtain ⟨i, hi⟩ := List.mem_iff_getElem?.1 hp
  exact (hq i p).1 (h i p hi)
 ·intro h i p hi
  exact (hq i p).2 (h p (List.mem_of_getElem? hi))
theorem mb {f : aH} {n : Nat} {g : be} (hg : f.Glyphs[n]? = some g) : cM f n g = 0 ↔ sN f n g := by
 have ht : eg (f6 f) n g.Name = false ↔ ∀ y ∈ f.Glyphs.take n, ¬ y.Name = g.Name := by
  rw [← Bool.not_eq_true, lR (by unfold f6; rw [List.getElem?_map, hg]; rfl)]
  unfold f6
  rw [← List.map_take]
  constructor
  ·intro h y hy e
   exact h (List.mem_map.2 ⟨y, hy, e⟩)
  ·intro h hm
   obtain ⟨y, hy, e⟩ := List.mem_map.1 hm
   exact h y hy e
 have hfa : ge (cJ g.Name) (eg (f6 f) n g.Name) = 0 ↔ cJ g.Name = true ∧ eg (f6 f) n g.Name = false := by
  unfold ge
  cases cJ g.Name <;> cases eg (f6 f) n g.Name <;> simp
 have h16 : (bW 16 g.Anchors (fZ g)).1 = 0 ↔ pj g := by
  rw [bG]
  exact and_congr (by omega) Iff.rfl
 have h400 : (bW 400 g.Deltas (k7 f g)).1 = 0 ↔ pq f g := by
  rw [bG]
  exact and_congr (by omega) Iff.rfl
 unfold cM lD
 rw [cn]
 simp only [List.mem_cons, List.not_mem_nil, or_false, forall_eq_or_imp, forall_eq]
 rw [hfa, ht, v6, uL, h16, h400, qO]
 constructor
 ·rintro ⟨⟨h1, h2⟩, ⟨h3, h4, h5, h6⟩, h7, h8, h9, h10⟩
  exact ⟨h1, h2, h3, h4, h5, h6, h7, h8, h9, h10⟩
 ·rintro ⟨h1, h2, h3, h4, h5, h6, h7, h8, h9, h10⟩
  exact ⟨⟨h1, h2⟩, ⟨h3, h4, h5, h6⟩, h7, h8, h9, h10⟩
end Go.Proofs.YtpbinloeemebkaaGreat

namespace Go.Proofs.YtpbinloeemebkaaGreat
open Go.RowKit
def Ci (tt : TT) (t : Nat) : Option (Nat × Nat × Nat) := match dz tt t with
 | some ⟨.arr n e sz, _, _⟩ => some (n, e, sz)
 | _ => none
end Go.Proofs.YtpbinloeemebkaaGreat
