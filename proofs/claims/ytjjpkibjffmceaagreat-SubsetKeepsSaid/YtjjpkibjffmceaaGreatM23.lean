/-
  The program: rules and lookups with new numbers.
-/
import Derived.Test.YtjjpkibjffmceaaGreatM13
import Derived.Test.YtjjpkibjffmceaaGreatM20
import Derived.Test.YtjjpkibjffmceaaGreatM22
import Derived.Test.YtjjpkibjffmceaaGreatM06
namespace Go.Proofs.YtjjpkibjffmceaaGreat
open Go.RowKit
attribute [local irreducible] AT bT AX AO Av Kt bk ej DA cX
open Go.MapKept
set_option maxHeartbeats 4000000 in
theorem t6 (f : aJ) (mg ml : Nat) (G K : List Int) (hG : ce f.Glyphs.length G) (l : b9) (z : Int) : AC Tryz.prog 98 [aM z, .iptr (cK f mg ml), .iptr (bn l)] (kL mg ml G K) fun c L => (∃ y b, c = .tup [aM y, cF b] ∧ dL f G l.Ignore z = if b = true then some y else none) ∧ L = kL mg ml G K := by
 refine aP Tryz.func98 rfl Tryz.ntmps98 rfl fun B => ?_
 repeat' (first|refine ah ?_|refine a7 ?_|refine a8 ?_|refine aa ?_|refine ae a6 rfl rfl ?_)
 refine b7 (kL mg ml G K) [] (iu f mg ml G K z) rfl rfl (bR rfl) rfl fun r L1 ⟨hc, hL⟩ => ?_
 subst hc; subst hL
 cases hp : ec G z with
 | none =>
  dsimp only [Option.getD_none, Option.isSome_none]
  repeat' (first|refine ah ?_|refine a8 ?_|refine aa ?_|refine ae a6 rfl rfl ?_)
  refine bt 17 [(0, .v), (1, .v), (2, .v), (3, .v), (4, .v), (5, .v), (6, .v), (7, .v), (8, .v), (9, .v), (10, .v), (11, .v), (12, .v), (13, .v), (14, .v), (15, .v), (16, .v)] none ?_ trivial rfl (by kernel_rfl) (by kernel_rfl) (by kernel_rfl) mixed (by kernel_rfl) rfl
  repeat' (first|refine aE ?_|refine aZ a6 ?_|refine kD rfl rfl ?_|refine E1 rfl ?_)
  refine br [4, 29] rfl rfl ?_
  repeat' (first|refine ar ?_|refine a8 ?_|refine aa ?_|refine ae a6 rfl rfl ?_)
  exact b6 rfl rfl rfl ⟨⟨0, false, rfl, by unfold dL; rw [hp]; simp⟩, by simp⟩
 | some n =>
  dsimp only [Option.getD_some, Option.isSome_some]
  have hz : z ∈ G := by
   unfold ec at hp
   split at hp
   ·assumption
   ·cases hp
  have hd := hG.dom z hz
  obtain ⟨g, hg⟩ : ∃ x, f.Glyphs[z.toNat]? = some x := ⟨_, Ds (by omega)⟩
  have hgg := bj (c := bb) hg
  have hm : ql f z = g.Mark := by unfold ql; rw [hg]
  repeat' (first|refine ah ?_|refine a8 ?_|refine aa ?_|refine ae a6 rfl rfl ?_)
  refine bt 17 [(0, .v), (1, .v), (2, .v), (3, .v), (4, .v), (5, .v), (6, .v), (7, .v), (8, .v), (9, .v), (10, .v), (11, .v), (12, .v), (13, .v), (14, .v), (15, .v), (16, .v)] none ?_ trivial rfl (by kernel_rfl) (by kernel_rfl) (by kernel_rfl) mixed (by kernel_rfl) rfl
  repeat' (first|refine aE ?_|refine aZ a6 ?_|fail)
  cases hi : l.Ignore with
  | true =>
   repeat' (first|refine aE ?_|refine aZ a6 ?_|(apply bP;refine c8 a6 ?_)|fail)
   refine br [4, 29] rfl rfl ?_
   repeat' (first|refine ar ?_|refine a8 ?_|refine aa ?_|refine ae a6 rfl rfl ?_)
   exact b6 rfl rfl rfl ⟨⟨n, !g.Mark, rfl, by unfold dL; rw [hp, hm]; cases g.Mark <;> rfl⟩, by simp⟩
  | false =>
   repeat' (first|refine aE ?_|refine aZ a6 ?_|refine kD rfl rfl ?_)
   refine br [4, 29] rfl rfl ?_
   repeat' (first|refine ar ?_|refine a8 ?_|refine aa ?_|refine ae a6 rfl rfl ?_)
   exact b6 rfl rfl rfl ⟨⟨n, true, rfl, by unfold dL; rw [hp]; rfl⟩, by simp⟩
theorem CI {α β : Type} (g : α → β) (l : List α) : l.filterMap (fun x => some (g x)) = l.map g := by
 induction l with
 | nil => rfl
 | cons a r ih => simp [ih]
def sf (f : aJ) (mg ml : Nat) (l : b9) : AV := .fn 98 [.iptr (cK f mg ml), .iptr (bn l)]
theorem Bm (f : aJ) (mg ml : Nat) (G K : List Int) (hG : ce f.Glyphs.length G) (l : b9) (s : List Int) (hs : s.length ≤ 1000000) : AC Tryz.prog 101 [.imm 1 (aU s), .iptr [sf f mg ml l]] (kL mg ml G K) fun c L => (∃ y b, c = .tup [.imm 1 (aU y), cF b] ∧ some (qO f G l.Ignore s) = if b = true then some y else none) ∧ L = kL mg ml G K := by
 refine aP Tryz.func101 rfl Tryz.ntmps101 rfl fun B => ?_
 have he := tU (u := sf f mg ml l) rfl s hs (dL f G l.Ignore) (kL mg ml G K) fun z _ => .fn (t6 f mg ml G K hG l z)
 repeat' (first|refine ah ?_|refine a7 ?_|refine a8 ?_|refine aa ?_|refine ae a6 rfl rfl ?_)
 refine b7 (kL mg ml G K) [] he rfl rfl (bR rfl) rfl fun c L1 ⟨hc, hL⟩ => ?_
 subst hc; subst hL
 repeat' (first|refine ar ?_|refine a8 ?_|refine aa ?_|refine ae a6 rfl rfl ?_)
 exact b6 rfl rfl rfl ⟨⟨qO f G l.Ignore s, true, rfl, rfl⟩, by simp⟩
theorem pd (f : aJ) (mg ml : Nat) (G K : List Int) (hG : ce f.Glyphs.length G) (l : b9) (s : List (List Int)) (hs : s.length ≤ 1000000) (hq : ∀ q ∈ s, q.length ≤ 1000000) : AC Tryz.prog 99 [.imm 1 (bq s), .iptr [sf f mg ml l]] (kL mg ml G K) fun c L => c = .imm 1 (bq (cR f G l.Ignore s)) ∧ L = kL mg ml G K := by
 refine aP Tryz.func99 rfl Tryz.ntmps99 rfl fun B => ?_
 have he := Aw (u := .fn 101 [.iptr [sf f mg ml l]]) rfl s hs (fun q => some (qO f G l.Ignore q)) (kL mg ml G K) fun q hqm => .fn (Bm f mg ml G K hG l q (hq q hqm))
 repeat' (first|refine ah ?_|refine a7 ?_|refine a8 ?_|refine aa ?_|refine ae a6 rfl rfl ?_)
 refine b7 (kL mg ml G K) [] he rfl rfl (bR rfl) rfl fun c L1 ⟨hc, hL⟩ => ?_
 subst hc; subst hL
 repeat' (first|refine ar ?_|refine a8 ?_|refine aa ?_|refine ae a6 rfl rfl ?_)
 exact aA rfl rfl ⟨by rw [CI]; rfl, by simp⟩
theorem y5 (s : List Int) : AC Tryz.prog 102 [.imm 1 (aU s)] [] fun c L => c = cF (decide (s.length = 0)) ∧ L = [] := by
 refine aP Tryz.func102 rfl Tryz.ntmps102 rfl fun B => ?_
 have hil := aQ s
 refine cz 0 rfl rfl fun hlen => ?_
 repeat' (first|refine ah ?_|refine a7 ?_|refine ar ?_|refine a8 ?_|refine aa ?_|refine ae a6 rfl rfl ?_)
 refine aA rfl rfl ?_
 rw [hil]
 exact ⟨congrArg (fun b => cF b) (decide_eq_decide.2 (by omega)), rfl⟩
theorem CP {g : FuncId} {caps : List AV} {u : AV} [bD Tryz.prog g] (hu : iU u = some (g, caps)) (l : List (List Int)) (p : List Int → Bool) (L0 : AL) (hw : ∀ q, AC Tryz.prog g ([.imm 1 (aU q)] ++ caps) L0 fun c L' => c = cF (p q) ∧ L' = L0) : AC Tryz.prog 155 [.imm 1 (bq l), u] L0 fun c L => (∃ z : Int, c = aM z ∧ (0 ≤ z ↔ l.any p = true)) ∧ L = L0 := by
 refine aP Tryz.func155 rfl Tryz.ntmps155 rfl fun B => ?_
 have hll : (bq l).length = l.length := Gu ..
 refine cz 0 rfl rfl fun hlen => ?_
 rw [hll] at hlen
 repeat' (first|refine ah ?_|refine a7 ?_|refine aq ?_|refine a8 ?_|refine aa ?_|refine ae a6 rfl rfl ?_)
 refine aN [0, 1, 7] (α := Nat) (fun i => [(8, aM i)]) (fun i => i ≤ l.length ∧ (l.take i).any p = false) (fun _ => L0) (fun i => l.length - i) 0 rfl ⟨rfl, trivial⟩ ⟨Nat.zero_le _, by simp⟩ (fun _ _ h => h) fun i ⟨hi, ha⟩ => ?_
 try dsimp only [Gr, Gq, Gp, Gj]
 repeat' (first|refine ah ?_|refine a7 ?_|refine a8 ?_|refine aa ?_|refine ae a6 rfl rfl ?_)
 refine aw rfl (fun h => ?_) (fun h => ?_)
 ·have hil : i < l.length := by have := Gz h; rw [hll] at this; omega
  obtain ⟨z, hz⟩ : ∃ z, l[i]? = some z := ⟨_, Ds hil⟩
  have hzg : (bq l)[i]? = some [.imm 1 (aU z)] := by unfold bq; rw [List.getElem?_map, hz]; rfl
  repeat' (first|refine ah ?_|refine a7 ?_|refine aq ?_|refine au ?_|refine a8 ?_|refine aa ?_|refine ae a6 rfl rfl ?_|(apply aY; first|refine aX a6 ?_|refine aS a6 ?_)|fail)
  refine cV L0 [] (hw z) rfl hu rfl (bR rfl) rfl rfl fun c L1 ⟨hc, hL⟩ => ?_
  subst hc; subst hL
  rw [List.append_nil]
  repeat' (first|refine a8 ?_|refine aa ?_)
  refine aw rfl (fun h2 => ?_) (fun h2 => ?_)
  ·repeat' (first|refine ah ?_|refine a7 ?_|refine ar ?_|refine a8 ?_|refine aF ?_|refine aT ?_|refine bE ?_|refine aa ?_|refine ae a6 rfl rfl ?_)
   refine aA rfl rfl ⟨⟨i, rfl, ?_⟩, rfl⟩
   exact ⟨fun _ => List.any_eq_true.2 ⟨z, Gx hz, h2⟩, fun _ => by omega⟩
  ·repeat' (first|refine a7 ?_|refine au ?_|refine a8 ?_|refine aI ?_|refine aa ?_|refine ae a6 rfl rfl ?_|(apply aW; refine aV ?_)|fail)
   refine aC (i + 1) rfl ⟨by rw [Gw]; rfl, trivial⟩ ⟨by omega, ?_⟩ (by omega) (fun _ _ h => h)
   rw [List.take_add_one, hz, List.any_append, ha]
   simpa using h2
 ·have hil : i = l.length := by have := Gy h; rw [hll] at this; omega
  subst hil
  rw [List.take_length] at ha
  repeat' (first|refine ah ?_|refine a7 ?_|refine ar ?_|refine aR ?_|refine a8 ?_|refine av ?_|refine aB ?_|refine ay ?_|refine aa ?_|refine ae a6 rfl rfl ?_)
  refine aA rfl rfl ⟨⟨-1, rfl, ?_⟩, rfl⟩
  rw [ha]
  exact ⟨fun h => absurd h (by decide), fun h => by cases h⟩
theorem wq (l : List (List Int)) : bO Tryz.prog 103 [.imm 1 (bq l), .sc (.func (.func 102) #[] #[])] (cF (iz l)) := by
 refine aP Tryz.func103 rfl Tryz.ntmps103 rfl fun B => ?_
 repeat' (first|refine ah ?_|refine a7 ?_|refine a8 ?_|refine aa ?_|refine ae a6 rfl rfl ?_)
 refine b7 [] [] (CP (u := .sc (.func (.func 102) #[] #[])) (g := 102) (caps := []) rfl l (fun q => decide (q.length = 0)) [] fun q => y5 q) rfl rfl (bR rfl) rfl fun c L1 ⟨⟨z, hc, hz⟩, hL⟩ => ?_
 subst hc; subst hL
 rw [List.append_nil]
 repeat' (first|refine ar ?_|refine a8 ?_|refine aa ?_|refine ae a6 rfl rfl ?_)
 refine aA rfl rfl ?_
 refine congrArg (fun b => cF b) ?_
 unfold iz
 rw [Bool.eq_iff_iff, decide_eq_true_eq]
 exact hz
set_option maxHeartbeats 4000000 in
theorem Bd (f : aJ) (mg ml : Nat) (G K : List Int) (hG : ce f.Glyphs.length G) (l : b9) (r : bV) (hr : r.In ≠ []) (ho : r.Out.length ≤ 1000000) : AC Tryz.prog 104 [aM l.Kind, .agg (bC r), sf f mg ml l] (kL mg ml G K) fun c L => c = .imm 1 (aU (fq f G l r)) ∧ L = kL mg ml G K := by
 refine aP Tryz.func104 rfl Tryz.ntmps104 rfl fun B => ?_
 have hol := aQ r.Out
 obtain ⟨q, qs, hq⟩ : ∃ q qs, r.In = q :: qs := by cases h : r.In with | nil => exact absurd h hr | cons q qs => exact ⟨q, qs, rfl⟩
 have hq0 : (bq r.In)[0]? = some [.imm 1 (aU q)] := by rw [hq]; rfl
 have hh : r.In.headD [] = q := by rw [hq]; rfl
 have hqle := aQ q
 have hseen : ∀ z, AC Tryz.prog 98 ([aM z] ++ [.iptr (cK f mg ml), .iptr (bn l)]) (kL mg ml G K) fun c L => (∃ y b, c = .tup [aM y, cF b] ∧ dL f G l.Ignore z = if b = true then some y else none) ∧ L = kL mg ml G K := fun z => t6 f mg ml G K hG l z
 repeat' (first|refine ah ?_|refine a7 ?_|refine a8 ?_|refine aa ?_|refine ae a6 rfl rfl ?_|refine be ?_|fail)
 refine cZ (t := 17) [2, 4] (¬ (l.Kind = 1 ∨ l.Kind = 5)) rfl (fun Q' K' => ?_) ?_
 ·repeat' (first|refine aa ?_|refine ae a6 rfl rfl ?_|refine aG rfl rfl ?_|refine aL rfl rfl rfl rfl ?_|refine bc rfl rfl rfl (fun _ => ?_) (fun _ => ?_))
  all_goals exact K' _ _ rfl rfl (by clear K'; simp_all <;> omega)
 repeat' (first|refine a8 ?_)
 refine aw rfl (fun h1 => ?_) (fun h1 => ?_)
 ·have h1 := Gz h1
  have hco : fq f G l r = r.Out := by unfold fq; rw [if_neg h1]
  rw [hco]
  repeat' (first|refine ah ?_|refine a7 ?_|refine ar ?_|refine a8 ?_|refine aF ?_|refine aa ?_|refine ae a6 rfl rfl ?_)
  exact aA rfl rfl ⟨rfl, rfl⟩
 have h1 : l.Kind = 1 ∨ l.Kind = 5 := Decidable.byContradiction (Gy h1)
 have hco : fq f G l r = ((r.Out.zip q).filter fun x => (dL f G l.Ignore x.2).isSome).map (·.1) := by unfold fq; rw [if_pos h1, hh]
 repeat' (first|refine ah ?_|refine a7 ?_|refine au ?_|refine a8 ?_|refine aa ?_|refine ae a6 rfl rfl ?_)
 refine bt 14 [(0, .v), (1, .v), (2, .v), (3, .v), (4, .v), (5, .v), (6, .v), (7, .v), (8, .v), (9, .v), (10, .v), (11, .v), (12, .v), (13, .v)] none ?_ trivial rfl (by kernel_rfl) (by kernel_rfl) (by kernel_rfl) mixed (by kernel_rfl) rfl
 repeat' (first|refine aE ?_|refine aZ a6 ?_|(apply bP;refine c8 a6 ?_)|fail)
 refine qQ a6 (min r.Out.length q.length) rfl rfl rfl rfl rfl (by rw [hol, hqle]; omega) (by rw [hol]; omega) trivial ?_
 repeat' (first|refine aE ?_|refine aZ a6 ?_|fail)
 refine br [2, 4, 7, 31, 32, 33] rfl rfl ?_
 repeat' (first|refine aq ?_|refine a8 ?_|refine aa ?_)
 have hm : ((aU r.Out).take (min r.Out.length q.length)).length = min r.Out.length q.length := by rw [List.length_take, hol]; omega
 refine bK (bg (t := 7) (c' := .vec none 1 []) rfl fun σ v h => co 1 h) ?_
 refine aN [2, 4, 31, 32] (α := Nat × Option (Nat × Nat)) (fun x => [(33, aM x.1), (7, .vec x.2 1 (aU ((((r.Out.zip q).take x.1).filter fun y => (dL f G l.Ignore y.2).isSome).map (·.1))))]) (fun x => x.1 ≤ min r.Out.length q.length) (fun x => tok x.2 3 1 (aU ((((r.Out.zip q).take x.1).filter fun y => (dL f G l.Ignore y.2).isSome).map (·.1))).length ++ kL mg ml G K) (fun x => min r.Out.length q.length - x.1) (0, none) rfl ⟨rfl, rfl, trivial⟩ (Nat.zero_le _) (fun _ _ h => h) ?_
 rintro ⟨i, k1⟩ hi
 dsimp only at hi ⊢
 have hfl : (aU ((((r.Out.zip q).take i).filter fun y => (dL f G l.Ignore y.2).isSome).map (·.1))).length ≤ i := by
  rw [aQ, Gu]
  exact Nat.le_trans (List.length_filter_le ..) (by rw [List.length_take]; omega)
 try dsimp only [Gr, Gq, Gp, Gj]
 repeat' (first|refine ah ?_|refine a7 ?_|refine a8 ?_|refine aa ?_|refine ae a6 rfl rfl ?_)
 refine aw rfl (fun e => ?_) (fun e => ?_)
 ·have hil : i < min r.Out.length q.length := by have := Gz e; rw [hm] at this; omega
  obtain ⟨o, hoo⟩ : ∃ z, r.Out[i]? = some z := ⟨_, Ds (by omega)⟩
  obtain ⟨z, hz⟩ : ∃ z, q[i]? = some z := ⟨_, Ds (by omega)⟩
  have hog : ((aU r.Out).take (min r.Out.length q.length))[i]? = some [aM o] := by rw [List.getElem?_take, if_pos hil]; exact bN hoo
  have hzg := bN hz
  have hzt := px hoo hz
  clear e
  repeat' (first|refine ah ?_|refine a7 ?_|refine aq ?_|refine au ?_|refine a8 ?_|refine aa ?_|refine ae a6 rfl rfl ?_|(apply aY; first|refine aX a6 ?_|refine aS a6 ?_)|fail)
  refine cV (kL mg ml G K) (tok k1 3 1 (aU ((((r.Out.zip q).take i).filter fun y => (dL f G l.Ignore y.2).isSome).map (·.1))).length) (hseen z) rfl rfl rfl List.perm_append_comm rfl rfl fun c L1 ⟨⟨y, b, hc, hb⟩, hL⟩ => ?_
  subst hc; subst hL
  refine aO (aK List.perm_append_comm) ?_
  cases b with
  | true =>
   rw [if_pos rfl] at hb
   repeat' (first|refine ah ?_|refine a7 ?_|refine a8 ?_|refine aa ?_|refine ae a6 rfl rfl ?_|refine bz a6 ?_|refine bQ rfl ?_)
   refine bF a6 (kL mg ml G K) rfl rfl rfl rfl (Gm _) (by simp; omega) (by simp; omega) rfl fun k' => ?_
   repeat' (first|refine a7 ?_|refine a8 ?_|refine aI ?_|refine aa ?_|refine ae a6 rfl rfl ?_|(apply aW; refine aV ?_)|fail)
   have hap : aU ((((r.Out.zip q).take i).filter fun y => (dL f G l.Ignore y.2).isSome).map (·.1)) ++ [[aM o]] = aU ((((r.Out.zip q).take (i + 1)).filter fun y => (dL f G l.Ignore y.2).isSome).map (·.1)) := by
    rw [hzt, List.filter_append, List.map_append]
    simp [aU, hb]
   exact aC (i + 1, k') rfl ⟨by rw [Gw]; rfl, by rw [← hap]; rfl, trivial⟩ (by dsimp only; omega) (by dsimp only; omega) (fun _ _ h => by dsimp only; rw [← hap]; exact h)
  | false =>
   rw [if_neg (by decide)] at hb
   have hap : ((r.Out.zip q).take (i + 1)).filter (fun y => (dL f G l.Ignore y.2).isSome) = ((r.Out.zip q).take i).filter (fun y => (dL f G l.Ignore y.2).isSome) := by
    rw [hzt, List.filter_append]
    simp [hb]
   repeat' (first|refine ah ?_|refine a7 ?_|refine au ?_|refine a8 ?_|refine aI ?_|refine aa ?_|refine ae a6 rfl rfl ?_|(apply aW; refine aV ?_)|refine bv rfl ?_)
   exact aC (i + 1, k1) rfl ⟨by rw [Gw]; rfl, by rw [hap]; rfl, trivial⟩ (by dsimp only; omega) (by dsimp only; omega) (fun _ _ h => by dsimp only; rw [hap]; exact h)
 have hil : i = min r.Out.length q.length := by have := Gy e; rw [hm] at this; omega
 subst hil
 have htz : (r.Out.zip q).take (min r.Out.length q.length) = r.Out.zip q := List.take_of_length_le (by rw [List.length_zip]; exact Nat.le_refl _)
 rw [htz]
 repeat' (first|refine ah ?_|refine a7 ?_|refine ar ?_|refine aR ?_|refine a8 ?_|refine av ?_|refine aB ?_|refine ay ?_|refine aa ?_|refine ae a6 rfl rfl ?_)
 refine ba (bg (t := 6) (c' := .imm 1 (aU (fq f G l r))) rfl fun σ v h => by rw [hco]; exact VR.im h) ?_
 refine cO (List.sublist_append_right ..) ?_
 exact aA rfl rfl ⟨rfl, rfl⟩
theorem xP (f : aJ) (mg ml : Nat) (G K : List Int) (c : fF) : AC Tryz.prog 106 [.agg (dP c), .iptr (cK f mg ml)] (kL mg ml G K) fun r L => (∃ y b, r = .tup [.agg (dP y), cF b] ∧ ki K c = if b = true then some y else none) ∧ L = kL mg ml G K := by
 refine aP Tryz.func106 rfl Tryz.ntmps106 rfl fun B => ?_
 repeat' (first|refine ah ?_|refine a7 ?_|refine a8 ?_|refine aa ?_|refine ae a6 rfl rfl ?_|refine be ?_|refine b5 a6 fun _=>?_|fail)
 rename_i b
 refine b7 (kL mg ml G K) [(b, _)] (lS f mg ml G K c.Lookup) rfl rfl (List.perm_append_singleton _ _).symm rfl fun r L1 ⟨hc, hL⟩ => ?_
 subst hc; subst hL
 repeat' (first|refine ah ?_|refine a7 ?_|refine ar ?_|refine a8 ?_|refine aa ?_|refine ae a6 rfl rfl ?_|(apply aH; first|refine aj a6 0 rfl rfl rfl rfl rfl rfl rfl ?_|refine aj a6 1 rfl rfl rfl rfl rfl rfl rfl ?_|refine aj a6 2 rfl rfl rfl rfl rfl rfl rfl ?_|refine aj a6 3 rfl rfl rfl rfl rfl rfl rfl ?_|fail))
 refine eC (cs := [.agg (dP { c with Lookup := (ec K c.Lookup).getD 0 }), cF (ec K c.Lookup).isSome]) (kL mg ml G K) ⟨⟨_, 2, _, _, rfl, rfl, .inr ⟨cY a6 rfl, rfl⟩⟩, rfl, trivial⟩ (List.sublist_append_left ..) ⟨⟨{ c with Lookup := (ec K c.Lookup).getD 0 }, _, rfl, ?_⟩, rfl⟩
 unfold ki
 cases ec K c.Lookup <;> rfl
structure uO (r : bV) : Prop where
 back : r.Back.length ≤ 1000000 ∧ ∀ q ∈ r.Back, q.length ≤ 1000000
 ins : r.In.length ≤ 1000000 ∧ ∀ q ∈ r.In, q.length ≤ 1000000
 ahead : r.Ahead.length ≤ 1000000 ∧ ∀ q ∈ r.Ahead, q.length ≤ 1000000
 out : r.Out.length ≤ 1000000
 calls : r.Calls.length ≤ 1000000
set_option maxHeartbeats 8000000 in
theorem zr (f : aJ) (mg ml : Nat) (G K : List Int) (hG : ce f.Glyphs.length G) (l : b9) (r : bV) (hr : uO r) : AC Tryz.prog 77 [.agg (cK f mg ml), .agg (bn l), .agg (bC r)] (kL mg ml G K) fun c L => (∃ y b, c = .tup [.agg (bC y), cF b] ∧ fI f G K l r = if b = true then some y else none) ∧ L = kL mg ml G K := by
 refine aP Tryz.func77 rfl Tryz.ntmps77 rfl fun B => ?_
 have s1 := pd f mg ml G K hG l r.Back hr.back.1 hr.back.2
 have s2 := pd f mg ml G K hG l r.In hr.ins.1 hr.ins.2
 have s3 := pd f mg ml G K hG l r.Ahead hr.ahead.1 hr.ahead.2
 repeat' (first|refine ah ?_|refine a7 ?_|refine a8 ?_|refine aa ?_|refine ae a6 rfl rfl ?_|(apply aH; first|refine ai 8 a6 0 rfl rfl rfl rfl rfl rfl rfl rfl ?_|refine ai 8 a6 1 rfl rfl rfl rfl rfl rfl rfl rfl ?_|refine ai 8 a6 2 rfl rfl rfl rfl rfl rfl rfl rfl ?_|refine aj a6 0 rfl rfl rfl rfl rfl rfl rfl ?_|refine aj a6 1 rfl rfl rfl rfl rfl rfl rfl ?_|refine aj a6 2 rfl rfl rfl rfl rfl rfl rfl ?_|refine aj a6 3 rfl rfl rfl rfl rfl rfl rfl ?_|fail)|refine be ?_|refine b5 a6 fun _=>?_|fail)
 rename_i b b8
 refine bt 16 [(0, .v), (1, .v), (2, .v), (4, .v), (5, .v), (6, .v), (8, .v), (9, .v), (10, .v), (12, .v), (13, .v), (3, .e), (7, .e), (11, .e), (14, .v)] (some (15, .box _ 81)) ?_ ⟨_, rfl, rfl, fun _ _ _ => gX (eV a6 rfl) rfl⟩ rfl (by kernel_rfl) (by kernel_rfl) (by kernel_rfl) mixed (by kernel_rfl) rfl
 repeat' (first|refine aE ?_|refine aZ a6 ?_|fail)
 refine qP (kL mg ml G K) [(b, _)] (.fn s1) rfl rfl (List.perm_append_singleton _ _).symm (by first | trivial | rfl) fun c L1 ⟨hc, hL⟩ => ?_
 subst hc; subst hL
 repeat' (first|refine aE ?_|fail)
 refine qP (kL mg ml G K) [(b, _)] (.fn s2) rfl rfl (Gm _) (by first | trivial | rfl) fun c L1 ⟨hc, hL⟩ => ?_
 subst hc; subst hL
 repeat' (first|refine aE ?_|fail)
 refine qP (kL mg ml G K) [(b, _)] (.fn s3) rfl rfl (Gm _) (by first | trivial | rfl) fun c L1 ⟨hc, hL⟩ => ?_
 subst hc; subst hL
 repeat' (first|refine aE ?_|refine aZ a6 ?_|fail)
 refine kj [3, 4, 5, 6, 8, 10, 30] (fun _ => _) (fun _ => rfl) rfl fun _ => ?_
 repeat' (first|refine ah ?_|refine a7 ?_|refine aq ?_|refine a8 ?_|refine aa ?_|refine ae a6 rfl rfl ?_|(apply bB; first|refine ak a6 0 rfl rfl rfl rfl rfl ?_|refine ak a6 1 rfl rfl rfl rfl rfl ?_|refine ak a6 2 rfl rfl rfl rfl rfl ?_|refine ak a6 3 rfl rfl rfl rfl rfl ?_|refine aD a6 0 rfl rfl rfl rfl rfl ?_|refine aD a6 1 rfl rfl rfl rfl rfl ?_|refine aD a6 2 rfl rfl rfl rfl rfl ?_|refine ak a6 1 rfl rfl rfl (by assumption) rfl ?_|refine ak a6 0 rfl rfl rfl (by assumption) rfl ?_|fail)|(apply aH; first|refine ai 8 a6 0 rfl rfl rfl rfl rfl rfl rfl rfl ?_|refine ai 8 a6 1 rfl rfl rfl rfl rfl rfl rfl rfl ?_|refine ai 8 a6 2 rfl rfl rfl rfl rfl rfl rfl rfl ?_|refine aj a6 0 rfl rfl rfl rfl rfl rfl rfl ?_|refine aj a6 1 rfl rfl rfl rfl rfl rfl rfl ?_|refine aj a6 2 rfl rfl rfl rfl rfl rfl rfl ?_|refine aj a6 3 rfl rfl rfl rfl rfl rfl rfl ?_|fail))
 rename_i bm
 have hrow : ∀ i : Nat, i < 3 → ∃ R : List (List Int), [AV.imm 1 (bq (cR f G l.Ignore r.Back)), .imm 1 (bq (cR f G l.Ignore r.In)), .imm 1 (bq (cR f G l.Ignore r.Ahead))][i]? = some (.imm 1 (bq R)) ∧ R = [cR f G l.Ignore r.Back, cR f G l.Ignore r.In, cR f G l.Ignore r.Ahead].getD i [] := fun i hi => by
  rcases i with _ | _ | _ | i
  ·exact ⟨_, rfl, rfl⟩
  ·exact ⟨_, rfl, rfl⟩
  ·exact ⟨_, rfl, rfl⟩
  ·omega
 have hnl := wq
 have hI : (cR f G l.Ignore r.In).length = r.In.length := Gu ..
 refine aN [3, 4, 5, 6, 8, 10, 11, 37] (α := Nat) (fun i => [(38, aM i)]) (fun i => i ≤ 3 ∧ ∀ j < i, iz ([cR f G l.Ignore r.Back, cR f G l.Ignore r.In, cR f G l.Ignore r.Ahead].getD j []) = false) (fun _ => _) (fun i => 3 - i) 0 rfl ⟨rfl, trivial⟩ ⟨by omega, fun j hj => by omega⟩ (fun _ _ h => h) ?_
 rintro i ⟨hi, ha⟩
 try dsimp only [Gr, Gq, Gp, Gj]
 repeat' (first|refine ah ?_|refine a7 ?_|refine a8 ?_|refine aa ?_|refine ae a6 rfl rfl ?_)
 refine aw rfl (fun e => ?_) (fun e => ?_)
 ·have hil : i < 3 := by have := Gz e; omega
  obtain ⟨R, hR, hRe⟩ := hrow i hil
  repeat' (first|refine ah ?_|refine a7 ?_|refine aq ?_|refine au ?_|refine a8 ?_)
  refine CW a6 i rfl rfl rfl rfl rfl hil hR rfl ?_
  repeat' (first|refine ah ?_|refine a7 ?_|refine a8 ?_|refine aa ?_|refine ae a6 rfl rfl ?_)
  haveI : AD Tryz.prog 103 [.imm 1 (bq R), .sc (.func (.func 102) #[] #[])] (cF (iz R)) := ⟨hnl R⟩
  repeat' (first|refine a8 ?_|refine aa ?_|(apply bA;refine bh ?_)|fail)
  refine aw rfl (fun e2 => ?_) (fun e2 => ?_)
  ·repeat' (first|refine ah ?_|refine a7 ?_|refine ar ?_|refine a8 ?_|refine aF ?_|refine aT ?_|refine bE ?_|refine aa ?_|refine ae a6 rfl rfl ?_|(apply aH; first|refine aj a6 0 rfl rfl rfl rfl rfl rfl rfl ?_|refine aj a6 1 rfl rfl rfl rfl rfl rfl rfl ?_|refine aj a6 2 rfl rfl rfl rfl rfl rfl rfl ?_|refine aj a6 3 rfl rfl rfl rfl rfl rfl rfl ?_|fail))
   have hnone : fI f G K l r = none := by
    unfold fI
    rw [if_pos]
    refine .inl ?_
    rw [hRe] at e2
    rcases i with _ | _ | _ | i
    ·exact .inl e2
    ·exact .inr (.inl e2)
    ·exact .inr (.inr e2)
    ·omega
   refine ba (bi 2 (cs' := bC ⟨[], [], [], [], [], 0⟩) rfl fun σ vs h => mZ.vrs (a := [.sc (.slice none 0 0), .sc (.slice none 0 0), .sc (.slice none 0 0), .sc (.slice none 0 0), .sc (.slice none 0 0), aM 0]) (b := bC ⟨[], [], [], [], [], 0⟩) ⟨dw.nil 1, dw.nil 1, dw.nil 1, dw.nil 1, dw.nil 2, dw.refl _, trivial⟩ h) ?_
   exact eC (cs := [.agg (bC ⟨[], [], [], [], [], 0⟩), cF false]) (kL mg ml G K) ⟨⟨_, 2, _, _, rfl, rfl, .inr ⟨cY a6 rfl, rfl⟩⟩, rfl, trivial⟩ (List.sublist_append_left (kL mg ml G K) [_, _]) ⟨⟨_, false, rfl, hnone⟩, rfl⟩
  repeat' (first|refine a7 ?_|refine au ?_|refine a8 ?_|refine aI ?_|refine aa ?_|refine ae a6 rfl rfl ?_|(apply aW; refine aV ?_)|fail)
  exact aC (i + 1) rfl ⟨by rw [Gw]; rfl, trivial⟩ ⟨by omega, fun j hj => by
   by_cases hji : j < i
   ·exact ha j hji
   ·have : j = i := by omega
    subst this
    rw [← hRe]; exact e2⟩ (by omega) (fun _ _ h => h)
 have hil : i = 3 := by have := Gy e; omega
 subst hil
 have n1 : iz (cR f G l.Ignore r.Back) = false := ha 0 (by omega)
 have n2 : iz (cR f G l.Ignore r.In) = false := ha 1 (by omega)
 have n3 : iz (cR f G l.Ignore r.Ahead) = false := ha 2 (by omega)
 clear ha hi e
 have hIr : (bq (cR f G l.Ignore r.In)).length = r.In.length := by unfold bq; rw [Gu, hI]
 repeat' (first|refine ah ?_|refine a7 ?_|refine aR ?_|refine a8 ?_|refine av ?_|refine aB ?_|refine ay ?_|refine aa ?_|refine ae a6 rfl rfl ?_|(apply bB; first|refine ak a6 0 rfl rfl rfl rfl rfl ?_|refine ak a6 1 rfl rfl rfl rfl rfl ?_|refine ak a6 2 rfl rfl rfl rfl rfl ?_|refine ak a6 3 rfl rfl rfl rfl rfl ?_|refine aD a6 0 rfl rfl rfl rfl rfl ?_|refine aD a6 1 rfl rfl rfl rfl rfl ?_|refine aD a6 2 rfl rfl rfl rfl rfl ?_|refine ak a6 1 rfl rfl rfl (by assumption) rfl ?_|refine ak a6 0 rfl rfl rfl (by assumption) rfl ?_|fail)|fail)
 refine aw rfl (fun e => ?_) (fun e => ?_)
 ·repeat' (first|refine ah ?_|refine a7 ?_|refine ar ?_|refine a8 ?_|refine aF ?_|refine aa ?_|refine ae a6 rfl rfl ?_|(apply aH; first|refine aj a6 0 rfl rfl rfl rfl rfl rfl rfl ?_|refine aj a6 1 rfl rfl rfl rfl rfl rfl rfl ?_|refine aj a6 2 rfl rfl rfl rfl rfl rfl rfl ?_|refine aj a6 3 rfl rfl rfl rfl rfl rfl rfl ?_|fail))
  have hnone : fI f G K l r = none := by
   unfold fI
   rw [if_pos]
   refine .inr ?_
   have := Gz e
   rw [hIr] at this
   exact List.length_eq_zero_iff.1 (by omega)
  refine ba (bi 2 (cs' := bC ⟨[], [], [], [], [], 0⟩) rfl fun σ vs h => mZ.vrs (a := [.sc (.slice none 0 0), .sc (.slice none 0 0), .sc (.slice none 0 0), .sc (.slice none 0 0), .sc (.slice none 0 0), aM 0]) (b := bC ⟨[], [], [], [], [], 0⟩) ⟨dw.nil 1, dw.nil 1, dw.nil 1, dw.nil 1, dw.nil 2, dw.refl _, trivial⟩ h) ?_
  exact eC (cs := [.agg (bC ⟨[], [], [], [], [], 0⟩), cF false]) (kL mg ml G K) ⟨⟨_, 2, _, _, rfl, rfl, .inr ⟨cY a6 rfl, rfl⟩⟩, rfl, trivial⟩ (List.sublist_append_left (kL mg ml G K) [_, _]) ⟨⟨_, false, rfl, hnone⟩, rfl⟩
 have hin : r.In ≠ [] := fun e0 => by
  have := Gy e
  rw [hIr, e0] at this
  exact this rfl
 clear e
 repeat' (first|refine ah ?_|refine au ?_|refine a8 ?_)
 have ho := Bd f mg ml G K hG l r hin hr.out
 have hol : (fq f G l r).length ≤ 1000000 := by
  unfold fq
  split
  ·rw [Gu]
   refine Nat.le_trans (List.length_filter_le ..) ?_
   rw [List.length_zip]
   have := hr.out
   omega
  ·exact hr.out
 have hg8 := tU (u := .fnB 70 [.agg (cK f mg ml)] []) rfl (fq f G l r) hol (ec G) (kL mg ml G K) fun z _ => .fnB ((iu f mg ml G K z).mono fun c L ⟨h1, h2⟩ => ⟨⟨(ec G z).getD 0, (ec G z).isSome, h1, by cases ec G z <;> rfl⟩, h2⟩)
 have hcl := Ax (u := .fn 106 [.iptr (cK f mg ml)]) rfl r.Calls hr.calls (ki K) (kL mg ml G K) fun c _ => .fn (xP f mg ml G K c)
 refine bt 7 [(0, .v), (1, .v), (2, .v), (3, .v), (5, .v), (6, .v), (4, .e)] none ?_ trivial rfl (by kernel_rfl) (by kernel_rfl) (by kernel_rfl) mixed (by kernel_rfl) rfl
 repeat' (first|refine aE ?_|refine aZ a6 ?_|fail)
 refine eT (kL mg ml G K) [(b, _), (bm, _)] ho rfl rfl (Gm _) (by first | trivial | rfl) fun c L1 ⟨hc, hL⟩ => ?_
 subst hc; subst hL
 repeat' (first|fail)
 refine br [3, 5, 6, 10, 55, 57] rfl rfl ?_
 repeat' (first|fail)
 refine b7 (kL mg ml G K) [(b, _), (bm, _)] hg8 rfl rfl (Gm _) rfl fun c L1 ⟨hc, hL⟩ => ?_
 subst hc; subst hL
 repeat' (first|refine ah ?_|refine a7 ?_|refine a8 ?_|refine aa ?_|refine ae a6 rfl rfl ?_|(apply aH; first|refine aj a6 0 rfl rfl rfl rfl rfl rfl rfl ?_|refine aj a6 1 rfl rfl rfl rfl rfl rfl rfl ?_|refine aj a6 2 rfl rfl rfl rfl rfl rfl rfl ?_|refine aj a6 3 rfl rfl rfl rfl rfl rfl rfl ?_|fail))
 refine b7 (kL mg ml G K) [(b, _), (bm, _)] hcl rfl rfl (Gm _) rfl fun c L1 ⟨hc, hL⟩ => ?_
 subst hc; subst hL
 repeat' (first|refine ah ?_|refine a7 ?_|refine a8 ?_|refine aa ?_|refine ae a6 rfl rfl ?_|(apply aH; first|refine aj a6 0 rfl rfl rfl rfl rfl rfl rfl ?_|refine aj a6 1 rfl rfl rfl rfl rfl rfl rfl ?_|refine aj a6 2 rfl rfl rfl rfl rfl rfl rfl ?_|refine aj a6 3 rfl rfl rfl rfl rfl rfl rfl ?_|fail))
 refine aD a6 3 rfl rfl rfl rfl rfl ?_
 repeat' (first|refine ar ?_|refine a8 ?_|refine aa ?_|refine ae a6 rfl rfl ?_|(apply aH; first|refine aj a6 0 rfl rfl rfl rfl rfl rfl rfl ?_|refine aj a6 1 rfl rfl rfl rfl rfl rfl rfl ?_|refine aj a6 2 rfl rfl rfl rfl rfl rfl rfl ?_|refine aj a6 3 rfl rfl rfl rfl rfl rfl rfl ?_|fail))
 refine eC (cs := [.agg (bC { Back := cR f G l.Ignore r.Back, In := cR f G l.Ignore r.In, Ahead := cR f G l.Ignore r.Ahead, Out := (fq f G l r).filterMap (ec G), Calls := r.Calls.filterMap (ki K), X := r.X }), cF true]) (kL mg ml G K) ⟨⟨_, 2, _, _, rfl, rfl, .inr ⟨cY a6 rfl, rfl⟩⟩, rfl, trivial⟩ (List.sublist_append_left (kL mg ml G K) [_, _]) ⟨⟨_, true, rfl, ?_⟩, rfl⟩
 unfold fI
 rw [if_neg, if_pos rfl]
 rw [n1, n2, n3]
 simp [hin]
theorem zp (f : aJ) (mg ml : Nat) (G K : List Int) (hG : ce f.Glyphs.length G) (l : b9) (r : bV) (hr : uO r) : AC Tryz.prog 76 [.agg (bC r), .iptr (cK f mg ml), .iptr (bn l)] (kL mg ml G K) fun c L => (∃ y b, c = .tup [.agg (bC y), cF b] ∧ fI f G K l r = if b = true then some y else none) ∧ L = kL mg ml G K := by
 refine aP Tryz.func76 rfl Tryz.ntmps76 rfl fun B => ?_
 repeat' (first|refine ah ?_|refine a7 ?_|refine a8 ?_|refine aa ?_|refine ae a6 rfl rfl ?_|refine be ?_|refine b5 a6 fun _=>?_|fail)
 rename_i b
 refine b7 (kL mg ml G K) [(b, _)] (zr f mg ml G K hG l r hr) rfl rfl (List.perm_append_singleton _ _).symm rfl fun c L1 ⟨⟨y, b2, hc, hb⟩, hL⟩ => ?_
 subst hc; subst hL
 repeat' (first|refine ar ?_|refine a8 ?_|refine aa ?_|refine ae a6 rfl rfl ?_|(apply aH; first|refine aj a6 0 rfl rfl rfl rfl rfl rfl rfl ?_|refine aj a6 1 rfl rfl rfl rfl rfl rfl rfl ?_|refine aj a6 2 rfl rfl rfl rfl rfl rfl rfl ?_|refine aj a6 3 rfl rfl rfl rfl rfl rfl rfl ?_|fail))
 exact eC (cs := [.agg (bC y), cF b2]) (kL mg ml G K) ⟨⟨_, 2, _, _, rfl, rfl, .inr ⟨cY a6 rfl, rfl⟩⟩, rfl, trivial⟩ (List.sublist_append_left (kL mg ml G K) [_]) ⟨⟨y, b2, rfl, hb⟩, rfl⟩
structure DB (l : b9) : Prop where
 rules : l.Rules.length ≤ 1000000
 rule : ∀ r ∈ l.Rules, uO r
theorem B8 (f : aJ) (mg ml : Nat) (G K : List Int) (hG : ce f.Glyphs.length G) (l : b9) (hl : DB l) : AC Tryz.prog 31 [.agg (cK f mg ml), .agg (bn l)] (kL mg ml G K) fun c L => c = .agg (bn (g8 f G K l)) ∧ L = kL mg ml G K := by
 refine aP Tryz.func31 rfl Tryz.ntmps31 rfl fun B => ?_
 have he := CG (u := .fn 76 [.iptr (cK f mg ml), .iptr (bn l)]) rfl l.Rules hl.rules (fI f G K l) (kL mg ml G K) fun r hr => .fn (zp f mg ml G K hG l r (hl.rule r hr))
 repeat' (first|refine ah ?_|refine a7 ?_|refine a8 ?_|refine aa ?_|refine ae a6 rfl rfl ?_|refine be ?_|refine b5 a6 fun _=>?_|fail)
 rename_i b
 refine b7 (kL mg ml G K) [(b, _)] he rfl rfl (List.perm_append_singleton _ _).symm rfl fun c L1 ⟨hc, hL⟩ => ?_
 subst hc; subst hL
 repeat' (first|refine ah ?_|refine a7 ?_|refine ar ?_|refine a8 ?_|refine aa ?_|refine ae a6 rfl rfl ?_|(apply aH; first|refine aj a6 0 rfl rfl rfl rfl rfl rfl rfl ?_|refine aj a6 1 rfl rfl rfl rfl rfl rfl rfl ?_|refine aj a6 2 rfl rfl rfl rfl rfl rfl rfl ?_|refine aj a6 3 rfl rfl rfl rfl rfl rfl rfl ?_|fail))
 exact eC (cs := [.agg (bn (g8 f G K l))]) (kL mg ml G K) ⟨⟨_, 2, _, _, rfl, rfl, .inr ⟨cY a6 rfl, rfl⟩⟩, trivial⟩ (List.sublist_append_left (kL mg ml G K) [_]) ⟨rfl, rfl⟩
end Go.Proofs.YtjjpkibjffmceaaGreat
namespace Go.Proofs.YtjjpkibjffmceaaGreat
open Go.RowKit
attribute [local irreducible] AT bT AX AO Av Kt bk ej DA cX
def nd (m : Nat) : ByteArray := ⟨#[UInt8.ofNat (48 + m)]⟩
def kX (m : Nat) : ByteArray := if m < 10 then nd m else kX (m / 10) ++ nd (m % 10)
termination_by m
decreasing_by omega
def jF : ByteArray := ⟨#[32]⟩
def uo : ByteArray := ⟨#[45]⟩
def df (z : Int) : ByteArray := if z < 0 then uo ++ kX z.natAbs ++ jF else kX z.natAbs ++ jF
theorem kW (m : Nat) : (nd m).size = 1 := rfl
theorem pZ : ∀ (k m : Nat), m < 10 ^ k → (kX m).size ≤ max k 1
 | 0, m, h => by
  have : m = 0 := by simpa using h
  subst this
  rw [kX, if_pos (by decide)]
  exact Nat.le_refl 1
 | k + 1, m, h => by
  rw [kX]
  split
  ·rw [kW]; omega
  ·rw [Gv, kW]
   have := pZ k (m / 10) (by rw [Nat.pow_succ] at h; omega)
   by_cases hk : k = 0
   ·subst hk; omega
   ·omega
def NB (z : Int) : Prop := -999999999 ≤ z ∧ z ≤ 999999999
theorem y4 {m : Nat} (h : m ≤ 999999999) : (kX m).size ≤ 9 := pZ 9 m (by omega)
theorem bG {z : Int} (h : NB z) : (df z).size ≤ 11 := by
 have := y4 (m := z.natAbs) (by have := h.1; have := h.2; omega)
 unfold df
 split <;> simp only [Gv, show uo.size = 1 from rfl, show jF.size = 1 from rfl] <;> omega
section
variable {α : Type} {st : ByteArray → α → ByteArray} {s : ByteArray} {l : List α} {k i : Nat} {x : α}
theorem gU (h : l[i]? = some x) : (l.take (i + 1)).foldl st s = st ((l.take i).foldl st s) x := by
 rw [List.take_add_one, h, Option.toList_some, List.foldl_append]
 rfl
theorem mC : ∀ {l : List α} {s : ByteArray}, (∀ s, ∀ x ∈ l, (st s x).size ≤ s.size + k) → (l.foldl st s).size ≤ s.size + l.length * k
 | [], s, _ => by simp
 | x :: r, s, h => by
  have h1 := mC (l := r) (s := st s x) fun s y hy => h s y (Gt _ hy)
  have h2 := h s x (List.mem_cons_self ..)
  rw [List.length_cons, Nat.succ_mul, List.foldl_cons]
  omega
theorem tZ (i : Nat) (h : ∀ s, ∀ x ∈ l, (st s x).size ≤ s.size + k) : ((l.take i).foldl st s).size ≤ s.size + l.length * k := by
 have h1 := mC (st := st) (k := k) (l := l.take i) (s := s) fun s y hy => h s y (List.mem_of_mem_take hy)
 have h2 : (l.take i).length * k ≤ l.length * k := Nat.mul_le_mul_right _ (by rw [List.length_take]; omega)
 omega
theorem gP {n m : Nat} (h : ∀ s, ∀ x ∈ l, (st s x).size ≤ s.size + k) (hn : l.length ≤ n) (hs : s.size ≤ m) : (l.foldl st s).size ≤ m + n * k := by
 have h1 := mC (st := st) (k := k) (l := l) (s := s) h
 have h2 : l.length * k ≤ n * k := Nat.mul_le_mul_right _ hn
 omega
theorem ga {n m : Nat} (i : Nat) (h : ∀ s, ∀ x ∈ l, (st s x).size ≤ s.size + k) (hn : l.length ≤ n) (hs : s.size ≤ m) : ((l.take i).foldl st s).size ≤ m + n * k := by
 have h1 := tZ (st := st) (k := k) (l := l) (s := s) i h
 have h2 : l.length * k ≤ n * k := Nat.mul_le_mul_right _ hn
 omega
end
def fk (n : Nat) : ByteArray := df (n : Int)
theorem ff {n : Nat} (h : n ≤ 999999999) : (fk n).size ≤ 11 := bG ⟨by omega, by omega⟩
def tj (b : Bool) : ByteArray := if b then ⟨#[49, 32]⟩ else ⟨#[48, 32]⟩
theorem kA (b : Bool) : (tj b).size = 2 := by cases b <;> rfl
def qx (s : ByteArray) (z : Int) : ByteArray := s ++ df z
def ru (l : List Int) : ByteArray := l.foldl qx (fk l.length)
def zO (l : List Int) : Prop := l.length ≤ 16 ∧ ∀ z ∈ l, NB z
theorem ph {l : List Int} (h : ∀ z ∈ l, NB z) : ∀ s, ∀ z ∈ l, (qx s z).size ≤ s.size + 11 := fun s z hz => by
 have := bG (h z hz)
 unfold qx
 rw [Gv]
 omega
theorem qq {l : List Int} (h : zO l) : (ru l).size ≤ 187 := gP (n := 16) (m := 11) (ph h.2) h.1 (ff (by have := h.1; omega))
def Dm (s : ByteArray) (q : List Int) : ByteArray := s ++ ru q
def zn (l : List (List Int)) : ByteArray := l.foldl Dm (fk l.length)
def qF (l : List (List Int)) : Prop := l.length ≤ 16 ∧ ∀ q ∈ l, zO q
def mR (s : ByteArray) (x : eb) : ByteArray := s ++ df x.Op ++ df x.A
def s7 (l : List eb) : ByteArray := l.foldl mR (fk l.length)
def Dr (l : List eb) : Prop := l.length ≤ 50 ∧ ∀ x ∈ l, NB x.Op ∧ NB x.A
theorem nz {l : List eb} (h : ∀ x ∈ l, NB x.Op ∧ NB x.A) : ∀ s, ∀ x ∈ l, (mR s x).size ≤ s.size + 22 := fun s x hx => by
 have h1 := bG (h x hx).1
 have h2 := bG (h x hx).2
 unfold mR
 simp only [Gv]
 omega
theorem tM {l : List eb} (h : Dr l) : (s7 l).size ≤ 1111 := gP (n := 50) (m := 11) (nz h.2) h.1 (ff (by have := h.1; omega))
def stPoint (s : ByteArray) (p : ei) : ByteArray := s ++ df p.X ++ df p.Y ++ tj p.On
def stPart (s : ByteArray) (p : cB) : ByteArray := s ++ df p.Glyph ++ df p.X ++ df p.Y
def stAnchor (s : ByteArray) (p : dt) : ByteArray := s ++ df p.Kind ++ df p.Class ++ df p.X ++ df p.Y
def stDelta (s : ByteArray) (p : dB) : ByteArray := s ++ df p.Region ++ df p.Point ++ df p.X ++ df p.Y
def AW (g : bf) : ByteArray := fk g.Name.size ++ g.Name ++ jF ++ df g.Advance ++ tj g.Mark ++ fk g.Points.length
def AZ (g : bf) : ByteArray := g.Points.foldl stPoint (AW g) ++ ru g.Ends ++ fk g.Parts.length
def B0 (g : bf) : ByteArray := g.Parts.foldl stPart (AZ g) ++ fk g.Anchors.length
def BR (g : bf) : ByteArray := g.Anchors.foldl stAnchor (B0 g) ++ fk g.Deltas.length
def r1 (g : bf) : ByteArray := g.Deltas.foldl stDelta (BR g) ++ s7 g.Hint
structure rE (g : bf) : Prop where
 name : g.Name.size ≤ 50
 adv : NB g.Advance
 pts : g.Points.length ≤ 16 ∧ ∀ p ∈ g.Points, NB p.X ∧ NB p.Y
 ends : zO g.Ends
 parts : g.Parts.length ≤ 16 ∧ ∀ p ∈ g.Parts, NB p.Glyph ∧ NB p.X ∧ NB p.Y
 anchors : g.Anchors.length ≤ 16 ∧ ∀ p ∈ g.Anchors, NB p.Kind ∧ NB p.Class ∧ NB p.X ∧ NB p.Y
 deltas : g.Deltas.length ≤ 50 ∧ ∀ p ∈ g.Deltas, NB p.Region ∧ NB p.Point ∧ NB p.X ∧ NB p.Y
 hint : Dr g.Hint
section
variable {g : bf} (h : rE g)
include h
theorem rE.stPoint : ∀ s, ∀ p ∈ g.Points, (stPoint s p).size ≤ s.size + 24 := fun s p hp => by
 have h1 := bG (h.pts.2 p hp).1
 have h2 := bG (h.pts.2 p hp).2
 have h3 := kA p.On
 unfold Go.Proofs.YtjjpkibjffmceaaGreat.stPoint
 simp only [Gv]
 omega
theorem rE.stPart : ∀ s, ∀ p ∈ g.Parts, (stPart s p).size ≤ s.size + 33 := fun s p hp => by
 have h1 := bG (h.parts.2 p hp).1
 have h2 := bG (h.parts.2 p hp).2.1
 have h3 := bG (h.parts.2 p hp).2.2
 unfold Go.Proofs.YtjjpkibjffmceaaGreat.stPart
 simp only [Gv]
 omega
theorem rE.stAnchor : ∀ s, ∀ p ∈ g.Anchors, (stAnchor s p).size ≤ s.size + 44 := fun s p hp => by
 have h1 := bG (h.anchors.2 p hp).1
 have h2 := bG (h.anchors.2 p hp).2.1
 have h3 := bG (h.anchors.2 p hp).2.2.1
 have h4 := bG (h.anchors.2 p hp).2.2.2
 unfold Go.Proofs.YtjjpkibjffmceaaGreat.stAnchor
 simp only [Gv]
 omega
theorem rE.stDelta : ∀ s, ∀ p ∈ g.Deltas, (stDelta s p).size ≤ s.size + 44 := fun s p hp => by
 have h1 := bG (h.deltas.2 p hp).1
 have h2 := bG (h.deltas.2 p hp).2.1
 have h3 := bG (h.deltas.2 p hp).2.2.1
 have h4 := bG (h.deltas.2 p hp).2.2.2
 unfold Go.Proofs.YtjjpkibjffmceaaGreat.stDelta
 simp only [Gv]
 omega
theorem rE.s1 : (AW g).size ≤ 86 := by
 have h1 := ff (n := g.Name.size) (by have := h.name; omega)
 have h2 := bG h.adv
 have h3 := kA g.Mark
 have h4 := ff (n := g.Points.length) (by have := h.pts.1; omega)
 have h5 := h.name
 unfold AW
 simp only [Gv, show jF.size = 1 from rfl]
 omega
theorem rE.s2 : (AZ g).size ≤ 668 := by
 have h1 := gP (n := 16) (m := 86) h.stPoint h.pts.1 h.s1
 have h2 := qq h.ends
 have h3 := ff (n := g.Parts.length) (by have := h.parts.1; omega)
 unfold AZ
 simp only [Gv]
 omega
theorem rE.s3 : (B0 g).size ≤ 1207 := by
 have h1 := gP (n := 16) (m := 668) h.stPart h.parts.1 h.s2
 have h3 := ff (n := g.Anchors.length) (by have := h.anchors.1; omega)
 unfold B0
 simp only [Gv]
 omega
theorem rE.s4 : (BR g).size ≤ 1922 := by
 have h1 := gP (n := 16) (m := 1207) h.stAnchor h.anchors.1 h.s3
 have h3 := ff (n := g.Deltas.length) (by have := h.deltas.1; omega)
 unfold BR
 simp only [Gv]
 omega
end
def Dh (s : ByteArray) (c : fF) : ByteArray := s ++ df c.At ++ df c.Lookup
def Fq (s : ByteArray) (r : bV) : ByteArray := s ++ zn r.Back ++ zn r.In ++ zn r.Ahead ++ ru r.Out ++ fk r.Calls.length
def Dn (s : ByteArray) (r : bV) : ByteArray := r.Calls.foldl Dh (Fq s r) ++ df r.X
def Fp (l : b9) : ByteArray := df l.Kind ++ tj l.Ignore ++ fk l.Rules.length
def E7 (l : b9) : ByteArray := l.Rules.foldl Dn (Fp l)
structure vH (r : bV) : Prop where
 back : qF r.Back
 ins : qF r.In
 ahead : qF r.Ahead
 out : zO r.Out
 calls : r.Calls.length ≤ 16 ∧ ∀ c ∈ r.Calls, NB c.At ∧ NB c.Lookup
 x : NB r.X
structure EA (l : b9) : Prop where
 kind : NB l.Kind
 rules : l.Rules.length ≤ 4 ∧ ∀ r ∈ l.Rules, vH r
def BE (s : ByteArray) (g : bf) : ByteArray := s ++ r1 g
def Di (s : ByteArray) (c : dO) : ByteArray := s ++ df c.Rune ++ df c.Glyph
def Dl (s : ByteArray) (l : b9) : ByteArray := s ++ E7 l
def Dj (s : ByteArray) (t : bL) : ByteArray := s ++ fk t.Name.size ++ t.Name ++ jF ++ ru t.Lookups
def Dg (s : ByteArray) (a : dY) : ByteArray := s ++ fk a.Name.size ++ a.Name ++ jF ++ df a.Min ++ df a.Def ++ df a.Max
def Do (s : ByteArray) (t : dS) : ByteArray := s ++ df t.Start ++ df t.Peak ++ df t.End
def Et (s : ByteArray) (r : List dS) : ByteArray := r.foldl Do (s ++ fk r.length)
def Dk (s : ByteArray) (c : List eb) : ByteArray := s ++ s7 c
def Fi (f : aJ) : ByteArray := df f.Unit ++ fk f.Glyphs.length
def Fj (f : aJ) : ByteArray := f.Glyphs.foldl BE (Fi f) ++ fk f.Chars.length
def Fk (f : aJ) : ByteArray := f.Chars.foldl Di (Fj f) ++ fk f.Lookups.length
def Fl (f : aJ) : ByteArray := f.Lookups.foldl Dl (Fk f) ++ fk f.Features.length
def Fm (f : aJ) : ByteArray := f.Features.foldl Dj (Fl f) ++ fk f.Axes.length
def Fn (f : aJ) : ByteArray := f.Axes.foldl Dg (Fm f) ++ fk f.Regions.length
def Fo (f : aJ) : ByteArray := f.Regions.foldl Et (Fn f) ++ fk f.Funcs.length
def F6 (f : aJ) : ByteArray := f.Funcs.foldl Dk (Fo f) ++ ru f.Cvt
structure zN (f : aJ) : Prop where
 unit : NB f.Unit
 glyphs : f.Glyphs.length ≤ 16 ∧ ∀ g ∈ f.Glyphs, rE g
 chars : f.Chars.length ≤ 32 ∧ ∀ c ∈ f.Chars, NB c.Rune ∧ NB c.Glyph
 looks : f.Lookups.length ≤ 8 ∧ ∀ l ∈ f.Lookups, EA l
 feats : f.Features.length ≤ 16 ∧ ∀ t ∈ f.Features, t.Name.size ≤ 50 ∧ zO t.Lookups
 axes : f.Axes.length ≤ 16 ∧ ∀ a ∈ f.Axes, a.Name.size ≤ 50 ∧ NB a.Min ∧ NB a.Def ∧ NB a.Max
 regs : f.Regions.length ≤ 16 ∧ ∀ r ∈ f.Regions, r.length ≤ 16 ∧ ∀ t ∈ r, NB t.Start ∧ NB t.Peak ∧ NB t.End
 funcs : f.Funcs.length ≤ 16 ∧ ∀ c ∈ f.Funcs, Dr c
 cvt : zO f.Cvt
section
variable {f : aJ} (h : zN f)
include h
end
end Go.Proofs.YtjjpkibjffmceaaGreat
