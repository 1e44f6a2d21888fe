/-
  The program: rules and lookups with new numbers.
-/
import Derived.Test.YtjjpkibjffmceaaGreatM13
import Derived.Test.YtjjpkibjffmceaaGreatM20
import Derived.Test.YtjjpkibjffmceaaGreatM22
import Derived.Test.YtjjpkibjffmceaaGreatM06
namespace Go.Proofs.YtjjpkibjffmceaaGreat
open Go.RowKit
attribute [local irreducible] AT bV AX AO Av Kt bC eH DA dl
open Go.MapKept
set_option maxHeartbeats 4000000 in
theorem tQ (f : aI) (mg ml : Nat) (G K : List Int) (hG : co f.Glyphs.length G) (l : ba) (z : Int) : AC Tryz.prog 98 [aM z, .iptr (cK f mg ml), .iptr (bj l)] (kL mg ml G K) fun c L => (∃ y b, c = .tup [aM y, cO b] ∧ dX f G l.Ignore z = if b = true then some y else none) ∧ L = kL mg ml G K := by
 refine aQ Tryz.func98 rfl Tryz.ntmps98 rfl fun B => ?_
 repeat' (first|refine ae ?_|refine a6 ?_|refine a7 ?_|refine a8 ?_|refine aa a2 rfl rfl ?_)
 refine bb (kL mg ml G K) [] (iJ f mg ml G K z) rfl rfl (bT rfl) rfl fun r L1 ⟨hc, hL⟩ => ?_
 subst hc; subst hL
 cases hp : eG G z with
 | none =>
  dsimp only [Option.getD_none, Option.isSome_none]
  repeat' (first|refine ae ?_|refine a7 ?_|refine a8 ?_|refine aa a2 rfl rfl ?_)
  refine bt 17 [(0, .v), (1, .v), (2, .v), (3, .v), (4, .v), (5, .v), (6, .v), (7, .v), (8, .v), (9, .v), (10, .v), (11, .v), (12, .v), (13, .v), (14, .v), (15, .v), (16, .v)] none ?_ trivial rfl (by kernel_rfl) (by kernel_rfl) (by kernel_rfl) mixed (by kernel_rfl) rfl
  repeat' (first|refine aC ?_|refine aZ a2 ?_|refine lR rfl rfl ?_|refine EJ rfl ?_)
  refine bq [4, 29] rfl rfl ?_
  repeat' (first|refine aq ?_|refine a7 ?_|refine a8 ?_|refine aa a2 rfl rfl ?_)
  exact b9 rfl rfl rfl ⟨⟨0, false, rfl, by unfold dX; rw [hp]; simp⟩, by simp⟩
 | some n =>
  dsimp only [Option.getD_some, Option.isSome_some]
  have hz : z ∈ G := by
   unfold eG at hp
   split at hp
   ·assumption
   ·cases hp
  have hd := hG.dom z hz
  obtain ⟨g, hg⟩ : ∃ x, f.Glyphs[z.toNat]? = some x := ⟨_, Ee (by omega)⟩
  have hgg := bn (c := bA) hg
  have hm : qU f z = g.Mark := by unfold qU; rw [hg]
  repeat' (first|refine ae ?_|refine a7 ?_|refine a8 ?_|refine aa a2 rfl rfl ?_)
  refine bt 17 [(0, .v), (1, .v), (2, .v), (3, .v), (4, .v), (5, .v), (6, .v), (7, .v), (8, .v), (9, .v), (10, .v), (11, .v), (12, .v), (13, .v), (14, .v), (15, .v), (16, .v)] none ?_ trivial rfl (by kernel_rfl) (by kernel_rfl) (by kernel_rfl) mixed (by kernel_rfl) rfl
  repeat' (first|refine aC ?_|refine aZ a2 ?_|fail)
  cases hi : l.Ignore with
  | true =>
   repeat' (first|refine aC ?_|refine aZ a2 ?_|(apply ca;refine ck a2 ?_)|fail)
   refine bq [4, 29] rfl rfl ?_
   repeat' (first|refine aq ?_|refine a7 ?_|refine a8 ?_|refine aa a2 rfl rfl ?_)
   exact b9 rfl rfl rfl ⟨⟨n, !g.Mark, rfl, by unfold dX; rw [hp, hm]; cases g.Mark <;> rfl⟩, by simp⟩
  | false =>
   repeat' (first|refine aC ?_|refine aZ a2 ?_|refine lR rfl rfl ?_)
   refine bq [4, 29] rfl rfl ?_
   repeat' (first|refine aq ?_|refine a7 ?_|refine a8 ?_|refine aa a2 rfl rfl ?_)
   exact b9 rfl rfl rfl ⟨⟨n, true, rfl, by unfold dX; rw [hp]; rfl⟩, by simp⟩
theorem Dz {α β : Type} (g : α → β) (l : List α) : l.filterMap (fun x => some (g x)) = l.map g := by
 induction l with
 | nil => rfl
 | cons a r ih => simp [ih]
def sU (f : aI) (mg ml : Nat) (l : ba) : AV := .fn 98 [.iptr (cK f mg ml), .iptr (bj l)]
theorem Cc (f : aI) (mg ml : Nat) (G K : List Int) (hG : co f.Glyphs.length G) (l : ba) (s : List Int) (hs : s.length ≤ 1000000) : AC Tryz.prog 101 [.imm 1 (aT s), .iptr [sU f mg ml l]] (kL mg ml G K) fun c L => (∃ y b, c = .tup [.imm 1 (aT y), cO b] ∧ some (rm f G l.Ignore s) = if b = true then some y else none) ∧ L = kL mg ml G K := by
 refine aQ Tryz.func101 rfl Tryz.ntmps101 rfl fun B => ?_
 have he := ux (u := sU f mg ml l) rfl s hs (dX f G l.Ignore) (kL mg ml G K) fun z _ => .fn (tQ f mg ml G K hG l z)
 repeat' (first|refine ae ?_|refine a6 ?_|refine a7 ?_|refine a8 ?_|refine aa a2 rfl rfl ?_)
 refine bb (kL mg ml G K) [] he rfl rfl (bT rfl) rfl fun c L1 ⟨hc, hL⟩ => ?_
 subst hc; subst hL
 repeat' (first|refine aq ?_|refine a7 ?_|refine a8 ?_|refine aa a2 rfl rfl ?_)
 exact b9 rfl rfl rfl ⟨⟨rm f G l.Ignore s, true, rfl, rfl⟩, by simp⟩
theorem pM (f : aI) (mg ml : Nat) (G K : List Int) (hG : co f.Glyphs.length G) (l : ba) (s : List (List Int)) (hs : s.length ≤ 1000000) (hq : ∀ q ∈ s, q.length ≤ 1000000) : AC Tryz.prog 99 [.imm 1 (bv s), .iptr [sU f mg ml l]] (kL mg ml G K) fun c L => c = .imm 1 (bv (cZ f G l.Ignore s)) ∧ L = kL mg ml G K := by
 refine aQ Tryz.func99 rfl Tryz.ntmps99 rfl fun B => ?_
 have he := Bq (u := .fn 101 [.iptr [sU f mg ml l]]) rfl s hs (fun q => some (rm f G l.Ignore q)) (kL mg ml G K) fun q hqm => .fn (Cc f mg ml G K hG l q (hq q hqm))
 repeat' (first|refine ae ?_|refine a6 ?_|refine a7 ?_|refine a8 ?_|refine aa a2 rfl rfl ?_)
 refine bb (kL mg ml G K) [] he rfl rfl (bT rfl) rfl fun c L1 ⟨hc, hL⟩ => ?_
 subst hc; subst hL
 repeat' (first|refine aq ?_|refine a7 ?_|refine a8 ?_|refine aa a2 rfl rfl ?_)
 exact aA rfl rfl ⟨by rw [Dz]; rfl, by simp⟩
theorem yS (s : List Int) : AC Tryz.prog 102 [.imm 1 (aT s)] [] fun c L => c = cO (decide (s.length = 0)) ∧ L = [] := by
 refine aQ Tryz.func102 rfl Tryz.ntmps102 rfl fun B => ?_
 have hil := aR s
 refine cG 0 rfl rfl fun hlen => ?_
 repeat' (first|refine ae ?_|refine a6 ?_|refine aq ?_|refine a7 ?_|refine a8 ?_|refine aa a2 rfl rfl ?_)
 refine aA rfl rfl ?_
 rw [hil]
 exact ⟨congrArg (fun b => cO b) (decide_eq_decide.2 (by omega)), rfl⟩
theorem DI {g : FuncId} {caps : List AV} {u : AV} [bF Tryz.prog g] (hu : jj u = some (g, caps)) (l : List (List Int)) (p : List Int → Bool) (L0 : AL) (hw : ∀ q, AC Tryz.prog g ([.imm 1 (aT q)] ++ caps) L0 fun c L' => c = cO (p q) ∧ L' = L0) : AC Tryz.prog 155 [.imm 1 (bv l), u] L0 fun c L => (∃ z : Int, c = aM z ∧ (0 ≤ z ↔ l.any p = true)) ∧ L = L0 := by
 refine aQ Tryz.func155 rfl Tryz.ntmps155 rfl fun B => ?_
 have hll : (bv l).length = l.length := Gu ..
 refine cG 0 rfl rfl fun hlen => ?_
 rw [hll] at hlen
 repeat' (first|refine ae ?_|refine a6 ?_|refine ak ?_|refine a7 ?_|refine a8 ?_|refine aa a2 rfl rfl ?_)
 refine aJ [0, 1, 7] (α := Nat) (fun i => [(8, aM i)]) (fun i => i ≤ l.length ∧ (l.take i).any p = false) (fun _ => L0) (fun i => l.length - i) 0 rfl ⟨rfl, trivial⟩ ⟨Nat.zero_le _, by simp⟩ (fun _ _ h => h) fun i ⟨hi, ha⟩ => ?_
 try dsimp only [Gr, Gq, Gp, Gj]
 repeat' (first|refine ae ?_|refine a6 ?_|refine a7 ?_|refine a8 ?_|refine aa a2 rfl rfl ?_)
 refine aw rfl (fun h => ?_) (fun h => ?_)
 ·have hil : i < l.length := by have := Gz h; rw [hll] at this; omega
  obtain ⟨z, hz⟩ : ∃ z, l[i]? = some z := ⟨_, Ee hil⟩
  have hzg : (bv l)[i]? = some [.imm 1 (aT z)] := by unfold bv; rw [List.getElem?_map, hz]; rfl
  repeat' (first|refine ae ?_|refine a6 ?_|refine ak ?_|refine ar ?_|refine a7 ?_|refine a8 ?_|refine aa a2 rfl rfl ?_|(apply aX; first|refine aW a2 ?_|refine aP a2 ?_)|fail)
  refine dh L0 [] (hw z) rfl hu rfl (bT rfl) rfl rfl fun c L1 ⟨hc, hL⟩ => ?_
  subst hc; subst hL
  rw [List.append_nil]
  repeat' (first|refine a7 ?_|refine a8 ?_)
  refine aw rfl (fun h2 => ?_) (fun h2 => ?_)
  ·repeat' (first|refine ae ?_|refine a6 ?_|refine aq ?_|refine a7 ?_|refine aE ?_|refine aS ?_|refine bJ ?_|refine a8 ?_|refine aa a2 rfl rfl ?_)
   refine aA rfl rfl ⟨⟨i, rfl, ?_⟩, rfl⟩
   exact ⟨fun _ => List.any_eq_true.2 ⟨z, Gx hz, h2⟩, fun _ => by omega⟩
  ·repeat' (first|refine a6 ?_|refine ar ?_|refine a7 ?_|refine aH ?_|refine a8 ?_|refine aa a2 rfl rfl ?_|(apply aV; refine aU ?_)|fail)
   refine aB (i + 1) rfl ⟨by rw [Gw]; rfl, trivial⟩ ⟨by omega, ?_⟩ (by omega) (fun _ _ h => h)
   rw [List.take_add_one, hz, List.any_append, ha]
   simpa using h2
 ·have hil : i = l.length := by have := Gy h; rw [hll] at this; omega
  subst hil
  rw [List.take_length] at ha
  repeat' (first|refine ae ?_|refine a6 ?_|refine aq ?_|refine aO ?_|refine a7 ?_|refine au ?_|refine ay ?_|refine av ?_|refine a8 ?_|refine aa a2 rfl rfl ?_)
  refine aA rfl rfl ⟨⟨-1, rfl, ?_⟩, rfl⟩
  rw [ha]
  exact ⟨fun h => absurd h (by decide), fun h => by cases h⟩
theorem x6 (l : List (List Int)) : bQ Tryz.prog 103 [.imm 1 (bv l), .sc (.func (.func 102) #[] #[])] (cO (iQ l)) := by
 refine aQ Tryz.func103 rfl Tryz.ntmps103 rfl fun B => ?_
 repeat' (first|refine ae ?_|refine a6 ?_|refine a7 ?_|refine a8 ?_|refine aa a2 rfl rfl ?_)
 refine bb [] [] (DI (u := .sc (.func (.func 102) #[] #[])) (g := 102) (caps := []) rfl l (fun q => decide (q.length = 0)) [] fun q => yS q) rfl rfl (bT rfl) rfl fun c L1 ⟨⟨z, hc, hz⟩, hL⟩ => ?_
 subst hc; subst hL
 rw [List.append_nil]
 repeat' (first|refine aq ?_|refine a7 ?_|refine a8 ?_|refine aa a2 rfl rfl ?_)
 refine aA rfl rfl ?_
 refine congrArg (fun b => cO b) ?_
 unfold iQ
 rw [Bool.eq_iff_iff, decide_eq_true_eq]
 exact hz
set_option maxHeartbeats 4000000 in
theorem C3 (f : aI) (mg ml : Nat) (G K : List Int) (hG : co f.Glyphs.length G) (l : ba) (r : bX) (hr : r.In ≠ []) (ho : r.Out.length ≤ 1000000) : AC Tryz.prog 104 [aM l.Kind, .agg (bD r), sU f mg ml l] (kL mg ml G K) fun c L => c = .imm 1 (aT (fK f G l r)) ∧ L = kL mg ml G K := by
 refine aQ Tryz.func104 rfl Tryz.ntmps104 rfl fun B => ?_
 have hol := aR r.Out
 obtain ⟨q, qs, hq⟩ : ∃ q qs, r.In = q :: qs := by cases h : r.In with | nil => exact absurd h hr | cons q qs => exact ⟨q, qs, rfl⟩
 have hq0 : (bv r.In)[0]? = some [.imm 1 (aT q)] := by rw [hq]; rfl
 have hh : r.In.headD [] = q := by rw [hq]; rfl
 have hqle := aR q
 have hseen : ∀ z, AC Tryz.prog 98 ([aM z] ++ [.iptr (cK f mg ml), .iptr (bj l)]) (kL mg ml G K) fun c L => (∃ y b, c = .tup [aM y, cO b] ∧ dX f G l.Ignore z = if b = true then some y else none) ∧ L = kL mg ml G K := fun z => tQ f mg ml G K hG l z
 repeat' (first|refine ae ?_|refine a6 ?_|refine a7 ?_|refine a8 ?_|refine aa a2 rfl rfl ?_|refine bg ?_|fail)
 refine dq (t := 17) [2, 4] (¬ (l.Kind = 1 ∨ l.Kind = 5)) rfl (fun Q' K' => ?_) ?_
 ·repeat' (first|refine a8 ?_|refine aa a2 rfl rfl ?_|refine aF rfl rfl ?_|refine aL rfl rfl rfl rfl ?_|refine bf rfl rfl rfl (fun _ => ?_) (fun _ => ?_))
  all_goals exact K' _ _ rfl rfl (by clear K'; simp_all <;> omega)
 repeat' (first|refine a7 ?_)
 refine aw rfl (fun h1 => ?_) (fun h1 => ?_)
 ·have h1 := Gz h1
  have hco : fK f G l r = r.Out := by unfold fK; rw [if_neg h1]
  rw [hco]
  repeat' (first|refine ae ?_|refine a6 ?_|refine aq ?_|refine a7 ?_|refine aE ?_|refine a8 ?_|refine aa a2 rfl rfl ?_)
  exact aA rfl rfl ⟨rfl, rfl⟩
 have h1 : l.Kind = 1 ∨ l.Kind = 5 := Decidable.byContradiction (Gy h1)
 have hco : fK f G l r = ((r.Out.zip q).filter fun x => (dX f G l.Ignore x.2).isSome).map (·.1) := by unfold fK; rw [if_pos h1, hh]
 repeat' (first|refine ae ?_|refine a6 ?_|refine ar ?_|refine a7 ?_|refine a8 ?_|refine aa a2 rfl rfl ?_)
 refine bt 14 [(0, .v), (1, .v), (2, .v), (3, .v), (4, .v), (5, .v), (6, .v), (7, .v), (8, .v), (9, .v), (10, .v), (11, .v), (12, .v), (13, .v)] none ?_ trivial rfl (by kernel_rfl) (by kernel_rfl) (by kernel_rfl) mixed (by kernel_rfl) rfl
 repeat' (first|refine aC ?_|refine aZ a2 ?_|(apply ca;refine ck a2 ?_)|fail)
 refine rp a2 (min r.Out.length q.length) rfl rfl rfl rfl rfl (by rw [hol, hqle]; omega) (by rw [hol]; omega) trivial ?_
 repeat' (first|refine aC ?_|refine aZ a2 ?_|fail)
 refine bq [2, 4, 7, 31, 32, 33] rfl rfl ?_
 repeat' (first|refine ak ?_|refine a7 ?_|refine a8 ?_)
 have hm : ((aT r.Out).take (min r.Out.length q.length)).length = min r.Out.length q.length := by rw [List.length_take, hol]; omega
 refine bI (bi (t := 7) (c' := .vec none 1 []) rfl fun σ v h => cy 1 h) ?_
 refine aJ [2, 4, 31, 32] (α := Nat × Option (Nat × Nat)) (fun x => [(33, aM x.1), (7, .vec x.2 1 (aT ((((r.Out.zip q).take x.1).filter fun y => (dX f G l.Ignore y.2).isSome).map (·.1))))]) (fun x => x.1 ≤ min r.Out.length q.length) (fun x => tok x.2 3 1 (aT ((((r.Out.zip q).take x.1).filter fun y => (dX f G l.Ignore y.2).isSome).map (·.1))).length ++ kL mg ml G K) (fun x => min r.Out.length q.length - x.1) (0, none) rfl ⟨rfl, rfl, trivial⟩ (Nat.zero_le _) (fun _ _ h => h) ?_
 rintro ⟨i, k1⟩ hi
 dsimp only at hi ⊢
 have hfl : (aT ((((r.Out.zip q).take i).filter fun y => (dX f G l.Ignore y.2).isSome).map (·.1))).length ≤ i := by
  rw [aR, Gu]
  exact Nat.le_trans (List.length_filter_le ..) (by rw [List.length_take]; omega)
 try dsimp only [Gr, Gq, Gp, Gj]
 repeat' (first|refine ae ?_|refine a6 ?_|refine a7 ?_|refine a8 ?_|refine aa a2 rfl rfl ?_)
 refine aw rfl (fun e => ?_) (fun e => ?_)
 ·have hil : i < min r.Out.length q.length := by have := Gz e; rw [hm] at this; omega
  obtain ⟨o, hoo⟩ : ∃ z, r.Out[i]? = some z := ⟨_, Ee (by omega)⟩
  obtain ⟨z, hz⟩ : ∃ z, q[i]? = some z := ⟨_, Ee (by omega)⟩
  have hog : ((aT r.Out).take (min r.Out.length q.length))[i]? = some [aM o] := by rw [List.getElem?_take, if_pos hil]; exact bW hoo
  have hzg := bW hz
  have hzt := qd hoo hz
  clear e
  repeat' (first|refine ae ?_|refine a6 ?_|refine ak ?_|refine ar ?_|refine a7 ?_|refine a8 ?_|refine aa a2 rfl rfl ?_|(apply aX; first|refine aW a2 ?_|refine aP a2 ?_)|fail)
  refine dh (kL mg ml G K) (tok k1 3 1 (aT ((((r.Out.zip q).take i).filter fun y => (dX f G l.Ignore y.2).isSome).map (·.1))).length) (hseen z) rfl rfl rfl List.perm_append_comm rfl rfl fun c L1 ⟨⟨y, b, hc, hb⟩, hL⟩ => ?_
  subst hc; subst hL
  refine aN (aK List.perm_append_comm) ?_
  cases b with
  | true =>
   rw [if_pos rfl] at hb
   repeat' (first|refine ae ?_|refine a6 ?_|refine a7 ?_|refine a8 ?_|refine aa a2 rfl rfl ?_|refine bG a2 ?_|refine bS rfl ?_)
   refine bE a2 (kL mg ml G K) rfl rfl rfl rfl (Gm _) (by simp; omega) (by simp; omega) rfl fun k' => ?_
   repeat' (first|refine a6 ?_|refine a7 ?_|refine aH ?_|refine a8 ?_|refine aa a2 rfl rfl ?_|(apply aV; refine aU ?_)|fail)
   have hap : aT ((((r.Out.zip q).take i).filter fun y => (dX f G l.Ignore y.2).isSome).map (·.1)) ++ [[aM o]] = aT ((((r.Out.zip q).take (i + 1)).filter fun y => (dX f G l.Ignore y.2).isSome).map (·.1)) := by
    rw [hzt, List.filter_append, List.map_append]
    simp [aT, hb]
   exact aB (i + 1, k') rfl ⟨by rw [Gw]; rfl, by rw [← hap]; rfl, trivial⟩ (by dsimp only; omega) (by dsimp only; omega) (fun _ _ h => by dsimp only; rw [← hap]; exact h)
  | false =>
   rw [if_neg (by decide)] at hb
   have hap : ((r.Out.zip q).take (i + 1)).filter (fun y => (dX f G l.Ignore y.2).isSome) = ((r.Out.zip q).take i).filter (fun y => (dX f G l.Ignore y.2).isSome) := by
    rw [hzt, List.filter_append]
    simp [hb]
   repeat' (first|refine ae ?_|refine a6 ?_|refine ar ?_|refine a7 ?_|refine aH ?_|refine a8 ?_|refine aa a2 rfl rfl ?_|(apply aV; refine aU ?_)|refine bN rfl ?_)
   exact aB (i + 1, k1) rfl ⟨by rw [Gw]; rfl, by rw [hap]; rfl, trivial⟩ (by dsimp only; omega) (by dsimp only; omega) (fun _ _ h => by dsimp only; rw [hap]; exact h)
 have hil : i = min r.Out.length q.length := by have := Gy e; rw [hm] at this; omega
 subst hil
 have htz : (r.Out.zip q).take (min r.Out.length q.length) = r.Out.zip q := List.take_of_length_le (by rw [List.length_zip]; exact Nat.le_refl _)
 rw [htz]
 repeat' (first|refine ae ?_|refine a6 ?_|refine aq ?_|refine aO ?_|refine a7 ?_|refine au ?_|refine ay ?_|refine av ?_|refine a8 ?_|refine aa a2 rfl rfl ?_)
 refine be (bi (t := 6) (c' := .imm 1 (aT (fK f G l r))) rfl fun σ v h => by rw [hco]; exact VR.im h) ?_
 refine cY (List.sublist_append_right ..) ?_
 exact aA rfl rfl ⟨rfl, rfl⟩
theorem yD (f : aI) (mg ml : Nat) (G K : List Int) (c : fT) : AC Tryz.prog 106 [.agg (dD c), .iptr (cK f mg ml)] (kL mg ml G K) fun r L => (∃ y b, r = .tup [.agg (dD y), cO b] ∧ kF K c = if b = true then some y else none) ∧ L = kL mg ml G K := by
 refine aQ Tryz.func106 rfl Tryz.ntmps106 rfl fun B => ?_
 repeat' (first|refine ae ?_|refine a6 ?_|refine a7 ?_|refine a8 ?_|refine aa a2 rfl rfl ?_|refine bg ?_|refine b7 a2 fun _=>?_|fail)
 rename_i b
 refine bb (kL mg ml G K) [(b, _)] (mf f mg ml G K c.Lookup) rfl rfl (List.perm_append_singleton _ _).symm rfl fun r L1 ⟨hc, hL⟩ => ?_
 subst hc; subst hL
 repeat' (first|refine ae ?_|refine a6 ?_|refine aq ?_|refine a7 ?_|refine a8 ?_|refine aa a2 rfl rfl ?_|(apply aG; first|refine ai a2 0 rfl rfl rfl rfl rfl rfl rfl ?_|refine ai a2 1 rfl rfl rfl rfl rfl rfl rfl ?_|refine ai a2 2 rfl rfl rfl rfl rfl rfl rfl ?_|refine ai a2 3 rfl rfl rfl rfl rfl rfl rfl ?_|fail))
 refine eP (cs := [.agg (dD { c with Lookup := (eG K c.Lookup).getD 0 }), cO (eG K c.Lookup).isSome]) (kL mg ml G K) ⟨⟨_, 2, _, _, rfl, rfl, .inr ⟨dm a2 rfl, rfl⟩⟩, rfl, trivial⟩ (List.sublist_append_left ..) ⟨⟨{ c with Lookup := (eG K c.Lookup).getD 0 }, _, rfl, ?_⟩, rfl⟩
 unfold kF
 cases eG K c.Lookup <;> rfl
structure vv (r : bX) : Prop where
 back : r.Back.length ≤ 1000000 ∧ ∀ q ∈ r.Back, q.length ≤ 1000000
 ins : r.In.length ≤ 1000000 ∧ ∀ q ∈ r.In, q.length ≤ 1000000
 ahead : r.Ahead.length ≤ 1000000 ∧ ∀ q ∈ r.Ahead, q.length ≤ 1000000
 out : r.Out.length ≤ 1000000
 calls : r.Calls.length ≤ 1000000
set_option maxHeartbeats 8000000 in
theorem Ai (f : aI) (mg ml : Nat) (G K : List Int) (hG : co f.Glyphs.length G) (l : ba) (r : bX) (hr : vv r) : AC Tryz.prog 77 [.agg (cK f mg ml), .agg (bj l), .agg (bD r)] (kL mg ml G K) fun c L => (∃ y b, c = .tup [.agg (bD y), cO b] ∧ fX f G K l r = if b = true then some y else none) ∧ L = kL mg ml G K := by
 refine aQ Tryz.func77 rfl Tryz.ntmps77 rfl fun B => ?_
 have s1 := pM f mg ml G K hG l r.Back hr.back.1 hr.back.2
 have s2 := pM f mg ml G K hG l r.In hr.ins.1 hr.ins.2
 have s3 := pM f mg ml G K hG l r.Ahead hr.ahead.1 hr.ahead.2
 repeat' (first|refine ae ?_|refine a6 ?_|refine a7 ?_|refine a8 ?_|refine aa a2 rfl rfl ?_|(apply aG; first|refine ah 8 a2 0 rfl rfl rfl rfl rfl rfl rfl rfl ?_|refine ah 8 a2 1 rfl rfl rfl rfl rfl rfl rfl rfl ?_|refine ah 8 a2 2 rfl rfl rfl rfl rfl rfl rfl rfl ?_|refine ai a2 0 rfl rfl rfl rfl rfl rfl rfl ?_|refine ai a2 1 rfl rfl rfl rfl rfl rfl rfl ?_|refine ai a2 2 rfl rfl rfl rfl rfl rfl rfl ?_|refine ai a2 3 rfl rfl rfl rfl rfl rfl rfl ?_|fail)|refine bg ?_|refine b7 a2 fun _=>?_|fail)
 rename_i b b8
 refine bt 16 [(0, .v), (1, .v), (2, .v), (4, .v), (5, .v), (6, .v), (8, .v), (9, .v), (10, .v), (12, .v), (13, .v), (3, .e), (7, .e), (11, .e), (14, .v)] (some (15, .box _ 81)) ?_ ⟨_, rfl, rfl, fun _ _ _ => ii (f9 a2 rfl) rfl⟩ rfl (by kernel_rfl) (by kernel_rfl) (by kernel_rfl) mixed (by kernel_rfl) rfl
 repeat' (first|refine aC ?_|refine aZ a2 ?_|fail)
 refine ro (kL mg ml G K) [(b, _)] (.fn s1) rfl rfl (List.perm_append_singleton _ _).symm (by first | trivial | rfl) fun c L1 ⟨hc, hL⟩ => ?_
 subst hc; subst hL
 repeat' (first|refine aC ?_|fail)
 refine ro (kL mg ml G K) [(b, _)] (.fn s2) rfl rfl (Gm _) (by first | trivial | rfl) fun c L1 ⟨hc, hL⟩ => ?_
 subst hc; subst hL
 repeat' (first|refine aC ?_|fail)
 refine ro (kL mg ml G K) [(b, _)] (.fn s3) rfl rfl (Gm _) (by first | trivial | rfl) fun c L1 ⟨hc, hL⟩ => ?_
 subst hc; subst hL
 repeat' (first|refine aC ?_|refine aZ a2 ?_|fail)
 refine lQ [3, 4, 5, 6, 8, 10, 30] (fun _ => _) (fun _ => rfl) rfl fun _ => ?_
 repeat' (first|refine ae ?_|refine a6 ?_|refine ak ?_|refine a7 ?_|refine a8 ?_|refine aa a2 rfl rfl ?_|(apply bK; first|refine aj a2 0 rfl rfl rfl rfl rfl ?_|refine aj a2 1 rfl rfl rfl rfl rfl ?_|refine aj a2 2 rfl rfl rfl rfl rfl ?_|refine aj a2 3 rfl rfl rfl rfl rfl ?_|refine aD a2 0 rfl rfl rfl rfl rfl ?_|refine aD a2 1 rfl rfl rfl rfl rfl ?_|refine aD a2 2 rfl rfl rfl rfl rfl ?_|refine aj a2 1 rfl rfl rfl (by assumption) rfl ?_|refine aj a2 0 rfl rfl rfl (by assumption) rfl ?_|fail)|(apply aG; first|refine ah 8 a2 0 rfl rfl rfl rfl rfl rfl rfl rfl ?_|refine ah 8 a2 1 rfl rfl rfl rfl rfl rfl rfl rfl ?_|refine ah 8 a2 2 rfl rfl rfl rfl rfl rfl rfl rfl ?_|refine ai a2 0 rfl rfl rfl rfl rfl rfl rfl ?_|refine ai a2 1 rfl rfl rfl rfl rfl rfl rfl ?_|refine ai a2 2 rfl rfl rfl rfl rfl rfl rfl ?_|refine ai a2 3 rfl rfl rfl rfl rfl rfl rfl ?_|fail))
 rename_i bm
 have hrow : ∀ i : Nat, i < 3 → ∃ R : List (List Int), [AV.imm 1 (bv (cZ f G l.Ignore r.Back)), .imm 1 (bv (cZ f G l.Ignore r.In)), .imm 1 (bv (cZ f G l.Ignore r.Ahead))][i]? = some (.imm 1 (bv R)) ∧ R = [cZ f G l.Ignore r.Back, cZ f G l.Ignore r.In, cZ f G l.Ignore r.Ahead].getD i [] := fun i hi => by
  rcases i with _ | _ | _ | i
  ·exact ⟨_, rfl, rfl⟩
  ·exact ⟨_, rfl, rfl⟩
  ·exact ⟨_, rfl, rfl⟩
  ·omega
 have hnl := x6
 have hI : (cZ f G l.Ignore r.In).length = r.In.length := Gu ..
 refine aJ [3, 4, 5, 6, 8, 10, 11, 37] (α := Nat) (fun i => [(38, aM i)]) (fun i => i ≤ 3 ∧ ∀ j < i, iQ ([cZ f G l.Ignore r.Back, cZ f G l.Ignore r.In, cZ f G l.Ignore r.Ahead].getD j []) = false) (fun _ => _) (fun i => 3 - i) 0 rfl ⟨rfl, trivial⟩ ⟨by omega, fun j hj => by omega⟩ (fun _ _ h => h) ?_
 rintro i ⟨hi, ha⟩
 try dsimp only [Gr, Gq, Gp, Gj]
 repeat' (first|refine ae ?_|refine a6 ?_|refine a7 ?_|refine a8 ?_|refine aa a2 rfl rfl ?_)
 refine aw rfl (fun e => ?_) (fun e => ?_)
 ·have hil : i < 3 := by have := Gz e; omega
  obtain ⟨R, hR, hRe⟩ := hrow i hil
  repeat' (first|refine ae ?_|refine a6 ?_|refine ak ?_|refine ar ?_|refine a7 ?_)
  refine DQ a2 i rfl rfl rfl rfl rfl hil hR rfl ?_
  repeat' (first|refine ae ?_|refine a6 ?_|refine a7 ?_|refine a8 ?_|refine aa a2 rfl rfl ?_)
  haveI : AD Tryz.prog 103 [.imm 1 (bv R), .sc (.func (.func 102) #[] #[])] (cO (iQ R)) := ⟨hnl R⟩
  repeat' (first|refine a7 ?_|refine a8 ?_|(apply bh;refine bc ?_)|fail)
  refine aw rfl (fun e2 => ?_) (fun e2 => ?_)
  ·repeat' (first|refine ae ?_|refine a6 ?_|refine aq ?_|refine a7 ?_|refine aE ?_|refine aS ?_|refine bJ ?_|refine a8 ?_|refine aa a2 rfl rfl ?_|(apply aG; first|refine ai a2 0 rfl rfl rfl rfl rfl rfl rfl ?_|refine ai a2 1 rfl rfl rfl rfl rfl rfl rfl ?_|refine ai a2 2 rfl rfl rfl rfl rfl rfl rfl ?_|refine ai a2 3 rfl rfl rfl rfl rfl rfl rfl ?_|fail))
   have hnone : fX f G K l r = none := by
    unfold fX
    rw [if_pos]
    refine .inl ?_
    rw [hRe] at e2
    rcases i with _ | _ | _ | i
    ·exact .inl e2
    ·exact .inr (.inl e2)
    ·exact .inr (.inr e2)
    ·omega
   refine be (br 2 (cs' := bD ⟨[], [], [], [], [], 0⟩) rfl fun σ vs h => nD.vrs (a := [.sc (.slice none 0 0), .sc (.slice none 0 0), .sc (.slice none 0 0), .sc (.slice none 0 0), .sc (.slice none 0 0), aM 0]) (b := bD ⟨[], [], [], [], [], 0⟩) ⟨eb.nil 1, eb.nil 1, eb.nil 1, eb.nil 1, eb.nil 2, eb.refl _, trivial⟩ h) ?_
   exact eP (cs := [.agg (bD ⟨[], [], [], [], [], 0⟩), cO false]) (kL mg ml G K) ⟨⟨_, 2, _, _, rfl, rfl, .inr ⟨dm a2 rfl, rfl⟩⟩, rfl, trivial⟩ (List.sublist_append_left (kL mg ml G K) [_, _]) ⟨⟨_, false, rfl, hnone⟩, rfl⟩
  repeat' (first|refine a6 ?_|refine ar ?_|refine a7 ?_|refine aH ?_|refine a8 ?_|refine aa a2 rfl rfl ?_|(apply aV; refine aU ?_)|fail)
  exact aB (i + 1) rfl ⟨by rw [Gw]; rfl, trivial⟩ ⟨by omega, fun j hj => by
   by_cases hji : j < i
   ·exact ha j hji
   ·have : j = i := by omega
    subst this
    rw [← hRe]; exact e2⟩ (by omega) (fun _ _ h => h)
 have hil : i = 3 := by have := Gy e; omega
 subst hil
 have n1 : iQ (cZ f G l.Ignore r.Back) = false := ha 0 (by omega)
 have n2 : iQ (cZ f G l.Ignore r.In) = false := ha 1 (by omega)
 have n3 : iQ (cZ f G l.Ignore r.Ahead) = false := ha 2 (by omega)
 clear ha hi e
 have hIr : (bv (cZ f G l.Ignore r.In)).length = r.In.length := by unfold bv; rw [Gu, hI]
 repeat' (first|refine ae ?_|refine a6 ?_|refine aO ?_|refine a7 ?_|refine au ?_|refine ay ?_|refine av ?_|refine a8 ?_|refine aa a2 rfl rfl ?_|(apply bK; first|refine aj a2 0 rfl rfl rfl rfl rfl ?_|refine aj a2 1 rfl rfl rfl rfl rfl ?_|refine aj a2 2 rfl rfl rfl rfl rfl ?_|refine aj a2 3 rfl rfl rfl rfl rfl ?_|refine aD a2 0 rfl rfl rfl rfl rfl ?_|refine aD a2 1 rfl rfl rfl rfl rfl ?_|refine aD a2 2 rfl rfl rfl rfl rfl ?_|refine aj a2 1 rfl rfl rfl (by assumption) rfl ?_|refine aj a2 0 rfl rfl rfl (by assumption) rfl ?_|fail)|fail)
 refine aw rfl (fun e => ?_) (fun e => ?_)
 ·repeat' (first|refine ae ?_|refine a6 ?_|refine aq ?_|refine a7 ?_|refine aE ?_|refine a8 ?_|refine aa a2 rfl rfl ?_|(apply aG; first|refine ai a2 0 rfl rfl rfl rfl rfl rfl rfl ?_|refine ai a2 1 rfl rfl rfl rfl rfl rfl rfl ?_|refine ai a2 2 rfl rfl rfl rfl rfl rfl rfl ?_|refine ai a2 3 rfl rfl rfl rfl rfl rfl rfl ?_|fail))
  have hnone : fX f G K l r = none := by
   unfold fX
   rw [if_pos]
   refine .inr ?_
   have := Gz e
   rw [hIr] at this
   exact List.length_eq_zero_iff.1 (by omega)
  refine be (br 2 (cs' := bD ⟨[], [], [], [], [], 0⟩) rfl fun σ vs h => nD.vrs (a := [.sc (.slice none 0 0), .sc (.slice none 0 0), .sc (.slice none 0 0), .sc (.slice none 0 0), .sc (.slice none 0 0), aM 0]) (b := bD ⟨[], [], [], [], [], 0⟩) ⟨eb.nil 1, eb.nil 1, eb.nil 1, eb.nil 1, eb.nil 2, eb.refl _, trivial⟩ h) ?_
  exact eP (cs := [.agg (bD ⟨[], [], [], [], [], 0⟩), cO false]) (kL mg ml G K) ⟨⟨_, 2, _, _, rfl, rfl, .inr ⟨dm a2 rfl, rfl⟩⟩, rfl, trivial⟩ (List.sublist_append_left (kL mg ml G K) [_, _]) ⟨⟨_, false, rfl, hnone⟩, rfl⟩
 have hin : r.In ≠ [] := fun e0 => by
  have := Gy e
  rw [hIr, e0] at this
  exact this rfl
 clear e
 repeat' (first|refine ae ?_|refine ar ?_|refine a7 ?_)
 have ho := C3 f mg ml G K hG l r hin hr.out
 have hol : (fK f G l r).length ≤ 1000000 := by
  unfold fK
  split
  ·rw [Gu]
   refine Nat.le_trans (List.length_filter_le ..) ?_
   rw [List.length_zip]
   have := hr.out
   omega
  ·exact hr.out
 have hg8 := ux (u := .fnB 70 [.agg (cK f mg ml)] []) rfl (fK f G l r) hol (eG G) (kL mg ml G K) fun z _ => .fnB ((iJ f mg ml G K z).mono fun c L ⟨h1, h2⟩ => ⟨⟨(eG G z).getD 0, (eG G z).isSome, h1, by cases eG G z <;> rfl⟩, h2⟩)
 have hcl := Br (u := .fn 106 [.iptr (cK f mg ml)]) rfl r.Calls hr.calls (kF K) (kL mg ml G K) fun c _ => .fn (yD f mg ml G K c)
 refine bt 7 [(0, .v), (1, .v), (2, .v), (3, .v), (5, .v), (6, .v), (4, .e)] none ?_ trivial rfl (by kernel_rfl) (by kernel_rfl) (by kernel_rfl) mixed (by kernel_rfl) rfl
 repeat' (first|refine aC ?_|refine aZ a2 ?_|fail)
 refine f7 (kL mg ml G K) [(b, _), (bm, _)] ho rfl rfl (Gm _) (by first | trivial | rfl) fun c L1 ⟨hc, hL⟩ => ?_
 subst hc; subst hL
 repeat' (first|fail)
 refine bq [3, 5, 6, 10, 55, 57] rfl rfl ?_
 repeat' (first|fail)
 refine bb (kL mg ml G K) [(b, _), (bm, _)] hg8 rfl rfl (Gm _) rfl fun c L1 ⟨hc, hL⟩ => ?_
 subst hc; subst hL
 repeat' (first|refine ae ?_|refine a6 ?_|refine a7 ?_|refine a8 ?_|refine aa a2 rfl rfl ?_|(apply aG; first|refine ai a2 0 rfl rfl rfl rfl rfl rfl rfl ?_|refine ai a2 1 rfl rfl rfl rfl rfl rfl rfl ?_|refine ai a2 2 rfl rfl rfl rfl rfl rfl rfl ?_|refine ai a2 3 rfl rfl rfl rfl rfl rfl rfl ?_|fail))
 refine bb (kL mg ml G K) [(b, _), (bm, _)] hcl rfl rfl (Gm _) rfl fun c L1 ⟨hc, hL⟩ => ?_
 subst hc; subst hL
 repeat' (first|refine ae ?_|refine a6 ?_|refine a7 ?_|refine a8 ?_|refine aa a2 rfl rfl ?_|(apply aG; first|refine ai a2 0 rfl rfl rfl rfl rfl rfl rfl ?_|refine ai a2 1 rfl rfl rfl rfl rfl rfl rfl ?_|refine ai a2 2 rfl rfl rfl rfl rfl rfl rfl ?_|refine ai a2 3 rfl rfl rfl rfl rfl rfl rfl ?_|fail))
 refine aD a2 3 rfl rfl rfl rfl rfl ?_
 repeat' (first|refine aq ?_|refine a7 ?_|refine a8 ?_|refine aa a2 rfl rfl ?_|(apply aG; first|refine ai a2 0 rfl rfl rfl rfl rfl rfl rfl ?_|refine ai a2 1 rfl rfl rfl rfl rfl rfl rfl ?_|refine ai a2 2 rfl rfl rfl rfl rfl rfl rfl ?_|refine ai a2 3 rfl rfl rfl rfl rfl rfl rfl ?_|fail))
 refine eP (cs := [.agg (bD { Back := cZ f G l.Ignore r.Back, In := cZ f G l.Ignore r.In, Ahead := cZ f G l.Ignore r.Ahead, Out := (fK f G l r).filterMap (eG G), Calls := r.Calls.filterMap (kF K), X := r.X }), cO true]) (kL mg ml G K) ⟨⟨_, 2, _, _, rfl, rfl, .inr ⟨dm a2 rfl, rfl⟩⟩, rfl, trivial⟩ (List.sublist_append_left (kL mg ml G K) [_, _]) ⟨⟨_, true, rfl, ?_⟩, rfl⟩
 unfold fX
 rw [if_neg, if_pos rfl]
 rw [n1, n2, n3]
 simp [hin]
theorem Ae (f : aI) (mg ml : Nat) (G K : List Int) (hG : co f.Glyphs.length G) (l : ba) (r : bX) (hr : vv r) : AC Tryz.prog 76 [.agg (bD r), .iptr (cK f mg ml), .iptr (bj l)] (kL mg ml G K) fun c L => (∃ y b, c = .tup [.agg (bD y), cO b] ∧ fX f G K l r = if b = true then some y else none) ∧ L = kL mg ml G K := by
 refine aQ Tryz.func76 rfl Tryz.ntmps76 rfl fun B => ?_
 repeat' (first|refine ae ?_|refine a6 ?_|refine a7 ?_|refine a8 ?_|refine aa a2 rfl rfl ?_|refine bg ?_|refine b7 a2 fun _=>?_|fail)
 rename_i b
 refine bb (kL mg ml G K) [(b, _)] (Ai f mg ml G K hG l r hr) rfl rfl (List.perm_append_singleton _ _).symm rfl fun c L1 ⟨⟨y, b2, hc, hb⟩, hL⟩ => ?_
 subst hc; subst hL
 repeat' (first|refine aq ?_|refine a7 ?_|refine a8 ?_|refine aa a2 rfl rfl ?_|(apply aG; first|refine ai a2 0 rfl rfl rfl rfl rfl rfl rfl ?_|refine ai a2 1 rfl rfl rfl rfl rfl rfl rfl ?_|refine ai a2 2 rfl rfl rfl rfl rfl rfl rfl ?_|refine ai a2 3 rfl rfl rfl rfl rfl rfl rfl ?_|fail))
 exact eP (cs := [.agg (bD y), cO b2]) (kL mg ml G K) ⟨⟨_, 2, _, _, rfl, rfl, .inr ⟨dm a2 rfl, rfl⟩⟩, rfl, trivial⟩ (List.sublist_append_left (kL mg ml G K) [_]) ⟨⟨y, b2, rfl, hb⟩, rfl⟩
structure Em (l : ba) : Prop where
 rules : l.Rules.length ≤ 1000000
 rule : ∀ r ∈ l.Rules, vv r
theorem BY (f : aI) (mg ml : Nat) (G K : List Int) (hG : co f.Glyphs.length G) (l : ba) (hl : Em l) : AC Tryz.prog 31 [.agg (cK f mg ml), .agg (bj l)] (kL mg ml G K) fun c L => c = .agg (bj (gr f G K l)) ∧ L = kL mg ml G K := by
 refine aQ Tryz.func31 rfl Tryz.ntmps31 rfl fun B => ?_
 have he := Dw (u := .fn 76 [.iptr (cK f mg ml), .iptr (bj l)]) rfl l.Rules hl.rules (fX f G K l) (kL mg ml G K) fun r hr => .fn (Ae f mg ml G K hG l r (hl.rule r hr))
 repeat' (first|refine ae ?_|refine a6 ?_|refine a7 ?_|refine a8 ?_|refine aa a2 rfl rfl ?_|refine bg ?_|refine b7 a2 fun _=>?_|fail)
 rename_i b
 refine bb (kL mg ml G K) [(b, _)] he rfl rfl (List.perm_append_singleton _ _).symm rfl fun c L1 ⟨hc, hL⟩ => ?_
 subst hc; subst hL
 repeat' (first|refine ae ?_|refine a6 ?_|refine aq ?_|refine a7 ?_|refine a8 ?_|refine aa a2 rfl rfl ?_|(apply aG; first|refine ai a2 0 rfl rfl rfl rfl rfl rfl rfl ?_|refine ai a2 1 rfl rfl rfl rfl rfl rfl rfl ?_|refine ai a2 2 rfl rfl rfl rfl rfl rfl rfl ?_|refine ai a2 3 rfl rfl rfl rfl rfl rfl rfl ?_|fail))
 exact eP (cs := [.agg (bj (gr f G K l))]) (kL mg ml G K) ⟨⟨_, 2, _, _, rfl, rfl, .inr ⟨dm a2 rfl, rfl⟩⟩, trivial⟩ (List.sublist_append_left (kL mg ml G K) [_]) ⟨rfl, rfl⟩
end Go.Proofs.YtjjpkibjffmceaaGreat
namespace Go.Proofs.YtjjpkibjffmceaaGreat
open Go.RowKit
attribute [local irreducible] AT bV AX AO Av Kt bC eH DA dl
def nM (m : Nat) : ByteArray := ⟨#[UInt8.ofNat (48 + m)]⟩
def ld (m : Nat) : ByteArray := if m < 10 then nM m else ld (m / 10) ++ nM (m % 10)
termination_by m
decreasing_by omega
def iO : ByteArray := ⟨#[32]⟩
def uW : ByteArray := ⟨#[45]⟩
def cj (z : Int) : ByteArray := if z < 0 then uW ++ ld z.natAbs ++ iO else ld z.natAbs ++ iO
theorem lc (m : Nat) : (nM m).size = 1 := rfl
theorem qG : ∀ (k m : Nat), m < 10 ^ k → (ld m).size ≤ max k 1
 | 0, m, h => by
  have : m = 0 := by simpa using h
  subst this
  rw [ld, if_pos (by decide)]
  exact Nat.le_refl 1
 | k + 1, m, h => by
  rw [ld]
  split
  ·rw [lc]; omega
  ·rw [Gv, lc]
   have := qG k (m / 10) (by rw [Nat.pow_succ] at h; omega)
   by_cases hk : k = 0
   ·subst hk; omega
   ·omega
def NB (z : Int) : Prop := -999999999 ≤ z ∧ z ≤ 999999999
theorem yR {m : Nat} (h : m ≤ 999999999) : (ld m).size ≤ 9 := qG 9 m (by omega)
theorem aY {z : Int} (h : NB z) : (cj z).size ≤ 11 := by
 have := yR (m := z.natAbs) (by have := h.1; have := h.2; omega)
 unfold cj
 split <;> simp only [Gv, show uW.size = 1 from rfl, show iO.size = 1 from rfl] <;> omega
section
variable {α : Type} {st : ByteArray → α → ByteArray} {s : ByteArray} {l : List α} {k i : Nat} {x : α}
theorem dp (h : l[i]? = some x) : (l.take (i + 1)).foldl st s = st ((l.take i).foldl st s) x := by
 rw [List.take_add_one, h, Option.toList_some, List.foldl_append]
 rfl
theorem mX : ∀ {l : List α} {s : ByteArray}, (∀ s, ∀ x ∈ l, (st s x).size ≤ s.size + k) → (l.foldl st s).size ≤ s.size + l.length * k
 | [], s, _ => by simp
 | x :: r, s, h => by
  have h1 := mX (l := r) (s := st s x) fun s y hy => h s y (Gt _ hy)
  have h2 := h s x (List.mem_cons_self ..)
  rw [List.length_cons, Nat.succ_mul, List.foldl_cons]
  omega
theorem uB (i : Nat) (h : ∀ s, ∀ x ∈ l, (st s x).size ≤ s.size + k) : ((l.take i).foldl st s).size ≤ s.size + l.length * k := by
 have h1 := mX (st := st) (k := k) (l := l.take i) (s := s) fun s y hy => h s y (List.mem_of_mem_take hy)
 have h2 : (l.take i).length * k ≤ l.length * k := Nat.mul_le_mul_right _ (by rw [List.length_take]; omega)
 omega
theorem cS {n m : Nat} (h : ∀ s, ∀ x ∈ l, (st s x).size ≤ s.size + k) (hn : l.length ≤ n) (hs : s.size ≤ m) : (l.foldl st s).size ≤ m + n * k := by
 have h1 := mX (st := st) (k := k) (l := l) (s := s) h
 have h2 : l.length * k ≤ n * k := Nat.mul_le_mul_right _ hn
 omega
theorem cH {n m : Nat} (i : Nat) (h : ∀ s, ∀ x ∈ l, (st s x).size ≤ s.size + k) (hn : l.length ≤ n) (hs : s.size ≤ m) : ((l.take i).foldl st s).size ≤ m + n * k := by
 have h1 := uB (st := st) (k := k) (l := l) (s := s) i h
 have h2 : l.length * k ≤ n * k := Nat.mul_le_mul_right _ hn
 omega
end
def dO (n : Nat) : ByteArray := cj (n : Int)
theorem cx {n : Nat} (h : n ≤ 999999999) : (dO n).size ≤ 11 := aY ⟨by omega, by omega⟩
def sh (b : Bool) : ByteArray := if b then ⟨#[49, 32]⟩ else ⟨#[48, 32]⟩
theorem ib (b : Bool) : (sh b).size = 2 := by cases b <;> rfl
def r5 (s : ByteArray) (z : Int) : ByteArray := s ++ cj z
def of (l : List Int) : ByteArray := l.foldl r5 (dO l.length)
def yb (l : List Int) : Prop := l.length ≤ 16 ∧ ∀ z ∈ l, NB z
theorem pR {l : List Int} (h : ∀ z ∈ l, NB z) : ∀ s, ∀ z ∈ l, (r5 s z).size ≤ s.size + 11 := fun s z hz => by
 have := aY (h z hz)
 unfold r5
 rw [Gv]
 omega
theorem fB {l : List Int} (h : yb l) : (of l).size ≤ 187 := cS (n := 16) (m := 11) (pR h.2) h.1 (cx (by have := h.1; omega))
def nu (s : ByteArray) (q : List Int) : ByteArray := s ++ of q
def mw (l : List (List Int)) : ByteArray := l.foldl nu (dO l.length)
def oD (l : List (List Int)) : Prop := l.length ≤ 16 ∧ ∀ q ∈ l, yb q
theorem o5 {l : List (List Int)} (h : ∀ q ∈ l, yb q) : ∀ s, ∀ q ∈ l, (nu s q).size ≤ s.size + 187 := fun s q hq => by
 have := fB (h q hq)
 unfold nu
 rw [Gv]
 omega
theorem gx {l : List (List Int)} (h : oD l) : (mw l).size ≤ 3003 := cS (n := 16) (m := 11) (o5 h.2) h.1 (cx (by have := h.1; omega))
def nq (s : ByteArray) (x : ew) : ByteArray := s ++ cj x.Op ++ cj x.A
def qC (l : List ew) : ByteArray := l.foldl nq (dO l.length)
def Ed (l : List ew) : Prop := l.length ≤ 50 ∧ ∀ x ∈ l, NB x.Op ∧ NB x.A
theorem o4 {l : List ew} (h : ∀ x ∈ l, NB x.Op ∧ NB x.A) : ∀ s, ∀ x ∈ l, (nq s x).size ≤ s.size + 22 := fun s x hx => by
 have h1 := aY (h x hx).1
 have h2 := aY (h x hx).2
 unfold nq
 simp only [Gv]
 omega
theorem jy {l : List ew} (h : Ed l) : (qC l).size ≤ 1111 := cS (n := 50) (m := 11) (o4 h.2) h.1 (cx (by have := h.1; omega))
def stPoint (s : ByteArray) (p : eB) : ByteArray := s ++ cj p.X ++ cj p.Y ++ sh p.On
def stPart (s : ByteArray) (p : cR) : ByteArray := s ++ cj p.Glyph ++ cj p.X ++ cj p.Y
def stAnchor (s : ByteArray) (p : dH) : ByteArray := s ++ cj p.Kind ++ cj p.Class ++ cj p.X ++ cj p.Y
def stDelta (s : ByteArray) (p : dN) : ByteArray := s ++ cj p.Region ++ cj p.Point ++ cj p.X ++ cj p.Y
def BP (g : bo) : ByteArray := dO g.Name.size ++ g.Name ++ iO ++ cj g.Advance ++ sh g.Mark ++ dO g.Points.length
def BQ (g : bo) : ByteArray := g.Points.foldl stPoint (BP g) ++ of g.Ends ++ dO g.Parts.length
def BR (g : bo) : ByteArray := g.Parts.foldl stPart (BQ g) ++ dO g.Anchors.length
def CJ (g : bo) : ByteArray := g.Anchors.foldl stAnchor (BR g) ++ dO g.Deltas.length
def n4 (g : bo) : ByteArray := g.Deltas.foldl stDelta (CJ g) ++ qC g.Hint
structure sm (g : bo) : Prop where
 name : g.Name.size ≤ 50
 adv : NB g.Advance
 pts : g.Points.length ≤ 16 ∧ ∀ p ∈ g.Points, NB p.X ∧ NB p.Y
 ends : yb g.Ends
 parts : g.Parts.length ≤ 16 ∧ ∀ p ∈ g.Parts, NB p.Glyph ∧ NB p.X ∧ NB p.Y
 anchors : g.Anchors.length ≤ 16 ∧ ∀ p ∈ g.Anchors, NB p.Kind ∧ NB p.Class ∧ NB p.X ∧ NB p.Y
 deltas : g.Deltas.length ≤ 50 ∧ ∀ p ∈ g.Deltas, NB p.Region ∧ NB p.Point ∧ NB p.X ∧ NB p.Y
 hint : Ed g.Hint
section
variable {g : bo} (h : sm g)
include h
theorem sm.stPoint : ∀ s, ∀ p ∈ g.Points, (stPoint s p).size ≤ s.size + 24 := fun s p hp => by
 have h1 := aY (h.pts.2 p hp).1
 have h2 := aY (h.pts.2 p hp).2
 have h3 := ib p.On
 unfold Go.Proofs.YtjjpkibjffmceaaGreat.stPoint
 simp only [Gv]
 omega
theorem sm.stPart : ∀ s, ∀ p ∈ g.Parts, (stPart s p).size ≤ s.size + 33 := fun s p hp => by
 have h1 := aY (h.parts.2 p hp).1
 have h2 := aY (h.parts.2 p hp).2.1
 have h3 := aY (h.parts.2 p hp).2.2
 unfold Go.Proofs.YtjjpkibjffmceaaGreat.stPart
 simp only [Gv]
 omega
theorem sm.stAnchor : ∀ s, ∀ p ∈ g.Anchors, (stAnchor s p).size ≤ s.size + 44 := fun s p hp => by
 have h1 := aY (h.anchors.2 p hp).1
 have h2 := aY (h.anchors.2 p hp).2.1
 have h3 := aY (h.anchors.2 p hp).2.2.1
 have h4 := aY (h.anchors.2 p hp).2.2.2
 unfold Go.Proofs.YtjjpkibjffmceaaGreat.stAnchor
 simp only [Gv]
 omega
theorem sm.stDelta : ∀ s, ∀ p ∈ g.Deltas, (stDelta s p).size ≤ s.size + 44 := fun s p hp => by
 have h1 := aY (h.deltas.2 p hp).1
 have h2 := aY (h.deltas.2 p hp).2.1
 have h3 := aY (h.deltas.2 p hp).2.2.1
 have h4 := aY (h.deltas.2 p hp).2.2.2
 unfold Go.Proofs.YtjjpkibjffmceaaGreat.stDelta
 simp only [Gv]
 omega
theorem sm.s1 : (BP g).size ≤ 86 := by
 have h1 := cx (n := g.Name.size) (by have := h.name; omega)
 have h2 := aY h.adv
 have h3 := ib g.Mark
 have h4 := cx (n := g.Points.length) (by have := h.pts.1; omega)
 have h5 := h.name
 unfold BP
 simp only [Gv, show iO.size = 1 from rfl]
 omega
theorem sm.s2 : (BQ g).size ≤ 668 := by
 have h1 := cS (n := 16) (m := 86) h.stPoint h.pts.1 h.s1
 have h2 := fB h.ends
 have h3 := cx (n := g.Parts.length) (by have := h.parts.1; omega)
 unfold BQ
 simp only [Gv]
 omega
theorem sm.s3 : (BR g).size ≤ 1207 := by
 have h1 := cS (n := 16) (m := 668) h.stPart h.parts.1 h.s2
 have h3 := cx (n := g.Anchors.length) (by have := h.anchors.1; omega)
 unfold BR
 simp only [Gv]
 omega
theorem sm.s4 : (CJ g).size ≤ 1922 := by
 have h1 := cS (n := 16) (m := 1207) h.stAnchor h.anchors.1 h.s3
 have h3 := cx (n := g.Deltas.length) (by have := h.deltas.1; omega)
 unfold CJ
 simp only [Gv]
 omega
theorem sm.size : (n4 g).size ≤ 5233 := by
 have h1 := cS (n := 50) (m := 1922) h.stDelta h.deltas.1 h.s4
 have h3 := jy h.hint
 unfold n4
 simp only [Gv]
 omega
end
def stCall (s : ByteArray) (c : fT) : ByteArray := s ++ cj c.At ++ cj c.Lookup
def C9 (s : ByteArray) (r : bX) : ByteArray := s ++ mw r.Back ++ mw r.In ++ mw r.Ahead ++ of r.Out ++ dO r.Calls.length
def gW (s : ByteArray) (r : bX) : ByteArray := r.Calls.foldl stCall (C9 s r) ++ cj r.X
def xg (l : ba) : ByteArray := cj l.Kind ++ sh l.Ignore ++ dO l.Rules.length
def tp (l : ba) : ByteArray := l.Rules.foldl gW (xg l)
structure o8 (r : bX) : Prop where
 back : oD r.Back
 ins : oD r.In
 ahead : oD r.Ahead
 out : yb r.Out
 calls : r.Calls.length ≤ 16 ∧ ∀ c ∈ r.Calls, NB c.At ∧ NB c.Lookup
 x : NB r.X
structure AP (l : ba) : Prop where
 kind : NB l.Kind
 rules : l.Rules.length ≤ 4 ∧ ∀ r ∈ l.Rules, o8 r
theorem o8.stCall {r : bX} (h : o8 r) : ∀ s, ∀ c ∈ r.Calls, (stCall s c).size ≤ s.size + 22 := fun s c hc => by
 have h1 := aY (h.calls.2 c hc).1
 have h2 := aY (h.calls.2 c hc).2
 unfold Go.Proofs.YtjjpkibjffmceaaGreat.stCall
 simp only [Gv]
 omega
theorem o8.s1 {r : bX} (h : o8 r) (s : ByteArray) : (C9 s r).size ≤ s.size + 9207 := by
 have h1 := gx h.back
 have h2 := gx h.ins
 have h3 := gx h.ahead
 have h4 := fB h.out
 have h5 := cx (n := r.Calls.length) (by have := h.calls.1; omega)
 unfold C9
 simp only [Gv]
 omega
theorem o8.size {r : bX} (h : o8 r) (s : ByteArray) : (gW s r).size ≤ s.size + 9570 := by
 have h1 := cS (n := 16) (m := s.size + 9207) h.stCall h.calls.1 (h.s1 s)
 have h2 := aY h.x
 unfold gW
 simp only [Gv]
 omega
theorem AP.s1 {l : ba} (h : AP l) : (xg l).size ≤ 24 := by
 have h1 := aY h.kind
 have h2 := ib l.Ignore
 have h3 := cx (n := l.Rules.length) (by have := h.rules.1; omega)
 unfold xg
 simp only [Gv]
 omega
theorem AP.size {l : ba} (h : AP l) : (tp l).size ≤ 38304 := cS (n := 4) (m := 24) (fun s r hr => (h.rules.2 r hr).size s) h.rules.1 h.s1
def stGlyph (s : ByteArray) (g : bo) : ByteArray := s ++ n4 g
def stChar (s : ByteArray) (c : ep) : ByteArray := s ++ cj c.Rune ++ cj c.Glyph
def stLook (s : ByteArray) (l : ba) : ByteArray := s ++ tp l
def stFeat (s : ByteArray) (t : bO) : ByteArray := s ++ dO t.Name.size ++ t.Name ++ iO ++ of t.Lookups
def stAxis (s : ByteArray) (a : eo) : ByteArray := s ++ dO a.Name.size ++ a.Name ++ iO ++ cj a.Min ++ cj a.Def ++ cj a.Max
def stTent (s : ByteArray) (t : ea) : ByteArray := s ++ cj t.Start ++ cj t.Peak ++ cj t.End
def stReg (s : ByteArray) (r : List ea) : ByteArray := r.foldl stTent (s ++ dO r.length)
def stFunc (s : ByteArray) (c : List ew) : ByteArray := s ++ qC c
def BJ (f : aI) : ByteArray := cj f.Unit ++ dO f.Glyphs.length
def BK (f : aI) : ByteArray := f.Glyphs.foldl stGlyph (BJ f) ++ dO f.Chars.length
def BL (f : aI) : ByteArray := f.Chars.foldl stChar (BK f) ++ dO f.Lookups.length
def BM (f : aI) : ByteArray := f.Lookups.foldl stLook (BL f) ++ dO f.Features.length
def BN (f : aI) : ByteArray := f.Features.foldl stFeat (BM f) ++ dO f.Axes.length
def wZ (f : aI) : ByteArray := f.Axes.foldl stAxis (BN f) ++ dO f.Regions.length
def CI (f : aI) : ByteArray := f.Regions.foldl stReg (wZ f) ++ dO f.Funcs.length
def vO (f : aI) : ByteArray := f.Funcs.foldl stFunc (CI f) ++ of f.Cvt
structure mE (f : aI) : Prop where
 unit : NB f.Unit
 glyphs : f.Glyphs.length ≤ 16 ∧ ∀ g ∈ f.Glyphs, sm g
 chars : f.Chars.length ≤ 32 ∧ ∀ c ∈ f.Chars, NB c.Rune ∧ NB c.Glyph
 looks : f.Lookups.length ≤ 8 ∧ ∀ l ∈ f.Lookups, AP l
 feats : f.Features.length ≤ 16 ∧ ∀ t ∈ f.Features, t.Name.size ≤ 50 ∧ yb t.Lookups
 axes : f.Axes.length ≤ 16 ∧ ∀ a ∈ f.Axes, a.Name.size ≤ 50 ∧ NB a.Min ∧ NB a.Def ∧ NB a.Max
 regs : f.Regions.length ≤ 16 ∧ ∀ r ∈ f.Regions, r.length ≤ 16 ∧ ∀ t ∈ r, NB t.Start ∧ NB t.Peak ∧ NB t.End
 funcs : f.Funcs.length ≤ 16 ∧ ∀ c ∈ f.Funcs, Ed c
 cvt : yb f.Cvt
section
variable {f : aI} (h : mE f)
include h
theorem mE.stGlyph : ∀ s, ∀ g ∈ f.Glyphs, (stGlyph s g).size ≤ s.size + 5233 := fun s g hg => by
 have h1 := (h.glyphs.2 g hg).size
 unfold Go.Proofs.YtjjpkibjffmceaaGreat.stGlyph
 rw [Gv]
 omega
theorem mE.stChar : ∀ s, ∀ c ∈ f.Chars, (stChar s c).size ≤ s.size + 22 := fun s c hc => by
 have h1 := aY (h.chars.2 c hc).1
 have h2 := aY (h.chars.2 c hc).2
 unfold Go.Proofs.YtjjpkibjffmceaaGreat.stChar
 simp only [Gv]
 omega
theorem mE.stLook : ∀ s, ∀ l ∈ f.Lookups, (stLook s l).size ≤ s.size + 38304 := fun s l hl => by
 have h1 := (h.looks.2 l hl).size
 unfold Go.Proofs.YtjjpkibjffmceaaGreat.stLook
 rw [Gv]
 omega
theorem mE.stFeat : ∀ s, ∀ t ∈ f.Features, (stFeat s t).size ≤ s.size + 249 := fun s t ht => by
 have h0 := (h.feats.2 t ht).1
 have h1 := cx (n := t.Name.size) (by omega)
 have h2 := fB (h.feats.2 t ht).2
 unfold Go.Proofs.YtjjpkibjffmceaaGreat.stFeat
 simp only [Gv, show iO.size = 1 from rfl]
 omega
theorem mE.stAxis : ∀ s, ∀ t ∈ f.Axes, (stAxis s t).size ≤ s.size + 95 := fun s t ht => by
 obtain ⟨h0, k1, k2, k3⟩ := h.axes.2 t ht
 have h1 := cx (n := t.Name.size) (by omega)
 have k1 := aY k1
 have k2 := aY k2
 have k3 := aY k3
 unfold Go.Proofs.YtjjpkibjffmceaaGreat.stAxis
 simp only [Gv, show iO.size = 1 from rfl]
 omega
theorem mE.stTent {r : List ea} (hr : r ∈ f.Regions) : ∀ s, ∀ t ∈ r, (stTent s t).size ≤ s.size + 33 := fun s t ht => by
 obtain ⟨k1, k2, k3⟩ := (h.regs.2 r hr).2 t ht
 have k1 := aY k1
 have k2 := aY k2
 have k3 := aY k3
 unfold Go.Proofs.YtjjpkibjffmceaaGreat.stTent
 simp only [Gv]
 omega
theorem mE.stReg : ∀ s, ∀ r ∈ f.Regions, (stReg s r).size ≤ s.size + 539 := fun s r hr => by
 have h0 := (h.regs.2 r hr).1
 have h1 := cx (n := r.length) (by omega)
 have h2 := cS (n := 16) (m := s.size + 11) (h.stTent hr) h0 (s := s ++ dO r.length) (by rw [Gv]; omega)
 unfold Go.Proofs.YtjjpkibjffmceaaGreat.stReg
 omega
theorem mE.stFunc : ∀ s, ∀ c ∈ f.Funcs, (stFunc s c).size ≤ s.size + 1111 := fun s c hc => by
 have h1 := jy (h.funcs.2 c hc)
 unfold Go.Proofs.YtjjpkibjffmceaaGreat.stFunc
 rw [Gv]
 omega
theorem mE.s1 : (BJ f).size ≤ 22 := by
 have h1 := aY h.unit
 have h2 := cx (n := f.Glyphs.length) (by have := h.glyphs.1; omega)
 unfold BJ
 rw [Gv]
 omega
theorem mE.s2 : (BK f).size ≤ 83761 := by
 have h1 := cS (n := 16) (m := 22) h.stGlyph h.glyphs.1 h.s1
 have h2 := cx (n := f.Chars.length) (by have := h.chars.1; omega)
 unfold BK
 rw [Gv]
 omega
theorem mE.s3 : (BL f).size ≤ 84476 := by
 have h1 := cS (n := 32) (m := 83761) h.stChar h.chars.1 h.s2
 have h2 := cx (n := f.Lookups.length) (by have := h.looks.1; omega)
 unfold BL
 rw [Gv]
 omega
theorem mE.s4 : (BM f).size ≤ 390919 := by
 have h1 := cS (n := 8) (m := 84476) h.stLook h.looks.1 h.s3
 have h2 := cx (n := f.Features.length) (by have := h.feats.1; omega)
 unfold BM
 rw [Gv]
 omega
theorem mE.s5 : (BN f).size ≤ 394914 := by
 have h1 := cS (n := 16) (m := 390919) h.stFeat h.feats.1 h.s4
 have h2 := cx (n := f.Axes.length) (by have := h.axes.1; omega)
 unfold BN
 rw [Gv]
 omega
theorem mE.s6 : (wZ f).size ≤ 396445 := by
 have h1 := cS (n := 16) (m := 394914) h.stAxis h.axes.1 h.s5
 have h2 := cx (n := f.Regions.length) (by have := h.regs.1; omega)
 unfold wZ
 rw [Gv]
 omega
theorem mE.s7 : (CI f).size ≤ 405080 := by
 have h1 := cS (n := 16) (m := 396445) h.stReg h.regs.1 h.s6
 have h2 := cx (n := f.Funcs.length) (by have := h.funcs.1; omega)
 unfold CI
 rw [Gv]
 omega
end
end Go.Proofs.YtjjpkibjffmceaaGreat
