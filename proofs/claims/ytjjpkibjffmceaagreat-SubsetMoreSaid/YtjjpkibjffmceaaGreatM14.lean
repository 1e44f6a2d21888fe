/-
  The program: looks at glyphs, features, axes by their numbers.
-/
import Derived.Test.YtjjpkibjffmceaaGreatM13
import Derived.Test.YtjjpkibjffmceaaGreatM07
namespace Go.Proofs.YtjjpkibjffmceaaGreat
open Go.RowKit
attribute [local irreducible] AT bV AX AO Av Kt bC eH DA dl
theorem k7 (names : List ByteArray) (s : ByteArray) : (cU names (.string s)).getD (.sc (.int .i64 0)) = aM ((dt names s).getD 0 : Nat) := by
 show (Option.map (fun n : Nat => aM (n : Int)) (dt names s)).getD (.sc (.int .i64 0)) = _
 cases dt names s <;> rfl
def jL (names : List ByteArray) (i : Nat) (s : ByteArray) : Bool := decide ((((dt names s).getD 0 : Nat) : Int) < (i : Int))
def jE (f : aI) : List ByteArray := f.Glyphs.map bo.Name
def kz (f : aI) : List ByteArray := f.Features.map bO.Name
def ie (f : aI) : List ByteArray := f.Axes.map eo.Name
def ei (f : aI) (i : Nat) (g : bo) : Int := n5 f g (k6 (g9 g.Name) (jL (jE f) i g.Name))
def jA (f : aI) (i : Nat) (t : bO) : Int := sV f t (k6 (fi t.Name) (jL (kz f) i t.Name))
def jv (f : aI) (i : Nat) (a : eo) : Int := sF a (k6 (g9 a.Name) (jL (ie f) i a.Name))
set_option maxHeartbeats 1000000 in
theorem uI (f : aI) (i : Nat) (g : bo) (m : Nat) : AC Tryz.prog 117 [aM i, .agg (bA g), .iptr (ce f), .iptr [.sc (.map (some m))]] [(m, cq .string (cU (jE f)))] fun c L => c = aM (ei f i g) ∧ L = [(m, cq .string (cU (jE f)))] := by
 refine aQ Tryz.func117 rfl Tryz.ntmps117 rfl fun B => ?_
 repeat' (first|refine ae ?_|refine a6 ?_|refine a7 ?_|refine a8 ?_|refine aa a2 rfl rfl ?_|refine bg ?_|fail)
 refine bt 12 [(0, .v), (1, .v), (2, .v), (3, .v), (4, .v), (5, .v), (6, .v), (7, .v), (9, .v), (8, .e), (10, .v), (11, .v)] none ?_ trivial rfl (by kernel_rfl) (by kernel_rfl) (by kernel_rfl) mixed (by kernel_rfl) rfl
 repeat' (first|refine aC ?_|refine aZ a2 ?_|(apply bB;refine bP ?_)|fail)
 refine p5 0 (.int .i64 0) Tryz.underlying218 Tryz.underlying9 rfl rfl trivial rfl (by kernel_rfl) trivial ?_
 rw [k7]
 repeat' (first|refine aC ?_|refine aZ a2 ?_|(apply bB;refine bP ?_)|fail)
 refine bq [7, 8, 18] rfl rfl ?_
 repeat' (first|refine aq ?_|refine a7 ?_|refine a8 ?_|refine aa a2 rfl rfl ?_|(apply bh;refine bc ?_)|fail)
 exact aA rfl rfl ⟨rfl, rfl⟩
set_option maxHeartbeats 1000000 in
theorem wY (f : aI) (i : Nat) (t : bO) (m : Nat) : AC Tryz.prog 130 [aM i, .agg (bw t), .iptr (ce f), .iptr [.sc (.map (some m))]] [(m, cq .string (cU (kz f)))] fun c L => c = aM (jA f i t) ∧ L = [(m, cq .string (cU (kz f)))] := by
 refine aQ Tryz.func130 rfl Tryz.ntmps130 rfl fun B => ?_
 repeat' (first|refine ae ?_|refine a6 ?_|refine a7 ?_|refine a8 ?_|refine aa a2 rfl rfl ?_|refine bg ?_|fail)
 refine bt 12 [(0, .v), (1, .v), (2, .v), (3, .v), (4, .v), (5, .v), (6, .v), (7, .v), (9, .v), (8, .e), (10, .v), (11, .v)] none ?_ trivial rfl (by kernel_rfl) (by kernel_rfl) (by kernel_rfl) mixed (by kernel_rfl) rfl
 repeat' (first|refine aC ?_|refine aZ a2 ?_|(apply bB;refine bP ?_)|fail)
 refine p5 0 (.int .i64 0) Tryz.underlying218 Tryz.underlying9 rfl rfl trivial rfl (by kernel_rfl) trivial ?_
 rw [k7]
 repeat' (first|refine aC ?_|refine aZ a2 ?_|(apply bB;refine bP ?_)|fail)
 refine bq [7, 8, 18] rfl rfl ?_
 repeat' (first|refine aq ?_|refine a7 ?_|refine a8 ?_|refine aa a2 rfl rfl ?_|(apply bh;refine bc ?_)|fail)
 exact aA rfl rfl ⟨rfl, rfl⟩
set_option maxHeartbeats 1000000 in
theorem wB (f : aI) (i : Nat) (a : eo) (m : Nat) : AC Tryz.prog 134 [aM i, .agg (cu a), .iptr [.sc (.map (some m))]] [(m, cq .string (cU (ie f)))] fun c L => c = aM (jv f i a) ∧ L = [(m, cq .string (cU (ie f)))] := by
 refine aQ Tryz.func134 rfl Tryz.ntmps134 rfl fun B => ?_
 repeat' (first|refine ae ?_|refine a6 ?_|refine a7 ?_|refine a8 ?_|refine aa a2 rfl rfl ?_|refine bg ?_|fail)
 refine bt 11 [(0, .v), (1, .v), (2, .v), (3, .v), (4, .v), (5, .v), (6, .v), (8, .v), (7, .e), (9, .v), (10, .v)] none ?_ trivial rfl (by kernel_rfl) (by kernel_rfl) (by kernel_rfl) mixed (by kernel_rfl) rfl
 repeat' (first|refine aC ?_|refine aZ a2 ?_|(apply bB;refine bP ?_)|fail)
 refine p5 0 (.int .i64 0) Tryz.underlying218 Tryz.underlying9 rfl rfl trivial rfl (by kernel_rfl) trivial ?_
 rw [k7]
 repeat' (first|refine aC ?_|refine aZ a2 ?_|(apply bB;refine bP ?_)|fail)
 refine bq [6, 16] rfl rfl ?_
 repeat' (first|refine aq ?_|refine a7 ?_|refine a8 ?_|refine aa a2 rfl rfl ?_|(apply bh;refine bc ?_)|fail)
 exact aA rfl rfl ⟨rfl, rfl⟩
theorem BS (n : Nat) (hn : n ≤ 1000000) : AC Tryz.prog 146 [.sc (.slice none 0 0), aM n] [] fun c L => ∃ k, c = .vec k 1 [] ∧ L = tok k 22 1 0 := by
 refine aQ Tryz.func146 rfl Tryz.ntmps146 rfl fun B => ?_
 repeat' (first|refine ae ?_|refine a6 ?_|refine ar ?_|refine a7 ?_|refine a8 ?_|refine aa a2 rfl rfl ?_|refine bN rfl ?_)
 refine zK a2 rfl rfl rfl ?_
 repeat' (first|refine ae ?_|refine a6 ?_|refine a7 ?_|refine a8 ?_|refine aa a2 rfl rfl ?_|(apply aV; refine aU ?_)|fail)
 by_cases h0 : n = 0
 ·subst h0
  repeat' (first|refine ae ?_|refine a6 ?_|refine ar ?_|refine aq ?_|refine a7 ?_|refine a8 ?_|refine aa a2 rfl rfl ?_|refine bN rfl ?_)
  refine be (bi (t := 4) (c' := .vec none 1 []) rfl fun σ v h => cy 1 h) (aA rfl rfl ⟨none, rfl, rfl⟩)
 ·refine aw rfl (fun h2 => ?_) (fun h2 => ?_)
  ·repeat' (first|refine a6 ?_|refine aa a2 rfl rfl ?_)
   refine zK a2 rfl rfl rfl ?_
   repeat' (first|fail)
   refine DS a2 rfl rfl rfl rfl ?_
   repeat' (first|refine aa a2 rfl rfl ?_)
   refine xr a2 n rfl Tryz.underlying3 rfl rfl (by omega) (by omega) (by omega) (by omega) rfl fun b cap h3 h4 => ?_
   repeat' (first|refine aa a2 rfl rfl ?_)
   refine zM a2 0 rfl rfl rfl rfl (by omega) (by omega) rfl ?_
   repeat' (first|refine ae ?_|refine a6 ?_|refine aq ?_|refine a7 ?_|refine a8 ?_|refine aa a2 rfl rfl ?_)
   refine be (bi (t := 4) (c' := .vec (some (b, cap)) 1 []) rfl fun σ v h => Cy h4 h) (aA rfl rfl ⟨some (b, cap), rfl, rfl⟩)
  ·exact absurd (Gy h2) (by omega)
def pE (l : List (List (List Int))) : List (List AV) := l.map fun r => [.imm 1 (bv r)]
def fO (l : List (List (List Int))) : Nat := (l.map List.length).sum
theorem o6 {l : List (List (List Int))} {i : Nat} {r : List (List Int)} (h : l[i]? = some r) : fO (l.take (i + 1)) = fO (l.take i) + r.length := by
 unfold fO
 rw [List.take_add_one, h]
 simp
theorem r7 (l : List (List (List Int))) (i : Nat) : fO (l.take i) ≤ fO l := by
 have h : ((l.take i ++ l.drop i).map List.length).sum = (l.map List.length).sum := by rw [List.take_append_drop]
 rw [List.map_append, List.sum_append] at h
 unfold fO
 omega
theorem z8 (l : List (List (List Int))) : l.flatten.length = fO l := by
 unfold fO
 rw [List.length_flatten]
theorem xG (a b : List (List Int)) : bv a ++ bv b = bv (a ++ b) := by unfold bv; rw [List.map_append]
set_option maxHeartbeats 1000000 in
theorem oX (l : List (List (List Int))) (hs : fO l ≤ 1000000) : bQ Tryz.prog 84 [.imm 1 (pE l)] (.imm 1 (bv l.flatten)) := by
 refine aQ Tryz.func84 rfl Tryz.ntmps84 rfl fun B => ?_
 have hrl : (pE l).length = l.length := by simp [pE]
 refine cG 0 rfl rfl fun hlen => ?_
 rw [hrl] at hlen
 repeat' (first|refine ae ?_|refine a6 ?_|refine ak ?_|refine a7 ?_|refine a8 ?_|refine aa a2 rfl rfl ?_)
 refine aJ [0, 9, 10] (α := Nat) (fun i => [(11, aM i), (3, aM (fO (l.take i)))]) (fun i => i ≤ l.length) (fun _ => []) (fun i => l.length - i) 0 rfl ⟨rfl, rfl, trivial⟩ (Nat.zero_le _) (fun _ _ h => h) fun i hi => ?_
 try dsimp only [Gr, Gq, Gp, Gj]
 repeat' (first|refine ae ?_|refine a6 ?_|refine a7 ?_|refine a8 ?_|refine aa a2 rfl rfl ?_)
 refine aw rfl (fun h => ?_) (fun h => ?_)
 ·have hil : i < l.length := by have := Gz h; rw [hrl] at this; omega
  obtain ⟨z, hz⟩ : ∃ z, l[i]? = some z := ⟨_, Ee hil⟩
  have hzg : (pE l)[i]? = some [.imm 1 (bv z)] := by simp [pE, hz]
  have hsz := o6 hz
  have hle := r7 l (i + 1)
  have hzl : (bv z).length = z.length := by simp [bv]
  repeat' (first|refine ae ?_|refine a6 ?_|refine ak ?_|refine ar ?_|refine a7 ?_|refine aH ?_|refine a8 ?_|refine aa a2 rfl rfl ?_|(apply aV; refine aU ?_)|(apply aX; first|refine aW a2 ?_|refine aP a2 ?_)|refine bN rfl ?_)
  exact aB (i + 1) rfl ⟨by rw [Gw]; rfl, by rw [hsz, Gw, hzl]; rfl, trivial⟩ (by omega) (by omega) (fun _ _ h => h)
 have hil : i = l.length := by have := Gy h; rw [hrl] at this; omega
 subst hil
 rw [List.take_length]
 clear h
 repeat' (first|refine ae ?_|refine a6 ?_|refine aO ?_|refine a7 ?_|refine au ?_|refine ay ?_|refine av ?_|refine aa a2 rfl rfl ?_)
 refine bb [] [] (BS (fO l) hs) rfl rfl (Gm _) rfl fun c L1 ⟨k, hc, hL⟩ => ?_
 subst hc; subst hL
 rw [List.append_nil]
 repeat' (first|refine ae ?_|refine a6 ?_|refine ak ?_|refine a7 ?_|refine a8 ?_|refine aa a2 rfl rfl ?_)
 refine aJ [25, 26] (α := Nat × Option (Nat × Nat)) (fun x => [(27, aM x.1), (6, .vec x.2 1 (bv (l.take x.1).flatten))]) (fun x => x.1 ≤ l.length) (fun x => tok x.2 22 1 (bv (l.take x.1).flatten).length) (fun x => l.length - x.1) (0, k) rfl ⟨rfl, rfl, trivial⟩ (Nat.zero_le _) (fun _ _ h => h) ?_
 rintro ⟨i, k⟩ hi
 dsimp only at hi ⊢
 try dsimp only [Gr, Gq, Gp, Gj]
 repeat' (first|refine ae ?_|refine a6 ?_|refine a7 ?_|refine a8 ?_|refine aa a2 rfl rfl ?_)
 refine aw rfl (fun h => ?_) (fun h => ?_)
 ·have hil : i < l.length := by have := Gz h; rw [hrl] at this; omega
  obtain ⟨z, hz⟩ : ∃ z, l[i]? = some z := ⟨_, Ee hil⟩
  have hzg : (pE l)[i]? = some [.imm 1 (bv z)] := by simp [pE, hz]
  have hsz := o6 hz
  have hle := r7 l (i + 1)
  have hzl : (bv z).length = z.length := by simp [bv]
  have hfl : (bv (l.take i).flatten).length = fO (l.take i) := by rw [fQ, z8]
  have hcat : bv (l.take i).flatten ++ bv z = bv (l.take (i + 1)).flatten := by rw [xG, List.take_add_one, hz]; simp
  repeat' (first|refine ae ?_|refine a6 ?_|refine ak ?_|refine ar ?_|refine a7 ?_|refine a8 ?_|refine aa a2 rfl rfl ?_|(apply aX; first|refine aW a2 ?_|refine aP a2 ?_)|fail)
  refine bE a2 [] rfl rfl rfl rfl (by rw [List.append_nil]) (by rw [hfl, hzl]; omega) (by rw [hfl, hzl]; omega) rfl fun k' => ?_
  rw [hcat, List.append_nil]
  repeat' (first|refine a6 ?_|refine a7 ?_|refine aH ?_|refine a8 ?_|refine aa a2 rfl rfl ?_|(apply aV; refine aU ?_)|fail)
  exact aB (i + 1, k') rfl ⟨by rw [Gw]; rfl, rfl, trivial⟩ (by dsimp only; omega) (by dsimp only; omega) (fun _ _ h => h)
 ·have hil : i = l.length := by have := Gy h; rw [hrl] at this; omega
  subst hil
  rw [List.take_length]
  repeat' (first|refine ae ?_|refine a6 ?_|refine aq ?_|refine aO ?_|refine a7 ?_|refine au ?_|refine ay ?_|refine av ?_|refine a8 ?_|refine aa a2 rfl rfl ?_)
  exact oO rfl rfl rfl rfl
def jJ (l : List Int) : Bool := decide (∀ i, i < l.length - 1 → l.getD i 0 < l.getD (i + 1) 0)
theorem kf {l : List Int} {i : Nat} {z : Int} (h : l[i]? = some z) : l.getD i 0 = z := by simp [h]
theorem ve (l : List Int) : bQ Tryz.prog 258 [.imm 1 (aT l)] (cO (jJ l)) := by
 refine aQ Tryz.func258 rfl Tryz.ntmps258 rfl fun B => ?_
 refine cG 0 rfl rfl fun hlen => ?_
 have hll := aR l
 rw [aR] at hlen
 repeat' (first|refine ae ?_|refine a6 ?_|refine ak ?_|refine a7 ?_|refine a8 ?_|refine aa a2 rfl rfl ?_)
 refine aJ [0] (α := Nat) (fun i => [(3, aM (i + 1 : Nat))]) (fun i => i ≤ l.length ∧ ∀ j, j < i → j + 1 < l.length → l.getD j 0 < l.getD (j + 1) 0) (fun _ => []) (fun i => l.length - i) 0 rfl ⟨rfl, trivial⟩ ⟨Nat.zero_le _, fun j hj => absurd hj (Nat.not_lt_zero _)⟩ (fun _ _ h => h) fun i ⟨hi, hall⟩ => ?_
 try dsimp only [Gr, Gq, Gp, Gj]
 repeat' (first|refine ae ?_|refine a6 ?_|refine a7 ?_|refine a8 ?_|refine aa a2 rfl rfl ?_)
 refine aw rfl (fun h => ?_) (fun h => ?_)
 ·have hil : i + 1 < l.length := by have := Gz h; rw [aR] at this; omega
  obtain ⟨y, hy⟩ : ∃ z, l[i]? = some z := ⟨_, Ee (by omega)⟩
  obtain ⟨z, hz⟩ : ∃ z, l[i + 1]? = some z := ⟨_, Ee hil⟩
  have hyg : (aT l)[(((i + 1 : Nat) : Int) - 1).toNat]? = some [aM y] := by rw [show (((i + 1 : Nat) : Int) - 1).toNat = i by omega]; exact bW hy
  have hzg := bW hz
  repeat' (first|refine ae ?_|refine ak ?_|refine ar ?_|refine a7 ?_)
  refine bt 9 [(0, .v), (1, .v), (2, .v), (3, .v), (4, .v), (5, .v), (6, .v), (7, .v), (8, .v)] none ?_ trivial rfl (by kernel_rfl) (by kernel_rfl) (by kernel_rfl) mixed (by kernel_rfl) rfl
  repeat' (first|refine aC ?_|refine aZ a2 ?_|(apply ff;refine gG ?_)|(apply ca;refine ck a2 ?_)|fail)
  refine bq [0, 3, 13, 18] rfl rfl ?_
  repeat' (first|refine a7 ?_|refine a8 ?_|refine aa a2 rfl rfl ?_)
  refine aw rfl (fun h2 => ?_) (fun h2 => ?_)
  ·have h2' := Gz h2
   repeat' (first|refine ae ?_|refine a6 ?_|refine aq ?_|refine a7 ?_|refine aE ?_|refine aS ?_|refine bJ ?_|refine a8 ?_|refine aa a2 rfl rfl ?_)
   refine aA rfl rfl ?_
   rw [show jJ l = false from decide_eq_false (fun hh => by have := hh i (by omega); rw [kf hy, kf hz] at this; omega)]
  ·have h2' := Gy h2
   repeat' (first|refine a6 ?_|refine ar ?_|refine a7 ?_|refine aH ?_|refine a8 ?_|refine aa a2 rfl rfl ?_|(apply aV; refine aU ?_)|fail)
   refine aB (i + 1) rfl ⟨by rw [Gw (i + 1) 1]; rfl, trivial⟩ ⟨by omega, fun j hj hjl => ?_⟩ (by omega) (fun _ _ h => h)
   by_cases e : j = i
   ·subst e; rw [kf hy, kf hz]; omega
   ·exact hall j (by omega) hjl
 ·have hil : l.length ≤ i + 1 := by have := Gy h; rw [aR] at this; omega
  repeat' (first|refine ae ?_|refine a6 ?_|refine aq ?_|refine aO ?_|refine a7 ?_|refine au ?_|refine ay ?_|refine av ?_|refine a8 ?_|refine aa a2 rfl rfl ?_)
  refine aA rfl rfl ?_
  rw [show jJ l = true from decide_eq_true (fun j hj => hall j (by omega) (by omega))]
instance (l : List Int) : AD Tryz.prog 258 [.imm 1 (aT l)] (cO (jJ l)) := ⟨ve l⟩
def lj (f : aI) (l : List Int) : Bool := decide (0 < l.length) && (jJ l && (km f (l.getD 0 0) && km f (l.getD (l.length - 1) 0)))
set_option maxHeartbeats 1000000 in
theorem xb (f : aI) (l : List Int) : bQ Tryz.prog 233 [ct f, .imm 1 (aT l)] (cO (lj f l)) := by
 refine aQ Tryz.func233 rfl Tryz.ntmps233 rfl fun B => ?_
 refine cG 1 rfl rfl fun hlen => ?_
 cases l with
 | nil =>
  repeat' (first|refine ae ?_|refine a6 ?_|refine a7 ?_|refine a8 ?_|refine aa a2 rfl rfl ?_|refine bg ?_|fail)
  refine bt 24 [(0, .v), (1, .v), (2, .v), (3, .v), (4, .v), (5, .v), (6, .v), (7, .v), (8, .v), (9, .v), (10, .v), (11, .v), (12, .v), (13, .v), (14, .v), (15, .v), (16, .v), (17, .v), (18, .v), (19, .v), (20, .v), (21, .v), (22, .v), (23, .v)] none ?_ trivial rfl (by kernel_rfl) (by kernel_rfl) (by kernel_rfl) mixed (by kernel_rfl) rfl
  repeat' (first|refine aC ?_|refine aZ a2 ?_|refine lR rfl rfl ?_)
  refine bq [28] rfl rfl ?_
  repeat' (first|refine aq ?_|refine a7 ?_|refine a8 ?_|refine aa a2 rfl rfl ?_)
  exact aA rfl rfl rfl
 | cons y q =>
  have hll : (aT (y :: q)).length = q.length + 1 := by rw [aR]; rfl
  rw [hll] at hlen
  obtain ⟨z, hz⟩ : ∃ z, (y :: q)[q.length]? = some z := ⟨_, Ee (by simp)⟩
  have hzg : (aT (y :: q))[((((aT (y :: q)).length : Nat) : Int) - 1).toNat]? = some [aM z] := by rw [show ((((aT (y :: q)).length : Nat) : Int) - 1).toNat = q.length by rw [hll]; omega]; exact bW hz
  have hyg : (aT (y :: q))[(0 : Int).toNat]? = some [aM y] := rfl
  have hval : lj f (y :: q) = (jJ (y :: q) && (km f y && km f z)) := by
   unfold lj
   rw [show (y :: q).length - 1 = q.length by simp, kf hz]
   simp
  rw [hval]
  have hpos : decide (0 < (((aT (y :: q)).length : Nat) : Int)) = true := decide_eq_true (by rw [hll]; omega)
  repeat' (first|refine ae ?_|refine a6 ?_|refine a7 ?_|refine a8 ?_|refine aa a2 rfl rfl ?_|refine bg ?_|fail)
  refine bt 24 [(0, .v), (1, .v), (2, .v), (3, .v), (4, .v), (5, .v), (6, .v), (7, .v), (8, .v), (9, .v), (10, .v), (11, .v), (12, .v), (13, .v), (14, .v), (15, .v), (16, .v), (17, .v), (18, .v), (19, .v), (20, .v), (21, .v), (22, .v), (23, .v)] none ?_ trivial rfl (by kernel_rfl) (by kernel_rfl) (by kernel_rfl) mixed (by kernel_rfl) rfl
  repeat' (first|refine aC ?_|refine aZ a2 ?_|fail)
  rw [hpos]
  repeat' (first|refine aC ?_|refine aZ a2 ?_|(apply bB;refine bP ?_)|fail)
  generalize jJ (y :: q) = b1
  cases b1
  ·repeat' (first|refine aC ?_|refine aZ a2 ?_|refine lR rfl rfl ?_)
   refine bq [28] rfl rfl ?_
   repeat' (first|refine aq ?_|refine a7 ?_|refine a8 ?_|refine aa a2 rfl rfl ?_)
   exact aA rfl rfl rfl
  repeat' (first|refine aC ?_|refine aZ a2 ?_|(apply ca;refine ck a2 ?_)|(apply bB;refine bP ?_)|fail)
  generalize km f y = b2
  cases b2
  ·repeat' (first|refine aC ?_|refine aZ a2 ?_|refine lR rfl rfl ?_)
   refine bq [28] rfl rfl ?_
   repeat' (first|refine aq ?_|refine a7 ?_|refine a8 ?_|refine aa a2 rfl rfl ?_)
   exact aA rfl rfl rfl
  repeat' (first|refine aC ?_|refine aZ a2 ?_|(apply ff;refine gG ?_)|(apply ca;refine ck a2 ?_)|(apply bB;refine bP ?_)|fail)
  refine bq [28] rfl rfl ?_
  repeat' (first|refine aq ?_|refine a7 ?_|refine a8 ?_|refine aa a2 rfl rfl ?_)
  exact aA rfl rfl rfl
instance (f : aI) (l : List Int) : AD Tryz.prog 233 [ct f, .imm 1 (aT l)] (cO (lj f l)) := ⟨xb f l⟩
def f0 (kind : Int) (r : bX) : Bool := if kind = 1 ∨ kind = 2 ∨ kind = 5 then decide ((r.In.length : Int) ≠ 1) else if kind = 6 then decide ((r.In.length : Int) ≠ 2 ∨ (r.Back.length : Int) > 0 ∨ (r.Ahead.length : Int) > 0) else decide ((r.In.length : Int) = 0)
def kY (kind : Int) (r : bX) : Int := if (r.Back.length : Int) > 6 ∨ (r.In.length : Int) > 6 ∨ (r.Ahead.length : Int) > 6 then 2 else ek (f0 kind r) 40
set_option maxHeartbeats 1000000 in
theorem Ad (kind : Int) (r : bX) : bQ Tryz.prog 229 [aM kind, .agg (bD r)] (aM (kY kind r)) := by
 refine aQ Tryz.func229 rfl Tryz.ntmps229 rfl fun B => ?_
 unfold kY f0
 have hB := fQ r.Back
 have hI := fQ r.In
 have hA := fQ r.Ahead
 rw [← hB, ← hI, ← hA]
 repeat' (first|refine ae ?_|refine a6 ?_|refine a7 ?_|refine a8 ?_|refine aa a2 rfl rfl ?_|refine bg ?_|fail)
 refine dV [0, 3] (((bv r.Back).length : Int) > 6 ∨ ((bv r.In).length : Int) > 6 ∨ ((bv r.Ahead).length : Int) > 6) rfl (fun Q' K => ?_) (fun hC => ?_) (fun hC => ?_)
 ·repeat' (first|refine a8 ?_|refine aa a2 rfl rfl ?_|refine aF rfl rfl ?_|refine aL rfl rfl rfl rfl ?_|refine bf rfl rfl rfl (fun _ => ?_) (fun _ => ?_))
  all_goals exact K _ _ rfl rfl (by clear K; grind)
 ·rw [if_pos hC]
  repeat' (first|refine ae ?_|refine a6 ?_|refine aq ?_|refine a7 ?_|refine aE ?_|refine a8 ?_|refine aa a2 rfl rfl ?_)
  exact aA rfl rfl rfl
 rw [if_neg hC]
 by_cases h1 : kind = 1
 ·subst h1
  repeat' (first|refine ae ?_|refine a6 ?_|refine ak ?_|refine ar ?_|refine aq ?_|refine a7 ?_|refine aH ?_|refine a8 ?_|refine aa a2 rfl rfl ?_|(apply bh;refine bc ?_)|refine bS rfl ?_)
  exact aA rfl rfl rfl
 by_cases h2 : kind = 2
 ·subst h2
  repeat' (first|refine ae ?_|refine a6 ?_|refine ak ?_|refine ar ?_|refine aq ?_|refine a7 ?_|refine aH ?_|refine a8 ?_|refine aa a2 rfl rfl ?_|(apply bh;refine bc ?_)|refine bS rfl ?_|refine bN rfl ?_)
  exact aA rfl rfl rfl
 by_cases h5 : kind = 5
 ·subst h5
  repeat' (first|refine ae ?_|refine a6 ?_|refine ak ?_|refine ar ?_|refine aq ?_|refine a7 ?_|refine aH ?_|refine a8 ?_|refine aa a2 rfl rfl ?_|(apply bh;refine bc ?_)|refine bS rfl ?_|refine bN rfl ?_)
  exact aA rfl rfl rfl
 rw [if_neg (by omega)]
 by_cases h6 : kind = 6
 ·subst h6
  rw [if_pos rfl]
  repeat' (first|refine ae ?_|refine a6 ?_|refine ak ?_|refine ar ?_|refine a7 ?_|refine a8 ?_|refine aa a2 rfl rfl ?_|refine bS rfl ?_|refine bN rfl ?_)
  refine dq (t := 5) [] (((bv r.In).length : Int) ≠ 2 ∨ ((bv r.Back).length : Int) > 0 ∨ ((bv r.Ahead).length : Int) > 0) rfl (fun Q' K => ?_) ?_
  ·repeat' (first|refine a8 ?_|refine aa a2 rfl rfl ?_|refine aF rfl rfl ?_|refine aL rfl rfl rfl rfl ?_|refine bf rfl rfl rfl (fun _ => ?_) (fun _ => ?_))
   all_goals exact K _ _ rfl rfl (by clear K; grind)
  repeat' (first|refine ae ?_|refine a6 ?_|refine aq ?_|refine a7 ?_|refine aH ?_|refine a8 ?_|refine aa a2 rfl rfl ?_|(apply bh;refine bc ?_)|fail)
  exact aA rfl rfl rfl
 rw [if_neg h6]
 repeat' (first|refine ae ?_|refine a6 ?_|refine ak ?_|refine ar ?_|refine a7 ?_|refine a8 ?_|refine aa a2 rfl rfl ?_)
 refine aw rfl (fun h => absurd (Gz h) h1) (fun h => ?_)
 repeat' (first|refine ae ?_|refine a6 ?_|refine a7 ?_|refine a8 ?_|refine aa a2 rfl rfl ?_)
 refine aw rfl (fun h => absurd (Gz h) h2) (fun h => ?_)
 repeat' (first|refine a6 ?_|refine a7 ?_|refine a8 ?_|refine aa a2 rfl rfl ?_)
 refine aw rfl (fun h => absurd (Gz h) h5) (fun h => ?_)
 rw [decide_eq_false h5]
 repeat' (first|refine ae ?_|refine a6 ?_|refine a7 ?_|refine a8 ?_|refine aa a2 rfl rfl ?_)
 refine aw rfl (fun h => absurd (Gz h) h6) (fun h => ?_)
 repeat' (first|refine ae ?_|refine a6 ?_|refine ar ?_|refine aq ?_|refine a7 ?_|refine aH ?_|refine a8 ?_|refine aa a2 rfl rfl ?_|(apply bh;refine bc ?_)|fail)
 exact aA rfl rfl rfl
instance (kind : Int) (r : bX) : AD Tryz.prog 229 [aM kind, .agg (bD r)] (aM (kY kind r)) := ⟨Ad kind r⟩
theorem w9 {kind : Int} {r : bX} (h : kY kind r = 0) : r.In ≠ [] ∧ r.Back.length ≤ 6 ∧ r.In.length ≤ 6 ∧ r.Ahead.length ≤ 6 := by
 unfold kY at h
 split at h
 ·cases h
 ·rename_i hc
  refine ⟨fun e => ?_, by omega, by omega, by omega⟩
  have hw : f0 kind r = true := by
   unfold f0
   rw [e]
   split
   ·decide
   ·split <;> simp
  rw [hw] at h
  cases h
def oe (kind : Int) (r : bX) : Bool := if kind = 1 ∨ kind = 5 then decide ((r.Out.length : Int) = ((r.In.headD []).length : Int)) else if kind = 2 then decide ((r.Out.length : Int) ≤ 6) else if kind = 3 then decide ((r.Out.length : Int) = 1) else decide ((r.Out.length : Int) = 0)
set_option maxHeartbeats 1000000 in
theorem C2 (kind : Int) (r : bX) (hin : r.In ≠ []) : bQ Tryz.prog 235 [aM kind, .agg (bD r)] (cO (oe kind r)) := by
 refine aQ Tryz.func235 rfl Tryz.ntmps235 rfl fun B => ?_
 obtain ⟨y, hy⟩ : ∃ y, r.In[0]? = some y := ⟨_, Ee (List.length_pos_iff.2 hin)⟩
 have hyg := nj hy
 have hv : oe kind r = if kind = 1 ∨ kind = 5 then decide (((aT r.Out).length : Int) = ((aT y).length : Int)) else if kind = 2 then decide (((aT r.Out).length : Int) ≤ 6) else if kind = 3 then decide (((aT r.Out).length : Int) = 1) else decide (((aT r.Out).length : Int) = 0) := by
  have hd : r.In.headD [] = y := by
   cases hI : r.In with
   | nil => exact absurd hI hin
   | cons y' q => rw [hI] at hy; simpa using hy
  unfold oe
  rw [hd, aR, aR]
 rw [hv]
 by_cases h1 : kind = 1
 ·subst h1
  repeat' (first|refine ae ?_|refine a6 ?_|refine ak ?_|refine ar ?_|refine a7 ?_|refine a8 ?_|refine aa a2 rfl rfl ?_|refine bg ?_|refine bS rfl ?_)
  refine bt 8 [(0, .v), (1, .v), (2, .v), (3, .v), (4, .v), (5, .v), (6, .v), (7, .v)] none ?_ trivial rfl (by kernel_rfl) (by kernel_rfl) (by kernel_rfl) mixed (by kernel_rfl) rfl
  repeat' (first|refine aC ?_|refine aZ a2 ?_|(apply ca;refine ck a2 ?_)|fail)
  refine bq [11, 16] rfl rfl ?_
  repeat' (first|refine aq ?_|refine a7 ?_|refine aE ?_|refine aS ?_|refine a8 ?_|refine aa a2 rfl rfl ?_)
  exact aA rfl rfl rfl
 by_cases h5 : kind = 5
 ·subst h5
  repeat' (first|refine ae ?_|refine a6 ?_|refine ak ?_|refine a7 ?_|refine a8 ?_|refine aa a2 rfl rfl ?_|refine bg ?_|refine bS rfl ?_|refine bN rfl ?_)
  refine bt 8 [(0, .v), (1, .v), (2, .v), (3, .v), (4, .v), (5, .v), (6, .v), (7, .v)] none ?_ trivial rfl (by kernel_rfl) (by kernel_rfl) (by kernel_rfl) mixed (by kernel_rfl) rfl
  repeat' (first|refine aC ?_|refine aZ a2 ?_|(apply ca;refine ck a2 ?_)|fail)
  refine bq [11, 16] rfl rfl ?_
  repeat' (first|refine aq ?_|refine a7 ?_|refine aE ?_|refine aS ?_|refine a8 ?_|refine aa a2 rfl rfl ?_)
  exact aA rfl rfl rfl
 rw [if_neg (by omega)]
 by_cases h2 : kind = 2
 ·subst h2
  repeat' (first|refine ae ?_|refine a6 ?_|refine ak ?_|refine aq ?_|refine a7 ?_|refine aE ?_|refine aS ?_|refine a8 ?_|refine aa a2 rfl rfl ?_|refine bg ?_|refine bS rfl ?_|refine bN rfl ?_)
  exact aA rfl rfl rfl
 rw [if_neg h2]
 by_cases h3 : kind = 3
 ·subst h3
  repeat' (first|refine ae ?_|refine a6 ?_|refine ak ?_|refine aq ?_|refine a7 ?_|refine aE ?_|refine aS ?_|refine a8 ?_|refine aa a2 rfl rfl ?_|refine bg ?_|refine bS rfl ?_|refine bN rfl ?_)
  exact aA rfl rfl rfl
 rw [if_neg h3]
 repeat' (first|refine ae ?_|refine a6 ?_|refine ak ?_|refine a7 ?_|refine a8 ?_|refine aa a2 rfl rfl ?_|refine bg ?_|fail)
 refine aw rfl (fun h => absurd (Gz h) h1) (fun h => ?_)
 repeat' (first|refine a6 ?_|refine a7 ?_|refine a8 ?_|refine aa a2 rfl rfl ?_)
 refine aw rfl (fun h => absurd (Gz h) h5) (fun h => ?_)
 rw [decide_eq_false h5]
 repeat' (first|refine ae ?_|refine a6 ?_|refine a7 ?_|refine a8 ?_|refine aa a2 rfl rfl ?_)
 refine aw rfl (fun h => absurd (Gz h) h2) (fun h => ?_)
 repeat' (first|refine ae ?_|refine a6 ?_|refine a7 ?_|refine a8 ?_|refine aa a2 rfl rfl ?_)
 refine aw rfl (fun h => absurd (Gz h) h3) (fun h => ?_)
 repeat' (first|refine ae ?_|refine a6 ?_|refine ar ?_|refine aq ?_|refine a7 ?_|refine aH ?_|refine a8 ?_|refine aa a2 rfl rfl ?_)
 exact aA rfl rfl rfl
def pj (f : aI) (n : Int) : Int := match f.Lookups[n.toNat]? with | some l => l.Kind | none => 0
def sK (f : aI) (r : bX) (_ : Nat) (c : fT) : Int := if c.At < 0 ∨ c.At ≥ r.In.length then 40 else if c.Lookup < 0 ∨ c.Lookup ≥ f.Lookups.length then 42 else ek (decide (pj f c.Lookup < 1 ∨ pj f c.Lookup > 4)) 42
set_option maxHeartbeats 1000000 in
theorem yE (f : aI) (r : bX) (i : Nat) (c : fT) : bQ Tryz.prog 260 [aM i, .agg (dD c), .iptr (bD r), .iptr (ce f)] (aM (sK f r i c)) := by
 refine aQ Tryz.func260 rfl Tryz.ntmps260 rfl fun B => ?_
 unfold sK
 have hI := fQ r.In
 have hL : (f.Lookups.map bj).length = f.Lookups.length := Gu ..
 rw [← hI]
 repeat' (first|refine ae ?_|refine a6 ?_|refine ak ?_|refine a7 ?_|refine a8 ?_|refine aa a2 rfl rfl ?_|refine bg ?_|fail)
 refine dV [3, 5] (c.At < 0 ∨ c.At ≥ ((bv r.In).length : Int)) rfl (fun Q' K => ?_) (fun hC => ?_) (fun hC => ?_)
 ·repeat' (first|refine a8 ?_|refine aa a2 rfl rfl ?_|refine aF rfl rfl ?_|refine aL rfl rfl rfl rfl ?_|refine bf rfl rfl rfl (fun _ => ?_) (fun _ => ?_))
  all_goals exact K _ _ rfl rfl (by clear K; grind)
 ·rw [if_pos hC]
  repeat' (first|refine ae ?_|refine a6 ?_|refine aq ?_|refine a7 ?_|refine aE ?_|refine aS ?_|refine a8 ?_|refine aa a2 rfl rfl ?_)
  exact aA rfl rfl rfl
 rw [if_neg hC]
 repeat' (first|refine ae ?_|refine a6 ?_|refine aa a2 rfl rfl ?_)
 refine dV [3, 5] (c.Lookup < 0 ∨ c.Lookup ≥ f.Lookups.length) rfl (fun Q' K => ?_) (fun hC => ?_) (fun hC => ?_)
 ·repeat' (first|refine a8 ?_|refine aa a2 rfl rfl ?_|refine aF rfl rfl ?_|refine aL rfl rfl rfl rfl ?_|refine bf rfl rfl rfl (fun _ => ?_) (fun _ => ?_))
  all_goals exact K _ _ rfl rfl (by clear K; grind)
 ·rw [if_pos hC]
  repeat' (first|refine ae ?_|refine a6 ?_|refine aq ?_|refine a7 ?_|refine aE ?_|refine aS ?_|refine a8 ?_|refine aa a2 rfl rfl ?_)
  exact aA rfl rfl rfl
 rw [if_neg hC]
 obtain ⟨l, hl⟩ : ∃ l, f.Lookups[c.Lookup.toNat]? = some l := ⟨_, Ee (by omega)⟩
 have hlg := bn (c := bj) hl
 have hk : pj f c.Lookup = l.Kind := by unfold pj; rw [hl]
 rw [hk]
 repeat' (first|refine ae ?_|refine a6 ?_|refine ar ?_|refine a7 ?_|refine aH ?_|refine a8 ?_|refine aa a2 rfl rfl ?_|(apply aX; first|refine aW a2 ?_|refine aP a2 ?_)|fail)
 by_cases h1 : l.Kind < 1
 ·rw [decide_eq_true h1, decide_eq_true (Or.inl h1)]
  repeat' (first|refine aq ?_|refine a7 ?_|refine a8 ?_|refine aa a2 rfl rfl ?_|refine aL rfl rfl rfl rfl ?_|(apply bh;refine bc ?_)|fail)
  exact aA rfl rfl rfl
 ·rw [decide_eq_false h1, show decide (l.Kind < 1 ∨ l.Kind > 4) = decide (4 < l.Kind) from decide_eq_decide.2 ⟨fun h => h.resolve_left h1, Or.inr⟩]
  repeat' (first|refine aq ?_|refine a7 ?_|refine a8 ?_|refine aa a2 rfl rfl ?_|refine aF rfl rfl ?_|(apply bh;refine bc ?_)|fail)
  exact aA rfl rfl rfl
def k5 (f : aI) (kind : Int) (r : bX) : Int := if (r.Calls.length : Int) > 6 then 2 else if (r.Calls.length : Int) > 0 ∧ kind ≠ 4 then 40 else (du r.Calls (sK f r)).1
set_option maxHeartbeats 1000000 in
theorem wF (f : aI) (kind : Int) (r : bX) : bQ Tryz.prog 239 [ct f, aM kind, .agg (bD r)] (aM (k5 f kind r)) := by
 refine aQ Tryz.func239 rfl Tryz.ntmps239 rfl fun B => ?_
 unfold k5
 have hL : (r.Calls.map dD).length = r.Calls.length := Gu ..
 rw [← hL]
 repeat' (first|refine ae ?_|refine a6 ?_|refine ak ?_|refine a7 ?_|refine a8 ?_|refine aa a2 rfl rfl ?_|refine bg ?_|fail)
 refine aw rfl (fun h => ?_) (fun h => ?_)
 ·rw [if_pos (Gz h)]
  repeat' (first|refine ae ?_|refine a6 ?_|refine aq ?_|refine a7 ?_|refine aE ?_|refine aS ?_|refine a8 ?_|refine aa a2 rfl rfl ?_)
  exact aA rfl rfl rfl
 rw [if_neg (Gy h)]
 repeat' (first|refine ae ?_|refine a6 ?_|refine aa a2 rfl rfl ?_)
 refine dV [3, 5] (((r.Calls.map dD).length : Int) > 0 ∧ kind ≠ 4) rfl (fun Q' K => ?_) (fun hC => ?_) (fun hC => ?_)
 ·repeat' (first|refine a8 ?_|refine aa a2 rfl rfl ?_|refine aF rfl rfl ?_|refine aL rfl rfl rfl rfl ?_|refine bf rfl rfl rfl (fun _ => ?_) (fun _ => ?_))
  all_goals exact K _ _ rfl rfl (by clear K; grind)
 ·rw [if_pos hC]
  repeat' (first|refine ae ?_|refine a6 ?_|refine aq ?_|refine a7 ?_|refine aE ?_|refine aS ?_|refine a8 ?_|refine aa a2 rfl rfl ?_)
  exact aA rfl rfl rfl
 rw [if_neg hC]
 repeat' (first|refine ae ?_|refine a6 ?_|refine ar ?_|refine a7 ?_|refine aH ?_|refine aa a2 rfl rfl ?_)
 refine bb [] [] (BI (u := .fn 260 [.iptr (bD r), .iptr (ce f)]) (g := 260) rfl r.Calls _ (fun _ _ => True) [] trivial (dA (fun i x _ => yE f r i x))) rfl rfl (Gm _) rfl fun c L1 hc => ?_
 have hc : c = cA (du r.Calls (sK f r)) := hc
 subst hc
 unfold cA
 repeat' (first|refine ae ?_|refine a6 ?_|refine aq ?_|refine a7 ?_|refine a8 ?_|refine aa a2 rfl rfl ?_)
 exact aA rfl rfl rfl
instance (f : aI) (kind : Int) (r : bX) : AD Tryz.prog 239 [ct f, aM kind, .agg (bD r)] (aM (k5 f kind r)) := ⟨wF f kind r⟩
def xT (f : aI) (_ : Nat) (l : List Int) : Int := ek (!(lj f l)) 41
def xy (f : aI) (_ : Nat) (n : Int) : Int := ek (!(km f n)) 32
def xE (kind : Int) (r : bX) : Int := ek (decide (r.X ≠ 0 ∧ kind ≠ 6)) 40
def nZ (r : bX) : List (List Int) := r.Back ++ (r.In ++ r.Ahead)
theorem xH (kind : Int) (r : bX) : bQ Tryz.prog 228 [.iptr [aM kind], .iptr (bD r)] (cA (kY kind r, 0)) := by
 refine aQ Tryz.func228 rfl Tryz.ntmps228 rfl fun B => ?_
 repeat' (first|refine ae ?_|refine a6 ?_|refine aq ?_|refine a7 ?_|refine a8 ?_|refine aa a2 rfl rfl ?_|(apply bh;refine bc ?_)|fail)
 exact b9 rfl rfl rfl rfl
theorem vf (f : aI) (i : Nat) (l : List Int) : bQ Tryz.prog 232 [aM i, .imm 1 (aT l), .iptr (ce f)] (aM (xT f i l)) := by
 refine aQ Tryz.func232 rfl Tryz.ntmps232 rfl fun B => ?_
 repeat' (first|refine ae ?_|refine a6 ?_|refine aq ?_|refine a7 ?_|refine a8 ?_|refine aa a2 rfl rfl ?_|(apply bh;refine bc ?_)|fail)
 exact aA rfl rfl rfl
theorem xI (f : aI) (r : bX) (h : r.Back.length ≤ 6 ∧ r.In.length ≤ 6 ∧ r.Ahead.length ≤ 6) : bQ Tryz.prog 230 [.iptr (bD r), .iptr (ce f)] (cA (du (nZ r) (xT f))) := by
 refine aQ Tryz.func230 rfl Tryz.ntmps230 rfl fun B => ?_
 repeat' (first|refine ae ?_|refine a6 ?_|refine a7 ?_|refine a8 ?_|refine aa a2 rfl rfl ?_|refine bG a2 ?_|fail)
 refine bc (hc := ⟨oX [r.Back, r.In, r.Ahead] (by simp [fO]; omega)⟩) ?_
 rw [show ([r.Back, r.In, r.Ahead] : List (List (List Int))).flatten = nZ r by simp [nZ]]
 repeat' (first|refine aa a2 rfl rfl ?_)
 refine bb [] [] (BG (u := .fn 232 [.iptr (ce f)]) (g := 232) rfl (nZ r) _ (fun _ _ => True) [] trivial (dA (fun i x _ => vf f i x))) rfl rfl (Gm _) rfl fun c L1 hc => ?_
 have hc : c = cA (du (nZ r) (xT f)) := hc
 subst hc
 unfold cA
 repeat' (first|refine aq ?_|refine a7 ?_|refine a8 ?_|refine aa a2 rfl rfl ?_)
 exact b9 rfl rfl rfl rfl
theorem xJ (kind : Int) (r : bX) (hin : r.In ≠ []) : bQ Tryz.prog 234 [.iptr [aM kind], .iptr (bD r)] (cA (ek (!(oe kind r)) 40, 0)) := by
 refine aQ Tryz.func234 rfl Tryz.ntmps234 rfl fun B => ?_
 repeat' (first|refine ae ?_|refine a6 ?_|refine a7 ?_|refine a8 ?_|refine aa a2 rfl rfl ?_)
 refine bc (hc := ⟨C2 kind r hin⟩) ?_
 repeat' (first|refine aq ?_|refine a7 ?_|refine a8 ?_|refine aa a2 rfl rfl ?_|(apply bh;refine bc ?_)|fail)
 exact b9 rfl rfl rfl rfl
theorem vg (f : aI) (i : Nat) (n : Int) : bQ Tryz.prog 237 [aM i, aM n, .iptr (ce f)] (aM (xy f i n)) := by
 refine aQ Tryz.func237 rfl Tryz.ntmps237 rfl fun B => ?_
 repeat' (first|refine ae ?_|refine a6 ?_|refine aq ?_|refine a7 ?_|refine a8 ?_|refine aa a2 rfl rfl ?_|(apply bh;refine bc ?_)|fail)
 exact aA rfl rfl rfl
theorem xK (f : aI) (r : bX) : bQ Tryz.prog 236 [.iptr (bD r), .iptr (ce f)] (cA (du r.Out (xy f))) := by
 refine aQ Tryz.func236 rfl Tryz.ntmps236 rfl fun B => ?_
 repeat' (first|refine ae ?_|refine a6 ?_|refine a7 ?_|refine a8 ?_|refine aa a2 rfl rfl ?_)
 refine bb [] [] (lT (u := .fn 237 [.iptr (ce f)]) (g := 237) rfl r.Out _ (fun _ _ => True) [] trivial (dA (fun i x _ => vg f i x))) rfl rfl (Gm _) rfl fun c L1 hc => ?_
 have hc : c = cA (du r.Out (xy f)) := hc
 subst hc
 unfold cA
 repeat' (first|refine aq ?_|refine a7 ?_|refine a8 ?_|refine aa a2 rfl rfl ?_)
 exact b9 rfl rfl rfl rfl
theorem xL (f : aI) (kind : Int) (r : bX) : bQ Tryz.prog 238 [.iptr (ce f), .iptr [aM kind], .iptr (bD r)] (cA (k5 f kind r, 0)) := by
 refine aQ Tryz.func238 rfl Tryz.ntmps238 rfl fun B => ?_
 repeat' (first|refine ae ?_|refine a6 ?_|refine aq ?_|refine a7 ?_|refine a8 ?_|refine aa a2 rfl rfl ?_|(apply bh;refine bc ?_)|fail)
 exact b9 rfl rfl rfl rfl
theorem xM (r : bX) : bQ Tryz.prog 240 [.iptr (bD r)] (cA (ek (!([r.X].all ga)) 1, 0)) := by
 refine aQ Tryz.func240 rfl Tryz.ntmps240 rfl fun B => ?_
 repeat' (first|refine ae ?_|refine a6 ?_|refine aq ?_|refine a7 ?_|refine a8 ?_|refine aa a2 rfl rfl ?_|refine bG a2 ?_|(apply bh;refine bc ?_)|fail)
 exact b9 rfl rfl rfl rfl
theorem xN (kind : Int) (r : bX) : bQ Tryz.prog 241 [.iptr (bD r), .iptr [aM kind]] (cA (xE kind r, 0)) := by
 refine aQ Tryz.func241 rfl Tryz.ntmps241 rfl fun B => ?_
 unfold xE
 by_cases h : r.X ≠ 0
 ·rw [show decide (r.X ≠ 0 ∧ kind ≠ 6) = decide (kind ≠ 6) from decide_eq_decide.2 ⟨fun q => q.2, fun q => ⟨h, q⟩⟩]
  repeat' (first|refine ae ?_|refine a6 ?_|refine a7 ?_|refine a8 ?_|refine aa a2 rfl rfl ?_)
  rw [decide_eq_true h]
  repeat' (first|refine aq ?_|refine a7 ?_|refine a8 ?_|refine aa a2 rfl rfl ?_|refine aF rfl rfl ?_|(apply bh;refine bc ?_)|fail)
  exact b9 rfl rfl rfl rfl
 ·rw [show decide (r.X ≠ 0 ∧ kind ≠ 6) = false from decide_eq_false (fun q => h q.1)]
  repeat' (first|refine ae ?_|refine a6 ?_|refine a7 ?_|refine a8 ?_|refine aa a2 rfl rfl ?_)
  rw [decide_eq_false h]
  repeat' (first|refine aq ?_|refine a7 ?_|refine a8 ?_|refine aa a2 rfl rfl ?_|refine aL rfl rfl rfl rfl ?_|(apply bh;refine bc ?_)|fail)
  exact b9 rfl rfl rfl rfl
def jh (f : aI) (kind : Int) (r : bX) : Int := (gt [(kY kind r, 0), du (nZ r) (xT f), (ek (!(oe kind r)) 40, 0), du r.Out (xy f), (k5 f kind r, 0), (ek (!([r.X].all ga)) 1, 0), (xE kind r, 0)]).1
set_option maxHeartbeats 1000000 in
theorem Aj (f : aI) (kind : Int) (r : bX) : bQ Tryz.prog 186 [ct f, aM kind, .agg (bD r)] (aM (jh f kind r)) := by
 refine aQ Tryz.func186 rfl Tryz.ntmps186 rfl fun B => ?_
 repeat' (first|refine ae ?_|refine a6 ?_|refine a7 ?_|refine a8 ?_|refine aa a2 rfl rfl ?_|refine bg ?_|refine bG a2 ?_|fail)
 refine bb [] [] (iX [⟨228, [.iptr [aM kind], .iptr (bD r)], [], kY kind r, 0⟩, ⟨230, [.iptr (bD r), .iptr (ce f)], [], (du (nZ r) (xT f)).1, (du (nZ r) (xT f)).2⟩, ⟨234, [.iptr [aM kind], .iptr (bD r)], [], ek (!(oe kind r)) 40, 0⟩, ⟨236, [.iptr (bD r), .iptr (ce f)], [], (du r.Out (xy f)).1, (du r.Out (xy f)).2⟩, ⟨238, [.iptr (ce f), .iptr [aM kind], .iptr (bD r)], [], k5 f kind r, 0⟩, ⟨240, [.iptr (bD r)], [], ek (!([r.X].all ga)) 1, 0⟩, ⟨241, [.iptr (bD r), .iptr [aM kind]], [], xE kind r, 0⟩] ?_) rfl rfl (Gm _) rfl fun c L1 hc => ?_
 ·exact ⟨⟨inferInstance, xH kind r⟩, fun h1 => ⟨⟨inferInstance, xI f r (w9 h1).2⟩, fun _ => ⟨⟨inferInstance, xJ kind r (w9 h1).1⟩, fun _ => ⟨⟨inferInstance, xK f r⟩, fun _ => ⟨⟨inferInstance, xL f kind r⟩, fun _ => ⟨⟨inferInstance, xM r⟩, fun _ => ⟨⟨inferInstance, xN kind r⟩, fun _ => trivial⟩⟩⟩⟩⟩⟩⟩
 rw [jH] at hc
 subst hc
 unfold cA
 repeat' (first|refine ae ?_|refine a6 ?_|refine aq ?_|refine a7 ?_|refine a8 ?_|refine aa a2 rfl rfl ?_)
 exact aA rfl rfl rfl
instance (f : aI) (kind : Int) (r : bX) : AD Tryz.prog 186 [ct f, aM kind, .agg (bD r)] (aM (jh f kind r)) := ⟨Aj f kind r⟩
theorem nP (l : ba) : bQ Tryz.prog 181 [.iptr (bj l)] (cA (ek (decide ((l.Rules.length : Int) > 60)) 2, 0)) := by
 refine aQ Tryz.func181 rfl Tryz.ntmps181 rfl fun B => ?_
 rw [show (l.Rules.length : Int) = ((l.Rules.map bD).length : Int) by rw [Gu]]
 repeat' (first|refine ae ?_|refine a6 ?_|refine aq ?_|refine a7 ?_|refine a8 ?_|refine aa a2 rfl rfl ?_|(apply bh;refine bc ?_)|fail)
 exact b9 rfl rfl rfl rfl
def oI (l : ba) : Int := ek (decide (l.Kind = 7 ∨ l.Kind = 8) && decide ((l.Rules.length : Int) > 0)) 40
theorem nQ (l : ba) (b : Bool) (hb : b = decide (l.Kind = 7 ∨ l.Kind = 8)) : bQ Tryz.prog 182 [.iptr [cO b], .iptr (bj l)] (cA (oI l, 0)) := by
 refine aQ Tryz.func182 rfl Tryz.ntmps182 rfl fun B => ?_
 unfold oI
 rw [← hb, show (l.Rules.length : Int) = ((l.Rules.map bD).length : Int) by rw [Gu]]
 cases b
 ·repeat' (first|refine ae ?_|refine a6 ?_|refine aq ?_|refine a7 ?_|refine a8 ?_|refine aa a2 rfl rfl ?_|refine aL rfl rfl rfl rfl ?_|(apply bh;refine bc ?_)|fail)
  exact b9 rfl rfl rfl rfl
 ·repeat' (first|refine ae ?_|refine a6 ?_|refine aq ?_|refine a7 ?_|refine a8 ?_|refine aa a2 rfl rfl ?_|refine aF rfl rfl ?_|(apply bh;refine bc ?_)|fail)
  exact b9 rfl rfl rfl rfl
theorem rK (f : aI) (l : ba) (i : Nat) (r : bX) : bQ Tryz.prog 185 [aM i, .agg (bD r), .iptr (ce f), .iptr (bj l)] (aM (jh f l.Kind r)) := by
 refine aQ Tryz.func185 rfl Tryz.ntmps185 rfl fun B => ?_
 repeat' (first|refine ae ?_|refine a6 ?_|refine aq ?_|refine a7 ?_|refine a8 ?_|refine aa a2 rfl rfl ?_|refine bg ?_|(apply bh;refine bc ?_)|fail)
 exact aA rfl rfl rfl
theorem nR (f : aI) (l : ba) : bQ Tryz.prog 183 [.iptr (bj l), .iptr (ce f)] (cA (du l.Rules fun _ r => jh f l.Kind r)) := by
 refine aQ Tryz.func183 rfl Tryz.ntmps183 rfl fun B => ?_
 repeat' (first|refine ae ?_|refine a6 ?_|refine a7 ?_|refine a8 ?_|refine aa a2 rfl rfl ?_)
 refine bb [] [] (Bw (u := .fn 185 [.iptr (ce f), .iptr (bj l)]) (g := 185) rfl l.Rules _ (fun _ _ => True) [] trivial (dA (w := fun _ r => jh f l.Kind r) (fun i x _ => rK f l i x))) rfl rfl (Gm _) rfl fun c L1 hc => ?_
 have hc : c = cA (du l.Rules fun _ r => jh f l.Kind r) := hc
 subst hc
 unfold cA
 repeat' (first|refine aq ?_|refine a7 ?_|refine a8 ?_|refine aa a2 rfl rfl ?_)
 exact b9 rfl rfl rfl rfl
def kK (f : aI) (l : ba) : Int := if l.Kind < 1 ∨ l.Kind > 8 then 42 else (gt [(ek (decide ((l.Rules.length : Int) > 60)) 2, 0), (oI l, 0), du l.Rules fun _ r => jh f l.Kind r]).1
set_option maxHeartbeats 1000000 in
theorem uS (f : aI) (l : ba) : bQ Tryz.prog 128 [ct f, .agg (bj l)] (aM (kK f l)) := by
 refine aQ Tryz.func128 rfl Tryz.ntmps128 rfl fun B => ?_
 unfold kK
 repeat' (first|refine ae ?_|refine a6 ?_|refine a7 ?_|refine a8 ?_|refine aa a2 rfl rfl ?_|refine bg ?_|fail)
 refine dV [2, 3] (l.Kind < 1 ∨ l.Kind > 8) rfl (fun Q' K => ?_) (fun hC => ?_) (fun hC => ?_)
 ·repeat' (first|refine a8 ?_|refine aa a2 rfl rfl ?_|refine aF rfl rfl ?_|refine aL rfl rfl rfl rfl ?_|refine bf rfl rfl rfl (fun _ => ?_) (fun _ => ?_))
  all_goals exact K _ _ rfl rfl (by clear K; grind)
 ·rw [if_pos hC]
  repeat' (first|refine ae ?_|refine a6 ?_|refine aq ?_|refine a7 ?_|refine aE ?_|refine a8 ?_|refine aa a2 rfl rfl ?_)
  exact aA rfl rfl rfl
 rw [if_neg hC]
 repeat' (first|refine ae ?_|refine a6 ?_|refine ar ?_|refine a7 ?_|refine aa a2 rfl rfl ?_)
 by_cases h7 : l.Kind = 7
 ·rw [decide_eq_true h7]
  repeat' (first|refine ae ?_|refine a6 ?_|refine a7 ?_|refine a8 ?_|refine aa a2 rfl rfl ?_|refine aL rfl rfl rfl rfl ?_|(apply aG; first|refine ah 5 a2 0 rfl rfl rfl rfl rfl rfl rfl rfl ?_|refine ah 5 a2 1 rfl rfl rfl rfl rfl rfl rfl rfl ?_|refine ah 5 a2 2 rfl rfl rfl rfl rfl rfl rfl rfl ?_|refine ai a2 0 rfl rfl rfl rfl rfl rfl rfl ?_|refine ai a2 1 rfl rfl rfl rfl rfl rfl rfl ?_|refine ai a2 2 rfl rfl rfl rfl rfl rfl rfl ?_|refine ai a2 3 rfl rfl rfl rfl rfl rfl rfl ?_|fail)|refine b7 a2 fun _=>?_|refine bG a2 ?_|fail)
  refine bb [] [] (iX [⟨181, [.iptr (bj l)], [], ek (decide ((l.Rules.length : Int) > 60)) 2, 0⟩, ⟨182, [.iptr [cO true], .iptr (bj l)], [], oI l, 0⟩, ⟨183, [.iptr (bj l), .iptr (ce f)], [], (du l.Rules fun _ r => jh f l.Kind r).1, (du l.Rules fun _ r => jh f l.Kind r).2⟩] ⟨⟨inferInstance, nP l⟩, fun _ => ⟨⟨inferInstance, nQ l true (decide_eq_true (Or.inl h7)).symm⟩, fun _ => ⟨⟨inferInstance, nR f l⟩, fun _ => trivial⟩⟩⟩) rfl rfl (Gm _) rfl fun c L1 hc => ?_
  rw [jH] at hc
  subst hc
  unfold cA
  repeat' (first|refine ae ?_|refine a6 ?_|refine aq ?_|refine a7 ?_|refine a8 ?_|refine aa a2 rfl rfl ?_)
  exact aA rfl rfl rfl
 ·rw [decide_eq_false h7]
  repeat' (first|refine ae ?_|refine a6 ?_|refine a7 ?_|refine a8 ?_|refine aa a2 rfl rfl ?_|refine aF rfl rfl ?_|(apply aG; first|refine ah 5 a2 0 rfl rfl rfl rfl rfl rfl rfl rfl ?_|refine ah 5 a2 1 rfl rfl rfl rfl rfl rfl rfl rfl ?_|refine ah 5 a2 2 rfl rfl rfl rfl rfl rfl rfl rfl ?_|refine ai a2 0 rfl rfl rfl rfl rfl rfl rfl ?_|refine ai a2 1 rfl rfl rfl rfl rfl rfl rfl ?_|refine ai a2 2 rfl rfl rfl rfl rfl rfl rfl ?_|refine ai a2 3 rfl rfl rfl rfl rfl rfl rfl ?_|fail)|refine b7 a2 fun _=>?_|refine bG a2 ?_|fail)
  refine bb [] [] (iX [⟨181, [.iptr (bj l)], [], ek (decide ((l.Rules.length : Int) > 60)) 2, 0⟩, ⟨182, [.iptr [cO (decide (l.Kind = 8))], .iptr (bj l)], [], oI l, 0⟩, ⟨183, [.iptr (bj l), .iptr (ce f)], [], (du l.Rules fun _ r => jh f l.Kind r).1, (du l.Rules fun _ r => jh f l.Kind r).2⟩] ⟨⟨inferInstance, nP l⟩, fun _ => ⟨⟨inferInstance, nQ l (decide (l.Kind = 8)) (decide_eq_decide.2 ⟨Or.inr, fun h => h.resolve_left h7⟩)⟩, fun _ => ⟨⟨inferInstance, nR f l⟩, fun _ => trivial⟩⟩⟩) rfl rfl (Gm _) rfl fun c L1 hc => ?_
  rw [jH] at hc
  subst hc
  unfold cA
  repeat' (first|refine ae ?_|refine a6 ?_|refine aq ?_|refine a7 ?_|refine a8 ?_|refine aa a2 rfl rfl ?_)
  exact aA rfl rfl rfl
instance (f : aI) (l : ba) : AD Tryz.prog 128 [ct f, .agg (bj l)] (aM (kK f l)) := ⟨uS f l⟩
theorem rL (f : aI) (i : Nat) (l : ba) : bQ Tryz.prog 127 [aM i, .agg (bj l), .iptr (ce f)] (aM (kK f l)) := by
 refine aQ Tryz.func127 rfl Tryz.ntmps127 rfl fun B => ?_
 repeat' (first|refine ae ?_|refine a6 ?_|refine aq ?_|refine a7 ?_|refine a8 ?_|refine aa a2 rfl rfl ?_|refine bg ?_|(apply bh;refine bc ?_)|fail)
 exact aA rfl rfl rfl
end Go.Proofs.YtjjpkibjffmceaaGreat
