/-
  The library: rows of rows, one behind the other.
-/
import Derived.Test.YtpmdfoaadejmkaaGreatDoorM20
import Derived.Test.YtpmdfoaadejmkaaGreatDoorM07
namespace Go.Proofs.YtpmdfoaadejmkaaGreatDoor
open Go.RowKit
attribute [local irreducible] AT bh AX AO Av Kt b6 di DA cC
theorem yR (n : Nat) (hn : n ≤ 1000000) : AC Tryz.prog 271 [.sc (.slice none 0 0), aA n] [] fun c L => ∃ k, c = .vec k 1 [] ∧ L = tok k 22 1 0 := by
 refine aC Tryz.func271 rfl Tryz.ntmps271 rfl fun B => ?_
 repeat' (first|refine a9 ?_|refine a4 ?_|refine ai ?_|refine a6 ?_|refine a7 ?_|refine a8 a5 rfl rfl ?_|refine bC rfl ?_)
 refine pn a5 rfl rfl rfl ?_
 repeat' (first|refine a9 ?_|refine a4 ?_|refine a6 ?_|refine a7 ?_|refine a8 a5 rfl rfl ?_|(apply aU; refine aS ?_)|fail)
 by_cases h0 : n = 0
 ·subst h0
  repeat' (first|refine a9 ?_|refine a4 ?_|refine ai ?_|refine ah ?_|refine a6 ?_|refine a7 ?_|refine a8 a5 rfl rfl ?_|refine bC rfl ?_)
  refine bB (bT (t := 4) (c' := .vec none 1 []) rfl fun σ v h => eF 1 h) (an rfl rfl ⟨none, rfl, rfl⟩)
 ·refine ar rfl (fun h2 => ?_) (fun h2 => ?_)
  ·repeat' (first|refine a4 ?_|refine a8 a5 rfl rfl ?_)
   refine pn a5 rfl rfl rfl ?_
   repeat' (first|fail)
   refine B4 a5 rfl rfl rfl rfl ?_
   repeat' (first|refine a8 a5 rfl rfl ?_)
   refine uO a5 n rfl Tryz.underlying3 rfl rfl (by omega) (by omega) (by omega) (by omega) rfl fun b cap h3 h4 => ?_
   repeat' (first|refine a8 a5 rfl rfl ?_)
   refine x5 a5 0 rfl rfl rfl rfl (by omega) (by omega) rfl ?_
   repeat' (first|refine a9 ?_|refine a4 ?_|refine ah ?_|refine a6 ?_|refine a7 ?_|refine a8 a5 rfl rfl ?_)
   refine bB (bT (t := 4) (c' := .vec (some (b, cap)) 1 []) rfl fun σ v h => zA h4 h) (an rfl rfl ⟨some (b, cap), rfl, rfl⟩)
  ·exact absurd (Dy h2) (by omega)
def nl (l : List (List (List Int))) : List (List AV) := l.map fun r => [.imm 1 (b8 r)]
def eV (l : List (List (List Int))) : Nat := (l.map List.length).sum
theorem m4 {l : List (List (List Int))} {i : Nat} {r : List (List Int)} (h : l[i]? = some r) : eV (l.take (i + 1)) = eV (l.take i) + r.length := by
 unfold eV
 rw [List.take_add_one, h]
 simp
theorem oK (l : List (List (List Int))) (i : Nat) : eV (l.take i) ≤ eV l := by
 have h : ((l.take i ++ l.drop i).map List.length).sum = (l.map List.length).sum := by rw [List.take_append_drop]
 rw [List.map_append, List.sum_append] at h
 unfold eV
 omega
theorem wx (l : List (List (List Int))) : l.flatten.length = eV l := by
 unfold eV
 rw [List.length_flatten]
theorem v3 (a b : List (List Int)) : b8 a ++ b8 b = b8 (a ++ b) := by unfold b8; rw [List.map_append]
set_option maxHeartbeats 1000000 in
theorem rS (l : List (List (List Int))) (hs : eV l ≤ 1000000) : bn Tryz.prog 216 [.imm 1 (nl l)] (.imm 1 (b8 l.flatten)) := by
 refine aC Tryz.func216 rfl Tryz.ntmps216 rfl fun B => ?_
 have hrl : (nl l).length = l.length := by simp [nl]
 refine ci 0 rfl rfl fun hlen => ?_
 rw [hrl] at hlen
 repeat' (first|refine a9 ?_|refine a4 ?_|refine ak ?_|refine a6 ?_|refine a7 ?_|refine a8 a5 rfl rfl ?_)
 refine aL [0, 9, 10] (α := Nat) (fun i => [(11, aA i), (3, aA (eV (l.take i)))]) (fun i => i ≤ l.length) (fun _ => []) (fun i => l.length - i) 0 rfl ⟨rfl, rfl, trivial⟩ (Nat.zero_le _) (fun _ _ h => h) fun i hi => ?_
 try dsimp only [Ds, Dr, Dq, Dn]
 repeat' (first|refine a9 ?_|refine a4 ?_|refine a6 ?_|refine a7 ?_|refine a8 a5 rfl rfl ?_)
 refine ar rfl (fun h => ?_) (fun h => ?_)
 ·have hil : i < l.length := by have := Dz h; rw [hrl] at this; omega
  obtain ⟨z, hz⟩ : ∃ z, l[i]? = some z := ⟨_, Bn hil⟩
  have hzg : (nl l)[i]? = some [.imm 1 (b8 z)] := by simp [nl, hz]
  have hsz := m4 hz
  have hle := oK l (i + 1)
  have hzl : (b8 z).length = z.length := by simp [b8]
  repeat' (first|refine a9 ?_|refine a4 ?_|refine ak ?_|refine ai ?_|refine a6 ?_|refine aH ?_|refine a7 ?_|refine a8 a5 rfl rfl ?_|(apply aU; refine aS ?_)|(apply aF; first|refine aE a5 ?_|refine aB a5 ?_)|refine bC rfl ?_)
  exact az (i + 1) rfl ⟨by rw [Dv]; rfl, by rw [hsz, Dv, hzl]; rfl, trivial⟩ (by omega) (by omega) (fun _ _ h => h)
 have hil : i = l.length := by have := Dy h; rw [hrl] at this; omega
 subst hil
 rw [List.take_length]
 clear h
 repeat' (first|refine a9 ?_|refine a4 ?_|refine aM ?_|refine a6 ?_|refine au ?_|refine aw ?_|refine av ?_|refine a8 a5 rfl rfl ?_)
 refine aO [] [] (yR (eV l) hs) rfl rfl (Do _) rfl fun c L1 ⟨k, hc, hL⟩ => ?_
 subst hc; subst hL
 rw [List.append_nil]
 repeat' (first|refine a9 ?_|refine a4 ?_|refine ak ?_|refine a6 ?_|refine a7 ?_|refine a8 a5 rfl rfl ?_)
 refine aL [25, 26] (α := Nat × Option (Nat × Nat)) (fun x => [(27, aA x.1), (6, .vec x.2 1 (b8 (l.take x.1).flatten))]) (fun x => x.1 ≤ l.length) (fun x => tok x.2 22 1 (b8 (l.take x.1).flatten).length) (fun x => l.length - x.1) (0, k) rfl ⟨rfl, rfl, trivial⟩ (Nat.zero_le _) (fun _ _ h => h) ?_
 rintro ⟨i, k⟩ hi
 dsimp only at hi ⊢
 try dsimp only [Ds, Dr, Dq, Dn]
 repeat' (first|refine a9 ?_|refine a4 ?_|refine a6 ?_|refine a7 ?_|refine a8 a5 rfl rfl ?_)
 refine ar rfl (fun h => ?_) (fun h => ?_)
 ·have hil : i < l.length := by have := Dz h; rw [hrl] at this; omega
  obtain ⟨z, hz⟩ : ∃ z, l[i]? = some z := ⟨_, Bn hil⟩
  have hzg : (nl l)[i]? = some [.imm 1 (b8 z)] := by simp [nl, hz]
  have hsz := m4 hz
  have hle := oK l (i + 1)
  have hzl : (b8 z).length = z.length := by simp [b8]
  have hfl : (b8 (l.take i).flatten).length = eV (l.take i) := by rw [bS, wx]
  have hcat : b8 (l.take i).flatten ++ b8 z = b8 (l.take (i + 1)).flatten := by rw [v3, List.take_add_one, hz]; simp
  repeat' (first|refine a9 ?_|refine a4 ?_|refine ak ?_|refine ai ?_|refine a6 ?_|refine a7 ?_|refine a8 a5 rfl rfl ?_|(apply aF; first|refine aE a5 ?_|refine aB a5 ?_)|fail)
  refine cj a5 [] rfl rfl rfl rfl (by rw [List.append_nil]) (by rw [hfl, hzl]; omega) (by rw [hfl, hzl]; omega) rfl fun k' => ?_
  rw [hcat, List.append_nil]
  repeat' (first|refine a4 ?_|refine a6 ?_|refine aH ?_|refine a7 ?_|refine a8 a5 rfl rfl ?_|(apply aU; refine aS ?_)|fail)
  exact az (i + 1, k') rfl ⟨by rw [Dv]; rfl, rfl, trivial⟩ (by dsimp only; omega) (by dsimp only; omega) (fun _ _ h => h)
 ·have hil : i = l.length := by have := Dy h; rw [hrl] at this; omega
  subst hil
  rw [List.take_length]
  repeat' (first|refine a9 ?_|refine a4 ?_|refine ah ?_|refine aM ?_|refine a6 ?_|refine au ?_|refine aw ?_|refine av ?_|refine a7 ?_|refine a8 a5 rfl rfl ?_)
  exact vW rfl rfl rfl rfl
def gV (l : List Int) : Bool := decide (∀ i, i < l.length - 1 → l.getD i 0 < l.getD (i + 1) 0)
theorem iA {l : List Int} {i : Nat} {z : Int} (h : l[i]? = some z) : l.getD i 0 = z := by simp [h]
theorem sA (l : List Int) : bn Tryz.prog 253 [.imm 1 (aT l)] (dx (gV l)) := by
 refine aC Tryz.func253 rfl Tryz.ntmps253 rfl fun B => ?_
 refine ci 0 rfl rfl fun hlen => ?_
 have hll := aW l
 rw [aW] at hlen
 repeat' (first|refine a9 ?_|refine a4 ?_|refine ak ?_|refine a6 ?_|refine a7 ?_|refine a8 a5 rfl rfl ?_)
 refine aL [0] (α := Nat) (fun i => [(3, aA (i + 1 : Nat))]) (fun i => i ≤ l.length ∧ ∀ j, j < i → j + 1 < l.length → l.getD j 0 < l.getD (j + 1) 0) (fun _ => []) (fun i => l.length - i) 0 rfl ⟨rfl, trivial⟩ ⟨Nat.zero_le _, fun j hj => absurd hj (Nat.not_lt_zero _)⟩ (fun _ _ h => h) fun i ⟨hi, hall⟩ => ?_
 try dsimp only [Ds, Dr, Dq, Dn]
 repeat' (first|refine a9 ?_|refine a4 ?_|refine a6 ?_|refine a7 ?_|refine a8 a5 rfl rfl ?_)
 refine ar rfl (fun h => ?_) (fun h => ?_)
 ·have hil : i + 1 < l.length := by have := Dz h; rw [aW] at this; omega
  obtain ⟨y, hy⟩ : ∃ z, l[i]? = some z := ⟨_, Bn (by omega)⟩
  obtain ⟨z, hz⟩ : ∃ z, l[i + 1]? = some z := ⟨_, Bn hil⟩
  have hyg : (aT l)[(((i + 1 : Nat) : Int) - 1).toNat]? = some [aA y] := by rw [show (((i + 1 : Nat) : Int) - 1).toNat = i by omega]; exact bJ hy
  have hzg := bJ hz
  repeat' (first|refine a9 ?_|refine ak ?_|refine ai ?_|refine a6 ?_)
  refine bk 9 [(0, .v), (1, .v), (2, .v), (3, .v), (4, .v), (5, .v), (6, .v), (7, .v), (8, .v)] none ?_ trivial rfl (by kernel_rfl) (by kernel_rfl) (by kernel_rfl) c9 (by kernel_rfl) rfl
  repeat' (first|refine aD ?_|refine bi a5 ?_|(apply ir;refine lE ?_)|(apply cD;refine d3 a5 ?_)|fail)
  refine bz [0, 3, 13, 18] rfl rfl ?_
  repeat' (first|refine a6 ?_|refine a7 ?_|refine a8 a5 rfl rfl ?_)
  refine ar rfl (fun h2 => ?_) (fun h2 => ?_)
  ·have h2' := Dz h2
   repeat' (first|refine a9 ?_|refine a4 ?_|refine ah ?_|refine a6 ?_|refine aq ?_|refine aJ ?_|refine bf ?_|refine a7 ?_|refine a8 a5 rfl rfl ?_)
   refine an rfl rfl ?_
   rw [show gV l = false from decide_eq_false (fun hh => by have := hh i (by omega); rw [iA hy, iA hz] at this; omega)]
  ·have h2' := Dy h2
   repeat' (first|refine a4 ?_|refine ai ?_|refine a6 ?_|refine aH ?_|refine a7 ?_|refine a8 a5 rfl rfl ?_|(apply aU; refine aS ?_)|fail)
   refine az (i + 1) rfl ⟨by rw [Dv (i + 1) 1]; rfl, trivial⟩ ⟨by omega, fun j hj hjl => ?_⟩ (by omega) (fun _ _ h => h)
   by_cases e : j = i
   ·subst e; rw [iA hy, iA hz]; omega
   ·exact hall j (by omega) hjl
 ·have hil : l.length ≤ i + 1 := by have := Dy h; rw [aW] at this; omega
  repeat' (first|refine a9 ?_|refine a4 ?_|refine ah ?_|refine aM ?_|refine a6 ?_|refine au ?_|refine aw ?_|refine av ?_|refine a7 ?_|refine a8 a5 rfl rfl ?_)
  refine an rfl rfl ?_
  rw [show gV l = true from decide_eq_true (fun j hj => hall j (by omega) (by omega))]
instance (l : List Int) : AD Tryz.prog 253 [.imm 1 (aT l)] (dx (gV l)) := ⟨sA l⟩
def mV (f : aN) (l : List Int) : Bool := decide (0 < l.length) && (gV l && (jd f (l.getD 0 0) && jd f (l.getD (l.length - 1) 0)))
set_option maxHeartbeats 1000000 in
theorem uD (f : aN) (l : List Int) : bn Tryz.prog 218 [cz f, .imm 1 (aT l)] (dx (mV f l)) := by
 refine aC Tryz.func218 rfl Tryz.ntmps218 rfl fun B => ?_
 refine ci 1 rfl rfl fun hlen => ?_
 cases l with
 | nil =>
  repeat' (first|refine a9 ?_|refine a4 ?_|refine a6 ?_|refine a7 ?_|refine a8 a5 rfl rfl ?_|refine aZ ?_|fail)
  refine bk 24 [(0, .v), (1, .v), (2, .v), (3, .v), (4, .v), (5, .v), (6, .v), (7, .v), (8, .v), (9, .v), (10, .v), (11, .v), (12, .v), (13, .v), (14, .v), (15, .v), (16, .v), (17, .v), (18, .v), (19, .v), (20, .v), (21, .v), (22, .v), (23, .v)] none ?_ trivial rfl (by kernel_rfl) (by kernel_rfl) (by kernel_rfl) c9 (by kernel_rfl) rfl
  repeat' (first|refine aD ?_|refine bi a5 ?_|refine td rfl rfl ?_)
  refine bz [28] rfl rfl ?_
  repeat' (first|refine ah ?_|refine a6 ?_|refine a7 ?_|refine a8 a5 rfl rfl ?_)
  exact an rfl rfl rfl
 | cons y q =>
  have hll : (aT (y :: q)).length = q.length + 1 := by rw [aW]; rfl
  rw [hll] at hlen
  obtain ⟨z, hz⟩ : ∃ z, (y :: q)[q.length]? = some z := ⟨_, Bn (by simp)⟩
  have hzg : (aT (y :: q))[((((aT (y :: q)).length : Nat) : Int) - 1).toNat]? = some [aA z] := by rw [show ((((aT (y :: q)).length : Nat) : Int) - 1).toNat = q.length by rw [hll]; omega]; exact bJ hz
  have hyg : (aT (y :: q))[(0 : Int).toNat]? = some [aA y] := rfl
  have hval : mV f (y :: q) = (gV (y :: q) && (jd f y && jd f z)) := by
   unfold mV
   rw [show (y :: q).length - 1 = q.length by simp, iA hz]
   simp
  rw [hval]
  have hpos : decide (0 < (((aT (y :: q)).length : Nat) : Int)) = true := decide_eq_true (by rw [hll]; omega)
  repeat' (first|refine a9 ?_|refine a4 ?_|refine a6 ?_|refine a7 ?_|refine a8 a5 rfl rfl ?_|refine aZ ?_|fail)
  refine bk 24 [(0, .v), (1, .v), (2, .v), (3, .v), (4, .v), (5, .v), (6, .v), (7, .v), (8, .v), (9, .v), (10, .v), (11, .v), (12, .v), (13, .v), (14, .v), (15, .v), (16, .v), (17, .v), (18, .v), (19, .v), (20, .v), (21, .v), (22, .v), (23, .v)] none ?_ trivial rfl (by kernel_rfl) (by kernel_rfl) (by kernel_rfl) c9 (by kernel_rfl) rfl
  repeat' (first|refine aD ?_|refine bi a5 ?_|fail)
  rw [hpos]
  repeat' (first|refine aD ?_|refine bi a5 ?_|(apply cL;refine df ?_)|fail)
  generalize gV (y :: q) = b1
  cases b1
  ·repeat' (first|refine aD ?_|refine bi a5 ?_|refine td rfl rfl ?_)
   refine bz [28] rfl rfl ?_
   repeat' (first|refine ah ?_|refine a6 ?_|refine a7 ?_|refine a8 a5 rfl rfl ?_)
   exact an rfl rfl rfl
  repeat' (first|refine aD ?_|refine bi a5 ?_|(apply cD;refine d3 a5 ?_)|(apply cL;refine df ?_)|fail)
  generalize jd f y = b2
  cases b2
  ·repeat' (first|refine aD ?_|refine bi a5 ?_|refine td rfl rfl ?_)
   refine bz [28] rfl rfl ?_
   repeat' (first|refine ah ?_|refine a6 ?_|refine a7 ?_|refine a8 a5 rfl rfl ?_)
   exact an rfl rfl rfl
  repeat' (first|refine aD ?_|refine bi a5 ?_|(apply ir;refine lE ?_)|(apply cD;refine d3 a5 ?_)|(apply cL;refine df ?_)|fail)
  refine bz [28] rfl rfl ?_
  repeat' (first|refine ah ?_|refine a6 ?_|refine a7 ?_|refine a8 a5 rfl rfl ?_)
  exact an rfl rfl rfl
instance (f : aN) (l : List Int) : AD Tryz.prog 218 [cz f, .imm 1 (aT l)] (dx (mV f l)) := ⟨uD f l⟩
def jb (kind : Int) (r : aV) : Bool := if kind = 1 ∨ kind = 2 ∨ kind = 5 then decide ((r.In.length : Int) ≠ 1) else if kind = 6 then decide ((r.In.length : Int) ≠ 2 ∨ (r.Back.length : Int) > 0 ∨ (r.Ahead.length : Int) > 0) else decide ((r.In.length : Int) = 0)
def lU (kind : Int) (r : aV) : Int := if (r.Back.length : Int) > 6 ∨ (r.In.length : Int) > 6 ∨ (r.Ahead.length : Int) > 6 then 2 else d6 (jb kind r) 40
set_option maxHeartbeats 1000000 in
theorem xm (kind : Int) (r : aV) : bn Tryz.prog 213 [aA kind, .agg (bI r)] (aA (lU kind r)) := by
 refine aC Tryz.func213 rfl Tryz.ntmps213 rfl fun B => ?_
 unfold lU jb
 have hB := bS r.Back
 have hI := bS r.In
 have hA := bS r.Ahead
 rw [← hB, ← hI, ← hA]
 repeat' (first|refine a9 ?_|refine a4 ?_|refine a6 ?_|refine a7 ?_|refine a8 a5 rfl rfl ?_|refine aZ ?_|fail)
 refine bH [0, 3] (((b8 r.Back).length : Int) > 6 ∨ ((b8 r.In).length : Int) > 6 ∨ ((b8 r.Ahead).length : Int) > 6) rfl (fun Q' K => ?_) (fun hC => ?_) (fun hC => ?_)
 ·repeat' (first|refine a7 ?_|refine a8 a5 rfl rfl ?_|refine am rfl rfl ?_|refine ax rfl rfl rfl rfl ?_|refine aI rfl rfl rfl (fun _ => ?_) (fun _ => ?_))
  all_goals exact K _ _ rfl rfl (by clear K; grind)
 ·rw [if_pos hC]
  repeat' (first|refine a9 ?_|refine a4 ?_|refine ah ?_|refine a6 ?_|refine aq ?_|refine a7 ?_|refine a8 a5 rfl rfl ?_)
  exact an rfl rfl rfl
 rw [if_neg hC]
 by_cases h1 : kind = 1
 ·subst h1
  repeat' (first|refine a9 ?_|refine a4 ?_|refine ak ?_|refine ai ?_|refine ah ?_|refine a6 ?_|refine aH ?_|refine a7 ?_|refine a8 a5 rfl rfl ?_|(apply bc;refine b7 ?_)|refine bv rfl ?_)
  exact an rfl rfl rfl
 by_cases h2 : kind = 2
 ·subst h2
  repeat' (first|refine a9 ?_|refine a4 ?_|refine ak ?_|refine ai ?_|refine ah ?_|refine a6 ?_|refine aH ?_|refine a7 ?_|refine a8 a5 rfl rfl ?_|(apply bc;refine b7 ?_)|refine bv rfl ?_|refine bC rfl ?_)
  exact an rfl rfl rfl
 by_cases h5 : kind = 5
 ·subst h5
  repeat' (first|refine a9 ?_|refine a4 ?_|refine ak ?_|refine ai ?_|refine ah ?_|refine a6 ?_|refine aH ?_|refine a7 ?_|refine a8 a5 rfl rfl ?_|(apply bc;refine b7 ?_)|refine bv rfl ?_|refine bC rfl ?_)
  exact an rfl rfl rfl
 rw [if_neg (by omega)]
 by_cases h6 : kind = 6
 ·subst h6
  rw [if_pos rfl]
  repeat' (first|refine a9 ?_|refine a4 ?_|refine ak ?_|refine ai ?_|refine a6 ?_|refine a7 ?_|refine a8 a5 rfl rfl ?_|refine bv rfl ?_|refine bC rfl ?_)
  refine cA (t := 5) [] (((b8 r.In).length : Int) ≠ 2 ∨ ((b8 r.Back).length : Int) > 0 ∨ ((b8 r.Ahead).length : Int) > 0) rfl (fun Q' K => ?_) ?_
  ·repeat' (first|refine a7 ?_|refine a8 a5 rfl rfl ?_|refine am rfl rfl ?_|refine ax rfl rfl rfl rfl ?_|refine aI rfl rfl rfl (fun _ => ?_) (fun _ => ?_))
   all_goals exact K _ _ rfl rfl (by clear K; grind)
  repeat' (first|refine a9 ?_|refine a4 ?_|refine ah ?_|refine a6 ?_|refine aH ?_|refine a7 ?_|refine a8 a5 rfl rfl ?_|(apply bc;refine b7 ?_)|fail)
  exact an rfl rfl rfl
 rw [if_neg h6]
 repeat' (first|refine a9 ?_|refine a4 ?_|refine ak ?_|refine ai ?_|refine a6 ?_|refine a7 ?_|refine a8 a5 rfl rfl ?_)
 refine ar rfl (fun h => absurd (Dz h) h1) (fun h => ?_)
 repeat' (first|refine a9 ?_|refine a4 ?_|refine a6 ?_|refine a7 ?_|refine a8 a5 rfl rfl ?_)
 refine ar rfl (fun h => absurd (Dz h) h2) (fun h => ?_)
 repeat' (first|refine a4 ?_|refine a6 ?_|refine a7 ?_|refine a8 a5 rfl rfl ?_)
 refine ar rfl (fun h => absurd (Dz h) h5) (fun h => ?_)
 rw [decide_eq_false h5]
 repeat' (first|refine a9 ?_|refine a4 ?_|refine a6 ?_|refine a7 ?_|refine a8 a5 rfl rfl ?_)
 refine ar rfl (fun h => absurd (Dz h) h6) (fun h => ?_)
 repeat' (first|refine a9 ?_|refine a4 ?_|refine ai ?_|refine ah ?_|refine a6 ?_|refine aH ?_|refine a7 ?_|refine a8 a5 rfl rfl ?_|(apply bc;refine b7 ?_)|fail)
 exact an rfl rfl rfl
instance (kind : Int) (r : aV) : AD Tryz.prog 213 [aA kind, .agg (bI r)] (aA (lU kind r)) := ⟨xm kind r⟩
theorem tN {kind : Int} {r : aV} (h : lU kind r = 0) : r.In ≠ [] ∧ r.Back.length ≤ 6 ∧ r.In.length ≤ 6 ∧ r.Ahead.length ≤ 6 := by
 unfold lU at h
 split at h
 ·cases h
 ·rename_i hc
  refine ⟨fun e => ?_, by omega, by omega, by omega⟩
  have hw : jb kind r = true := by
   unfold jb
   rw [e]
   split
   ·decide
   ·split <;> simp
  rw [hw] at h
  cases h
def uR (kind : Int) (r : aV) : Bool := if kind = 1 ∨ kind = 5 then decide ((r.Out.length : Int) = ((r.In.headD []).length : Int)) else if kind = 2 then decide ((r.Out.length : Int) ≤ 6) else if kind = 3 then decide ((r.Out.length : Int) = 1) else decide ((r.Out.length : Int) = 0)
set_option maxHeartbeats 1000000 in
theorem z2 (kind : Int) (r : aV) (hin : r.In ≠ []) : bn Tryz.prog 220 [aA kind, .agg (bI r)] (dx (uR kind r)) := by
 refine aC Tryz.func220 rfl Tryz.ntmps220 rfl fun B => ?_
 obtain ⟨y, hy⟩ : ∃ y, r.In[0]? = some y := ⟨_, Bn (List.length_pos_iff.2 hin)⟩
 have hyg := fu hy
 have hv : uR kind r = if kind = 1 ∨ kind = 5 then decide (((aT r.Out).length : Int) = ((aT y).length : Int)) else if kind = 2 then decide (((aT r.Out).length : Int) ≤ 6) else if kind = 3 then decide (((aT r.Out).length : Int) = 1) else decide (((aT r.Out).length : Int) = 0) := by
  have hd : r.In.headD [] = y := by
   cases hI : r.In with
   | nil => exact absurd hI hin
   | cons y' q => rw [hI] at hy; simpa using hy
  unfold uR
  rw [hd, aW, aW]
 rw [hv]
 by_cases h1 : kind = 1
 ·subst h1
  repeat' (first|refine a9 ?_|refine a4 ?_|refine ak ?_|refine ai ?_|refine a6 ?_|refine a7 ?_|refine a8 a5 rfl rfl ?_|refine aZ ?_|refine bv rfl ?_)
  refine bk 8 [(0, .v), (1, .v), (2, .v), (3, .v), (4, .v), (5, .v), (6, .v), (7, .v)] none ?_ trivial rfl (by kernel_rfl) (by kernel_rfl) (by kernel_rfl) c9 (by kernel_rfl) rfl
  repeat' (first|refine aD ?_|refine bi a5 ?_|(apply cD;refine d3 a5 ?_)|fail)
  refine bz [11, 16] rfl rfl ?_
  repeat' (first|refine ah ?_|refine a6 ?_|refine aq ?_|refine aJ ?_|refine a7 ?_|refine a8 a5 rfl rfl ?_)
  exact an rfl rfl rfl
 by_cases h5 : kind = 5
 ·subst h5
  repeat' (first|refine a9 ?_|refine a4 ?_|refine ak ?_|refine a6 ?_|refine a7 ?_|refine a8 a5 rfl rfl ?_|refine aZ ?_|refine bv rfl ?_|refine bC rfl ?_)
  refine bk 8 [(0, .v), (1, .v), (2, .v), (3, .v), (4, .v), (5, .v), (6, .v), (7, .v)] none ?_ trivial rfl (by kernel_rfl) (by kernel_rfl) (by kernel_rfl) c9 (by kernel_rfl) rfl
  repeat' (first|refine aD ?_|refine bi a5 ?_|(apply cD;refine d3 a5 ?_)|fail)
  refine bz [11, 16] rfl rfl ?_
  repeat' (first|refine ah ?_|refine a6 ?_|refine aq ?_|refine aJ ?_|refine a7 ?_|refine a8 a5 rfl rfl ?_)
  exact an rfl rfl rfl
 rw [if_neg (by omega)]
 by_cases h2 : kind = 2
 ·subst h2
  repeat' (first|refine a9 ?_|refine a4 ?_|refine ak ?_|refine ah ?_|refine a6 ?_|refine aq ?_|refine aJ ?_|refine a7 ?_|refine a8 a5 rfl rfl ?_|refine aZ ?_|refine bv rfl ?_|refine bC rfl ?_)
  exact an rfl rfl rfl
 rw [if_neg h2]
 by_cases h3 : kind = 3
 ·subst h3
  repeat' (first|refine a9 ?_|refine a4 ?_|refine ak ?_|refine ah ?_|refine a6 ?_|refine aq ?_|refine aJ ?_|refine a7 ?_|refine a8 a5 rfl rfl ?_|refine aZ ?_|refine bv rfl ?_|refine bC rfl ?_)
  exact an rfl rfl rfl
 rw [if_neg h3]
 repeat' (first|refine a9 ?_|refine a4 ?_|refine ak ?_|refine a6 ?_|refine a7 ?_|refine a8 a5 rfl rfl ?_|refine aZ ?_|fail)
 refine ar rfl (fun h => absurd (Dz h) h1) (fun h => ?_)
 repeat' (first|refine a4 ?_|refine a6 ?_|refine a7 ?_|refine a8 a5 rfl rfl ?_)
 refine ar rfl (fun h => absurd (Dz h) h5) (fun h => ?_)
 rw [decide_eq_false h5]
 repeat' (first|refine a9 ?_|refine a4 ?_|refine a6 ?_|refine a7 ?_|refine a8 a5 rfl rfl ?_)
 refine ar rfl (fun h => absurd (Dz h) h2) (fun h => ?_)
 repeat' (first|refine a9 ?_|refine a4 ?_|refine a6 ?_|refine a7 ?_|refine a8 a5 rfl rfl ?_)
 refine ar rfl (fun h => absurd (Dz h) h3) (fun h => ?_)
 repeat' (first|refine a9 ?_|refine a4 ?_|refine ai ?_|refine ah ?_|refine a6 ?_|refine aH ?_|refine a7 ?_|refine a8 a5 rfl rfl ?_)
 exact an rfl rfl rfl
def p9 (f : aN) (n : Int) : Int := match f.Lookups[n.toNat]? with | some l => l.Kind | none => 0
def t6 (f : aN) (r : aV) (_ : Nat) (c : ic) : Int := if c.At < 0 ∨ c.At ≥ r.In.length then 40 else if c.Lookup < 0 ∨ c.Lookup ≥ f.Lookups.length then 42 else d6 (decide (p9 f c.Lookup < 1 ∨ p9 f c.Lookup > 4)) 42
set_option maxHeartbeats 1000000 in
theorem w7 (f : aN) (r : aV) (i : Nat) (c : ic) : bn Tryz.prog 273 [aA i, .agg (fa c), .iptr (bI r), .iptr (bV f)] (aA (t6 f r i c)) := by
 refine aC Tryz.func273 rfl Tryz.ntmps273 rfl fun B => ?_
 unfold t6
 have hI := bS r.In
 have hL : (f.Lookups.map bo).length = f.Lookups.length := Du ..
 rw [← hI]
 repeat' (first|refine a9 ?_|refine a4 ?_|refine ak ?_|refine a6 ?_|refine a7 ?_|refine a8 a5 rfl rfl ?_|refine aZ ?_|fail)
 refine bH [3, 5] (c.At < 0 ∨ c.At ≥ ((b8 r.In).length : Int)) rfl (fun Q' K => ?_) (fun hC => ?_) (fun hC => ?_)
 ·repeat' (first|refine a7 ?_|refine a8 a5 rfl rfl ?_|refine am rfl rfl ?_|refine ax rfl rfl rfl rfl ?_|refine aI rfl rfl rfl (fun _ => ?_) (fun _ => ?_))
  all_goals exact K _ _ rfl rfl (by clear K; grind)
 ·rw [if_pos hC]
  repeat' (first|refine a9 ?_|refine a4 ?_|refine ah ?_|refine a6 ?_|refine aq ?_|refine aJ ?_|refine a7 ?_|refine a8 a5 rfl rfl ?_)
  exact an rfl rfl rfl
 rw [if_neg hC]
 repeat' (first|refine a9 ?_|refine a4 ?_|refine a8 a5 rfl rfl ?_)
 refine bH [3, 5] (c.Lookup < 0 ∨ c.Lookup ≥ f.Lookups.length) rfl (fun Q' K => ?_) (fun hC => ?_) (fun hC => ?_)
 ·repeat' (first|refine a7 ?_|refine a8 a5 rfl rfl ?_|refine am rfl rfl ?_|refine ax rfl rfl rfl rfl ?_|refine aI rfl rfl rfl (fun _ => ?_) (fun _ => ?_))
  all_goals exact K _ _ rfl rfl (by clear K; grind)
 ·rw [if_pos hC]
  repeat' (first|refine a9 ?_|refine a4 ?_|refine ah ?_|refine a6 ?_|refine aq ?_|refine aJ ?_|refine a7 ?_|refine a8 a5 rfl rfl ?_)
  exact an rfl rfl rfl
 rw [if_neg hC]
 obtain ⟨l, hl⟩ : ∃ l, f.Lookups[c.Lookup.toNat]? = some l := ⟨_, Bn (by omega)⟩
 have hlg := bW (c := bo) hl
 have hk : p9 f c.Lookup = l.Kind := by unfold p9; rw [hl]
 rw [hk]
 repeat' (first|refine a9 ?_|refine a4 ?_|refine ai ?_|refine a6 ?_|refine aH ?_|refine a7 ?_|refine a8 a5 rfl rfl ?_|(apply aF; first|refine aE a5 ?_|refine aB a5 ?_)|fail)
 by_cases h1 : l.Kind < 1
 ·rw [decide_eq_true h1, decide_eq_true (Or.inl h1)]
  repeat' (first|refine ah ?_|refine a6 ?_|refine a7 ?_|refine a8 a5 rfl rfl ?_|refine ax rfl rfl rfl rfl ?_|(apply bc;refine b7 ?_)|fail)
  exact an rfl rfl rfl
 ·rw [decide_eq_false h1, show decide (l.Kind < 1 ∨ l.Kind > 4) = decide (4 < l.Kind) from decide_eq_decide.2 ⟨fun h => h.resolve_left h1, Or.inr⟩]
  repeat' (first|refine ah ?_|refine a6 ?_|refine a7 ?_|refine a8 a5 rfl rfl ?_|refine am rfl rfl ?_|(apply bc;refine b7 ?_)|fail)
  exact an rfl rfl rfl
def kT (f : aN) (kind : Int) (r : aV) : Int := if (r.Calls.length : Int) > 6 then 2 else if (r.Calls.length : Int) > 0 ∧ kind ≠ 4 then 40 else (co r.Calls (t6 f r)).1
set_option maxHeartbeats 1000000 in
theorem uf (f : aN) (kind : Int) (r : aV) : bn Tryz.prog 224 [cz f, aA kind, .agg (bI r)] (aA (kT f kind r)) := by
 refine aC Tryz.func224 rfl Tryz.ntmps224 rfl fun B => ?_
 unfold kT
 have hL : (r.Calls.map fa).length = r.Calls.length := Du ..
 rw [← hL]
 repeat' (first|refine a9 ?_|refine a4 ?_|refine ak ?_|refine a6 ?_|refine a7 ?_|refine a8 a5 rfl rfl ?_|refine aZ ?_|fail)
 refine ar rfl (fun h => ?_) (fun h => ?_)
 ·rw [if_pos (Dz h)]
  repeat' (first|refine a9 ?_|refine a4 ?_|refine ah ?_|refine a6 ?_|refine aq ?_|refine aJ ?_|refine a7 ?_|refine a8 a5 rfl rfl ?_)
  exact an rfl rfl rfl
 rw [if_neg (Dy h)]
 repeat' (first|refine a9 ?_|refine a4 ?_|refine a8 a5 rfl rfl ?_)
 refine bH [3, 5] (((r.Calls.map fa).length : Int) > 0 ∧ kind ≠ 4) rfl (fun Q' K => ?_) (fun hC => ?_) (fun hC => ?_)
 ·repeat' (first|refine a7 ?_|refine a8 a5 rfl rfl ?_|refine am rfl rfl ?_|refine ax rfl rfl rfl rfl ?_|refine aI rfl rfl rfl (fun _ => ?_) (fun _ => ?_))
  all_goals exact K _ _ rfl rfl (by clear K; grind)
 ·rw [if_pos hC]
  repeat' (first|refine a9 ?_|refine a4 ?_|refine ah ?_|refine a6 ?_|refine aq ?_|refine aJ ?_|refine a7 ?_|refine a8 a5 rfl rfl ?_)
  exact an rfl rfl rfl
 rw [if_neg hC]
 repeat' (first|refine a9 ?_|refine a4 ?_|refine ai ?_|refine a6 ?_|refine aH ?_|refine a8 a5 rfl rfl ?_)
 refine aO [] [] (yI (u := .fn 273 [.iptr (bI r), .iptr (bV f)]) (g := 273) rfl r.Calls _ (fun _ _ => True) [] trivial (ct (fun i x _ => w7 f r i x))) rfl rfl (Do _) rfl fun c L1 hc => ?_
 have hc : c = bL (co r.Calls (t6 f r)) := hc
 subst hc
 unfold bL
 repeat' (first|refine a9 ?_|refine a4 ?_|refine ah ?_|refine a6 ?_|refine a7 ?_|refine a8 a5 rfl rfl ?_)
 exact an rfl rfl rfl
instance (f : aN) (kind : Int) (r : aV) : AD Tryz.prog 224 [cz f, aA kind, .agg (bI r)] (aA (kT f kind r)) := ⟨uf f kind r⟩
def vc (f : aN) (_ : Nat) (l : List Int) : Int := d6 (!(mV f l)) 41
def uS (f : aN) (_ : Nat) (n : Int) : Int := d6 (!(jd f n)) 32
def xE (kind : Int) (r : aV) : Int := d6 (decide (r.X ≠ 0 ∧ kind ≠ 6)) 40
def lX (r : aV) : List (List Int) := r.Back ++ (r.In ++ r.Ahead)
theorem v4 (kind : Int) (r : aV) : bn Tryz.prog 212 [.iptr [aA kind], .iptr (bI r)] (bL (lU kind r, 0)) := by
 refine aC Tryz.func212 rfl Tryz.ntmps212 rfl fun B => ?_
 repeat' (first|refine a9 ?_|refine a4 ?_|refine ah ?_|refine a6 ?_|refine a7 ?_|refine a8 a5 rfl rfl ?_|(apply bc;refine b7 ?_)|fail)
 exact aK rfl rfl rfl rfl
theorem sC (f : aN) (i : Nat) (l : List Int) : bn Tryz.prog 217 [aA i, .imm 1 (aT l), .iptr (bV f)] (aA (vc f i l)) := by
 refine aC Tryz.func217 rfl Tryz.ntmps217 rfl fun B => ?_
 repeat' (first|refine a9 ?_|refine a4 ?_|refine ah ?_|refine a6 ?_|refine a7 ?_|refine a8 a5 rfl rfl ?_|(apply bc;refine b7 ?_)|fail)
 exact an rfl rfl rfl
theorem v5 (f : aN) (r : aV) (h : r.Back.length ≤ 6 ∧ r.In.length ≤ 6 ∧ r.Ahead.length ≤ 6) : bn Tryz.prog 214 [.iptr (bI r), .iptr (bV f)] (bL (co (lX r) (vc f))) := by
 refine aC Tryz.func214 rfl Tryz.ntmps214 rfl fun B => ?_
 repeat' (first|refine a9 ?_|refine a4 ?_|refine a6 ?_|refine a7 ?_|refine a8 a5 rfl rfl ?_|refine ce a5 ?_|fail)
 refine b7 (hc := ⟨rS [r.Back, r.In, r.Ahead] (by simp [eV]; omega)⟩) ?_
 rw [show ([r.Back, r.In, r.Ahead] : List (List (List Int))).flatten = lX r by simp [lX]]
 repeat' (first|refine a8 a5 rfl rfl ?_)
 refine aO [] [] (yG (u := .fn 217 [.iptr (bV f)]) (g := 217) rfl (lX r) _ (fun _ _ => True) [] trivial (ct (fun i x _ => sC f i x))) rfl rfl (Do _) rfl fun c L1 hc => ?_
 have hc : c = bL (co (lX r) (vc f)) := hc
 subst hc
 unfold bL
 repeat' (first|refine ah ?_|refine a6 ?_|refine a7 ?_|refine a8 a5 rfl rfl ?_)
 exact aK rfl rfl rfl rfl
theorem v6 (kind : Int) (r : aV) (hin : r.In ≠ []) : bn Tryz.prog 219 [.iptr [aA kind], .iptr (bI r)] (bL (d6 (!(uR kind r)) 40, 0)) := by
 refine aC Tryz.func219 rfl Tryz.ntmps219 rfl fun B => ?_
 repeat' (first|refine a9 ?_|refine a4 ?_|refine a6 ?_|refine a7 ?_|refine a8 a5 rfl rfl ?_)
 refine b7 (hc := ⟨z2 kind r hin⟩) ?_
 repeat' (first|refine ah ?_|refine a6 ?_|refine a7 ?_|refine a8 a5 rfl rfl ?_|(apply bc;refine b7 ?_)|fail)
 exact aK rfl rfl rfl rfl
theorem sD (f : aN) (i : Nat) (n : Int) : bn Tryz.prog 222 [aA i, aA n, .iptr (bV f)] (aA (uS f i n)) := by
 refine aC Tryz.func222 rfl Tryz.ntmps222 rfl fun B => ?_
 repeat' (first|refine a9 ?_|refine a4 ?_|refine ah ?_|refine a6 ?_|refine a7 ?_|refine a8 a5 rfl rfl ?_|(apply bc;refine b7 ?_)|fail)
 exact an rfl rfl rfl
theorem v7 (f : aN) (r : aV) : bn Tryz.prog 221 [.iptr (bI r), .iptr (bV f)] (bL (co r.Out (uS f))) := by
 refine aC Tryz.func221 rfl Tryz.ntmps221 rfl fun B => ?_
 repeat' (first|refine a9 ?_|refine a4 ?_|refine a6 ?_|refine a7 ?_|refine a8 a5 rfl rfl ?_)
 refine aO [] [] (jW (u := .fn 222 [.iptr (bV f)]) (g := 222) rfl r.Out _ (fun _ _ => True) [] trivial (ct (fun i x _ => sD f i x))) rfl rfl (Do _) rfl fun c L1 hc => ?_
 have hc : c = bL (co r.Out (uS f)) := hc
 subst hc
 unfold bL
 repeat' (first|refine ah ?_|refine a6 ?_|refine a7 ?_|refine a8 a5 rfl rfl ?_)
 exact aK rfl rfl rfl rfl
theorem v8 (f : aN) (kind : Int) (r : aV) : bn Tryz.prog 223 [.iptr (bV f), .iptr [aA kind], .iptr (bI r)] (bL (kT f kind r, 0)) := by
 refine aC Tryz.func223 rfl Tryz.ntmps223 rfl fun B => ?_
 repeat' (first|refine a9 ?_|refine a4 ?_|refine ah ?_|refine a6 ?_|refine a7 ?_|refine a8 a5 rfl rfl ?_|(apply bc;refine b7 ?_)|fail)
 exact aK rfl rfl rfl rfl
theorem v9 (r : aV) : bn Tryz.prog 225 [.iptr (bI r)] (bL (d6 (!([r.X].all eT)) 1, 0)) := by
 refine aC Tryz.func225 rfl Tryz.ntmps225 rfl fun B => ?_
 repeat' (first|refine a9 ?_|refine a4 ?_|refine ah ?_|refine a6 ?_|refine a7 ?_|refine a8 a5 rfl rfl ?_|refine ce a5 ?_|(apply bc;refine b7 ?_)|fail)
 exact aK rfl rfl rfl rfl
theorem va (kind : Int) (r : aV) : bn Tryz.prog 226 [.iptr (bI r), .iptr [aA kind]] (bL (xE kind r, 0)) := by
 refine aC Tryz.func226 rfl Tryz.ntmps226 rfl fun B => ?_
 unfold xE
 by_cases h : r.X ≠ 0
 ·rw [show decide (r.X ≠ 0 ∧ kind ≠ 6) = decide (kind ≠ 6) from decide_eq_decide.2 ⟨fun q => q.2, fun q => ⟨h, q⟩⟩]
  repeat' (first|refine a9 ?_|refine a4 ?_|refine a6 ?_|refine a7 ?_|refine a8 a5 rfl rfl ?_)
  rw [decide_eq_true h]
  repeat' (first|refine ah ?_|refine a6 ?_|refine a7 ?_|refine a8 a5 rfl rfl ?_|refine am rfl rfl ?_|(apply bc;refine b7 ?_)|fail)
  exact aK rfl rfl rfl rfl
 ·rw [show decide (r.X ≠ 0 ∧ kind ≠ 6) = false from decide_eq_false (fun q => h q.1)]
  repeat' (first|refine a9 ?_|refine a4 ?_|refine a6 ?_|refine a7 ?_|refine a8 a5 rfl rfl ?_)
  rw [decide_eq_false h]
  repeat' (first|refine ah ?_|refine a6 ?_|refine a7 ?_|refine a8 a5 rfl rfl ?_|refine ax rfl rfl rfl rfl ?_|(apply bc;refine b7 ?_)|fail)
  exact aK rfl rfl rfl rfl
def iH (f : aN) (kind : Int) (r : aV) : Int := (fC [(lU kind r, 0), co (lX r) (vc f), (d6 (!(uR kind r)) 40, 0), co r.Out (uS f), (kT f kind r, 0), (d6 (!([r.X].all eT)) 1, 0), (xE kind r, 0)]).1
set_option maxHeartbeats 1000000 in
theorem xp (f : aN) (kind : Int) (r : aV) : bn Tryz.prog 141 [cz f, aA kind, .agg (bI r)] (aA (iH f kind r)) := by
 refine aC Tryz.func141 rfl Tryz.ntmps141 rfl fun B => ?_
 repeat' (first|refine a9 ?_|refine a4 ?_|refine a6 ?_|refine a7 ?_|refine a8 a5 rfl rfl ?_|refine aZ ?_|refine ce a5 ?_|fail)
 refine aO [] [] (gk [⟨212, [.iptr [aA kind], .iptr (bI r)], [], lU kind r, 0⟩, ⟨214, [.iptr (bI r), .iptr (bV f)], [], (co (lX r) (vc f)).1, (co (lX r) (vc f)).2⟩, ⟨219, [.iptr [aA kind], .iptr (bI r)], [], d6 (!(uR kind r)) 40, 0⟩, ⟨221, [.iptr (bI r), .iptr (bV f)], [], (co r.Out (uS f)).1, (co r.Out (uS f)).2⟩, ⟨223, [.iptr (bV f), .iptr [aA kind], .iptr (bI r)], [], kT f kind r, 0⟩, ⟨225, [.iptr (bI r)], [], d6 (!([r.X].all eT)) 1, 0⟩, ⟨226, [.iptr (bI r), .iptr [aA kind]], [], xE kind r, 0⟩] ?_) rfl rfl (Do _) rfl fun c L1 hc => ?_
 ·exact ⟨⟨inferInstance, v4 kind r⟩, fun h1 => ⟨⟨inferInstance, v5 f r (tN h1).2⟩, fun _ => ⟨⟨inferInstance, v6 kind r (tN h1).1⟩, fun _ => ⟨⟨inferInstance, v7 f r⟩, fun _ => ⟨⟨inferInstance, v8 f kind r⟩, fun _ => ⟨⟨inferInstance, v9 r⟩, fun _ => ⟨⟨inferInstance, va kind r⟩, fun _ => trivial⟩⟩⟩⟩⟩⟩⟩
 rw [gS] at hc
 subst hc
 unfold bL
 repeat' (first|refine a9 ?_|refine a4 ?_|refine ah ?_|refine a6 ?_|refine a7 ?_|refine a8 a5 rfl rfl ?_)
 exact an rfl rfl rfl
instance (f : aN) (kind : Int) (r : aV) : AD Tryz.prog 141 [cz f, aA kind, .agg (bI r)] (aA (iH f kind r)) := ⟨xp f kind r⟩
theorem lL (l : aQ) : bn Tryz.prog 136 [.iptr (bo l)] (bL (d6 (decide ((l.Rules.length : Int) > 60)) 2, 0)) := by
 refine aC Tryz.func136 rfl Tryz.ntmps136 rfl fun B => ?_
 rw [show (l.Rules.length : Int) = ((l.Rules.map bI).length : Int) by rw [Du]]
 repeat' (first|refine a9 ?_|refine a4 ?_|refine ah ?_|refine a6 ?_|refine a7 ?_|refine a8 a5 rfl rfl ?_|(apply bc;refine b7 ?_)|fail)
 exact aK rfl rfl rfl rfl
def q5 (l : aQ) : Int := d6 (decide (l.Kind = 7 ∨ l.Kind = 8) && decide ((l.Rules.length : Int) > 0)) 40
theorem lM (l : aQ) (b : Bool) (hb : b = decide (l.Kind = 7 ∨ l.Kind = 8)) : bn Tryz.prog 137 [.iptr [dx b], .iptr (bo l)] (bL (q5 l, 0)) := by
 refine aC Tryz.func137 rfl Tryz.ntmps137 rfl fun B => ?_
 unfold q5
 rw [← hb, show (l.Rules.length : Int) = ((l.Rules.map bI).length : Int) by rw [Du]]
 cases b
 ·repeat' (first|refine a9 ?_|refine a4 ?_|refine ah ?_|refine a6 ?_|refine a7 ?_|refine a8 a5 rfl rfl ?_|refine ax rfl rfl rfl rfl ?_|(apply bc;refine b7 ?_)|fail)
  exact aK rfl rfl rfl rfl
 ·repeat' (first|refine a9 ?_|refine a4 ?_|refine ah ?_|refine a6 ?_|refine a7 ?_|refine a8 a5 rfl rfl ?_|refine am rfl rfl ?_|(apply bc;refine b7 ?_)|fail)
  exact aK rfl rfl rfl rfl
theorem pb (f : aN) (l : aQ) (i : Nat) (r : aV) : bn Tryz.prog 140 [aA i, .agg (bI r), .iptr (bV f), .iptr (bo l)] (aA (iH f l.Kind r)) := by
 refine aC Tryz.func140 rfl Tryz.ntmps140 rfl fun B => ?_
 repeat' (first|refine a9 ?_|refine a4 ?_|refine ah ?_|refine a6 ?_|refine a7 ?_|refine a8 a5 rfl rfl ?_|refine aZ ?_|(apply bc;refine b7 ?_)|fail)
 exact an rfl rfl rfl
theorem lN (f : aN) (l : aQ) : bn Tryz.prog 138 [.iptr (bo l), .iptr (bV f)] (bL (co l.Rules fun _ r => iH f l.Kind r)) := by
 refine aC Tryz.func138 rfl Tryz.ntmps138 rfl fun B => ?_
 repeat' (first|refine a9 ?_|refine a4 ?_|refine a6 ?_|refine a7 ?_|refine a8 a5 rfl rfl ?_)
 refine aO [] [] (yu (u := .fn 140 [.iptr (bV f), .iptr (bo l)]) (g := 140) rfl l.Rules _ (fun _ _ => True) [] trivial (ct (w := fun _ r => iH f l.Kind r) (fun i x _ => pb f l i x))) rfl rfl (Do _) rfl fun c L1 hc => ?_
 have hc : c = bL (co l.Rules fun _ r => iH f l.Kind r) := hc
 subst hc
 unfold bL
 repeat' (first|refine ah ?_|refine a6 ?_|refine a7 ?_|refine a8 a5 rfl rfl ?_)
 exact aK rfl rfl rfl rfl
def kf (f : aN) (l : aQ) : Int := if l.Kind < 1 ∨ l.Kind > 8 then 42 else (fC [(d6 (decide ((l.Rules.length : Int) > 60)) 2, 0), (q5 l, 0), co l.Rules fun _ r => iH f l.Kind r]).1
set_option maxHeartbeats 1000000 in
theorem sj (f : aN) (l : aQ) : bn Tryz.prog 62 [cz f, .agg (bo l)] (aA (kf f l)) := by
 refine aC Tryz.func62 rfl Tryz.ntmps62 rfl fun B => ?_
 unfold kf
 repeat' (first|refine a9 ?_|refine a4 ?_|refine a6 ?_|refine a7 ?_|refine a8 a5 rfl rfl ?_|refine aZ ?_|fail)
 refine bH [2, 3] (l.Kind < 1 ∨ l.Kind > 8) rfl (fun Q' K => ?_) (fun hC => ?_) (fun hC => ?_)
 ·repeat' (first|refine a7 ?_|refine a8 a5 rfl rfl ?_|refine am rfl rfl ?_|refine ax rfl rfl rfl rfl ?_|refine aI rfl rfl rfl (fun _ => ?_) (fun _ => ?_))
  all_goals exact K _ _ rfl rfl (by clear K; grind)
 ·rw [if_pos hC]
  repeat' (first|refine a9 ?_|refine a4 ?_|refine ah ?_|refine a6 ?_|refine aq ?_|refine a7 ?_|refine a8 a5 rfl rfl ?_)
  exact an rfl rfl rfl
 rw [if_neg hC]
 repeat' (first|refine a9 ?_|refine a4 ?_|refine ai ?_|refine a6 ?_|refine a8 a5 rfl rfl ?_)
 by_cases h7 : l.Kind = 7
 ·rw [decide_eq_true h7]
  repeat' (first|refine a9 ?_|refine a4 ?_|refine a6 ?_|refine a7 ?_|refine a8 a5 rfl rfl ?_|refine ax rfl rfl rfl rfl ?_|(apply aP; first|refine aa 5 a5 0 rfl rfl rfl rfl rfl rfl rfl rfl ?_|refine aa 5 a5 1 rfl rfl rfl rfl rfl rfl rfl rfl ?_|refine aa 5 a5 2 rfl rfl rfl rfl rfl rfl rfl rfl ?_|refine ad a5 0 rfl rfl rfl rfl rfl rfl rfl ?_|refine ad a5 1 rfl rfl rfl rfl rfl rfl rfl ?_|refine ad a5 2 rfl rfl rfl rfl rfl rfl rfl ?_|refine ad a5 3 rfl rfl rfl rfl rfl rfl rfl ?_|fail)|refine b4 a5 fun _=>?_|refine ce a5 ?_|fail)
  refine aO [] [] (gk [⟨136, [.iptr (bo l)], [], d6 (decide ((l.Rules.length : Int) > 60)) 2, 0⟩, ⟨137, [.iptr [dx true], .iptr (bo l)], [], q5 l, 0⟩, ⟨138, [.iptr (bo l), .iptr (bV f)], [], (co l.Rules fun _ r => iH f l.Kind r).1, (co l.Rules fun _ r => iH f l.Kind r).2⟩] ⟨⟨inferInstance, lL l⟩, fun _ => ⟨⟨inferInstance, lM l true (decide_eq_true (Or.inl h7)).symm⟩, fun _ => ⟨⟨inferInstance, lN f l⟩, fun _ => trivial⟩⟩⟩) rfl rfl (Do _) rfl fun c L1 hc => ?_
  rw [gS] at hc
  subst hc
  unfold bL
  repeat' (first|refine a9 ?_|refine a4 ?_|refine ah ?_|refine a6 ?_|refine a7 ?_|refine a8 a5 rfl rfl ?_)
  exact an rfl rfl rfl
 ·rw [decide_eq_false h7]
  repeat' (first|refine a9 ?_|refine a4 ?_|refine a6 ?_|refine a7 ?_|refine a8 a5 rfl rfl ?_|refine am rfl rfl ?_|(apply aP; first|refine aa 5 a5 0 rfl rfl rfl rfl rfl rfl rfl rfl ?_|refine aa 5 a5 1 rfl rfl rfl rfl rfl rfl rfl rfl ?_|refine aa 5 a5 2 rfl rfl rfl rfl rfl rfl rfl rfl ?_|refine ad a5 0 rfl rfl rfl rfl rfl rfl rfl ?_|refine ad a5 1 rfl rfl rfl rfl rfl rfl rfl ?_|refine ad a5 2 rfl rfl rfl rfl rfl rfl rfl ?_|refine ad a5 3 rfl rfl rfl rfl rfl rfl rfl ?_|fail)|refine b4 a5 fun _=>?_|refine ce a5 ?_|fail)
  refine aO [] [] (gk [⟨136, [.iptr (bo l)], [], d6 (decide ((l.Rules.length : Int) > 60)) 2, 0⟩, ⟨137, [.iptr [dx (decide (l.Kind = 8))], .iptr (bo l)], [], q5 l, 0⟩, ⟨138, [.iptr (bo l), .iptr (bV f)], [], (co l.Rules fun _ r => iH f l.Kind r).1, (co l.Rules fun _ r => iH f l.Kind r).2⟩] ⟨⟨inferInstance, lL l⟩, fun _ => ⟨⟨inferInstance, lM l (decide (l.Kind = 8)) (decide_eq_decide.2 ⟨Or.inr, fun h => h.resolve_left h7⟩)⟩, fun _ => ⟨⟨inferInstance, lN f l⟩, fun _ => trivial⟩⟩⟩) rfl rfl (Do _) rfl fun c L1 hc => ?_
  rw [gS] at hc
  subst hc
  unfold bL
  repeat' (first|refine a9 ?_|refine a4 ?_|refine ah ?_|refine a6 ?_|refine a7 ?_|refine a8 a5 rfl rfl ?_)
  exact an rfl rfl rfl
instance (f : aN) (l : aQ) : AD Tryz.prog 62 [cz f, .agg (bo l)] (aA (kf f l)) := ⟨sj f l⟩
theorem pc (f : aN) (i : Nat) (l : aQ) : bn Tryz.prog 61 [aA i, .agg (bo l), .iptr (bV f)] (aA (kf f l)) := by
 refine aC Tryz.func61 rfl Tryz.ntmps61 rfl fun B => ?_
 repeat' (first|refine a9 ?_|refine a4 ?_|refine ah ?_|refine a6 ?_|refine a7 ?_|refine a8 a5 rfl rfl ?_|refine aZ ?_|(apply bc;refine b7 ?_)|fail)
 exact an rfl rfl rfl
end Go.Proofs.YtpmdfoaadejmkaaGreatDoor
