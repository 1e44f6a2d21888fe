/-
  The library: rows of rows, one behind the other.
-/
import Derived.Test.YtpmdfoaadejmkaaGreatDoorM20
import Derived.Test.YtpmdfoaadejmkaaGreatDoorM07
namespace Go.Proofs.YtpmdfoaadejmkaaGreatDoor
open Go.RowKit
attribute [local irreducible] AT bf AX AO Av Kt aZ df DA cA
theorem yL (n : Nat) (hn : n ≤ 1000000) : AC Tryz.prog 271 [.sc (.slice none 0 0), az n] [] fun c L => ∃ k, c = .vec k 1 [] ∧ L = tok k 22 1 0 := by
 refine aB Tryz.func271 rfl Tryz.ntmps271 rfl fun B => ?_
 repeat' (first|refine a8 ?_|refine a0 ?_|refine ah ?_|refine a5 ?_|refine a6 ?_|refine a7 a4 rfl rfl ?_|refine bB rfl ?_)
 refine pj a4 rfl rfl rfl ?_
 repeat' (first|refine a8 ?_|refine a0 ?_|refine a5 ?_|refine a6 ?_|refine a7 a4 rfl rfl ?_|(apply aS; refine aR ?_)|fail)
 by_cases h0 : n = 0
 ·subst h0
  repeat' (first|refine a8 ?_|refine a0 ?_|refine ah ?_|refine ae ?_|refine a5 ?_|refine a6 ?_|refine a7 a4 rfl rfl ?_|refine bB rfl ?_)
  refine bA (bR (t := 4) (c' := .vec none 1 []) rfl fun σ v h => eB 1 h) (ak rfl rfl ⟨none, rfl, rfl⟩)
 ·refine aq rfl (fun h2 => ?_) (fun h2 => ?_)
  ·repeat' (first|refine a0 ?_|refine a7 a4 rfl rfl ?_)
   refine pj a4 rfl rfl rfl ?_
   repeat' (first|fail)
   refine AZ a4 rfl rfl rfl rfl ?_
   repeat' (first|refine a7 a4 rfl rfl ?_)
   refine uH a4 n rfl Tryz.underlying3 rfl rfl (by omega) (by omega) (by omega) (by omega) rfl fun b cap h3 h4 => ?_
   repeat' (first|refine a7 a4 rfl rfl ?_)
   refine wW a4 0 rfl rfl rfl rfl (by omega) (by omega) rfl ?_
   repeat' (first|refine a8 ?_|refine a0 ?_|refine ae ?_|refine a5 ?_|refine a6 ?_|refine a7 a4 rfl rfl ?_)
   refine bA (bR (t := 4) (c' := .vec (some (b, cap)) 1 []) rfl fun σ v h => zq h4 h) (ak rfl rfl ⟨some (b, cap), rfl, rfl⟩)
  ·exact absurd (Dy h2) (by omega)
def nh (l : List (List (List Int))) : List (List AV) := l.map fun r => [.imm 1 (b7 r)]
def eT (l : List (List (List Int))) : Nat := (l.map List.length).sum
theorem lT {l : List (List (List Int))} {i : Nat} {r : List (List Int)} (h : l[i]? = some r) : eT (l.take (i + 1)) = eT (l.take i) + r.length := by
 unfold eT
 rw [List.take_add_one, h]
 simp
theorem oI (l : List (List (List Int))) (i : Nat) : eT (l.take i) ≤ eT l := by
 have h : ((l.take i ++ l.drop i).map List.length).sum = (l.map List.length).sum := by rw [List.take_append_drop]
 rw [List.map_append, List.sum_append] at h
 unfold eT
 omega
theorem wo (l : List (List (List Int))) : l.flatten.length = eT l := by
 unfold eT
 rw [List.length_flatten]
theorem uT (a b : List (List Int)) : b7 a ++ b7 b = b7 (a ++ b) := by unfold b7; rw [List.map_append]
set_option maxHeartbeats 1000000 in
theorem rS (l : List (List (List Int))) (hs : eT l ≤ 1000000) : bk Tryz.prog 216 [.imm 1 (nh l)] (.imm 1 (b7 l.flatten)) := by
 refine aB Tryz.func216 rfl Tryz.ntmps216 rfl fun B => ?_
 have hrl : (nh l).length = l.length := by simp [nh]
 refine cf 0 rfl rfl fun hlen => ?_
 rw [hrl] at hlen
 repeat' (first|refine a8 ?_|refine a0 ?_|refine aj ?_|refine a5 ?_|refine a6 ?_|refine a7 a4 rfl rfl ?_)
 refine aK [0, 9, 10] (α := Nat) (fun i => [(11, az i), (3, az (eT (l.take i)))]) (fun i => i ≤ l.length) (fun _ => []) (fun i => l.length - i) 0 rfl ⟨rfl, rfl, trivial⟩ (Nat.zero_le _) (fun _ _ h => h) fun i hi => ?_
 try dsimp only [Ds, Dr, Dq, Dn]
 repeat' (first|refine a8 ?_|refine a0 ?_|refine a5 ?_|refine a6 ?_|refine a7 a4 rfl rfl ?_)
 refine aq rfl (fun h => ?_) (fun h => ?_)
 ·have hil : i < l.length := by have := Dz h; rw [hrl] at this; omega
  obtain ⟨z, hz⟩ : ∃ z, l[i]? = some z := ⟨_, Bj hil⟩
  have hzg : (nh l)[i]? = some [.imm 1 (b7 z)] := by simp [nh, hz]
  have hsz := lT hz
  have hle := oI l (i + 1)
  have hzl : (b7 z).length = z.length := by simp [b7]
  repeat' (first|refine a8 ?_|refine a0 ?_|refine aj ?_|refine ah ?_|refine a5 ?_|refine aH ?_|refine a6 ?_|refine a7 a4 rfl rfl ?_|(apply aS; refine aR ?_)|(apply aE; first|refine aD a4 ?_|refine aA a4 ?_)|refine bB rfl ?_)
  exact ay (i + 1) rfl ⟨by rw [Dv]; rfl, by rw [hsz, Dv, hzl]; rfl, trivial⟩ (by omega) (by omega) (fun _ _ h => h)
 have hil : i = l.length := by have := Dy h; rw [hrl] at this; omega
 subst hil
 rw [List.take_length]
 clear h
 repeat' (first|refine a8 ?_|refine a0 ?_|refine aL ?_|refine a5 ?_|refine ar ?_|refine av ?_|refine au ?_|refine a7 a4 rfl rfl ?_)
 refine aN [] [] (yL (eT l) hs) rfl rfl (Do _) rfl fun c L1 ⟨k, hc, hL⟩ => ?_
 subst hc; subst hL
 rw [List.append_nil]
 repeat' (first|refine a8 ?_|refine a0 ?_|refine aj ?_|refine a5 ?_|refine a6 ?_|refine a7 a4 rfl rfl ?_)
 refine aK [25, 26] (α := Nat × Option (Nat × Nat)) (fun x => [(27, az x.1), (6, .vec x.2 1 (b7 (l.take x.1).flatten))]) (fun x => x.1 ≤ l.length) (fun x => tok x.2 22 1 (b7 (l.take x.1).flatten).length) (fun x => l.length - x.1) (0, k) rfl ⟨rfl, rfl, trivial⟩ (Nat.zero_le _) (fun _ _ h => h) ?_
 rintro ⟨i, k⟩ hi
 dsimp only at hi ⊢
 try dsimp only [Ds, Dr, Dq, Dn]
 repeat' (first|refine a8 ?_|refine a0 ?_|refine a5 ?_|refine a6 ?_|refine a7 a4 rfl rfl ?_)
 refine aq rfl (fun h => ?_) (fun h => ?_)
 ·have hil : i < l.length := by have := Dz h; rw [hrl] at this; omega
  obtain ⟨z, hz⟩ : ∃ z, l[i]? = some z := ⟨_, Bj hil⟩
  have hzg : (nh l)[i]? = some [.imm 1 (b7 z)] := by simp [nh, hz]
  have hsz := lT hz
  have hle := oI l (i + 1)
  have hzl : (b7 z).length = z.length := by simp [b7]
  have hfl : (b7 (l.take i).flatten).length = eT (l.take i) := by rw [bQ, wo]
  have hcat : b7 (l.take i).flatten ++ b7 z = b7 (l.take (i + 1)).flatten := by rw [uT, List.take_add_one, hz]; simp
  repeat' (first|refine a8 ?_|refine a0 ?_|refine aj ?_|refine ah ?_|refine a5 ?_|refine a6 ?_|refine a7 a4 rfl rfl ?_|(apply aE; first|refine aD a4 ?_|refine aA a4 ?_)|fail)
  refine cu a4 [] rfl rfl rfl rfl (by rw [List.append_nil]) (by rw [hfl, hzl]; omega) (by rw [hfl, hzl]; omega) rfl fun k' => ?_
  rw [hcat, List.append_nil]
  repeat' (first|refine a0 ?_|refine a5 ?_|refine aH ?_|refine a6 ?_|refine a7 a4 rfl rfl ?_|(apply aS; refine aR ?_)|fail)
  exact ay (i + 1, k') rfl ⟨by rw [Dv]; rfl, rfl, trivial⟩ (by dsimp only; omega) (by dsimp only; omega) (fun _ _ h => h)
 ·have hil : i = l.length := by have := Dy h; rw [hrl] at this; omega
  subst hil
  rw [List.take_length]
  repeat' (first|refine a8 ?_|refine a0 ?_|refine ae ?_|refine aL ?_|refine a5 ?_|refine ar ?_|refine av ?_|refine au ?_|refine a6 ?_|refine a7 a4 rfl rfl ?_)
  exact vO rfl rfl rfl rfl
def gR (l : List Int) : Bool := decide (∀ i, i < l.length - 1 → l.getD i 0 < l.getD (i + 1) 0)
theorem ix {l : List Int} {i : Nat} {z : Int} (h : l[i]? = some z) : l.getD i 0 = z := by simp [h]
theorem sx (l : List Int) : bk Tryz.prog 253 [.imm 1 (aU l)] (dx (gR l)) := by
 refine aB Tryz.func253 rfl Tryz.ntmps253 rfl fun B => ?_
 refine cf 0 rfl rfl fun hlen => ?_
 have hll := b6 l
 rw [b6] at hlen
 repeat' (first|refine a8 ?_|refine a0 ?_|refine aj ?_|refine a5 ?_|refine a6 ?_|refine a7 a4 rfl rfl ?_)
 refine aK [0] (α := Nat) (fun i => [(3, az (i + 1 : Nat))]) (fun i => i ≤ l.length ∧ ∀ j, j < i → j + 1 < l.length → l.getD j 0 < l.getD (j + 1) 0) (fun _ => []) (fun i => l.length - i) 0 rfl ⟨rfl, trivial⟩ ⟨Nat.zero_le _, fun j hj => absurd hj (Nat.not_lt_zero _)⟩ (fun _ _ h => h) fun i ⟨hi, hall⟩ => ?_
 try dsimp only [Ds, Dr, Dq, Dn]
 repeat' (first|refine a8 ?_|refine a0 ?_|refine a5 ?_|refine a6 ?_|refine a7 a4 rfl rfl ?_)
 refine aq rfl (fun h => ?_) (fun h => ?_)
 ·have hil : i + 1 < l.length := by have := Dz h; rw [b6] at this; omega
  obtain ⟨y, hy⟩ : ∃ z, l[i]? = some z := ⟨_, Bj (by omega)⟩
  obtain ⟨z, hz⟩ : ∃ z, l[i + 1]? = some z := ⟨_, Bj hil⟩
  have hyg : (aU l)[(((i + 1 : Nat) : Int) - 1).toNat]? = some [az y] := by rw [show (((i + 1 : Nat) : Int) - 1).toNat = i by omega]; exact bI hy
  have hzg := bI hz
  repeat' (first|refine a8 ?_|refine aj ?_|refine ah ?_|refine a5 ?_)
  refine bj 9 [(0, .v), (1, .v), (2, .v), (3, .v), (4, .v), (5, .v), (6, .v), (7, .v), (8, .v)] none ?_ trivial rfl (by kernel_rfl) (by kernel_rfl) (by kernel_rfl) c9 (by kernel_rfl) rfl
  repeat' (first|refine aC ?_|refine bh a4 ?_|(apply io;refine lx ?_)|(apply cC;refine cZ a4 ?_)|fail)
  refine bv [0, 3, 13, 18] rfl rfl ?_
  repeat' (first|refine a5 ?_|refine a6 ?_|refine a7 a4 rfl rfl ?_)
  refine aq rfl (fun h2 => ?_) (fun h2 => ?_)
  ·have h2' := Dz h2
   repeat' (first|refine a8 ?_|refine a0 ?_|refine ae ?_|refine a5 ?_|refine am ?_|refine aI ?_|refine bc ?_|refine a6 ?_|refine a7 a4 rfl rfl ?_)
   refine ak rfl rfl ?_
   rw [show gR l = false from decide_eq_false (fun hh => by have := hh i (by omega); rw [ix hy, ix hz] at this; omega)]
  ·have h2' := Dy h2
   repeat' (first|refine a0 ?_|refine ah ?_|refine a5 ?_|refine aH ?_|refine a6 ?_|refine a7 a4 rfl rfl ?_|(apply aS; refine aR ?_)|fail)
   refine ay (i + 1) rfl ⟨by rw [Dv (i + 1) 1]; rfl, trivial⟩ ⟨by omega, fun j hj hjl => ?_⟩ (by omega) (fun _ _ h => h)
   by_cases e : j = i
   ·subst e; rw [ix hy, ix hz]; omega
   ·exact hall j (by omega) hjl
 ·have hil : l.length ≤ i + 1 := by have := Dy h; rw [b6] at this; omega
  repeat' (first|refine a8 ?_|refine a0 ?_|refine ae ?_|refine aL ?_|refine a5 ?_|refine ar ?_|refine av ?_|refine au ?_|refine a6 ?_|refine a7 a4 rfl rfl ?_)
  refine ak rfl rfl ?_
  rw [show gR l = true from decide_eq_true (fun j hj => hall j (by omega) (by omega))]
instance (l : List Int) : AD Tryz.prog 253 [.imm 1 (aU l)] (dx (gR l)) := ⟨sx l⟩
def mP (f : aM) (l : List Int) : Bool := decide (0 < l.length) && (gR l && (j7 f (l.getD 0 0) && j7 f (l.getD (l.length - 1) 0)))
set_option maxHeartbeats 1000000 in
theorem uy (f : aM) (l : List Int) : bk Tryz.prog 218 [cx f, .imm 1 (aU l)] (dx (mP f l)) := by
 refine aB Tryz.func218 rfl Tryz.ntmps218 rfl fun B => ?_
 refine cf 1 rfl rfl fun hlen => ?_
 cases l with
 | nil =>
  repeat' (first|refine a8 ?_|refine a0 ?_|refine a5 ?_|refine a6 ?_|refine a7 a4 rfl rfl ?_|refine aX ?_|fail)
  refine bj 24 [(0, .v), (1, .v), (2, .v), (3, .v), (4, .v), (5, .v), (6, .v), (7, .v), (8, .v), (9, .v), (10, .v), (11, .v), (12, .v), (13, .v), (14, .v), (15, .v), (16, .v), (17, .v), (18, .v), (19, .v), (20, .v), (21, .v), (22, .v), (23, .v)] none ?_ trivial rfl (by kernel_rfl) (by kernel_rfl) (by kernel_rfl) c9 (by kernel_rfl) rfl
  repeat' (first|refine aC ?_|refine bh a4 ?_|refine t8 rfl rfl ?_)
  refine bv [28] rfl rfl ?_
  repeat' (first|refine ae ?_|refine a5 ?_|refine a6 ?_|refine a7 a4 rfl rfl ?_)
  exact ak rfl rfl rfl
 | cons y q =>
  have hll : (aU (y :: q)).length = q.length + 1 := by rw [b6]; rfl
  rw [hll] at hlen
  obtain ⟨z, hz⟩ : ∃ z, (y :: q)[q.length]? = some z := ⟨_, Bj (by simp)⟩
  have hzg : (aU (y :: q))[((((aU (y :: q)).length : Nat) : Int) - 1).toNat]? = some [az z] := by rw [show ((((aU (y :: q)).length : Nat) : Int) - 1).toNat = q.length by rw [hll]; omega]; exact bI hz
  have hyg : (aU (y :: q))[(0 : Int).toNat]? = some [az y] := rfl
  have hval : mP f (y :: q) = (gR (y :: q) && (j7 f y && j7 f z)) := by
   unfold mP
   rw [show (y :: q).length - 1 = q.length by simp, ix hz]
   simp
  rw [hval]
  have hpos : decide (0 < (((aU (y :: q)).length : Nat) : Int)) = true := decide_eq_true (by rw [hll]; omega)
  repeat' (first|refine a8 ?_|refine a0 ?_|refine a5 ?_|refine a6 ?_|refine a7 a4 rfl rfl ?_|refine aX ?_|fail)
  refine bj 24 [(0, .v), (1, .v), (2, .v), (3, .v), (4, .v), (5, .v), (6, .v), (7, .v), (8, .v), (9, .v), (10, .v), (11, .v), (12, .v), (13, .v), (14, .v), (15, .v), (16, .v), (17, .v), (18, .v), (19, .v), (20, .v), (21, .v), (22, .v), (23, .v)] none ?_ trivial rfl (by kernel_rfl) (by kernel_rfl) (by kernel_rfl) c9 (by kernel_rfl) rfl
  repeat' (first|refine aC ?_|refine bh a4 ?_|fail)
  rw [hpos]
  repeat' (first|refine aC ?_|refine bh a4 ?_|(apply cK;refine da ?_)|fail)
  generalize gR (y :: q) = b1
  cases b1
  ·repeat' (first|refine aC ?_|refine bh a4 ?_|refine t8 rfl rfl ?_)
   refine bv [28] rfl rfl ?_
   repeat' (first|refine ae ?_|refine a5 ?_|refine a6 ?_|refine a7 a4 rfl rfl ?_)
   exact ak rfl rfl rfl
  repeat' (first|refine aC ?_|refine bh a4 ?_|(apply cC;refine cZ a4 ?_)|(apply cK;refine da ?_)|fail)
  generalize j7 f y = b2
  cases b2
  ·repeat' (first|refine aC ?_|refine bh a4 ?_|refine t8 rfl rfl ?_)
   refine bv [28] rfl rfl ?_
   repeat' (first|refine ae ?_|refine a5 ?_|refine a6 ?_|refine a7 a4 rfl rfl ?_)
   exact ak rfl rfl rfl
  repeat' (first|refine aC ?_|refine bh a4 ?_|(apply io;refine lx ?_)|(apply cC;refine cZ a4 ?_)|(apply cK;refine da ?_)|fail)
  refine bv [28] rfl rfl ?_
  repeat' (first|refine ae ?_|refine a5 ?_|refine a6 ?_|refine a7 a4 rfl rfl ?_)
  exact ak rfl rfl rfl
instance (f : aM) (l : List Int) : AD Tryz.prog 218 [cx f, .imm 1 (aU l)] (dx (mP f l)) := ⟨uy f l⟩
def j5 (kind : Int) (r : aT) : Bool := if kind = 1 ∨ kind = 2 ∨ kind = 5 then decide ((r.In.length : Int) ≠ 1) else if kind = 6 then decide ((r.In.length : Int) ≠ 2 ∨ (r.Back.length : Int) > 0 ∨ (r.Ahead.length : Int) > 0) else decide ((r.In.length : Int) = 0)
def lN (kind : Int) (r : aT) : Int := if (r.Back.length : Int) > 6 ∨ (r.In.length : Int) > 6 ∨ (r.Ahead.length : Int) > 6 then 2 else d4 (j5 kind r) 40
set_option maxHeartbeats 1000000 in
theorem xe (kind : Int) (r : aT) : bk Tryz.prog 213 [az kind, .agg (bH r)] (az (lN kind r)) := by
 refine aB Tryz.func213 rfl Tryz.ntmps213 rfl fun B => ?_
 unfold lN j5
 have hB := bQ r.Back
 have hI := bQ r.In
 have hA := bQ r.Ahead
 rw [← hB, ← hI, ← hA]
 repeat' (first|refine a8 ?_|refine a0 ?_|refine a5 ?_|refine a6 ?_|refine a7 a4 rfl rfl ?_|refine aX ?_|fail)
 refine bG [0, 3] (((b7 r.Back).length : Int) > 6 ∨ ((b7 r.In).length : Int) > 6 ∨ ((b7 r.Ahead).length : Int) > 6) rfl (fun Q' K => ?_) (fun hC => ?_) (fun hC => ?_)
 ·repeat' (first|refine a6 ?_|refine a7 a4 rfl rfl ?_|refine an rfl rfl ?_|refine aw rfl rfl rfl rfl ?_|refine aG rfl rfl rfl (fun _ => ?_) (fun _ => ?_))
  all_goals exact K _ _ rfl rfl (by clear K; grind)
 ·rw [if_pos hC]
  repeat' (first|refine a8 ?_|refine a0 ?_|refine ae ?_|refine a5 ?_|refine am ?_|refine a6 ?_|refine a7 a4 rfl rfl ?_)
  exact ak rfl rfl rfl
 rw [if_neg hC]
 by_cases h1 : kind = 1
 ·subst h1
  repeat' (first|refine a8 ?_|refine a0 ?_|refine aj ?_|refine ah ?_|refine ae ?_|refine a5 ?_|refine aH ?_|refine a6 ?_|refine a7 a4 rfl rfl ?_|(apply bb;refine b4 ?_)|refine br rfl ?_)
  exact ak rfl rfl rfl
 by_cases h2 : kind = 2
 ·subst h2
  repeat' (first|refine a8 ?_|refine a0 ?_|refine aj ?_|refine ah ?_|refine ae ?_|refine a5 ?_|refine aH ?_|refine a6 ?_|refine a7 a4 rfl rfl ?_|(apply bb;refine b4 ?_)|refine br rfl ?_|refine bB rfl ?_)
  exact ak rfl rfl rfl
 by_cases h5 : kind = 5
 ·subst h5
  repeat' (first|refine a8 ?_|refine a0 ?_|refine aj ?_|refine ah ?_|refine ae ?_|refine a5 ?_|refine aH ?_|refine a6 ?_|refine a7 a4 rfl rfl ?_|(apply bb;refine b4 ?_)|refine br rfl ?_|refine bB rfl ?_)
  exact ak rfl rfl rfl
 rw [if_neg (by omega)]
 by_cases h6 : kind = 6
 ·subst h6
  rw [if_pos rfl]
  repeat' (first|refine a8 ?_|refine a0 ?_|refine aj ?_|refine ah ?_|refine a5 ?_|refine a6 ?_|refine a7 a4 rfl rfl ?_|refine br rfl ?_|refine bB rfl ?_)
  refine cE (t := 5) [] (((b7 r.In).length : Int) ≠ 2 ∨ ((b7 r.Back).length : Int) > 0 ∨ ((b7 r.Ahead).length : Int) > 0) rfl (fun Q' K => ?_) ?_
  ·repeat' (first|refine a6 ?_|refine a7 a4 rfl rfl ?_|refine an rfl rfl ?_|refine aw rfl rfl rfl rfl ?_|refine aG rfl rfl rfl (fun _ => ?_) (fun _ => ?_))
   all_goals exact K _ _ rfl rfl (by clear K; grind)
  repeat' (first|refine a8 ?_|refine a0 ?_|refine ae ?_|refine a5 ?_|refine aH ?_|refine a6 ?_|refine a7 a4 rfl rfl ?_|(apply bb;refine b4 ?_)|fail)
  exact ak rfl rfl rfl
 rw [if_neg h6]
 repeat' (first|refine a8 ?_|refine a0 ?_|refine aj ?_|refine ah ?_|refine a5 ?_|refine a6 ?_|refine a7 a4 rfl rfl ?_)
 refine aq rfl (fun h => absurd (Dz h) h1) (fun h => ?_)
 repeat' (first|refine a8 ?_|refine a0 ?_|refine a5 ?_|refine a6 ?_|refine a7 a4 rfl rfl ?_)
 refine aq rfl (fun h => absurd (Dz h) h2) (fun h => ?_)
 repeat' (first|refine a0 ?_|refine a5 ?_|refine a6 ?_|refine a7 a4 rfl rfl ?_)
 refine aq rfl (fun h => absurd (Dz h) h5) (fun h => ?_)
 rw [decide_eq_false h5]
 repeat' (first|refine a8 ?_|refine a0 ?_|refine a5 ?_|refine a6 ?_|refine a7 a4 rfl rfl ?_)
 refine aq rfl (fun h => absurd (Dz h) h6) (fun h => ?_)
 repeat' (first|refine a8 ?_|refine a0 ?_|refine ah ?_|refine ae ?_|refine a5 ?_|refine aH ?_|refine a6 ?_|refine a7 a4 rfl rfl ?_|(apply bb;refine b4 ?_)|fail)
 exact ak rfl rfl rfl
instance (kind : Int) (r : aT) : AD Tryz.prog 213 [az kind, .agg (bH r)] (az (lN kind r)) := ⟨xe kind r⟩
theorem tG {kind : Int} {r : aT} (h : lN kind r = 0) : r.In ≠ [] ∧ r.Back.length ≤ 6 ∧ r.In.length ≤ 6 ∧ r.Ahead.length ≤ 6 := by
 unfold lN at h
 split at h
 ·cases h
 ·rename_i hc
  refine ⟨fun e => ?_, by omega, by omega, by omega⟩
  have hw : j5 kind r = true := by
   unfold j5
   rw [e]
   split
   ·decide
   ·split <;> simp
  rw [hw] at h
  cases h
def uK (kind : Int) (r : aT) : Bool := if kind = 1 ∨ kind = 5 then decide ((r.Out.length : Int) = ((r.In.headD []).length : Int)) else if kind = 2 then decide ((r.Out.length : Int) ≤ 6) else if kind = 3 then decide ((r.Out.length : Int) = 1) else decide ((r.Out.length : Int) = 0)
set_option maxHeartbeats 1000000 in
theorem yV (kind : Int) (r : aT) (hin : r.In ≠ []) : bk Tryz.prog 220 [az kind, .agg (bH r)] (dx (uK kind r)) := by
 refine aB Tryz.func220 rfl Tryz.ntmps220 rfl fun B => ?_
 obtain ⟨y, hy⟩ : ∃ y, r.In[0]? = some y := ⟨_, Bj (List.length_pos_iff.2 hin)⟩
 have hyg := fm hy
 have hv : uK kind r = if kind = 1 ∨ kind = 5 then decide (((aU r.Out).length : Int) = ((aU y).length : Int)) else if kind = 2 then decide (((aU r.Out).length : Int) ≤ 6) else if kind = 3 then decide (((aU r.Out).length : Int) = 1) else decide (((aU r.Out).length : Int) = 0) := by
  have hd : r.In.headD [] = y := by
   cases hI : r.In with
   | nil => exact absurd hI hin
   | cons y' q => rw [hI] at hy; simpa using hy
  unfold uK
  rw [hd, b6, b6]
 rw [hv]
 by_cases h1 : kind = 1
 ·subst h1
  repeat' (first|refine a8 ?_|refine a0 ?_|refine aj ?_|refine ah ?_|refine a5 ?_|refine a6 ?_|refine a7 a4 rfl rfl ?_|refine aX ?_|refine br rfl ?_)
  refine bj 8 [(0, .v), (1, .v), (2, .v), (3, .v), (4, .v), (5, .v), (6, .v), (7, .v)] none ?_ trivial rfl (by kernel_rfl) (by kernel_rfl) (by kernel_rfl) c9 (by kernel_rfl) rfl
  repeat' (first|refine aC ?_|refine bh a4 ?_|(apply cC;refine cZ a4 ?_)|fail)
  refine bv [11, 16] rfl rfl ?_
  repeat' (first|refine ae ?_|refine a5 ?_|refine am ?_|refine aI ?_|refine a6 ?_|refine a7 a4 rfl rfl ?_)
  exact ak rfl rfl rfl
 by_cases h5 : kind = 5
 ·subst h5
  repeat' (first|refine a8 ?_|refine a0 ?_|refine aj ?_|refine a5 ?_|refine a6 ?_|refine a7 a4 rfl rfl ?_|refine aX ?_|refine br rfl ?_|refine bB rfl ?_)
  refine bj 8 [(0, .v), (1, .v), (2, .v), (3, .v), (4, .v), (5, .v), (6, .v), (7, .v)] none ?_ trivial rfl (by kernel_rfl) (by kernel_rfl) (by kernel_rfl) c9 (by kernel_rfl) rfl
  repeat' (first|refine aC ?_|refine bh a4 ?_|(apply cC;refine cZ a4 ?_)|fail)
  refine bv [11, 16] rfl rfl ?_
  repeat' (first|refine ae ?_|refine a5 ?_|refine am ?_|refine aI ?_|refine a6 ?_|refine a7 a4 rfl rfl ?_)
  exact ak rfl rfl rfl
 rw [if_neg (by omega)]
 by_cases h2 : kind = 2
 ·subst h2
  repeat' (first|refine a8 ?_|refine a0 ?_|refine aj ?_|refine ae ?_|refine a5 ?_|refine am ?_|refine aI ?_|refine a6 ?_|refine a7 a4 rfl rfl ?_|refine aX ?_|refine br rfl ?_|refine bB rfl ?_)
  exact ak rfl rfl rfl
 rw [if_neg h2]
 by_cases h3 : kind = 3
 ·subst h3
  repeat' (first|refine a8 ?_|refine a0 ?_|refine aj ?_|refine ae ?_|refine a5 ?_|refine am ?_|refine aI ?_|refine a6 ?_|refine a7 a4 rfl rfl ?_|refine aX ?_|refine br rfl ?_|refine bB rfl ?_)
  exact ak rfl rfl rfl
 rw [if_neg h3]
 repeat' (first|refine a8 ?_|refine a0 ?_|refine aj ?_|refine a5 ?_|refine a6 ?_|refine a7 a4 rfl rfl ?_|refine aX ?_|fail)
 refine aq rfl (fun h => absurd (Dz h) h1) (fun h => ?_)
 repeat' (first|refine a0 ?_|refine a5 ?_|refine a6 ?_|refine a7 a4 rfl rfl ?_)
 refine aq rfl (fun h => absurd (Dz h) h5) (fun h => ?_)
 rw [decide_eq_false h5]
 repeat' (first|refine a8 ?_|refine a0 ?_|refine a5 ?_|refine a6 ?_|refine a7 a4 rfl rfl ?_)
 refine aq rfl (fun h => absurd (Dz h) h2) (fun h => ?_)
 repeat' (first|refine a8 ?_|refine a0 ?_|refine a5 ?_|refine a6 ?_|refine a7 a4 rfl rfl ?_)
 refine aq rfl (fun h => absurd (Dz h) h3) (fun h => ?_)
 repeat' (first|refine a8 ?_|refine a0 ?_|refine ah ?_|refine ae ?_|refine a5 ?_|refine aH ?_|refine a6 ?_|refine a7 a4 rfl rfl ?_)
 exact ak rfl rfl rfl
def p8 (f : aM) (n : Int) : Int := match f.Lookups[n.toNat]? with | some l => l.Kind | none => 0
def t2 (f : aM) (r : aT) (_ : Nat) (c : i6) : Int := if c.At < 0 ∨ c.At ≥ r.In.length then 40 else if c.Lookup < 0 ∨ c.Lookup ≥ f.Lookups.length then 42 else d4 (decide (p8 f c.Lookup < 1 ∨ p8 f c.Lookup > 4)) 42
set_option maxHeartbeats 1000000 in
theorem vX (f : aM) (r : aT) (i : Nat) (c : i6) : bk Tryz.prog 273 [az i, .agg (f7 c), .iptr (bH r), .iptr (bU f)] (az (t2 f r i c)) := by
 refine aB Tryz.func273 rfl Tryz.ntmps273 rfl fun B => ?_
 unfold t2
 have hI := bQ r.In
 have hL : (f.Lookups.map bn).length = f.Lookups.length := Du ..
 rw [← hI]
 repeat' (first|refine a8 ?_|refine a0 ?_|refine aj ?_|refine a5 ?_|refine a6 ?_|refine a7 a4 rfl rfl ?_|refine aX ?_|fail)
 refine bG [3, 5] (c.At < 0 ∨ c.At ≥ ((b7 r.In).length : Int)) rfl (fun Q' K => ?_) (fun hC => ?_) (fun hC => ?_)
 ·repeat' (first|refine a6 ?_|refine a7 a4 rfl rfl ?_|refine an rfl rfl ?_|refine aw rfl rfl rfl rfl ?_|refine aG rfl rfl rfl (fun _ => ?_) (fun _ => ?_))
  all_goals exact K _ _ rfl rfl (by clear K; grind)
 ·rw [if_pos hC]
  repeat' (first|refine a8 ?_|refine a0 ?_|refine ae ?_|refine a5 ?_|refine am ?_|refine aI ?_|refine a6 ?_|refine a7 a4 rfl rfl ?_)
  exact ak rfl rfl rfl
 rw [if_neg hC]
 repeat' (first|refine a8 ?_|refine a0 ?_|refine a7 a4 rfl rfl ?_)
 refine bG [3, 5] (c.Lookup < 0 ∨ c.Lookup ≥ f.Lookups.length) rfl (fun Q' K => ?_) (fun hC => ?_) (fun hC => ?_)
 ·repeat' (first|refine a6 ?_|refine a7 a4 rfl rfl ?_|refine an rfl rfl ?_|refine aw rfl rfl rfl rfl ?_|refine aG rfl rfl rfl (fun _ => ?_) (fun _ => ?_))
  all_goals exact K _ _ rfl rfl (by clear K; grind)
 ·rw [if_pos hC]
  repeat' (first|refine a8 ?_|refine a0 ?_|refine ae ?_|refine a5 ?_|refine am ?_|refine aI ?_|refine a6 ?_|refine a7 a4 rfl rfl ?_)
  exact ak rfl rfl rfl
 rw [if_neg hC]
 obtain ⟨l, hl⟩ : ∃ l, f.Lookups[c.Lookup.toNat]? = some l := ⟨_, Bj (by omega)⟩
 have hlg := bV (c := bn) hl
 have hk : p8 f c.Lookup = l.Kind := by unfold p8; rw [hl]
 rw [hk]
 repeat' (first|refine a8 ?_|refine a0 ?_|refine ah ?_|refine a5 ?_|refine aH ?_|refine a6 ?_|refine a7 a4 rfl rfl ?_|(apply aE; first|refine aD a4 ?_|refine aA a4 ?_)|fail)
 by_cases h1 : l.Kind < 1
 ·rw [decide_eq_true h1, decide_eq_true (Or.inl h1)]
  repeat' (first|refine ae ?_|refine a5 ?_|refine a6 ?_|refine a7 a4 rfl rfl ?_|refine aw rfl rfl rfl rfl ?_|(apply bb;refine b4 ?_)|fail)
  exact ak rfl rfl rfl
 ·rw [decide_eq_false h1, show decide (l.Kind < 1 ∨ l.Kind > 4) = decide (4 < l.Kind) from decide_eq_decide.2 ⟨fun h => h.resolve_left h1, Or.inr⟩]
  repeat' (first|refine ae ?_|refine a5 ?_|refine a6 ?_|refine a7 a4 rfl rfl ?_|refine an rfl rfl ?_|(apply bb;refine b4 ?_)|fail)
  exact ak rfl rfl rfl
def kO (f : aM) (kind : Int) (r : aT) : Int := if (r.Calls.length : Int) > 6 then 2 else if (r.Calls.length : Int) > 0 ∧ kind ≠ 4 then 40 else (cm r.Calls (t2 f r)).1
set_option maxHeartbeats 1000000 in
theorem ua (f : aM) (kind : Int) (r : aT) : bk Tryz.prog 224 [cx f, az kind, .agg (bH r)] (az (kO f kind r)) := by
 refine aB Tryz.func224 rfl Tryz.ntmps224 rfl fun B => ?_
 unfold kO
 have hL : (r.Calls.map f7).length = r.Calls.length := Du ..
 rw [← hL]
 repeat' (first|refine a8 ?_|refine a0 ?_|refine aj ?_|refine a5 ?_|refine a6 ?_|refine a7 a4 rfl rfl ?_|refine aX ?_|fail)
 refine aq rfl (fun h => ?_) (fun h => ?_)
 ·rw [if_pos (Dz h)]
  repeat' (first|refine a8 ?_|refine a0 ?_|refine ae ?_|refine a5 ?_|refine am ?_|refine aI ?_|refine a6 ?_|refine a7 a4 rfl rfl ?_)
  exact ak rfl rfl rfl
 rw [if_neg (Dy h)]
 repeat' (first|refine a8 ?_|refine a0 ?_|refine a7 a4 rfl rfl ?_)
 refine bG [3, 5] (((r.Calls.map f7).length : Int) > 0 ∧ kind ≠ 4) rfl (fun Q' K => ?_) (fun hC => ?_) (fun hC => ?_)
 ·repeat' (first|refine a6 ?_|refine a7 a4 rfl rfl ?_|refine an rfl rfl ?_|refine aw rfl rfl rfl rfl ?_|refine aG rfl rfl rfl (fun _ => ?_) (fun _ => ?_))
  all_goals exact K _ _ rfl rfl (by clear K; grind)
 ·rw [if_pos hC]
  repeat' (first|refine a8 ?_|refine a0 ?_|refine ae ?_|refine a5 ?_|refine am ?_|refine aI ?_|refine a6 ?_|refine a7 a4 rfl rfl ?_)
  exact ak rfl rfl rfl
 rw [if_neg hC]
 repeat' (first|refine a8 ?_|refine a0 ?_|refine ah ?_|refine a5 ?_|refine aH ?_|refine a7 a4 rfl rfl ?_)
 refine aN [] [] (yC (u := .fn 273 [.iptr (bH r), .iptr (bU f)]) (g := 273) rfl r.Calls _ (fun _ _ => True) [] trivial (co (fun i x _ => vX f r i x))) rfl rfl (Do _) rfl fun c L1 hc => ?_
 have hc : c = bK (cm r.Calls (t2 f r)) := hc
 subst hc
 unfold bK
 repeat' (first|refine a8 ?_|refine a0 ?_|refine ae ?_|refine a5 ?_|refine a6 ?_|refine a7 a4 rfl rfl ?_)
 exact ak rfl rfl rfl
instance (f : aM) (kind : Int) (r : aT) : AD Tryz.prog 224 [cx f, az kind, .agg (bH r)] (az (kO f kind r)) := ⟨ua f kind r⟩
def v5 (f : aM) (_ : Nat) (l : List Int) : Int := d4 (!(mP f l)) 41
def uL (f : aM) (_ : Nat) (n : Int) : Int := d4 (!(j7 f n)) 32
def xE (kind : Int) (r : aT) : Int := d4 (decide (r.X ≠ 0 ∧ kind ≠ 6)) 40
def lQ (r : aT) : List (List Int) := r.Back ++ (r.In ++ r.Ahead)
theorem uU (kind : Int) (r : aT) : bk Tryz.prog 212 [.iptr [az kind], .iptr (bH r)] (bK (lN kind r, 0)) := by
 refine aB Tryz.func212 rfl Tryz.ntmps212 rfl fun B => ?_
 repeat' (first|refine a8 ?_|refine a0 ?_|refine ae ?_|refine a5 ?_|refine a6 ?_|refine a7 a4 rfl rfl ?_|(apply bb;refine b4 ?_)|fail)
 exact aJ rfl rfl rfl rfl
theorem sA (f : aM) (i : Nat) (l : List Int) : bk Tryz.prog 217 [az i, .imm 1 (aU l), .iptr (bU f)] (az (v5 f i l)) := by
 refine aB Tryz.func217 rfl Tryz.ntmps217 rfl fun B => ?_
 repeat' (first|refine a8 ?_|refine a0 ?_|refine ae ?_|refine a5 ?_|refine a6 ?_|refine a7 a4 rfl rfl ?_|(apply bb;refine b4 ?_)|fail)
 exact ak rfl rfl rfl
theorem uV (f : aM) (r : aT) (h : r.Back.length ≤ 6 ∧ r.In.length ≤ 6 ∧ r.Ahead.length ≤ 6) : bk Tryz.prog 214 [.iptr (bH r), .iptr (bU f)] (bK (cm (lQ r) (v5 f))) := by
 refine aB Tryz.func214 rfl Tryz.ntmps214 rfl fun B => ?_
 repeat' (first|refine a8 ?_|refine a0 ?_|refine a5 ?_|refine a6 ?_|refine a7 a4 rfl rfl ?_|refine cj a4 ?_|fail)
 refine b4 (hc := ⟨rS [r.Back, r.In, r.Ahead] (by simp [eT]; omega)⟩) ?_
 rw [show ([r.Back, r.In, r.Ahead] : List (List (List Int))).flatten = lQ r by simp [lQ]]
 repeat' (first|refine a7 a4 rfl rfl ?_)
 refine aN [] [] (yA (u := .fn 217 [.iptr (bU f)]) (g := 217) rfl (lQ r) _ (fun _ _ => True) [] trivial (co (fun i x _ => sA f i x))) rfl rfl (Do _) rfl fun c L1 hc => ?_
 have hc : c = bK (cm (lQ r) (v5 f)) := hc
 subst hc
 unfold bK
 repeat' (first|refine ae ?_|refine a5 ?_|refine a6 ?_|refine a7 a4 rfl rfl ?_)
 exact aJ rfl rfl rfl rfl
theorem uW (kind : Int) (r : aT) (hin : r.In ≠ []) : bk Tryz.prog 219 [.iptr [az kind], .iptr (bH r)] (bK (d4 (!(uK kind r)) 40, 0)) := by
 refine aB Tryz.func219 rfl Tryz.ntmps219 rfl fun B => ?_
 repeat' (first|refine a8 ?_|refine a0 ?_|refine a5 ?_|refine a6 ?_|refine a7 a4 rfl rfl ?_)
 refine b4 (hc := ⟨yV kind r hin⟩) ?_
 repeat' (first|refine ae ?_|refine a5 ?_|refine a6 ?_|refine a7 a4 rfl rfl ?_|(apply bb;refine b4 ?_)|fail)
 exact aJ rfl rfl rfl rfl
theorem sB (f : aM) (i : Nat) (n : Int) : bk Tryz.prog 222 [az i, az n, .iptr (bU f)] (az (uL f i n)) := by
 refine aB Tryz.func222 rfl Tryz.ntmps222 rfl fun B => ?_
 repeat' (first|refine a8 ?_|refine a0 ?_|refine ae ?_|refine a5 ?_|refine a6 ?_|refine a7 a4 rfl rfl ?_|(apply bb;refine b4 ?_)|fail)
 exact ak rfl rfl rfl
theorem uX (f : aM) (r : aT) : bk Tryz.prog 221 [.iptr (bH r), .iptr (bU f)] (bK (cm r.Out (uL f))) := by
 refine aB Tryz.func221 rfl Tryz.ntmps221 rfl fun B => ?_
 repeat' (first|refine a8 ?_|refine a0 ?_|refine a5 ?_|refine a6 ?_|refine a7 a4 rfl rfl ?_)
 refine aN [] [] (jQ (u := .fn 222 [.iptr (bU f)]) (g := 222) rfl r.Out _ (fun _ _ => True) [] trivial (co (fun i x _ => sB f i x))) rfl rfl (Do _) rfl fun c L1 hc => ?_
 have hc : c = bK (cm r.Out (uL f)) := hc
 subst hc
 unfold bK
 repeat' (first|refine ae ?_|refine a5 ?_|refine a6 ?_|refine a7 a4 rfl rfl ?_)
 exact aJ rfl rfl rfl rfl
theorem uY (f : aM) (kind : Int) (r : aT) : bk Tryz.prog 223 [.iptr (bU f), .iptr [az kind], .iptr (bH r)] (bK (kO f kind r, 0)) := by
 refine aB Tryz.func223 rfl Tryz.ntmps223 rfl fun B => ?_
 repeat' (first|refine a8 ?_|refine a0 ?_|refine ae ?_|refine a5 ?_|refine a6 ?_|refine a7 a4 rfl rfl ?_|(apply bb;refine b4 ?_)|fail)
 exact aJ rfl rfl rfl rfl
theorem uZ (r : aT) : bk Tryz.prog 225 [.iptr (bH r)] (bK (d4 (!([r.X].all eQ)) 1, 0)) := by
 refine aB Tryz.func225 rfl Tryz.ntmps225 rfl fun B => ?_
 repeat' (first|refine a8 ?_|refine a0 ?_|refine ae ?_|refine a5 ?_|refine a6 ?_|refine a7 a4 rfl rfl ?_|refine cj a4 ?_|(apply bb;refine b4 ?_)|fail)
 exact aJ rfl rfl rfl rfl
theorem v3 (kind : Int) (r : aT) : bk Tryz.prog 226 [.iptr (bH r), .iptr [az kind]] (bK (xE kind r, 0)) := by
 refine aB Tryz.func226 rfl Tryz.ntmps226 rfl fun B => ?_
 unfold xE
 by_cases h : r.X ≠ 0
 ·rw [show decide (r.X ≠ 0 ∧ kind ≠ 6) = decide (kind ≠ 6) from decide_eq_decide.2 ⟨fun q => q.2, fun q => ⟨h, q⟩⟩]
  repeat' (first|refine a8 ?_|refine a0 ?_|refine a5 ?_|refine a6 ?_|refine a7 a4 rfl rfl ?_)
  rw [decide_eq_true h]
  repeat' (first|refine ae ?_|refine a5 ?_|refine a6 ?_|refine a7 a4 rfl rfl ?_|refine an rfl rfl ?_|(apply bb;refine b4 ?_)|fail)
  exact aJ rfl rfl rfl rfl
 ·rw [show decide (r.X ≠ 0 ∧ kind ≠ 6) = false from decide_eq_false (fun q => h q.1)]
  repeat' (first|refine a8 ?_|refine a0 ?_|refine a5 ?_|refine a6 ?_|refine a7 a4 rfl rfl ?_)
  rw [decide_eq_false h]
  repeat' (first|refine ae ?_|refine a5 ?_|refine a6 ?_|refine a7 a4 rfl rfl ?_|refine aw rfl rfl rfl rfl ?_|(apply bb;refine b4 ?_)|fail)
  exact aJ rfl rfl rfl rfl
def iD (f : aM) (kind : Int) (r : aT) : Int := (fy [(lN kind r, 0), cm (lQ r) (v5 f), (d4 (!(uK kind r)) 40, 0), cm r.Out (uL f), (kO f kind r, 0), (d4 (!([r.X].all eQ)) 1, 0), (xE kind r, 0)]).1
set_option maxHeartbeats 1000000 in
theorem xh (f : aM) (kind : Int) (r : aT) : bk Tryz.prog 141 [cx f, az kind, .agg (bH r)] (az (iD f kind r)) := by
 refine aB Tryz.func141 rfl Tryz.ntmps141 rfl fun B => ?_
 repeat' (first|refine a8 ?_|refine a0 ?_|refine a5 ?_|refine a6 ?_|refine a7 a4 rfl rfl ?_|refine aX ?_|refine cj a4 ?_|fail)
 refine aN [] [] (ge [⟨212, [.iptr [az kind], .iptr (bH r)], [], lN kind r, 0⟩, ⟨214, [.iptr (bH r), .iptr (bU f)], [], (cm (lQ r) (v5 f)).1, (cm (lQ r) (v5 f)).2⟩, ⟨219, [.iptr [az kind], .iptr (bH r)], [], d4 (!(uK kind r)) 40, 0⟩, ⟨221, [.iptr (bH r), .iptr (bU f)], [], (cm r.Out (uL f)).1, (cm r.Out (uL f)).2⟩, ⟨223, [.iptr (bU f), .iptr [az kind], .iptr (bH r)], [], kO f kind r, 0⟩, ⟨225, [.iptr (bH r)], [], d4 (!([r.X].all eQ)) 1, 0⟩, ⟨226, [.iptr (bH r), .iptr [az kind]], [], xE kind r, 0⟩] ?_) rfl rfl (Do _) rfl fun c L1 hc => ?_
 ·exact ⟨⟨inferInstance, uU kind r⟩, fun h1 => ⟨⟨inferInstance, uV f r (tG h1).2⟩, fun _ => ⟨⟨inferInstance, uW kind r (tG h1).1⟩, fun _ => ⟨⟨inferInstance, uX f r⟩, fun _ => ⟨⟨inferInstance, uY f kind r⟩, fun _ => ⟨⟨inferInstance, uZ r⟩, fun _ => ⟨⟨inferInstance, v3 kind r⟩, fun _ => trivial⟩⟩⟩⟩⟩⟩⟩
 rw [gO] at hc
 subst hc
 unfold bK
 repeat' (first|refine a8 ?_|refine a0 ?_|refine ae ?_|refine a5 ?_|refine a6 ?_|refine a7 a4 rfl rfl ?_)
 exact ak rfl rfl rfl
instance (f : aM) (kind : Int) (r : aT) : AD Tryz.prog 141 [cx f, az kind, .agg (bH r)] (az (iD f kind r)) := ⟨xh f kind r⟩
theorem lE (l : aQ) : bk Tryz.prog 136 [.iptr (bn l)] (bK (d4 (decide ((l.Rules.length : Int) > 60)) 2, 0)) := by
 refine aB Tryz.func136 rfl Tryz.ntmps136 rfl fun B => ?_
 rw [show (l.Rules.length : Int) = ((l.Rules.map bH).length : Int) by rw [Du]]
 repeat' (first|refine a8 ?_|refine a0 ?_|refine ae ?_|refine a5 ?_|refine a6 ?_|refine a7 a4 rfl rfl ?_|(apply bb;refine b4 ?_)|fail)
 exact aJ rfl rfl rfl rfl
def pZ (l : aQ) : Int := d4 (decide (l.Kind = 7 ∨ l.Kind = 8) && decide ((l.Rules.length : Int) > 0)) 40
theorem lF (l : aQ) (b : Bool) (hb : b = decide (l.Kind = 7 ∨ l.Kind = 8)) : bk Tryz.prog 137 [.iptr [dx b], .iptr (bn l)] (bK (pZ l, 0)) := by
 refine aB Tryz.func137 rfl Tryz.ntmps137 rfl fun B => ?_
 unfold pZ
 rw [← hb, show (l.Rules.length : Int) = ((l.Rules.map bH).length : Int) by rw [Du]]
 cases b
 ·repeat' (first|refine a8 ?_|refine a0 ?_|refine ae ?_|refine a5 ?_|refine a6 ?_|refine a7 a4 rfl rfl ?_|refine aw rfl rfl rfl rfl ?_|(apply bb;refine b4 ?_)|fail)
  exact aJ rfl rfl rfl rfl
 ·repeat' (first|refine a8 ?_|refine a0 ?_|refine ae ?_|refine a5 ?_|refine a6 ?_|refine a7 a4 rfl rfl ?_|refine an rfl rfl ?_|(apply bb;refine b4 ?_)|fail)
  exact aJ rfl rfl rfl rfl
theorem pa (f : aM) (l : aQ) (i : Nat) (r : aT) : bk Tryz.prog 140 [az i, .agg (bH r), .iptr (bU f), .iptr (bn l)] (az (iD f l.Kind r)) := by
 refine aB Tryz.func140 rfl Tryz.ntmps140 rfl fun B => ?_
 repeat' (first|refine a8 ?_|refine a0 ?_|refine ae ?_|refine a5 ?_|refine a6 ?_|refine a7 a4 rfl rfl ?_|refine aX ?_|(apply bb;refine b4 ?_)|fail)
 exact ak rfl rfl rfl
theorem lG (f : aM) (l : aQ) : bk Tryz.prog 138 [.iptr (bn l), .iptr (bU f)] (bK (cm l.Rules fun _ r => iD f l.Kind r)) := by
 refine aB Tryz.func138 rfl Tryz.ntmps138 rfl fun B => ?_
 repeat' (first|refine a8 ?_|refine a0 ?_|refine a5 ?_|refine a6 ?_|refine a7 a4 rfl rfl ?_)
 refine aN [] [] (yn (u := .fn 140 [.iptr (bU f), .iptr (bn l)]) (g := 140) rfl l.Rules _ (fun _ _ => True) [] trivial (co (w := fun _ r => iD f l.Kind r) (fun i x _ => pa f l i x))) rfl rfl (Do _) rfl fun c L1 hc => ?_
 have hc : c = bK (cm l.Rules fun _ r => iD f l.Kind r) := hc
 subst hc
 unfold bK
 repeat' (first|refine ae ?_|refine a5 ?_|refine a6 ?_|refine a7 a4 rfl rfl ?_)
 exact aJ rfl rfl rfl rfl
def k7 (f : aM) (l : aQ) : Int := if l.Kind < 1 ∨ l.Kind > 8 then 42 else (fy [(d4 (decide ((l.Rules.length : Int) > 60)) 2, 0), (pZ l, 0), cm l.Rules fun _ r => iD f l.Kind r]).1
set_option maxHeartbeats 1000000 in
theorem sh (f : aM) (l : aQ) : bk Tryz.prog 62 [cx f, .agg (bn l)] (az (k7 f l)) := by
 refine aB Tryz.func62 rfl Tryz.ntmps62 rfl fun B => ?_
 unfold k7
 repeat' (first|refine a8 ?_|refine a0 ?_|refine a5 ?_|refine a6 ?_|refine a7 a4 rfl rfl ?_|refine aX ?_|fail)
 refine bG [2, 3] (l.Kind < 1 ∨ l.Kind > 8) rfl (fun Q' K => ?_) (fun hC => ?_) (fun hC => ?_)
 ·repeat' (first|refine a6 ?_|refine a7 a4 rfl rfl ?_|refine an rfl rfl ?_|refine aw rfl rfl rfl rfl ?_|refine aG rfl rfl rfl (fun _ => ?_) (fun _ => ?_))
  all_goals exact K _ _ rfl rfl (by clear K; grind)
 ·rw [if_pos hC]
  repeat' (first|refine a8 ?_|refine a0 ?_|refine ae ?_|refine a5 ?_|refine am ?_|refine a6 ?_|refine a7 a4 rfl rfl ?_)
  exact ak rfl rfl rfl
 rw [if_neg hC]
 repeat' (first|refine a8 ?_|refine a0 ?_|refine ah ?_|refine a5 ?_|refine a7 a4 rfl rfl ?_)
 by_cases h7 : l.Kind = 7
 ·rw [decide_eq_true h7]
  repeat' (first|refine a8 ?_|refine a0 ?_|refine a5 ?_|refine a6 ?_|refine a7 a4 rfl rfl ?_|refine aw rfl rfl rfl rfl ?_|(apply aO; first|refine a9 5 a4 0 rfl rfl rfl rfl rfl rfl rfl rfl ?_|refine a9 5 a4 1 rfl rfl rfl rfl rfl rfl rfl rfl ?_|refine a9 5 a4 2 rfl rfl rfl rfl rfl rfl rfl rfl ?_|refine aa a4 0 rfl rfl rfl rfl rfl rfl rfl ?_|refine aa a4 1 rfl rfl rfl rfl rfl rfl rfl ?_|refine aa a4 2 rfl rfl rfl rfl rfl rfl rfl ?_|refine aa a4 3 rfl rfl rfl rfl rfl rfl rfl ?_|fail)|refine aY a4 fun _=>?_|refine cj a4 ?_|fail)
  refine aN [] [] (ge [⟨136, [.iptr (bn l)], [], d4 (decide ((l.Rules.length : Int) > 60)) 2, 0⟩, ⟨137, [.iptr [dx true], .iptr (bn l)], [], pZ l, 0⟩, ⟨138, [.iptr (bn l), .iptr (bU f)], [], (cm l.Rules fun _ r => iD f l.Kind r).1, (cm l.Rules fun _ r => iD f l.Kind r).2⟩] ⟨⟨inferInstance, lE l⟩, fun _ => ⟨⟨inferInstance, lF l true (decide_eq_true (Or.inl h7)).symm⟩, fun _ => ⟨⟨inferInstance, lG f l⟩, fun _ => trivial⟩⟩⟩) rfl rfl (Do _) rfl fun c L1 hc => ?_
  rw [gO] at hc
  subst hc
  unfold bK
  repeat' (first|refine a8 ?_|refine a0 ?_|refine ae ?_|refine a5 ?_|refine a6 ?_|refine a7 a4 rfl rfl ?_)
  exact ak rfl rfl rfl
 ·rw [decide_eq_false h7]
  repeat' (first|refine a8 ?_|refine a0 ?_|refine a5 ?_|refine a6 ?_|refine a7 a4 rfl rfl ?_|refine an rfl rfl ?_|(apply aO; first|refine a9 5 a4 0 rfl rfl rfl rfl rfl rfl rfl rfl ?_|refine a9 5 a4 1 rfl rfl rfl rfl rfl rfl rfl rfl ?_|refine a9 5 a4 2 rfl rfl rfl rfl rfl rfl rfl rfl ?_|refine aa a4 0 rfl rfl rfl rfl rfl rfl rfl ?_|refine aa a4 1 rfl rfl rfl rfl rfl rfl rfl ?_|refine aa a4 2 rfl rfl rfl rfl rfl rfl rfl ?_|refine aa a4 3 rfl rfl rfl rfl rfl rfl rfl ?_|fail)|refine aY a4 fun _=>?_|refine cj a4 ?_|fail)
  refine aN [] [] (ge [⟨136, [.iptr (bn l)], [], d4 (decide ((l.Rules.length : Int) > 60)) 2, 0⟩, ⟨137, [.iptr [dx (decide (l.Kind = 8))], .iptr (bn l)], [], pZ l, 0⟩, ⟨138, [.iptr (bn l), .iptr (bU f)], [], (cm l.Rules fun _ r => iD f l.Kind r).1, (cm l.Rules fun _ r => iD f l.Kind r).2⟩] ⟨⟨inferInstance, lE l⟩, fun _ => ⟨⟨inferInstance, lF l (decide (l.Kind = 8)) (decide_eq_decide.2 ⟨Or.inr, fun h => h.resolve_left h7⟩)⟩, fun _ => ⟨⟨inferInstance, lG f l⟩, fun _ => trivial⟩⟩⟩) rfl rfl (Do _) rfl fun c L1 hc => ?_
  rw [gO] at hc
  subst hc
  unfold bK
  repeat' (first|refine a8 ?_|refine a0 ?_|refine ae ?_|refine a5 ?_|refine a6 ?_|refine a7 a4 rfl rfl ?_)
  exact ak rfl rfl rfl
instance (f : aM) (l : aQ) : AD Tryz.prog 62 [cx f, .agg (bn l)] (az (k7 f l)) := ⟨sh f l⟩
theorem pb (f : aM) (i : Nat) (l : aQ) : bk Tryz.prog 61 [az i, .agg (bn l), .iptr (bU f)] (az (k7 f l)) := by
 refine aB Tryz.func61 rfl Tryz.ntmps61 rfl fun B => ?_
 repeat' (first|refine a8 ?_|refine a0 ?_|refine ae ?_|refine a5 ?_|refine a6 ?_|refine a7 a4 rfl rfl ?_|refine aX ?_|(apply bb;refine b4 ?_)|fail)
 exact ak rfl rfl rfl
end Go.Proofs.YtpmdfoaadejmkaaGreatDoor
