/-
  The program: looks at glyphs, features, axes by their numbers.
-/
import Derived.Test.YtjjpkibjffmceaaGreatM13
import Derived.Test.YtjjpkibjffmceaaGreatM07
namespace Go.Proofs.YtjjpkibjffmceaaGreat
open Go.RowKit
attribute [local irreducible] AT bT AX AO Av Kt bk ej DA cX
theorem jI (names : List ByteArray) (s : ByteArray) : (cL names (.string s)).getD (.sc (.int .i64 0)) = aM ((d9 names s).getD 0 : Nat) := by
 show (Option.map (fun n : Nat => aM (n : Int)) (d9 names s)).getD (.sc (.int .i64 0)) = _
 cases d9 names s <;> rfl
def jp (names : List ByteArray) (i : Nat) (s : ByteArray) : Bool := decide ((((d9 names s).getD 0 : Nat) : Int) < (i : Int))
def ji (f : aJ) : List ByteArray := f.Glyphs.map bf.Name
def k7 (f : aJ) : List ByteArray := f.Features.map bL.Name
def gW (f : aJ) : List ByteArray := f.Axes.map dY.Name
def dU (f : aJ) (i : Nat) (g : bf) : Int := mF f g (jH (fM g.Name) (jp (ji f) i g.Name))
def jb (f : aJ) (i : Nat) (t : bL) : Int := sg f t (jH (f6 t.Name) (jp (k7 f) i t.Name))
def j7 (f : aJ) (i : Nat) (a : dY) : Int := rU a (jH (fM a.Name) (jp (gW f) i a.Name))
set_option maxHeartbeats 1000000 in
theorem ua (f : aJ) (i : Nat) (g : bf) (m : Nat) : AC Tryz.prog 117 [aM i, .agg (bb g), .iptr (bZ f), .iptr [.sc (.map (some m))]] [(m, cj .string (cL (ji f)))] fun c L => c = aM (dU f i g) ∧ L = [(m, cj .string (cL (ji f)))] := by
 refine aP Tryz.func117 rfl Tryz.ntmps117 rfl fun B => ?_
 repeat' (first|refine ah ?_|refine a7 ?_|refine a8 ?_|refine aa ?_|refine ae a6 rfl rfl ?_|refine be ?_|fail)
 refine bt 12 [(0, .v), (1, .v), (2, .v), (3, .v), (4, .v), (5, .v), (6, .v), (7, .v), (9, .v), (8, .e), (10, .v), (11, .v)] none ?_ trivial rfl (by kernel_rfl) (by kernel_rfl) (by kernel_rfl) mixed (by kernel_rfl) rfl
 repeat' (first|refine aE ?_|refine aZ a6 ?_|(apply bX;refine cm ?_)|fail)
 refine oq 0 (.int .i64 0) Tryz.underlying218 Tryz.underlying9 rfl rfl trivial rfl (by kernel_rfl) trivial ?_
 rw [jI]
 repeat' (first|refine aE ?_|refine aZ a6 ?_|(apply bX;refine cm ?_)|fail)
 refine br [7, 8, 18] rfl rfl ?_
 repeat' (first|refine ar ?_|refine a8 ?_|refine aa ?_|refine ae a6 rfl rfl ?_|(apply bA;refine bh ?_)|fail)
 exact aA rfl rfl ⟨rfl, rfl⟩
set_option maxHeartbeats 1000000 in
theorem wm (f : aJ) (i : Nat) (t : bL) (m : Nat) : AC Tryz.prog 130 [aM i, .agg (bw t), .iptr (bZ f), .iptr [.sc (.map (some m))]] [(m, cj .string (cL (k7 f)))] fun c L => c = aM (jb f i t) ∧ L = [(m, cj .string (cL (k7 f)))] := by
 refine aP Tryz.func130 rfl Tryz.ntmps130 rfl fun B => ?_
 repeat' (first|refine ah ?_|refine a7 ?_|refine a8 ?_|refine aa ?_|refine ae a6 rfl rfl ?_|refine be ?_|fail)
 refine bt 12 [(0, .v), (1, .v), (2, .v), (3, .v), (4, .v), (5, .v), (6, .v), (7, .v), (9, .v), (8, .e), (10, .v), (11, .v)] none ?_ trivial rfl (by kernel_rfl) (by kernel_rfl) (by kernel_rfl) mixed (by kernel_rfl) rfl
 repeat' (first|refine aE ?_|refine aZ a6 ?_|(apply bX;refine cm ?_)|fail)
 refine oq 0 (.int .i64 0) Tryz.underlying218 Tryz.underlying9 rfl rfl trivial rfl (by kernel_rfl) trivial ?_
 rw [jI]
 repeat' (first|refine aE ?_|refine aZ a6 ?_|(apply bX;refine cm ?_)|fail)
 refine br [7, 8, 18] rfl rfl ?_
 repeat' (first|refine ar ?_|refine a8 ?_|refine aa ?_|refine ae a6 rfl rfl ?_|(apply bA;refine bh ?_)|fail)
 exact aA rfl rfl ⟨rfl, rfl⟩
set_option maxHeartbeats 1000000 in
theorem vT (f : aJ) (i : Nat) (a : dY) (m : Nat) : AC Tryz.prog 134 [aM i, .agg (cC a), .iptr [.sc (.map (some m))]] [(m, cj .string (cL (gW f)))] fun c L => c = aM (j7 f i a) ∧ L = [(m, cj .string (cL (gW f)))] := by
 refine aP Tryz.func134 rfl Tryz.ntmps134 rfl fun B => ?_
 repeat' (first|refine ah ?_|refine a7 ?_|refine a8 ?_|refine aa ?_|refine ae a6 rfl rfl ?_|refine be ?_|fail)
 refine bt 11 [(0, .v), (1, .v), (2, .v), (3, .v), (4, .v), (5, .v), (6, .v), (8, .v), (7, .e), (9, .v), (10, .v)] none ?_ trivial rfl (by kernel_rfl) (by kernel_rfl) (by kernel_rfl) mixed (by kernel_rfl) rfl
 repeat' (first|refine aE ?_|refine aZ a6 ?_|(apply bX;refine cm ?_)|fail)
 refine oq 0 (.int .i64 0) Tryz.underlying218 Tryz.underlying9 rfl rfl trivial rfl (by kernel_rfl) trivial ?_
 rw [jI]
 repeat' (first|refine aE ?_|refine aZ a6 ?_|(apply bX;refine cm ?_)|fail)
 refine br [6, 16] rfl rfl ?_
 repeat' (first|refine ar ?_|refine a8 ?_|refine aa ?_|refine ae a6 rfl rfl ?_|(apply bA;refine bh ?_)|fail)
 exact aA rfl rfl ⟨rfl, rfl⟩
theorem B2 (n : Nat) (hn : n ≤ 1000000) : AC Tryz.prog 146 [.sc (.slice none 0 0), aM n] [] fun c L => ∃ k, c = .vec k 1 [] ∧ L = tok k 22 1 0 := by
 refine aP Tryz.func146 rfl Tryz.ntmps146 rfl fun B => ?_
 repeat' (first|refine ah ?_|refine a7 ?_|refine au ?_|refine a8 ?_|refine aa ?_|refine ae a6 rfl rfl ?_|refine bv rfl ?_)
 refine yO a6 rfl rfl rfl ?_
 repeat' (first|refine ah ?_|refine a7 ?_|refine a8 ?_|refine aa ?_|refine ae a6 rfl rfl ?_|(apply aW; refine aV ?_)|fail)
 by_cases h0 : n = 0
 ·subst h0
  repeat' (first|refine ah ?_|refine a7 ?_|refine au ?_|refine ar ?_|refine a8 ?_|refine aa ?_|refine ae a6 rfl rfl ?_|refine bv rfl ?_)
  refine ba (bg (t := 4) (c' := .vec none 1 []) rfl fun σ v h => co 1 h) (aA rfl rfl ⟨none, rfl, rfl⟩)
 ·refine aw rfl (fun h2 => ?_) (fun h2 => ?_)
  ·repeat' (first|refine a7 ?_|refine ae a6 rfl rfl ?_)
   refine yO a6 rfl rfl rfl ?_
   repeat' (first|fail)
   refine CY a6 rfl rfl rfl rfl ?_
   repeat' (first|refine ae a6 rfl rfl ?_)
   refine wK a6 n rfl Tryz.underlying3 rfl rfl (by omega) (by omega) (by omega) (by omega) rfl fun b cap h3 h4 => ?_
   repeat' (first|refine ae a6 rfl rfl ?_)
   refine yQ a6 0 rfl rfl rfl rfl (by omega) (by omega) rfl ?_
   repeat' (first|refine ah ?_|refine a7 ?_|refine ar ?_|refine a8 ?_|refine aa ?_|refine ae a6 rfl rfl ?_)
   refine ba (bg (t := 4) (c' := .vec (some (b, cap)) 1 []) rfl fun σ v h => BI h4 h) (aA rfl rfl ⟨some (b, cap), rfl, rfl⟩)
  ·exact absurd (Gy h2) (by omega)
def p5 (l : List (List (List Int))) : List (List AV) := l.map fun r => [.imm 1 (bq r)]
def fz (l : List (List (List Int))) : Nat := (l.map List.length).sum
theorem nB {l : List (List (List Int))} {i : Nat} {r : List (List Int)} (h : l[i]? = some r) : fz (l.take (i + 1)) = fz (l.take i) + r.length := by
 unfold fz
 rw [List.take_add_one, h]
 simp
theorem qA (l : List (List (List Int))) (i : Nat) : fz (l.take i) ≤ fz l := by
 have h : ((l.take i ++ l.drop i).map List.length).sum = (l.map List.length).sum := by rw [List.take_append_drop]
 rw [List.map_append, List.sum_append] at h
 unfold fz
 omega
theorem yf (l : List (List (List Int))) : l.flatten.length = fz l := by
 unfold fz
 rw [List.length_flatten]
theorem wV (a b : List (List Int)) : bq a ++ bq b = bq (a ++ b) := by unfold bq; rw [List.map_append]
set_option maxHeartbeats 1000000 in
theorem om (l : List (List (List Int))) (hs : fz l ≤ 1000000) : bO Tryz.prog 84 [.imm 1 (p5 l)] (.imm 1 (bq l.flatten)) := by
 refine aP Tryz.func84 rfl Tryz.ntmps84 rfl fun B => ?_
 have hrl : (p5 l).length = l.length := by simp [p5]
 refine cz 0 rfl rfl fun hlen => ?_
 rw [hrl] at hlen
 repeat' (first|refine ah ?_|refine a7 ?_|refine aq ?_|refine a8 ?_|refine aa ?_|refine ae a6 rfl rfl ?_)
 refine aN [0, 9, 10] (α := Nat) (fun i => [(11, aM i), (3, aM (fz (l.take i)))]) (fun i => i ≤ l.length) (fun _ => []) (fun i => l.length - i) 0 rfl ⟨rfl, rfl, trivial⟩ (Nat.zero_le _) (fun _ _ h => h) fun i hi => ?_
 try dsimp only [Gr, Gq, Gp, Gj]
 repeat' (first|refine ah ?_|refine a7 ?_|refine a8 ?_|refine aa ?_|refine ae a6 rfl rfl ?_)
 refine aw rfl (fun h => ?_) (fun h => ?_)
 ·have hil : i < l.length := by have := Gz h; rw [hrl] at this; omega
  obtain ⟨z, hz⟩ : ∃ z, l[i]? = some z := ⟨_, Ds hil⟩
  have hzg : (p5 l)[i]? = some [.imm 1 (bq z)] := by simp [p5, hz]
  have hsz := nB hz
  have hle := qA l (i + 1)
  have hzl : (bq z).length = z.length := by simp [bq]
  repeat' (first|refine ah ?_|refine a7 ?_|refine aq ?_|refine au ?_|refine a8 ?_|refine aI ?_|refine aa ?_|refine ae a6 rfl rfl ?_|(apply aW; refine aV ?_)|(apply aY; first|refine aX a6 ?_|refine aS a6 ?_)|refine bv rfl ?_)
  exact aC (i + 1) rfl ⟨by rw [Gw]; rfl, by rw [hsz, Gw, hzl]; rfl, trivial⟩ (by omega) (by omega) (fun _ _ h => h)
 have hil : i = l.length := by have := Gy h; rw [hrl] at this; omega
 subst hil
 rw [List.take_length]
 clear h
 repeat' (first|refine ah ?_|refine a7 ?_|refine aR ?_|refine a8 ?_|refine av ?_|refine aB ?_|refine ay ?_|refine ae a6 rfl rfl ?_)
 refine b7 [] [] (B2 (fz l) hs) rfl rfl (Gm _) rfl fun c L1 ⟨k, hc, hL⟩ => ?_
 subst hc; subst hL
 rw [List.append_nil]
 repeat' (first|refine ah ?_|refine a7 ?_|refine aq ?_|refine a8 ?_|refine aa ?_|refine ae a6 rfl rfl ?_)
 refine aN [25, 26] (α := Nat × Option (Nat × Nat)) (fun x => [(27, aM x.1), (6, .vec x.2 1 (bq (l.take x.1).flatten))]) (fun x => x.1 ≤ l.length) (fun x => tok x.2 22 1 (bq (l.take x.1).flatten).length) (fun x => l.length - x.1) (0, k) rfl ⟨rfl, rfl, trivial⟩ (Nat.zero_le _) (fun _ _ h => h) ?_
 rintro ⟨i, k⟩ hi
 dsimp only at hi ⊢
 try dsimp only [Gr, Gq, Gp, Gj]
 repeat' (first|refine ah ?_|refine a7 ?_|refine a8 ?_|refine aa ?_|refine ae a6 rfl rfl ?_)
 refine aw rfl (fun h => ?_) (fun h => ?_)
 ·have hil : i < l.length := by have := Gz h; rw [hrl] at this; omega
  obtain ⟨z, hz⟩ : ∃ z, l[i]? = some z := ⟨_, Ds hil⟩
  have hzg : (p5 l)[i]? = some [.imm 1 (bq z)] := by simp [p5, hz]
  have hsz := nB hz
  have hle := qA l (i + 1)
  have hzl : (bq z).length = z.length := by simp [bq]
  have hfl : (bq (l.take i).flatten).length = fz (l.take i) := by rw [fC, yf]
  have hcat : bq (l.take i).flatten ++ bq z = bq (l.take (i + 1)).flatten := by rw [wV, List.take_add_one, hz]; simp
  repeat' (first|refine ah ?_|refine a7 ?_|refine aq ?_|refine au ?_|refine a8 ?_|refine aa ?_|refine ae a6 rfl rfl ?_|(apply aY; first|refine aX a6 ?_|refine aS a6 ?_)|fail)
  refine bF a6 [] rfl rfl rfl rfl (by rw [List.append_nil]) (by rw [hfl, hzl]; omega) (by rw [hfl, hzl]; omega) rfl fun k' => ?_
  rw [hcat, List.append_nil]
  repeat' (first|refine a7 ?_|refine a8 ?_|refine aI ?_|refine aa ?_|refine ae a6 rfl rfl ?_|(apply aW; refine aV ?_)|fail)
  exact aC (i + 1, k') rfl ⟨by rw [Gw]; rfl, rfl, trivial⟩ (by dsimp only; omega) (by dsimp only; omega) (fun _ _ h => h)
 ·have hil : i = l.length := by have := Gy h; rw [hrl] at this; omega
  subst hil
  rw [List.take_length]
  repeat' (first|refine ah ?_|refine a7 ?_|refine ar ?_|refine aR ?_|refine a8 ?_|refine av ?_|refine aB ?_|refine ay ?_|refine aa ?_|refine ae a6 rfl rfl ?_)
  exact o9 rfl rfl rfl rfl
def jn (l : List Int) : Bool := decide (∀ i, i < l.length - 1 → l.getD i 0 < l.getD (i + 1) 0)
theorem jN {l : List Int} {i : Nat} {z : Int} (h : l[i]? = some z) : l.getD i 0 = z := by simp [h]
theorem uB (l : List Int) : bO Tryz.prog 258 [.imm 1 (aU l)] (cF (jn l)) := by
 refine aP Tryz.func258 rfl Tryz.ntmps258 rfl fun B => ?_
 refine cz 0 rfl rfl fun hlen => ?_
 have hll := aQ l
 rw [aQ] at hlen
 repeat' (first|refine ah ?_|refine a7 ?_|refine aq ?_|refine a8 ?_|refine aa ?_|refine ae a6 rfl rfl ?_)
 refine aN [0] (α := Nat) (fun i => [(3, aM (i + 1 : Nat))]) (fun i => i ≤ l.length ∧ ∀ j, j < i → j + 1 < l.length → l.getD j 0 < l.getD (j + 1) 0) (fun _ => []) (fun i => l.length - i) 0 rfl ⟨rfl, trivial⟩ ⟨Nat.zero_le _, fun j hj => absurd hj (Nat.not_lt_zero _)⟩ (fun _ _ h => h) fun i ⟨hi, hall⟩ => ?_
 try dsimp only [Gr, Gq, Gp, Gj]
 repeat' (first|refine ah ?_|refine a7 ?_|refine a8 ?_|refine aa ?_|refine ae a6 rfl rfl ?_)
 refine aw rfl (fun h => ?_) (fun h => ?_)
 ·have hil : i + 1 < l.length := by have := Gz h; rw [aQ] at this; omega
  obtain ⟨y, hy⟩ : ∃ z, l[i]? = some z := ⟨_, Ds (by omega)⟩
  obtain ⟨z, hz⟩ : ∃ z, l[i + 1]? = some z := ⟨_, Ds hil⟩
  have hyg : (aU l)[(((i + 1 : Nat) : Int) - 1).toNat]? = some [aM y] := by rw [show (((i + 1 : Nat) : Int) - 1).toNat = i by omega]; exact bN hy
  have hzg := bN hz
  repeat' (first|refine ah ?_|refine aq ?_|refine au ?_|refine a8 ?_)
  refine bt 9 [(0, .v), (1, .v), (2, .v), (3, .v), (4, .v), (5, .v), (6, .v), (7, .v), (8, .v)] none ?_ trivial rfl (by kernel_rfl) (by kernel_rfl) (by kernel_rfl) mixed (by kernel_rfl) rfl
  repeat' (first|refine aE ?_|refine aZ a6 ?_|(apply eP;refine fU ?_)|(apply bP;refine c8 a6 ?_)|fail)
  refine br [0, 3, 13, 18] rfl rfl ?_
  repeat' (first|refine a8 ?_|refine aa ?_|refine ae a6 rfl rfl ?_)
  refine aw rfl (fun h2 => ?_) (fun h2 => ?_)
  ·have h2' := Gz h2
   repeat' (first|refine ah ?_|refine a7 ?_|refine ar ?_|refine a8 ?_|refine aF ?_|refine aT ?_|refine bE ?_|refine aa ?_|refine ae a6 rfl rfl ?_)
   refine aA rfl rfl ?_
   rw [show jn l = false from decide_eq_false (fun hh => by have := hh i (by omega); rw [jN hy, jN hz] at this; omega)]
  ·have h2' := Gy h2
   repeat' (first|refine a7 ?_|refine au ?_|refine a8 ?_|refine aI ?_|refine aa ?_|refine ae a6 rfl rfl ?_|(apply aW; refine aV ?_)|fail)
   refine aC (i + 1) rfl ⟨by rw [Gw (i + 1) 1]; rfl, trivial⟩ ⟨by omega, fun j hj hjl => ?_⟩ (by omega) (fun _ _ h => h)
   by_cases e : j = i
   ·subst e; rw [jN hy, jN hz]; omega
   ·exact hall j (by omega) hjl
 ·have hil : l.length ≤ i + 1 := by have := Gy h; rw [aQ] at this; omega
  repeat' (first|refine ah ?_|refine a7 ?_|refine ar ?_|refine aR ?_|refine a8 ?_|refine av ?_|refine aB ?_|refine ay ?_|refine aa ?_|refine ae a6 rfl rfl ?_)
  refine aA rfl rfl ?_
  rw [show jn l = true from decide_eq_true (fun j hj => hall j (by omega) (by omega))]
instance (l : List Int) : AD Tryz.prog 258 [.imm 1 (aU l)] (cF (jn l)) := ⟨uB l⟩
def l5 (f : aJ) (l : List Int) : Bool := decide (0 < l.length) && (jn l && (jS f (l.getD 0 0) && jS f (l.getD (l.length - 1) 0)))
set_option maxHeartbeats 1000000 in
theorem ww (f : aJ) (l : List Int) : bO Tryz.prog 233 [cr f, .imm 1 (aU l)] (cF (l5 f l)) := by
 refine aP Tryz.func233 rfl Tryz.ntmps233 rfl fun B => ?_
 refine cz 1 rfl rfl fun hlen => ?_
 cases l with
 | nil =>
  repeat' (first|refine ah ?_|refine a7 ?_|refine a8 ?_|refine aa ?_|refine ae a6 rfl rfl ?_|refine be ?_|fail)
  refine bt 24 [(0, .v), (1, .v), (2, .v), (3, .v), (4, .v), (5, .v), (6, .v), (7, .v), (8, .v), (9, .v), (10, .v), (11, .v), (12, .v), (13, .v), (14, .v), (15, .v), (16, .v), (17, .v), (18, .v), (19, .v), (20, .v), (21, .v), (22, .v), (23, .v)] none ?_ trivial rfl (by kernel_rfl) (by kernel_rfl) (by kernel_rfl) mixed (by kernel_rfl) rfl
  repeat' (first|refine aE ?_|refine aZ a6 ?_|refine kD rfl rfl ?_)
  refine br [28] rfl rfl ?_
  repeat' (first|refine ar ?_|refine a8 ?_|refine aa ?_|refine ae a6 rfl rfl ?_)
  exact aA rfl rfl rfl
 | cons y q =>
  have hll : (aU (y :: q)).length = q.length + 1 := by rw [aQ]; rfl
  rw [hll] at hlen
  obtain ⟨z, hz⟩ : ∃ z, (y :: q)[q.length]? = some z := ⟨_, Ds (by simp)⟩
  have hzg : (aU (y :: q))[((((aU (y :: q)).length : Nat) : Int) - 1).toNat]? = some [aM z] := by rw [show ((((aU (y :: q)).length : Nat) : Int) - 1).toNat = q.length by rw [hll]; omega]; exact bN hz
  have hyg : (aU (y :: q))[(0 : Int).toNat]? = some [aM y] := rfl
  have hval : l5 f (y :: q) = (jn (y :: q) && (jS f y && jS f z)) := by
   unfold l5
   rw [show (y :: q).length - 1 = q.length by simp, jN hz]
   simp
  rw [hval]
  have hpos : decide (0 < (((aU (y :: q)).length : Nat) : Int)) = true := decide_eq_true (by rw [hll]; omega)
  repeat' (first|refine ah ?_|refine a7 ?_|refine a8 ?_|refine aa ?_|refine ae a6 rfl rfl ?_|refine be ?_|fail)
  refine bt 24 [(0, .v), (1, .v), (2, .v), (3, .v), (4, .v), (5, .v), (6, .v), (7, .v), (8, .v), (9, .v), (10, .v), (11, .v), (12, .v), (13, .v), (14, .v), (15, .v), (16, .v), (17, .v), (18, .v), (19, .v), (20, .v), (21, .v), (22, .v), (23, .v)] none ?_ trivial rfl (by kernel_rfl) (by kernel_rfl) (by kernel_rfl) mixed (by kernel_rfl) rfl
  repeat' (first|refine aE ?_|refine aZ a6 ?_|fail)
  rw [hpos]
  repeat' (first|refine aE ?_|refine aZ a6 ?_|(apply bX;refine cm ?_)|fail)
  generalize jn (y :: q) = b1
  cases b1
  ·repeat' (first|refine aE ?_|refine aZ a6 ?_|refine kD rfl rfl ?_)
   refine br [28] rfl rfl ?_
   repeat' (first|refine ar ?_|refine a8 ?_|refine aa ?_|refine ae a6 rfl rfl ?_)
   exact aA rfl rfl rfl
  repeat' (first|refine aE ?_|refine aZ a6 ?_|(apply bP;refine c8 a6 ?_)|(apply bX;refine cm ?_)|fail)
  generalize jS f y = b2
  cases b2
  ·repeat' (first|refine aE ?_|refine aZ a6 ?_|refine kD rfl rfl ?_)
   refine br [28] rfl rfl ?_
   repeat' (first|refine ar ?_|refine a8 ?_|refine aa ?_|refine ae a6 rfl rfl ?_)
   exact aA rfl rfl rfl
  repeat' (first|refine aE ?_|refine aZ a6 ?_|(apply eP;refine fU ?_)|(apply bP;refine c8 a6 ?_)|(apply bX;refine cm ?_)|fail)
  refine br [28] rfl rfl ?_
  repeat' (first|refine ar ?_|refine a8 ?_|refine aa ?_|refine ae a6 rfl rfl ?_)
  exact aA rfl rfl rfl
instance (f : aJ) (l : List Int) : AD Tryz.prog 233 [cr f, .imm 1 (aU l)] (cF (l5 f l)) := ⟨ww f l⟩
def eO (kind : Int) (r : bV) : Bool := if kind = 1 ∨ kind = 2 ∨ kind = 5 then decide ((r.In.length : Int) ≠ 1) else if kind = 6 then decide ((r.In.length : Int) ≠ 2 ∨ (r.Back.length : Int) > 0 ∨ (r.Ahead.length : Int) > 0) else decide ((r.In.length : Int) = 0)
def kJ (kind : Int) (r : bV) : Int := if (r.Back.length : Int) > 6 ∨ (r.In.length : Int) > 6 ∨ (r.Ahead.length : Int) > 6 then 2 else dX (eO kind r) 40
set_option maxHeartbeats 1000000 in
theorem zo (kind : Int) (r : bV) : bO Tryz.prog 229 [aM kind, .agg (bC r)] (aM (kJ kind r)) := by
 refine aP Tryz.func229 rfl Tryz.ntmps229 rfl fun B => ?_
 unfold kJ eO
 have hB := fC r.Back
 have hI := fC r.In
 have hA := fC r.Ahead
 rw [← hB, ← hI, ← hA]
 repeat' (first|refine ah ?_|refine a7 ?_|refine a8 ?_|refine aa ?_|refine ae a6 rfl rfl ?_|refine be ?_|fail)
 refine dJ [0, 3] (((bq r.Back).length : Int) > 6 ∨ ((bq r.In).length : Int) > 6 ∨ ((bq r.Ahead).length : Int) > 6) rfl (fun Q' K => ?_) (fun hC => ?_) (fun hC => ?_)
 ·repeat' (first|refine aa ?_|refine ae a6 rfl rfl ?_|refine aG rfl rfl ?_|refine aL rfl rfl rfl rfl ?_|refine bc rfl rfl rfl (fun _ => ?_) (fun _ => ?_))
  all_goals exact K _ _ rfl rfl (by clear K; grind)
 ·rw [if_pos hC]
  repeat' (first|refine ah ?_|refine a7 ?_|refine ar ?_|refine a8 ?_|refine aF ?_|refine aa ?_|refine ae a6 rfl rfl ?_)
  exact aA rfl rfl rfl
 rw [if_neg hC]
 by_cases h1 : kind = 1
 ·subst h1
  repeat' (first|refine ah ?_|refine a7 ?_|refine aq ?_|refine au ?_|refine ar ?_|refine a8 ?_|refine aI ?_|refine aa ?_|refine ae a6 rfl rfl ?_|(apply bA;refine bh ?_)|refine bQ rfl ?_)
  exact aA rfl rfl rfl
 by_cases h2 : kind = 2
 ·subst h2
  repeat' (first|refine ah ?_|refine a7 ?_|refine aq ?_|refine au ?_|refine ar ?_|refine a8 ?_|refine aI ?_|refine aa ?_|refine ae a6 rfl rfl ?_|(apply bA;refine bh ?_)|refine bQ rfl ?_|refine bv rfl ?_)
  exact aA rfl rfl rfl
 by_cases h5 : kind = 5
 ·subst h5
  repeat' (first|refine ah ?_|refine a7 ?_|refine aq ?_|refine au ?_|refine ar ?_|refine a8 ?_|refine aI ?_|refine aa ?_|refine ae a6 rfl rfl ?_|(apply bA;refine bh ?_)|refine bQ rfl ?_|refine bv rfl ?_)
  exact aA rfl rfl rfl
 rw [if_neg (by omega)]
 by_cases h6 : kind = 6
 ·subst h6
  rw [if_pos rfl]
  repeat' (first|refine ah ?_|refine a7 ?_|refine aq ?_|refine au ?_|refine a8 ?_|refine aa ?_|refine ae a6 rfl rfl ?_|refine bQ rfl ?_|refine bv rfl ?_)
  refine cZ (t := 5) [] (((bq r.In).length : Int) ≠ 2 ∨ ((bq r.Back).length : Int) > 0 ∨ ((bq r.Ahead).length : Int) > 0) rfl (fun Q' K => ?_) ?_
  ·repeat' (first|refine aa ?_|refine ae a6 rfl rfl ?_|refine aG rfl rfl ?_|refine aL rfl rfl rfl rfl ?_|refine bc rfl rfl rfl (fun _ => ?_) (fun _ => ?_))
   all_goals exact K _ _ rfl rfl (by clear K; grind)
  repeat' (first|refine ah ?_|refine a7 ?_|refine ar ?_|refine a8 ?_|refine aI ?_|refine aa ?_|refine ae a6 rfl rfl ?_|(apply bA;refine bh ?_)|fail)
  exact aA rfl rfl rfl
 rw [if_neg h6]
 repeat' (first|refine ah ?_|refine a7 ?_|refine aq ?_|refine au ?_|refine a8 ?_|refine aa ?_|refine ae a6 rfl rfl ?_)
 refine aw rfl (fun h => absurd (Gz h) h1) (fun h => ?_)
 repeat' (first|refine ah ?_|refine a7 ?_|refine a8 ?_|refine aa ?_|refine ae a6 rfl rfl ?_)
 refine aw rfl (fun h => absurd (Gz h) h2) (fun h => ?_)
 repeat' (first|refine a7 ?_|refine a8 ?_|refine aa ?_|refine ae a6 rfl rfl ?_)
 refine aw rfl (fun h => absurd (Gz h) h5) (fun h => ?_)
 rw [decide_eq_false h5]
 repeat' (first|refine ah ?_|refine a7 ?_|refine a8 ?_|refine aa ?_|refine ae a6 rfl rfl ?_)
 refine aw rfl (fun h => absurd (Gz h) h6) (fun h => ?_)
 repeat' (first|refine ah ?_|refine a7 ?_|refine au ?_|refine ar ?_|refine a8 ?_|refine aI ?_|refine aa ?_|refine ae a6 rfl rfl ?_|(apply bA;refine bh ?_)|fail)
 exact aA rfl rfl rfl
instance (kind : Int) (r : bV) : AD Tryz.prog 229 [aM kind, .agg (bC r)] (aM (kJ kind r)) := ⟨zo kind r⟩
theorem vq {kind : Int} {r : bV} (h : kJ kind r = 0) : r.In ≠ [] ∧ r.Back.length ≤ 6 ∧ r.In.length ≤ 6 ∧ r.Ahead.length ≤ 6 := by
 unfold kJ at h
 split at h
 ·cases h
 ·rename_i hc
  refine ⟨fun e => ?_, by omega, by omega, by omega⟩
  have hw : eO kind r = true := by
   unfold eO
   rw [e]
   split
   ·decide
   ·split <;> simp
  rw [hw] at h
  cases h
def nG (kind : Int) (r : bV) : Bool := if kind = 1 ∨ kind = 5 then decide ((r.Out.length : Int) = ((r.In.headD []).length : Int)) else if kind = 2 then decide ((r.Out.length : Int) ≤ 6) else if kind = 3 then decide ((r.Out.length : Int) = 1) else decide ((r.Out.length : Int) = 0)
set_option maxHeartbeats 1000000 in
theorem Bc (kind : Int) (r : bV) (hin : r.In ≠ []) : bO Tryz.prog 235 [aM kind, .agg (bC r)] (cF (nG kind r)) := by
 refine aP Tryz.func235 rfl Tryz.ntmps235 rfl fun B => ?_
 obtain ⟨y, hy⟩ : ∃ y, r.In[0]? = some y := ⟨_, Ds (List.length_pos_iff.2 hin)⟩
 have hyg := qr hy
 have hv : nG kind r = if kind = 1 ∨ kind = 5 then decide (((aU r.Out).length : Int) = ((aU y).length : Int)) else if kind = 2 then decide (((aU r.Out).length : Int) ≤ 6) else if kind = 3 then decide (((aU r.Out).length : Int) = 1) else decide (((aU r.Out).length : Int) = 0) := by
  have hd : r.In.headD [] = y := by
   cases hI : r.In with
   | nil => exact absurd hI hin
   | cons y' q => rw [hI] at hy; simpa using hy
  unfold nG
  rw [hd, aQ, aQ]
 rw [hv]
 by_cases h1 : kind = 1
 ·subst h1
  repeat' (first|refine ah ?_|refine a7 ?_|refine aq ?_|refine au ?_|refine a8 ?_|refine aa ?_|refine ae a6 rfl rfl ?_|refine be ?_|refine bQ rfl ?_)
  refine bt 8 [(0, .v), (1, .v), (2, .v), (3, .v), (4, .v), (5, .v), (6, .v), (7, .v)] none ?_ trivial rfl (by kernel_rfl) (by kernel_rfl) (by kernel_rfl) mixed (by kernel_rfl) rfl
  repeat' (first|refine aE ?_|refine aZ a6 ?_|(apply bP;refine c8 a6 ?_)|fail)
  refine br [11, 16] rfl rfl ?_
  repeat' (first|refine ar ?_|refine a8 ?_|refine aF ?_|refine aT ?_|refine aa ?_|refine ae a6 rfl rfl ?_)
  exact aA rfl rfl rfl
 by_cases h5 : kind = 5
 ·subst h5
  repeat' (first|refine ah ?_|refine a7 ?_|refine aq ?_|refine a8 ?_|refine aa ?_|refine ae a6 rfl rfl ?_|refine be ?_|refine bQ rfl ?_|refine bv rfl ?_)
  refine bt 8 [(0, .v), (1, .v), (2, .v), (3, .v), (4, .v), (5, .v), (6, .v), (7, .v)] none ?_ trivial rfl (by kernel_rfl) (by kernel_rfl) (by kernel_rfl) mixed (by kernel_rfl) rfl
  repeat' (first|refine aE ?_|refine aZ a6 ?_|(apply bP;refine c8 a6 ?_)|fail)
  refine br [11, 16] rfl rfl ?_
  repeat' (first|refine ar ?_|refine a8 ?_|refine aF ?_|refine aT ?_|refine aa ?_|refine ae a6 rfl rfl ?_)
  exact aA rfl rfl rfl
 rw [if_neg (by omega)]
 by_cases h2 : kind = 2
 ·subst h2
  repeat' (first|refine ah ?_|refine a7 ?_|refine aq ?_|refine ar ?_|refine a8 ?_|refine aF ?_|refine aT ?_|refine aa ?_|refine ae a6 rfl rfl ?_|refine be ?_|refine bQ rfl ?_|refine bv rfl ?_)
  exact aA rfl rfl rfl
 rw [if_neg h2]
 by_cases h3 : kind = 3
 ·subst h3
  repeat' (first|refine ah ?_|refine a7 ?_|refine aq ?_|refine ar ?_|refine a8 ?_|refine aF ?_|refine aT ?_|refine aa ?_|refine ae a6 rfl rfl ?_|refine be ?_|refine bQ rfl ?_|refine bv rfl ?_)
  exact aA rfl rfl rfl
 rw [if_neg h3]
 repeat' (first|refine ah ?_|refine a7 ?_|refine aq ?_|refine a8 ?_|refine aa ?_|refine ae a6 rfl rfl ?_|refine be ?_|fail)
 refine aw rfl (fun h => absurd (Gz h) h1) (fun h => ?_)
 repeat' (first|refine a7 ?_|refine a8 ?_|refine aa ?_|refine ae a6 rfl rfl ?_)
 refine aw rfl (fun h => absurd (Gz h) h5) (fun h => ?_)
 rw [decide_eq_false h5]
 repeat' (first|refine ah ?_|refine a7 ?_|refine a8 ?_|refine aa ?_|refine ae a6 rfl rfl ?_)
 refine aw rfl (fun h => absurd (Gz h) h2) (fun h => ?_)
 repeat' (first|refine ah ?_|refine a7 ?_|refine a8 ?_|refine aa ?_|refine ae a6 rfl rfl ?_)
 refine aw rfl (fun h => absurd (Gz h) h3) (fun h => ?_)
 repeat' (first|refine ah ?_|refine a7 ?_|refine au ?_|refine ar ?_|refine a8 ?_|refine aI ?_|refine aa ?_|refine ae a6 rfl rfl ?_)
 exact aA rfl rfl rfl
def oH (f : aJ) (n : Int) : Int := match f.Lookups[n.toNat]? with | some l => l.Kind | none => 0
def rZ (f : aJ) (r : bV) (_ : Nat) (c : fF) : Int := if c.At < 0 ∨ c.At ≥ r.In.length then 40 else if c.Lookup < 0 ∨ c.Lookup ≥ f.Lookups.length then 42 else dX (decide (oH f c.Lookup < 1 ∨ oH f c.Lookup > 4)) 42
set_option maxHeartbeats 1000000 in
theorem xQ (f : aJ) (r : bV) (i : Nat) (c : fF) : bO Tryz.prog 260 [aM i, .agg (dP c), .iptr (bC r), .iptr (bZ f)] (aM (rZ f r i c)) := by
 refine aP Tryz.func260 rfl Tryz.ntmps260 rfl fun B => ?_
 unfold rZ
 have hI := fC r.In
 have hL : (f.Lookups.map bn).length = f.Lookups.length := Gu ..
 rw [← hI]
 repeat' (first|refine ah ?_|refine a7 ?_|refine aq ?_|refine a8 ?_|refine aa ?_|refine ae a6 rfl rfl ?_|refine be ?_|fail)
 refine dJ [3, 5] (c.At < 0 ∨ c.At ≥ ((bq r.In).length : Int)) rfl (fun Q' K => ?_) (fun hC => ?_) (fun hC => ?_)
 ·repeat' (first|refine aa ?_|refine ae a6 rfl rfl ?_|refine aG rfl rfl ?_|refine aL rfl rfl rfl rfl ?_|refine bc rfl rfl rfl (fun _ => ?_) (fun _ => ?_))
  all_goals exact K _ _ rfl rfl (by clear K; grind)
 ·rw [if_pos hC]
  repeat' (first|refine ah ?_|refine a7 ?_|refine ar ?_|refine a8 ?_|refine aF ?_|refine aT ?_|refine aa ?_|refine ae a6 rfl rfl ?_)
  exact aA rfl rfl rfl
 rw [if_neg hC]
 repeat' (first|refine ah ?_|refine a7 ?_|refine ae a6 rfl rfl ?_)
 refine dJ [3, 5] (c.Lookup < 0 ∨ c.Lookup ≥ f.Lookups.length) rfl (fun Q' K => ?_) (fun hC => ?_) (fun hC => ?_)
 ·repeat' (first|refine aa ?_|refine ae a6 rfl rfl ?_|refine aG rfl rfl ?_|refine aL rfl rfl rfl rfl ?_|refine bc rfl rfl rfl (fun _ => ?_) (fun _ => ?_))
  all_goals exact K _ _ rfl rfl (by clear K; grind)
 ·rw [if_pos hC]
  repeat' (first|refine ah ?_|refine a7 ?_|refine ar ?_|refine a8 ?_|refine aF ?_|refine aT ?_|refine aa ?_|refine ae a6 rfl rfl ?_)
  exact aA rfl rfl rfl
 rw [if_neg hC]
 obtain ⟨l, hl⟩ : ∃ l, f.Lookups[c.Lookup.toNat]? = some l := ⟨_, Ds (by omega)⟩
 have hlg := bj (c := bn) hl
 have hk : oH f c.Lookup = l.Kind := by unfold oH; rw [hl]
 rw [hk]
 repeat' (first|refine ah ?_|refine a7 ?_|refine au ?_|refine a8 ?_|refine aI ?_|refine aa ?_|refine ae a6 rfl rfl ?_|(apply aY; first|refine aX a6 ?_|refine aS a6 ?_)|fail)
 by_cases h1 : l.Kind < 1
 ·rw [decide_eq_true h1, decide_eq_true (Or.inl h1)]
  repeat' (first|refine ar ?_|refine a8 ?_|refine aa ?_|refine ae a6 rfl rfl ?_|refine aL rfl rfl rfl rfl ?_|(apply bA;refine bh ?_)|fail)
  exact aA rfl rfl rfl
 ·rw [decide_eq_false h1, show decide (l.Kind < 1 ∨ l.Kind > 4) = decide (4 < l.Kind) from decide_eq_decide.2 ⟨fun h => h.resolve_left h1, Or.inr⟩]
  repeat' (first|refine ar ?_|refine a8 ?_|refine aa ?_|refine ae a6 rfl rfl ?_|refine aG rfl rfl ?_|(apply bA;refine bh ?_)|fail)
  exact aA rfl rfl rfl
def jG (f : aJ) (kind : Int) (r : bV) : Int := if (r.Calls.length : Int) > 6 then 2 else if (r.Calls.length : Int) > 0 ∧ kind ≠ 4 then 40 else (da r.Calls (rZ f r)).1
set_option maxHeartbeats 1000000 in
theorem vY (f : aJ) (kind : Int) (r : bV) : bO Tryz.prog 239 [cr f, aM kind, .agg (bC r)] (aM (jG f kind r)) := by
 refine aP Tryz.func239 rfl Tryz.ntmps239 rfl fun B => ?_
 unfold jG
 have hL : (r.Calls.map dP).length = r.Calls.length := Gu ..
 rw [← hL]
 repeat' (first|refine ah ?_|refine a7 ?_|refine aq ?_|refine a8 ?_|refine aa ?_|refine ae a6 rfl rfl ?_|refine be ?_|fail)
 refine aw rfl (fun h => ?_) (fun h => ?_)
 ·rw [if_pos (Gz h)]
  repeat' (first|refine ah ?_|refine a7 ?_|refine ar ?_|refine a8 ?_|refine aF ?_|refine aT ?_|refine aa ?_|refine ae a6 rfl rfl ?_)
  exact aA rfl rfl rfl
 rw [if_neg (Gy h)]
 repeat' (first|refine ah ?_|refine a7 ?_|refine ae a6 rfl rfl ?_)
 refine dJ [3, 5] (((r.Calls.map dP).length : Int) > 0 ∧ kind ≠ 4) rfl (fun Q' K => ?_) (fun hC => ?_) (fun hC => ?_)
 ·repeat' (first|refine aa ?_|refine ae a6 rfl rfl ?_|refine aG rfl rfl ?_|refine aL rfl rfl rfl rfl ?_|refine bc rfl rfl rfl (fun _ => ?_) (fun _ => ?_))
  all_goals exact K _ _ rfl rfl (by clear K; grind)
 ·rw [if_pos hC]
  repeat' (first|refine ah ?_|refine a7 ?_|refine ar ?_|refine a8 ?_|refine aF ?_|refine aT ?_|refine aa ?_|refine ae a6 rfl rfl ?_)
  exact aA rfl rfl rfl
 rw [if_neg hC]
 repeat' (first|refine ah ?_|refine a7 ?_|refine au ?_|refine a8 ?_|refine aI ?_|refine ae a6 rfl rfl ?_)
 refine b7 [] [] (AS (u := .fn 260 [.iptr (bC r), .iptr (bZ f)]) (g := 260) rfl r.Calls _ (fun _ _ => True) [] trivial (dk (fun i x _ => xQ f r i x))) rfl rfl (Gm _) rfl fun c L1 hc => ?_
 have hc : c = cq (da r.Calls (rZ f r)) := hc
 subst hc
 unfold cq
 repeat' (first|refine ah ?_|refine a7 ?_|refine ar ?_|refine a8 ?_|refine aa ?_|refine ae a6 rfl rfl ?_)
 exact aA rfl rfl rfl
instance (f : aJ) (kind : Int) (r : bV) : AD Tryz.prog 239 [cr f, aM kind, .agg (bC r)] (aM (jG f kind r)) := ⟨vY f kind r⟩
def xa (f : aJ) (_ : Nat) (l : List Int) : Int := dX (!(l5 f l)) 41
def wP (f : aJ) (_ : Nat) (n : Int) : Int := dX (!(jS f n)) 32
def xE (kind : Int) (r : bV) : Int := dX (decide (r.X ≠ 0 ∧ kind ≠ 6)) 40
def nw (r : bV) : List (List Int) := r.Back ++ (r.In ++ r.Ahead)
theorem wW (kind : Int) (r : bV) : bO Tryz.prog 228 [.iptr [aM kind], .iptr (bC r)] (cq (kJ kind r, 0)) := by
 refine aP Tryz.func228 rfl Tryz.ntmps228 rfl fun B => ?_
 repeat' (first|refine ah ?_|refine a7 ?_|refine ar ?_|refine a8 ?_|refine aa ?_|refine ae a6 rfl rfl ?_|(apply bA;refine bh ?_)|fail)
 exact b6 rfl rfl rfl rfl
theorem uC (f : aJ) (i : Nat) (l : List Int) : bO Tryz.prog 232 [aM i, .imm 1 (aU l), .iptr (bZ f)] (aM (xa f i l)) := by
 refine aP Tryz.func232 rfl Tryz.ntmps232 rfl fun B => ?_
 repeat' (first|refine ah ?_|refine a7 ?_|refine ar ?_|refine a8 ?_|refine aa ?_|refine ae a6 rfl rfl ?_|(apply bA;refine bh ?_)|fail)
 exact aA rfl rfl rfl
theorem wX (f : aJ) (r : bV) (h : r.Back.length ≤ 6 ∧ r.In.length ≤ 6 ∧ r.Ahead.length ≤ 6) : bO Tryz.prog 230 [.iptr (bC r), .iptr (bZ f)] (cq (da (nw r) (xa f))) := by
 refine aP Tryz.func230 rfl Tryz.ntmps230 rfl fun B => ?_
 repeat' (first|refine ah ?_|refine a7 ?_|refine a8 ?_|refine aa ?_|refine ae a6 rfl rfl ?_|refine bz a6 ?_|fail)
 refine bh (hc := ⟨om [r.Back, r.In, r.Ahead] (by simp [fz]; omega)⟩) ?_
 rw [show ([r.Back, r.In, r.Ahead] : List (List (List Int))).flatten = nw r by simp [nw]]
 repeat' (first|refine ae a6 rfl rfl ?_)
 refine b7 [] [] (AQ (u := .fn 232 [.iptr (bZ f)]) (g := 232) rfl (nw r) _ (fun _ _ => True) [] trivial (dk (fun i x _ => uC f i x))) rfl rfl (Gm _) rfl fun c L1 hc => ?_
 have hc : c = cq (da (nw r) (xa f)) := hc
 subst hc
 unfold cq
 repeat' (first|refine ar ?_|refine a8 ?_|refine aa ?_|refine ae a6 rfl rfl ?_)
 exact b6 rfl rfl rfl rfl
theorem wY (kind : Int) (r : bV) (hin : r.In ≠ []) : bO Tryz.prog 234 [.iptr [aM kind], .iptr (bC r)] (cq (dX (!(nG kind r)) 40, 0)) := by
 refine aP Tryz.func234 rfl Tryz.ntmps234 rfl fun B => ?_
 repeat' (first|refine ah ?_|refine a7 ?_|refine a8 ?_|refine aa ?_|refine ae a6 rfl rfl ?_)
 refine bh (hc := ⟨Bc kind r hin⟩) ?_
 repeat' (first|refine ar ?_|refine a8 ?_|refine aa ?_|refine ae a6 rfl rfl ?_|(apply bA;refine bh ?_)|fail)
 exact b6 rfl rfl rfl rfl
theorem uD (f : aJ) (i : Nat) (n : Int) : bO Tryz.prog 237 [aM i, aM n, .iptr (bZ f)] (aM (wP f i n)) := by
 refine aP Tryz.func237 rfl Tryz.ntmps237 rfl fun B => ?_
 repeat' (first|refine ah ?_|refine a7 ?_|refine ar ?_|refine a8 ?_|refine aa ?_|refine ae a6 rfl rfl ?_|(apply bA;refine bh ?_)|fail)
 exact aA rfl rfl rfl
theorem wZ (f : aJ) (r : bV) : bO Tryz.prog 236 [.iptr (bC r), .iptr (bZ f)] (cq (da r.Out (wP f))) := by
 refine aP Tryz.func236 rfl Tryz.ntmps236 rfl fun B => ?_
 repeat' (first|refine ah ?_|refine a7 ?_|refine a8 ?_|refine aa ?_|refine ae a6 rfl rfl ?_)
 refine b7 [] [] (lE (u := .fn 237 [.iptr (bZ f)]) (g := 237) rfl r.Out _ (fun _ _ => True) [] trivial (dk (fun i x _ => uD f i x))) rfl rfl (Gm _) rfl fun c L1 hc => ?_
 have hc : c = cq (da r.Out (wP f)) := hc
 subst hc
 unfold cq
 repeat' (first|refine ar ?_|refine a8 ?_|refine aa ?_|refine ae a6 rfl rfl ?_)
 exact b6 rfl rfl rfl rfl
theorem x2 (f : aJ) (kind : Int) (r : bV) : bO Tryz.prog 238 [.iptr (bZ f), .iptr [aM kind], .iptr (bC r)] (cq (jG f kind r, 0)) := by
 refine aP Tryz.func238 rfl Tryz.ntmps238 rfl fun B => ?_
 repeat' (first|refine ah ?_|refine a7 ?_|refine ar ?_|refine a8 ?_|refine aa ?_|refine ae a6 rfl rfl ?_|(apply bA;refine bh ?_)|fail)
 exact b6 rfl rfl rfl rfl
theorem x3 (r : bV) : bO Tryz.prog 240 [.iptr (bC r)] (cq (dX (!([r.X].all fN)) 1, 0)) := by
 refine aP Tryz.func240 rfl Tryz.ntmps240 rfl fun B => ?_
 repeat' (first|refine ah ?_|refine a7 ?_|refine ar ?_|refine a8 ?_|refine aa ?_|refine ae a6 rfl rfl ?_|refine bz a6 ?_|(apply bA;refine bh ?_)|fail)
 exact b6 rfl rfl rfl rfl
theorem x4 (kind : Int) (r : bV) : bO Tryz.prog 241 [.iptr (bC r), .iptr [aM kind]] (cq (xE kind r, 0)) := by
 refine aP Tryz.func241 rfl Tryz.ntmps241 rfl fun B => ?_
 unfold xE
 by_cases h : r.X ≠ 0
 ·rw [show decide (r.X ≠ 0 ∧ kind ≠ 6) = decide (kind ≠ 6) from decide_eq_decide.2 ⟨fun q => q.2, fun q => ⟨h, q⟩⟩]
  repeat' (first|refine ah ?_|refine a7 ?_|refine a8 ?_|refine aa ?_|refine ae a6 rfl rfl ?_)
  rw [decide_eq_true h]
  repeat' (first|refine ar ?_|refine a8 ?_|refine aa ?_|refine ae a6 rfl rfl ?_|refine aG rfl rfl ?_|(apply bA;refine bh ?_)|fail)
  exact b6 rfl rfl rfl rfl
 ·rw [show decide (r.X ≠ 0 ∧ kind ≠ 6) = false from decide_eq_false (fun q => h q.1)]
  repeat' (first|refine ah ?_|refine a7 ?_|refine a8 ?_|refine aa ?_|refine ae a6 rfl rfl ?_)
  rw [decide_eq_false h]
  repeat' (first|refine ar ?_|refine a8 ?_|refine aa ?_|refine ae a6 rfl rfl ?_|refine aL rfl rfl rfl rfl ?_|(apply bA;refine bh ?_)|fail)
  exact b6 rfl rfl rfl rfl
def iS (f : aJ) (kind : Int) (r : bV) : Int := (g9 [(kJ kind r, 0), da (nw r) (xa f), (dX (!(nG kind r)) 40, 0), da r.Out (wP f), (jG f kind r, 0), (dX (!([r.X].all fN)) 1, 0), (xE kind r, 0)]).1
set_option maxHeartbeats 1000000 in
theorem zt (f : aJ) (kind : Int) (r : bV) : bO Tryz.prog 186 [cr f, aM kind, .agg (bC r)] (aM (iS f kind r)) := by
 refine aP Tryz.func186 rfl Tryz.ntmps186 rfl fun B => ?_
 repeat' (first|refine ah ?_|refine a7 ?_|refine a8 ?_|refine aa ?_|refine ae a6 rfl rfl ?_|refine be ?_|refine bz a6 ?_|fail)
 refine b7 [] [] (iH [⟨228, [.iptr [aM kind], .iptr (bC r)], [], kJ kind r, 0⟩, ⟨230, [.iptr (bC r), .iptr (bZ f)], [], (da (nw r) (xa f)).1, (da (nw r) (xa f)).2⟩, ⟨234, [.iptr [aM kind], .iptr (bC r)], [], dX (!(nG kind r)) 40, 0⟩, ⟨236, [.iptr (bC r), .iptr (bZ f)], [], (da r.Out (wP f)).1, (da r.Out (wP f)).2⟩, ⟨238, [.iptr (bZ f), .iptr [aM kind], .iptr (bC r)], [], jG f kind r, 0⟩, ⟨240, [.iptr (bC r)], [], dX (!([r.X].all fN)) 1, 0⟩, ⟨241, [.iptr (bC r), .iptr [aM kind]], [], xE kind r, 0⟩] ?_) rfl rfl (Gm _) rfl fun c L1 hc => ?_
 ·exact ⟨⟨inferInstance, wW kind r⟩, fun h1 => ⟨⟨inferInstance, wX f r (vq h1).2⟩, fun _ => ⟨⟨inferInstance, wY kind r (vq h1).1⟩, fun _ => ⟨⟨inferInstance, wZ f r⟩, fun _ => ⟨⟨inferInstance, x2 f kind r⟩, fun _ => ⟨⟨inferInstance, x3 r⟩, fun _ => ⟨⟨inferInstance, x4 kind r⟩, fun _ => trivial⟩⟩⟩⟩⟩⟩⟩
 rw [jl] at hc
 subst hc
 unfold cq
 repeat' (first|refine ah ?_|refine a7 ?_|refine ar ?_|refine a8 ?_|refine aa ?_|refine ae a6 rfl rfl ?_)
 exact aA rfl rfl rfl
instance (f : aJ) (kind : Int) (r : bV) : AD Tryz.prog 186 [cr f, aM kind, .agg (bC r)] (aM (iS f kind r)) := ⟨zt f kind r⟩
theorem nh (l : b9) : bO Tryz.prog 181 [.iptr (bn l)] (cq (dX (decide ((l.Rules.length : Int) > 60)) 2, 0)) := by
 refine aP Tryz.func181 rfl Tryz.ntmps181 rfl fun B => ?_
 rw [show (l.Rules.length : Int) = ((l.Rules.map bC).length : Int) by rw [Gu]]
 repeat' (first|refine ah ?_|refine a7 ?_|refine ar ?_|refine a8 ?_|refine aa ?_|refine ae a6 rfl rfl ?_|(apply bA;refine bh ?_)|fail)
 exact b6 rfl rfl rfl rfl
def o4 (l : b9) : Int := dX (decide (l.Kind = 7 ∨ l.Kind = 8) && decide ((l.Rules.length : Int) > 0)) 40
theorem ni (l : b9) (b : Bool) (hb : b = decide (l.Kind = 7 ∨ l.Kind = 8)) : bO Tryz.prog 182 [.iptr [cF b], .iptr (bn l)] (cq (o4 l, 0)) := by
 refine aP Tryz.func182 rfl Tryz.ntmps182 rfl fun B => ?_
 unfold o4
 rw [← hb, show (l.Rules.length : Int) = ((l.Rules.map bC).length : Int) by rw [Gu]]
 cases b
 ·repeat' (first|refine ah ?_|refine a7 ?_|refine ar ?_|refine a8 ?_|refine aa ?_|refine ae a6 rfl rfl ?_|refine aL rfl rfl rfl rfl ?_|(apply bA;refine bh ?_)|fail)
  exact b6 rfl rfl rfl rfl
 ·repeat' (first|refine ah ?_|refine a7 ?_|refine ar ?_|refine a8 ?_|refine aa ?_|refine ae a6 rfl rfl ?_|refine aG rfl rfl ?_|(apply bA;refine bh ?_)|fail)
  exact b6 rfl rfl rfl rfl
theorem r9 (f : aJ) (l : b9) (i : Nat) (r : bV) : bO Tryz.prog 185 [aM i, .agg (bC r), .iptr (bZ f), .iptr (bn l)] (aM (iS f l.Kind r)) := by
 refine aP Tryz.func185 rfl Tryz.ntmps185 rfl fun B => ?_
 repeat' (first|refine ah ?_|refine a7 ?_|refine ar ?_|refine a8 ?_|refine aa ?_|refine ae a6 rfl rfl ?_|refine be ?_|(apply bA;refine bh ?_)|fail)
 exact aA rfl rfl rfl
theorem nj (f : aJ) (l : b9) : bO Tryz.prog 183 [.iptr (bn l), .iptr (bZ f)] (cq (da l.Rules fun _ r => iS f l.Kind r)) := by
 refine aP Tryz.func183 rfl Tryz.ntmps183 rfl fun B => ?_
 repeat' (first|refine ah ?_|refine a7 ?_|refine a8 ?_|refine aa ?_|refine ae a6 rfl rfl ?_)
 refine b7 [] [] (AE (u := .fn 185 [.iptr (bZ f), .iptr (bn l)]) (g := 185) rfl l.Rules _ (fun _ _ => True) [] trivial (dk (w := fun _ r => iS f l.Kind r) (fun i x _ => r9 f l i x))) rfl rfl (Gm _) rfl fun c L1 hc => ?_
 have hc : c = cq (da l.Rules fun _ r => iS f l.Kind r) := hc
 subst hc
 unfold cq
 repeat' (first|refine ar ?_|refine a8 ?_|refine aa ?_|refine ae a6 rfl rfl ?_)
 exact b6 rfl rfl rfl rfl
def ku (f : aJ) (l : b9) : Int := if l.Kind < 1 ∨ l.Kind > 8 then 42 else (g9 [(dX (decide ((l.Rules.length : Int) > 60)) 2, 0), (o4 l, 0), da l.Rules fun _ r => iS f l.Kind r]).1
set_option maxHeartbeats 1000000 in
theorem uj (f : aJ) (l : b9) : bO Tryz.prog 128 [cr f, .agg (bn l)] (aM (ku f l)) := by
 refine aP Tryz.func128 rfl Tryz.ntmps128 rfl fun B => ?_
 unfold ku
 repeat' (first|refine ah ?_|refine a7 ?_|refine a8 ?_|refine aa ?_|refine ae a6 rfl rfl ?_|refine be ?_|fail)
 refine dJ [2, 3] (l.Kind < 1 ∨ l.Kind > 8) rfl (fun Q' K => ?_) (fun hC => ?_) (fun hC => ?_)
 ·repeat' (first|refine aa ?_|refine ae a6 rfl rfl ?_|refine aG rfl rfl ?_|refine aL rfl rfl rfl rfl ?_|refine bc rfl rfl rfl (fun _ => ?_) (fun _ => ?_))
  all_goals exact K _ _ rfl rfl (by clear K; grind)
 ·rw [if_pos hC]
  repeat' (first|refine ah ?_|refine a7 ?_|refine ar ?_|refine a8 ?_|refine aF ?_|refine aa ?_|refine ae a6 rfl rfl ?_)
  exact aA rfl rfl rfl
 rw [if_neg hC]
 repeat' (first|refine ah ?_|refine a7 ?_|refine au ?_|refine a8 ?_|refine ae a6 rfl rfl ?_)
 by_cases h7 : l.Kind = 7
 ·rw [decide_eq_true h7]
  repeat' (first|refine ah ?_|refine a7 ?_|refine a8 ?_|refine aa ?_|refine ae a6 rfl rfl ?_|refine aL rfl rfl rfl rfl ?_|(apply aH; first|refine ai 5 a6 0 rfl rfl rfl rfl rfl rfl rfl rfl ?_|refine ai 5 a6 1 rfl rfl rfl rfl rfl rfl rfl rfl ?_|refine ai 5 a6 2 rfl rfl rfl rfl rfl rfl rfl rfl ?_|refine aj a6 0 rfl rfl rfl rfl rfl rfl rfl ?_|refine aj a6 1 rfl rfl rfl rfl rfl rfl rfl ?_|refine aj a6 2 rfl rfl rfl rfl rfl rfl rfl ?_|refine aj a6 3 rfl rfl rfl rfl rfl rfl rfl ?_|fail)|refine b5 a6 fun _=>?_|refine bz a6 ?_|fail)
  refine b7 [] [] (iH [⟨181, [.iptr (bn l)], [], dX (decide ((l.Rules.length : Int) > 60)) 2, 0⟩, ⟨182, [.iptr [cF true], .iptr (bn l)], [], o4 l, 0⟩, ⟨183, [.iptr (bn l), .iptr (bZ f)], [], (da l.Rules fun _ r => iS f l.Kind r).1, (da l.Rules fun _ r => iS f l.Kind r).2⟩] ⟨⟨inferInstance, nh l⟩, fun _ => ⟨⟨inferInstance, ni l true (decide_eq_true (Or.inl h7)).symm⟩, fun _ => ⟨⟨inferInstance, nj f l⟩, fun _ => trivial⟩⟩⟩) rfl rfl (Gm _) rfl fun c L1 hc => ?_
  rw [jl] at hc
  subst hc
  unfold cq
  repeat' (first|refine ah ?_|refine a7 ?_|refine ar ?_|refine a8 ?_|refine aa ?_|refine ae a6 rfl rfl ?_)
  exact aA rfl rfl rfl
 ·rw [decide_eq_false h7]
  repeat' (first|refine ah ?_|refine a7 ?_|refine a8 ?_|refine aa ?_|refine ae a6 rfl rfl ?_|refine aG rfl rfl ?_|(apply aH; first|refine ai 5 a6 0 rfl rfl rfl rfl rfl rfl rfl rfl ?_|refine ai 5 a6 1 rfl rfl rfl rfl rfl rfl rfl rfl ?_|refine ai 5 a6 2 rfl rfl rfl rfl rfl rfl rfl rfl ?_|refine aj a6 0 rfl rfl rfl rfl rfl rfl rfl ?_|refine aj a6 1 rfl rfl rfl rfl rfl rfl rfl ?_|refine aj a6 2 rfl rfl rfl rfl rfl rfl rfl ?_|refine aj a6 3 rfl rfl rfl rfl rfl rfl rfl ?_|fail)|refine b5 a6 fun _=>?_|refine bz a6 ?_|fail)
  refine b7 [] [] (iH [⟨181, [.iptr (bn l)], [], dX (decide ((l.Rules.length : Int) > 60)) 2, 0⟩, ⟨182, [.iptr [cF (decide (l.Kind = 8))], .iptr (bn l)], [], o4 l, 0⟩, ⟨183, [.iptr (bn l), .iptr (bZ f)], [], (da l.Rules fun _ r => iS f l.Kind r).1, (da l.Rules fun _ r => iS f l.Kind r).2⟩] ⟨⟨inferInstance, nh l⟩, fun _ => ⟨⟨inferInstance, ni l (decide (l.Kind = 8)) (decide_eq_decide.2 ⟨Or.inr, fun h => h.resolve_left h7⟩)⟩, fun _ => ⟨⟨inferInstance, nj f l⟩, fun _ => trivial⟩⟩⟩) rfl rfl (Gm _) rfl fun c L1 hc => ?_
  rw [jl] at hc
  subst hc
  unfold cq
  repeat' (first|refine ah ?_|refine a7 ?_|refine ar ?_|refine a8 ?_|refine aa ?_|refine ae a6 rfl rfl ?_)
  exact aA rfl rfl rfl
instance (f : aJ) (l : b9) : AD Tryz.prog 128 [cr f, .agg (bn l)] (aM (ku f l)) := ⟨uj f l⟩
theorem ra (f : aJ) (i : Nat) (l : b9) : bO Tryz.prog 127 [aM i, .agg (bn l), .iptr (bZ f)] (aM (ku f l)) := by
 refine aP Tryz.func127 rfl Tryz.ntmps127 rfl fun B => ?_
 repeat' (first|refine ah ?_|refine a7 ?_|refine ar ?_|refine a8 ?_|refine aa ?_|refine ae a6 rfl rfl ?_|refine be ?_|(apply bA;refine bh ?_)|fail)
 exact aA rfl rfl rfl
end Go.Proofs.YtjjpkibjffmceaaGreat
