/-
  The program: rules, lookups, as check looks at them.
-/
import Derived.Test.YtpbinloeemebkaaGreatM11
namespace Go.Proofs.YtpbinloeemebkaaGreat
open Go.RowKit
attribute [local irreducible] AT bN AX AO Av Kt bi dE DA d6
def gG (l : List Int) : Bool := decide (∀ i, i < l.length - 1 → l.getD i 0 < l.getD (i + 1) 0)
theorem eD {l : List Int} {i : Nat} {z : Int} (h : l[i]? = some z) : l.getD i 0 = z := by simp [h]
theorem sw (l : List Int) : bo Tryz.prog 275 [.imm 1 (aV l)] (c8 (gG l)) := by
 refine aU Tryz.func275 rfl Tryz.ntmps275 rfl fun B => ?_
 refine cg 0 rfl rfl fun hlen => ?_
 have hll := aM l
 rw [aM] at hlen
 (repeat' (first|refine ah ?_|refine a6 ?_|refine am ?_|refine a8 ?_|refine aa ?_|refine ae a7 rfl rfl ?_|fail))
 refine aL [0] (α := Nat) (fun i => [(3, aQ (i + 1 : Nat))]) (fun i => i ≤ l.length ∧ ∀ j, j < i → j + 1 < l.length → l.getD j 0 < l.getD (j + 1) 0) (fun _ => []) (fun i => l.length - i) 0 rfl ⟨rfl, trivial⟩ ⟨Nat.zero_le _, fun j hj => absurd hj (Nat.not_lt_zero _)⟩ (fun _ _ h => h) fun i ⟨hi, hall⟩ => ?_
 try dsimp only [List.cons_append, List.nil_append, List.map_cons, List.map_nil]
 (repeat' (first|refine ah ?_|refine a6 ?_|refine a8 ?_|refine aa ?_|refine ae a7 rfl rfl ?_|fail))
 refine av rfl (fun h => ?_) (fun h => ?_)
 ·have hil : i + 1 < l.length := by have := of_decide_eq_true h; rw [aM] at this; omega
  obtain ⟨y, hy⟩ : ∃ z, l[i]? = some z := ⟨_, List.getElem?_eq_getElem (by omega)⟩
  obtain ⟨z, hz⟩ : ∃ z, l[i + 1]? = some z := ⟨_, List.getElem?_eq_getElem hil⟩
  have hyg : (aV l)[(((i + 1 : Nat) : Int) - 1).toNat]? = some [aQ y] := by rw [show (((i + 1 : Nat) : Int) - 1).toNat = i by omega]; exact bk hy
  have hzg := bk hz
  (repeat' (first|refine ah ?_|refine am ?_|refine ak ?_|refine a8 ?_|fail))
  refine bj 9 [(0, .v), (1, .v), (2, .v), (3, .v), (4, .v), (5, .v), (6, .v), (7, .v), (8, .v)] none ?_ trivial rfl (by kernel_rfl) (by kernel_rfl) (by kernel_rfl) mixed (by kernel_rfl) rfl
  (repeat' (first|refine aN ?_|refine bf a7 ?_|(apply ey;refine fH ?_)|(apply bs;refine bH a7 ?_)|fail))
  refine bl [0, 3, 13, 18] rfl rfl ?_
  (repeat' (first|refine a8 ?_|refine aa ?_|refine ae a7 rfl rfl ?_|fail))
  refine av rfl (fun h2 => ?_) (fun h2 => ?_)
  ·have h2' := of_decide_eq_true h2
   (repeat' (first|refine ah ?_|refine a6 ?_|refine au ?_|refine a8 ?_|refine ar ?_|refine aG ?_|refine aK ?_|refine aa ?_|refine ae a7 rfl rfl ?_|fail))
   refine aB rfl rfl ?_
   rw [show gG l = false from decide_eq_false (fun hh => by have := hh i (by omega); rw [eD hy, eD hz] at this; omega)]
  ·have h2' := of_decide_eq_false h2
   (repeat' (first|refine a6 ?_|refine ak ?_|refine a8 ?_|refine aJ ?_|refine aa ?_|refine ae a7 rfl rfl ?_|(apply aX; refine aW ?_)|fail))
   refine aE (i + 1) rfl ⟨by rw [Int.natCast_add (i + 1) 1]; rfl, trivial⟩ ⟨by omega, fun j hj hjl => ?_⟩ (by omega) (fun _ _ h => h)
   by_cases e : j = i
   ·subst e; rw [eD hy, eD hz]; omega
   ·exact hall j (by omega) hjl
 ·have hil : l.length ≤ i + 1 := by have := of_decide_eq_false h; rw [aM] at this; omega
  (repeat' (first|refine ah ?_|refine a6 ?_|refine au ?_|refine aR ?_|refine a8 ?_|refine az ?_|refine aC ?_|refine aA ?_|refine aa ?_|refine ae a7 rfl rfl ?_|fail))
  refine aB rfl rfl ?_
  rw [show gG l = true from decide_eq_true (fun j hj => hall j (by omega) (by omega))]
instance (l : List Int) : AD Tryz.prog 275 [.imm 1 (aV l)] (c8 (gG l)) := ⟨sw l⟩
def ez (f : aH) (l : List Int) : Bool := decide (0 < l.length) && (gG l && (eG f (l.getD 0 0) && eG f (l.getD (l.length - 1) 0)))
set_option maxHeartbeats 1000000 in
theorem ut (f : aH) (l : List Int) : bo Tryz.prog 241 [bw f, .imm 1 (aV l)] (c8 (ez f l)) := by
 refine aU Tryz.func241 rfl Tryz.ntmps241 rfl fun B => ?_
 refine cg 1 rfl rfl fun hlen => ?_
 cases l with
 | nil =>
  (repeat' (first|refine ah ?_|refine a6 ?_|refine a8 ?_|refine aa ?_|refine ae a7 rfl rfl ?_|refine b6 ?_|fail))
  refine bj 24 [(0, .v), (1, .v), (2, .v), (3, .v), (4, .v), (5, .v), (6, .v), (7, .v), (8, .v), (9, .v), (10, .v), (11, .v), (12, .v), (13, .v), (14, .v), (15, .v), (16, .v), (17, .v), (18, .v), (19, .v), (20, .v), (21, .v), (22, .v), (23, .v)] none ?_ trivial rfl (by kernel_rfl) (by kernel_rfl) (by kernel_rfl) mixed (by kernel_rfl) rfl
  (repeat' (first|refine aN ?_|refine bf a7 ?_|refine f3 rfl rfl ?_|fail))
  refine bl [28] rfl rfl ?_
  (repeat' (first|refine au ?_|refine a8 ?_|refine aa ?_|refine ae a7 rfl rfl ?_|fail))
  exact aB rfl rfl rfl
 | cons y q =>
  have hll : (aV (y :: q)).length = q.length + 1 := by rw [aM]; rfl
  rw [hll] at hlen
  obtain ⟨z, hz⟩ : ∃ z, (y :: q)[q.length]? = some z := ⟨_, List.getElem?_eq_getElem (by simp)⟩
  have hzg : (aV (y :: q))[((((aV (y :: q)).length : Nat) : Int) - 1).toNat]? = some [aQ z] := by rw [show ((((aV (y :: q)).length : Nat) : Int) - 1).toNat = q.length by rw [hll]; omega]; exact bk hz
  have hyg : (aV (y :: q))[(0 : Int).toNat]? = some [aQ y] := rfl
  have hval : ez f (y :: q) = (gG (y :: q) && (eG f y && eG f z)) := by
   unfold ez
   rw [show (y :: q).length - 1 = q.length by simp, eD hz]
   simp
  rw [hval]
  have hpos : decide (0 < (((aV (y :: q)).length : Nat) : Int)) = true := decide_eq_true (by rw [hll]; omega)
  (repeat' (first|refine ah ?_|refine a6 ?_|refine a8 ?_|refine aa ?_|refine ae a7 rfl rfl ?_|refine b6 ?_|fail))
  refine bj 24 [(0, .v), (1, .v), (2, .v), (3, .v), (4, .v), (5, .v), (6, .v), (7, .v), (8, .v), (9, .v), (10, .v), (11, .v), (12, .v), (13, .v), (14, .v), (15, .v), (16, .v), (17, .v), (18, .v), (19, .v), (20, .v), (21, .v), (22, .v), (23, .v)] none ?_ trivial rfl (by kernel_rfl) (by kernel_rfl) (by kernel_rfl) mixed (by kernel_rfl) rfl
  (repeat' (first|refine aN ?_|refine bf a7 ?_|fail))
  rw [hpos]
  (repeat' (first|refine aN ?_|refine bf a7 ?_|(apply cZ;refine dl ?_)|fail))
  generalize gG (y :: q) = b1
  cases b1
  ·(repeat' (first|refine aN ?_|refine bf a7 ?_|refine f3 rfl rfl ?_|fail))
   refine bl [28] rfl rfl ?_
   (repeat' (first|refine au ?_|refine a8 ?_|refine aa ?_|refine ae a7 rfl rfl ?_|fail))
   exact aB rfl rfl rfl
  (repeat' (first|refine aN ?_|refine bf a7 ?_|(apply bs;refine bH a7 ?_)|(apply cZ;refine dl ?_)|fail))
  generalize eG f y = b2
  cases b2
  ·(repeat' (first|refine aN ?_|refine bf a7 ?_|refine f3 rfl rfl ?_|fail))
   refine bl [28] rfl rfl ?_
   (repeat' (first|refine au ?_|refine a8 ?_|refine aa ?_|refine ae a7 rfl rfl ?_|fail))
   exact aB rfl rfl rfl
  (repeat' (first|refine aN ?_|refine bf a7 ?_|(apply ey;refine fH ?_)|(apply bs;refine bH a7 ?_)|(apply cZ;refine dl ?_)|fail))
  refine bl [28] rfl rfl ?_
  (repeat' (first|refine au ?_|refine a8 ?_|refine aa ?_|refine ae a7 rfl rfl ?_|fail))
  exact aB rfl rfl rfl
instance (f : aH) (l : List Int) : AD Tryz.prog 241 [bw f, .imm 1 (aV l)] (c8 (ez f l)) := ⟨ut f l⟩
def fY (kind : Int) (r : bJ) : Bool := if kind = 1 ∨ kind = 2 ∨ kind = 5 then decide ((r.In.length : Int) ≠ 1) else if kind = 6 then decide ((r.In.length : Int) ≠ 2 ∨ (r.Back.length : Int) > 0 ∨ (r.Ahead.length : Int) > 0) else decide ((r.In.length : Int) = 0)
def iN (kind : Int) (r : bJ) : Int := if (r.Back.length : Int) > 6 ∨ (r.In.length : Int) > 6 ∨ (r.Ahead.length : Int) > 6 then 2 else cS (fY kind r) 40
set_option maxHeartbeats 1000000 in
theorem x1 (kind : Int) (r : bJ) : bo Tryz.prog 237 [aQ kind, .agg (ca r)] (aQ (iN kind r)) := by
 refine aU Tryz.func237 rfl Tryz.ntmps237 rfl fun B => ?_
 unfold iN fY
 have hB := cq r.Back
 have hI := cq r.In
 have hA := cq r.Ahead
 rw [← hB, ← hI, ← hA]
 (repeat' (first|refine ah ?_|refine a6 ?_|refine a8 ?_|refine aa ?_|refine ae a7 rfl rfl ?_|refine b6 ?_|fail))
 refine ci [0, 3] (((c7 r.Back).length : Int) > 6 ∨ ((c7 r.In).length : Int) > 6 ∨ ((c7 r.Ahead).length : Int) > 6) rfl (fun Q' K => ?_) (fun hC => ?_) (fun hC => ?_)
 ·(repeat' (first|refine aa ?_|refine ae a7 rfl rfl ?_|refine aw rfl rfl ?_|refine aD rfl rfl rfl rfl ?_|refine aS rfl rfl rfl (fun _ => ?_) (fun _ => ?_)|fail))
  all_goals exact K _ _ rfl rfl (by clear K; grind)
 ·rw [if_pos hC]
  (repeat' (first|refine ah ?_|refine a6 ?_|refine au ?_|refine a8 ?_|refine ar ?_|refine aa ?_|refine ae a7 rfl rfl ?_|fail))
  exact aB rfl rfl rfl
 rw [if_neg hC]
 by_cases h1 : kind = 1
 ·subst h1
  (repeat' (first|refine ah ?_|refine a6 ?_|refine am ?_|refine ak ?_|refine au ?_|refine a8 ?_|refine aJ ?_|refine aa ?_|refine ae a7 rfl rfl ?_|(apply ba;refine aY ?_)|refine bI rfl ?_|fail))
  exact aB rfl rfl rfl
 by_cases h2 : kind = 2
 ·subst h2
  (repeat' (first|refine ah ?_|refine a6 ?_|refine am ?_|refine ak ?_|refine au ?_|refine a8 ?_|refine aJ ?_|refine aa ?_|refine ae a7 rfl rfl ?_|(apply ba;refine aY ?_)|refine bI rfl ?_|refine bV rfl ?_|fail))
  exact aB rfl rfl rfl
 by_cases h5 : kind = 5
 ·subst h5
  (repeat' (first|refine ah ?_|refine a6 ?_|refine am ?_|refine ak ?_|refine au ?_|refine a8 ?_|refine aJ ?_|refine aa ?_|refine ae a7 rfl rfl ?_|(apply ba;refine aY ?_)|refine bI rfl ?_|refine bV rfl ?_|fail))
  exact aB rfl rfl rfl
 rw [if_neg (by omega)]
 by_cases h6 : kind = 6
 ·subst h6
  rw [if_pos rfl]
  (repeat' (first|refine ah ?_|refine a6 ?_|refine am ?_|refine ak ?_|refine a8 ?_|refine aa ?_|refine ae a7 rfl rfl ?_|refine bI rfl ?_|refine bV rfl ?_|fail))
  refine bv (t := 5) [] (((c7 r.In).length : Int) ≠ 2 ∨ ((c7 r.Back).length : Int) > 0 ∨ ((c7 r.Ahead).length : Int) > 0) rfl (fun Q' K => ?_) ?_
  ·(repeat' (first|refine aa ?_|refine ae a7 rfl rfl ?_|refine aw rfl rfl ?_|refine aD rfl rfl rfl rfl ?_|refine aS rfl rfl rfl (fun _ => ?_) (fun _ => ?_)|fail))
   all_goals exact K _ _ rfl rfl (by clear K; grind)
  (repeat' (first|refine ah ?_|refine a6 ?_|refine au ?_|refine a8 ?_|refine aJ ?_|refine aa ?_|refine ae a7 rfl rfl ?_|(apply ba;refine aY ?_)|fail))
  exact aB rfl rfl rfl
 rw [if_neg h6]
 (repeat' (first|refine ah ?_|refine a6 ?_|refine am ?_|refine ak ?_|refine a8 ?_|refine aa ?_|refine ae a7 rfl rfl ?_|fail))
 refine av rfl (fun h => absurd (of_decide_eq_true h) h1) (fun h => ?_)
 (repeat' (first|refine ah ?_|refine a6 ?_|refine a8 ?_|refine aa ?_|refine ae a7 rfl rfl ?_|fail))
 refine av rfl (fun h => absurd (of_decide_eq_true h) h2) (fun h => ?_)
 (repeat' (first|refine a6 ?_|refine a8 ?_|refine aa ?_|refine ae a7 rfl rfl ?_|fail))
 refine av rfl (fun h => absurd (of_decide_eq_true h) h5) (fun h => ?_)
 rw [decide_eq_false h5]
 (repeat' (first|refine ah ?_|refine a6 ?_|refine a8 ?_|refine aa ?_|refine ae a7 rfl rfl ?_|fail))
 refine av rfl (fun h => absurd (of_decide_eq_true h) h6) (fun h => ?_)
 (repeat' (first|refine ah ?_|refine a6 ?_|refine ak ?_|refine au ?_|refine a8 ?_|refine aJ ?_|refine aa ?_|refine ae a7 rfl rfl ?_|(apply ba;refine aY ?_)|fail))
 exact aB rfl rfl rfl
instance (kind : Int) (r : bJ) : AD Tryz.prog 237 [aQ kind, .agg (ca r)] (aQ (iN kind r)) := ⟨x1 kind r⟩
theorem tz {kind : Int} {r : bJ} (h : iN kind r = 0) : r.In ≠ [] ∧ r.Back.length ≤ 6 ∧ r.In.length ≤ 6 ∧ r.Ahead.length ≤ 6 := by
 unfold iN at h
 split at h
 ·cases h
 ·rename_i hc
  refine ⟨fun e => ?_, by omega, by omega, by omega⟩
  have hw : fY kind r = true := by
   unfold fY
   rw [e]
   split
   ·decide
   ·split <;> simp
  rw [hw] at h
  cases h
def hY (kind : Int) (r : bJ) : Bool := if kind = 1 ∨ kind = 5 then decide ((r.Out.length : Int) = ((r.In.headD []).length : Int)) else if kind = 2 then decide ((r.Out.length : Int) ≤ 6) else if kind = 3 then decide ((r.Out.length : Int) = 1) else decide ((r.Out.length : Int) = 0)
set_option maxHeartbeats 1000000 in
theorem yn (kind : Int) (r : bJ) (hin : r.In ≠ []) : bo Tryz.prog 243 [aQ kind, .agg (ca r)] (c8 (hY kind r)) := by
 refine aU Tryz.func243 rfl Tryz.ntmps243 rfl fun B => ?_
 obtain ⟨y, hy⟩ : ∃ y, r.In[0]? = some y := ⟨_, List.getElem?_eq_getElem (List.length_pos_iff.2 hin)⟩
 have hyg := fq hy
 have hv : hY kind r = if kind = 1 ∨ kind = 5 then decide (((aV r.Out).length : Int) = ((aV y).length : Int)) else if kind = 2 then decide (((aV r.Out).length : Int) ≤ 6) else if kind = 3 then decide (((aV r.Out).length : Int) = 1) else decide (((aV r.Out).length : Int) = 0) := by
  have hd : r.In.headD [] = y := by
   cases hI : r.In with
   | nil => exact absurd hI hin
   | cons y' q => rw [hI] at hy; simpa using hy
  unfold hY
  rw [hd, aM, aM]
 rw [hv]
 by_cases h1 : kind = 1
 ·subst h1
  (repeat' (first|refine ah ?_|refine a6 ?_|refine am ?_|refine ak ?_|refine a8 ?_|refine aa ?_|refine ae a7 rfl rfl ?_|refine b6 ?_|refine bI rfl ?_|fail))
  refine bj 8 [(0, .v), (1, .v), (2, .v), (3, .v), (4, .v), (5, .v), (6, .v), (7, .v)] none ?_ trivial rfl (by kernel_rfl) (by kernel_rfl) (by kernel_rfl) mixed (by kernel_rfl) rfl
  (repeat' (first|refine aN ?_|refine bf a7 ?_|(apply bs;refine bH a7 ?_)|fail))
  refine bl [11, 16] rfl rfl ?_
  (repeat' (first|refine au ?_|refine a8 ?_|refine ar ?_|refine aG ?_|refine aa ?_|refine ae a7 rfl rfl ?_|fail))
  exact aB rfl rfl rfl
 by_cases h5 : kind = 5
 ·subst h5
  (repeat' (first|refine ah ?_|refine a6 ?_|refine am ?_|refine a8 ?_|refine aa ?_|refine ae a7 rfl rfl ?_|refine b6 ?_|refine bI rfl ?_|refine bV rfl ?_|fail))
  refine bj 8 [(0, .v), (1, .v), (2, .v), (3, .v), (4, .v), (5, .v), (6, .v), (7, .v)] none ?_ trivial rfl (by kernel_rfl) (by kernel_rfl) (by kernel_rfl) mixed (by kernel_rfl) rfl
  (repeat' (first|refine aN ?_|refine bf a7 ?_|(apply bs;refine bH a7 ?_)|fail))
  refine bl [11, 16] rfl rfl ?_
  (repeat' (first|refine au ?_|refine a8 ?_|refine ar ?_|refine aG ?_|refine aa ?_|refine ae a7 rfl rfl ?_|fail))
  exact aB rfl rfl rfl
 rw [if_neg (by omega)]
 by_cases h2 : kind = 2
 ·subst h2
  (repeat' (first|refine ah ?_|refine a6 ?_|refine am ?_|refine au ?_|refine a8 ?_|refine ar ?_|refine aG ?_|refine aa ?_|refine ae a7 rfl rfl ?_|refine b6 ?_|refine bI rfl ?_|refine bV rfl ?_|fail))
  exact aB rfl rfl rfl
 rw [if_neg h2]
 by_cases h3 : kind = 3
 ·subst h3
  (repeat' (first|refine ah ?_|refine a6 ?_|refine am ?_|refine au ?_|refine a8 ?_|refine ar ?_|refine aG ?_|refine aa ?_|refine ae a7 rfl rfl ?_|refine b6 ?_|refine bI rfl ?_|refine bV rfl ?_|fail))
  exact aB rfl rfl rfl
 rw [if_neg h3]
 (repeat' (first|refine ah ?_|refine a6 ?_|refine am ?_|refine a8 ?_|refine aa ?_|refine ae a7 rfl rfl ?_|refine b6 ?_|fail))
 refine av rfl (fun h => absurd (of_decide_eq_true h) h1) (fun h => ?_)
 (repeat' (first|refine a6 ?_|refine a8 ?_|refine aa ?_|refine ae a7 rfl rfl ?_|fail))
 refine av rfl (fun h => absurd (of_decide_eq_true h) h5) (fun h => ?_)
 rw [decide_eq_false h5]
 (repeat' (first|refine ah ?_|refine a6 ?_|refine a8 ?_|refine aa ?_|refine ae a7 rfl rfl ?_|fail))
 refine av rfl (fun h => absurd (of_decide_eq_true h) h2) (fun h => ?_)
 (repeat' (first|refine ah ?_|refine a6 ?_|refine a8 ?_|refine aa ?_|refine ae a7 rfl rfl ?_|fail))
 refine av rfl (fun h => absurd (of_decide_eq_true h) h3) (fun h => ?_)
 (repeat' (first|refine ah ?_|refine a6 ?_|refine ak ?_|refine au ?_|refine a8 ?_|refine aJ ?_|refine aa ?_|refine ae a7 rfl rfl ?_|fail))
 exact aB rfl rfl rfl
def j9 (f : aH) (n : Int) : Int := match f.Lookups[n.toNat]? with | some l => l.Kind | none => 0
def m4 (f : aH) (r : bJ) (_ : Nat) (c : iQ) : Int := if c.At < 0 ∨ c.At ≥ r.In.length then 40 else if c.Lookup < 0 ∨ c.Lookup ≥ f.Lookups.length then 42 else cS (decide (j9 f c.Lookup < 1 ∨ j9 f c.Lookup > 4)) 42
set_option maxHeartbeats 1000000 in
theorem vP (f : aH) (r : bJ) (i : Nat) (c : iQ) : bo Tryz.prog 277 [aQ i, .agg (g8 c), .iptr (ca r), .iptr (bO f)] (aQ (m4 f r i c)) := by
 refine aU Tryz.func277 rfl Tryz.ntmps277 rfl fun B => ?_
 unfold m4
 have hI := cq r.In
 have hL : (f.Lookups.map bq).length = f.Lookups.length := List.length_map ..
 rw [← hI]
 (repeat' (first|refine ah ?_|refine a6 ?_|refine am ?_|refine a8 ?_|refine aa ?_|refine ae a7 rfl rfl ?_|refine b6 ?_|fail))
 refine ci [3, 5] (c.At < 0 ∨ c.At ≥ ((c7 r.In).length : Int)) rfl (fun Q' K => ?_) (fun hC => ?_) (fun hC => ?_)
 ·(repeat' (first|refine aa ?_|refine ae a7 rfl rfl ?_|refine aw rfl rfl ?_|refine aD rfl rfl rfl rfl ?_|refine aS rfl rfl rfl (fun _ => ?_) (fun _ => ?_)|fail))
  all_goals exact K _ _ rfl rfl (by clear K; grind)
 ·rw [if_pos hC]
  (repeat' (first|refine ah ?_|refine a6 ?_|refine au ?_|refine a8 ?_|refine ar ?_|refine aG ?_|refine aa ?_|refine ae a7 rfl rfl ?_|fail))
  exact aB rfl rfl rfl
 rw [if_neg hC]
 (repeat' (first|refine ah ?_|refine a6 ?_|refine ae a7 rfl rfl ?_|fail))
 refine ci [3, 5] (c.Lookup < 0 ∨ c.Lookup ≥ f.Lookups.length) rfl (fun Q' K => ?_) (fun hC => ?_) (fun hC => ?_)
 ·(repeat' (first|refine aa ?_|refine ae a7 rfl rfl ?_|refine aw rfl rfl ?_|refine aD rfl rfl rfl rfl ?_|refine aS rfl rfl rfl (fun _ => ?_) (fun _ => ?_)|fail))
  all_goals exact K _ _ rfl rfl (by clear K; grind)
 ·rw [if_pos hC]
  (repeat' (first|refine ah ?_|refine a6 ?_|refine au ?_|refine a8 ?_|refine ar ?_|refine aG ?_|refine aa ?_|refine ae a7 rfl rfl ?_|fail))
  exact aB rfl rfl rfl
 rw [if_neg hC]
 obtain ⟨l, hl⟩ : ∃ l, f.Lookups[c.Lookup.toNat]? = some l := ⟨_, List.getElem?_eq_getElem (by omega)⟩
 have hlg := b5 (c := bq) hl
 have hk : j9 f c.Lookup = l.Kind := by unfold j9; rw [hl]
 rw [hk]
 (repeat' (first|refine ah ?_|refine a6 ?_|refine ak ?_|refine a8 ?_|refine aJ ?_|refine aa ?_|refine ae a7 rfl rfl ?_|(apply aP; first|refine aO a7 ?_|refine aI a7 ?_)|fail))
 by_cases h1 : l.Kind < 1
 ·rw [decide_eq_true h1, decide_eq_true (Or.inl h1)]
  (repeat' (first|refine au ?_|refine a8 ?_|refine aa ?_|refine ae a7 rfl rfl ?_|refine aD rfl rfl rfl rfl ?_|(apply ba;refine aY ?_)|fail))
  exact aB rfl rfl rfl
 ·rw [decide_eq_false h1, show decide (l.Kind < 1 ∨ l.Kind > 4) = decide (4 < l.Kind) from decide_eq_decide.2 ⟨fun h => h.resolve_left h1, Or.inr⟩]
  (repeat' (first|refine au ?_|refine a8 ?_|refine aa ?_|refine ae a7 rfl rfl ?_|refine aw rfl rfl ?_|(apply ba;refine aY ?_)|fail))
  exact aB rfl rfl rfl
def eP (f : aH) (kind : Int) (r : bJ) : Int := if (r.Calls.length : Int) > 6 then 2 else if (r.Calls.length : Int) > 0 ∧ kind ≠ 4 then 40 else (cC r.Calls (m4 f r)).1
set_option maxHeartbeats 1000000 in
theorem tU (f : aH) (kind : Int) (r : bJ) : bo Tryz.prog 247 [bw f, aQ kind, .agg (ca r)] (aQ (eP f kind r)) := by
 refine aU Tryz.func247 rfl Tryz.ntmps247 rfl fun B => ?_
 unfold eP
 have hL : (r.Calls.map g8).length = r.Calls.length := List.length_map ..
 rw [← hL]
 (repeat' (first|refine ah ?_|refine a6 ?_|refine am ?_|refine a8 ?_|refine aa ?_|refine ae a7 rfl rfl ?_|refine b6 ?_|fail))
 refine av rfl (fun h => ?_) (fun h => ?_)
 ·rw [if_pos (of_decide_eq_true h)]
  (repeat' (first|refine ah ?_|refine a6 ?_|refine au ?_|refine a8 ?_|refine ar ?_|refine aG ?_|refine aa ?_|refine ae a7 rfl rfl ?_|fail))
  exact aB rfl rfl rfl
 rw [if_neg (of_decide_eq_false h)]
 (repeat' (first|refine ah ?_|refine a6 ?_|refine ae a7 rfl rfl ?_|fail))
 refine ci [3, 5] (((r.Calls.map g8).length : Int) > 0 ∧ kind ≠ 4) rfl (fun Q' K => ?_) (fun hC => ?_) (fun hC => ?_)
 ·(repeat' (first|refine aa ?_|refine ae a7 rfl rfl ?_|refine aw rfl rfl ?_|refine aD rfl rfl rfl rfl ?_|refine aS rfl rfl rfl (fun _ => ?_) (fun _ => ?_)|fail))
  all_goals exact K _ _ rfl rfl (by clear K; grind)
 ·rw [if_pos hC]
  (repeat' (first|refine ah ?_|refine a6 ?_|refine au ?_|refine a8 ?_|refine ar ?_|refine aG ?_|refine aa ?_|refine ae a7 rfl rfl ?_|fail))
  exact aB rfl rfl rfl
 rw [if_neg hC]
 (repeat' (first|refine ah ?_|refine a6 ?_|refine ak ?_|refine a8 ?_|refine aJ ?_|refine ae a7 rfl rfl ?_|fail))
 refine aZ [] [] (y2 (u := .fn 277 [.iptr (ca r), .iptr (bO f)]) (g := 277) rfl r.Calls _ (fun _ _ => True) [] trivial (cP (fun i x _ => vP f r i x))) rfl rfl (List.Perm.refl _) rfl fun c L1 hc => ?_
 have hc : c = bX (cC r.Calls (m4 f r)) := hc
 subst hc
 unfold bX
 (repeat' (first|refine ah ?_|refine a6 ?_|refine au ?_|refine a8 ?_|refine aa ?_|refine ae a7 rfl rfl ?_|fail))
 exact aB rfl rfl rfl
instance (f : aH) (kind : Int) (r : bJ) : AD Tryz.prog 247 [bw f, aQ kind, .agg (ca r)] (aQ (eP f kind r)) := ⟨tU f kind r⟩
end Go.Proofs.YtpbinloeemebkaaGreat

namespace Go.Proofs.YtpbinloeemebkaaGreat
open Go.RowKit
attribute [local irreducible] AT bN AX AO Av Kt bi dE DA d6
def sD (f : aH) (_ : Nat) (l : List Int) : Int := cS (!(ez f l)) 41
def sr (f : aH) (_ : Nat) (n : Int) : Int := cS (!(eG f n)) 32
def xE (kind : Int) (r : bJ) : Int := cS (decide (r.X ≠ 0 ∧ kind ≠ 6)) 40
def fQ (r : bJ) : List (List Int) := r.Back ++ (r.In ++ r.Ahead)
theorem uR (kind : Int) (r : bJ) : bo Tryz.prog 236 [.iptr [aQ kind], .iptr (ca r)] (bX (iN kind r, 0)) := by
 refine aU Tryz.func236 rfl Tryz.ntmps236 rfl fun B => ?_
 (repeat' (first|refine ah ?_|refine a6 ?_|refine au ?_|refine a8 ?_|refine aa ?_|refine ae a7 rfl rfl ?_|(apply ba;refine aY ?_)|fail))
 exact b4 rfl rfl rfl rfl
theorem sx (f : aH) (i : Nat) (l : List Int) : bo Tryz.prog 240 [aQ i, .imm 1 (aV l), .iptr (bO f)] (aQ (sD f i l)) := by
 refine aU Tryz.func240 rfl Tryz.ntmps240 rfl fun B => ?_
 (repeat' (first|refine ah ?_|refine a6 ?_|refine au ?_|refine a8 ?_|refine aa ?_|refine ae a7 rfl rfl ?_|(apply ba;refine aY ?_)|fail))
 exact aB rfl rfl rfl
theorem uS (f : aH) (r : bJ) (h : r.Back.length ≤ 6 ∧ r.In.length ≤ 6 ∧ r.Ahead.length ≤ 6) : bo Tryz.prog 238 [.iptr (ca r), .iptr (bO f)] (bX (cC (fQ r) (sD f))) := by
 refine aU Tryz.func238 rfl Tryz.ntmps238 rfl fun B => ?_
 (repeat' (first|refine ah ?_|refine a6 ?_|refine a8 ?_|refine aa ?_|refine ae a7 rfl rfl ?_|refine bM a7 ?_|fail))
 refine aY (hc := ⟨nc [r.Back, r.In, r.Ahead] (by simp [eB]; omega)⟩) ?_
 rw [show ([r.Back, r.In, r.Ahead] : List (List (List Int))).flatten = fQ r by simp [fQ]]
 (repeat' (first|refine ae a7 rfl rfl ?_|fail))
 refine aZ [] [] (y0 (u := .fn 240 [.iptr (bO f)]) (g := 240) rfl (fQ r) _ (fun _ _ => True) [] trivial (cP (fun i x _ => sx f i x))) rfl rfl (List.Perm.refl _) rfl fun c L1 hc => ?_
 have hc : c = bX (cC (fQ r) (sD f)) := hc
 subst hc
 unfold bX
 (repeat' (first|refine au ?_|refine a8 ?_|refine aa ?_|refine ae a7 rfl rfl ?_|fail))
 exact b4 rfl rfl rfl rfl
theorem uT (kind : Int) (r : bJ) (hin : r.In ≠ []) : bo Tryz.prog 242 [.iptr [aQ kind], .iptr (ca r)] (bX (cS (!(hY kind r)) 40, 0)) := by
 refine aU Tryz.func242 rfl Tryz.ntmps242 rfl fun B => ?_
 (repeat' (first|refine ah ?_|refine a6 ?_|refine a8 ?_|refine aa ?_|refine ae a7 rfl rfl ?_|fail))
 refine aY (hc := ⟨yn kind r hin⟩) ?_
 (repeat' (first|refine au ?_|refine a8 ?_|refine aa ?_|refine ae a7 rfl rfl ?_|(apply ba;refine aY ?_)|fail))
 exact b4 rfl rfl rfl rfl
theorem sy (f : aH) (i : Nat) (n : Int) : bo Tryz.prog 245 [aQ i, aQ n, .iptr (bO f)] (aQ (sr f i n)) := by
 refine aU Tryz.func245 rfl Tryz.ntmps245 rfl fun B => ?_
 (repeat' (first|refine ah ?_|refine a6 ?_|refine au ?_|refine a8 ?_|refine aa ?_|refine ae a7 rfl rfl ?_|(apply ba;refine aY ?_)|fail))
 exact aB rfl rfl rfl
theorem uU (f : aH) (r : bJ) : bo Tryz.prog 244 [.iptr (ca r), .iptr (bO f)] (bX (cC r.Out (sr f))) := by
 refine aU Tryz.func244 rfl Tryz.ntmps244 rfl fun B => ?_
 (repeat' (first|refine ah ?_|refine a6 ?_|refine a8 ?_|refine aa ?_|refine ae a7 rfl rfl ?_|fail))
 refine aZ [] [] (kJ (u := .fn 245 [.iptr (bO f)]) (g := 245) rfl r.Out _ (fun _ _ => True) [] trivial (cP (fun i x _ => sy f i x))) rfl rfl (List.Perm.refl _) rfl fun c L1 hc => ?_
 have hc : c = bX (cC r.Out (sr f)) := hc
 subst hc
 unfold bX
 (repeat' (first|refine au ?_|refine a8 ?_|refine aa ?_|refine ae a7 rfl rfl ?_|fail))
 exact b4 rfl rfl rfl rfl
theorem uV (f : aH) (kind : Int) (r : bJ) : bo Tryz.prog 246 [.iptr (bO f), .iptr [aQ kind], .iptr (ca r)] (bX (eP f kind r, 0)) := by
 refine aU Tryz.func246 rfl Tryz.ntmps246 rfl fun B => ?_
 (repeat' (first|refine ah ?_|refine a6 ?_|refine au ?_|refine a8 ?_|refine aa ?_|refine ae a7 rfl rfl ?_|(apply ba;refine aY ?_)|fail))
 exact b4 rfl rfl rfl rfl
theorem uW (r : bJ) : bo Tryz.prog 248 [.iptr (ca r)] (bX (cS (!([r.X].all cx)) 1, 0)) := by
 refine aU Tryz.func248 rfl Tryz.ntmps248 rfl fun B => ?_
 (repeat' (first|refine ah ?_|refine a6 ?_|refine au ?_|refine a8 ?_|refine aa ?_|refine ae a7 rfl rfl ?_|refine bM a7 ?_|(apply ba;refine aY ?_)|fail))
 exact b4 rfl rfl rfl rfl
theorem uX (kind : Int) (r : bJ) : bo Tryz.prog 249 [.iptr (ca r), .iptr [aQ kind]] (bX (xE kind r, 0)) := by
 refine aU Tryz.func249 rfl Tryz.ntmps249 rfl fun B => ?_
 unfold xE
 by_cases h : r.X ≠ 0
 ·rw [show decide (r.X ≠ 0 ∧ kind ≠ 6) = decide (kind ≠ 6) from decide_eq_decide.2 ⟨fun q => q.2, fun q => ⟨h, q⟩⟩]
  (repeat' (first|refine ah ?_|refine a6 ?_|refine a8 ?_|refine aa ?_|refine ae a7 rfl rfl ?_|fail))
  rw [decide_eq_true h]
  (repeat' (first|refine au ?_|refine a8 ?_|refine aa ?_|refine ae a7 rfl rfl ?_|refine aw rfl rfl ?_|(apply ba;refine aY ?_)|fail))
  exact b4 rfl rfl rfl rfl
 ·rw [show decide (r.X ≠ 0 ∧ kind ≠ 6) = false from decide_eq_false (fun q => h q.1)]
  (repeat' (first|refine ah ?_|refine a6 ?_|refine a8 ?_|refine aa ?_|refine ae a7 rfl rfl ?_|fail))
  rw [decide_eq_false h]
  (repeat' (first|refine au ?_|refine a8 ?_|refine aa ?_|refine ae a7 rfl rfl ?_|refine aD rfl rfl rfl rfl ?_|(apply ba;refine aY ?_)|fail))
  exact b4 rfl rfl rfl rfl
def ff (f : aH) (kind : Int) (r : bJ) : Int := (fk [(iN kind r, 0), cC (fQ r) (sD f), (cS (!(hY kind r)) 40, 0), cC r.Out (sr f), (eP f kind r, 0), (cS (!([r.X].all cx)) 1, 0), (xE kind r, 0)]).1
set_option maxHeartbeats 1000000 in
theorem x2 (f : aH) (kind : Int) (r : bJ) : bo Tryz.prog 177 [bw f, aQ kind, .agg (ca r)] (aQ (ff f kind r)) := by
 refine aU Tryz.func177 rfl Tryz.ntmps177 rfl fun B => ?_
 (repeat' (first|refine ah ?_|refine a6 ?_|refine a8 ?_|refine aa ?_|refine ae a7 rfl rfl ?_|refine b6 ?_|refine bM a7 ?_|fail))
 refine aZ [] [] (gQ [⟨236, [.iptr [aQ kind], .iptr (ca r)], [], iN kind r, 0⟩, ⟨238, [.iptr (ca r), .iptr (bO f)], [], (cC (fQ r) (sD f)).1, (cC (fQ r) (sD f)).2⟩, ⟨242, [.iptr [aQ kind], .iptr (ca r)], [], cS (!(hY kind r)) 40, 0⟩, ⟨244, [.iptr (ca r), .iptr (bO f)], [], (cC r.Out (sr f)).1, (cC r.Out (sr f)).2⟩, ⟨246, [.iptr (bO f), .iptr [aQ kind], .iptr (ca r)], [], eP f kind r, 0⟩, ⟨248, [.iptr (ca r)], [], cS (!([r.X].all cx)) 1, 0⟩, ⟨249, [.iptr (ca r), .iptr [aQ kind]], [], xE kind r, 0⟩] ?_) rfl rfl (List.Perm.refl _) rfl fun c L1 hc => ?_
 ·exact ⟨⟨inferInstance, uR kind r⟩, fun h1 => ⟨⟨inferInstance, uS f r (tz h1).2⟩, fun _ => ⟨⟨inferInstance, uT kind r (tz h1).1⟩, fun _ => ⟨⟨inferInstance, uU f r⟩, fun _ => ⟨⟨inferInstance, uV f kind r⟩, fun _ => ⟨⟨inferInstance, uW r⟩, fun _ => ⟨⟨inferInstance, uX kind r⟩, fun _ => trivial⟩⟩⟩⟩⟩⟩⟩
 rw [ix] at hc
 subst hc
 unfold bX
 (repeat' (first|refine ah ?_|refine a6 ?_|refine au ?_|refine a8 ?_|refine aa ?_|refine ae a7 rfl rfl ?_|fail))
 exact aB rfl rfl rfl
instance (f : aH) (kind : Int) (r : bJ) : AD Tryz.prog 177 [bw f, aQ kind, .agg (ca r)] (aQ (ff f kind r)) := ⟨x2 f kind r⟩
theorem me (l : bC) : bo Tryz.prog 172 [.iptr (bq l)] (bX (cS (decide ((l.Rules.length : Int) > 60)) 2, 0)) := by
 refine aU Tryz.func172 rfl Tryz.ntmps172 rfl fun B => ?_
 rw [show (l.Rules.length : Int) = ((l.Rules.map ca).length : Int) by rw [List.length_map]]
 (repeat' (first|refine ah ?_|refine a6 ?_|refine au ?_|refine a8 ?_|refine aa ?_|refine ae a7 rfl rfl ?_|(apply ba;refine aY ?_)|fail))
 exact b4 rfl rfl rfl rfl
def oD (l : bC) : Int := cS (decide (l.Kind = 7 ∨ l.Kind = 8) && decide ((l.Rules.length : Int) > 0)) 40
theorem mf (l : bC) (b : Bool) (hb : b = decide (l.Kind = 7 ∨ l.Kind = 8)) : bo Tryz.prog 173 [.iptr [c8 b], .iptr (bq l)] (bX (oD l, 0)) := by
 refine aU Tryz.func173 rfl Tryz.ntmps173 rfl fun B => ?_
 unfold oD
 rw [← hb, show (l.Rules.length : Int) = ((l.Rules.map ca).length : Int) by rw [List.length_map]]
 cases b
 ·(repeat' (first|refine ah ?_|refine a6 ?_|refine au ?_|refine a8 ?_|refine aa ?_|refine ae a7 rfl rfl ?_|refine aD rfl rfl rfl rfl ?_|(apply ba;refine aY ?_)|fail))
  exact b4 rfl rfl rfl rfl
 ·(repeat' (first|refine ah ?_|refine a6 ?_|refine au ?_|refine a8 ?_|refine aa ?_|refine ae a7 rfl rfl ?_|refine aw rfl rfl ?_|(apply ba;refine aY ?_)|fail))
  exact b4 rfl rfl rfl rfl
theorem pJ (f : aH) (l : bC) (i : Nat) (r : bJ) : bo Tryz.prog 176 [aQ i, .agg (ca r), .iptr (bO f), .iptr (bq l)] (aQ (ff f l.Kind r)) := by
 refine aU Tryz.func176 rfl Tryz.ntmps176 rfl fun B => ?_
 (repeat' (first|refine ah ?_|refine a6 ?_|refine au ?_|refine a8 ?_|refine aa ?_|refine ae a7 rfl rfl ?_|refine b6 ?_|(apply ba;refine aY ?_)|fail))
 exact aB rfl rfl rfl
theorem mg (f : aH) (l : bC) : bo Tryz.prog 174 [.iptr (bq l), .iptr (bO f)] (bX (cC l.Rules fun _ r => ff f l.Kind r)) := by
 refine aU Tryz.func174 rfl Tryz.ntmps174 rfl fun B => ?_
 (repeat' (first|refine ah ?_|refine a6 ?_|refine a8 ?_|refine aa ?_|refine ae a7 rfl rfl ?_|fail))
 refine aZ [] [] (xQ (u := .fn 176 [.iptr (bO f), .iptr (bq l)]) (g := 176) rfl l.Rules _ (fun _ _ => True) [] trivial (cP (w := fun _ r => ff f l.Kind r) (fun i x _ => pJ f l i x))) rfl rfl (List.Perm.refl _) rfl fun c L1 hc => ?_
 have hc : c = bX (cC l.Rules fun _ r => ff f l.Kind r) := hc
 subst hc
 unfold bX
 (repeat' (first|refine au ?_|refine a8 ?_|refine aa ?_|refine ae a7 rfl rfl ?_|fail))
 exact b4 rfl rfl rfl rfl
def eL (f : aH) (l : bC) : Int := if l.Kind < 1 ∨ l.Kind > 8 then 42 else (fk [(cS (decide ((l.Rules.length : Int) > 60)) 2, 0), (oD l, 0), cC l.Rules fun _ r => ff f l.Kind r]).1
set_option maxHeartbeats 1000000 in
theorem se (f : aH) (l : bC) : bo Tryz.prog 95 [bw f, .agg (bq l)] (aQ (eL f l)) := by
 refine aU Tryz.func95 rfl Tryz.ntmps95 rfl fun B => ?_
 unfold eL
 (repeat' (first|refine ah ?_|refine a6 ?_|refine a8 ?_|refine aa ?_|refine ae a7 rfl rfl ?_|refine b6 ?_|fail))
 refine ci [2, 3] (l.Kind < 1 ∨ l.Kind > 8) rfl (fun Q' K => ?_) (fun hC => ?_) (fun hC => ?_)
 ·(repeat' (first|refine aa ?_|refine ae a7 rfl rfl ?_|refine aw rfl rfl ?_|refine aD rfl rfl rfl rfl ?_|refine aS rfl rfl rfl (fun _ => ?_) (fun _ => ?_)|fail))
  all_goals exact K _ _ rfl rfl (by clear K; grind)
 ·rw [if_pos hC]
  (repeat' (first|refine ah ?_|refine a6 ?_|refine au ?_|refine a8 ?_|refine ar ?_|refine aa ?_|refine ae a7 rfl rfl ?_|fail))
  exact aB rfl rfl rfl
 rw [if_neg hC]
 (repeat' (first|refine ah ?_|refine a6 ?_|refine ak ?_|refine a8 ?_|refine ae a7 rfl rfl ?_|fail))
 by_cases h7 : l.Kind = 7
 ·rw [decide_eq_true h7]
  (repeat' (first|refine ah ?_|refine a6 ?_|refine a8 ?_|refine aa ?_|refine ae a7 rfl rfl ?_|refine aD rfl rfl rfl rfl ?_|(apply aT; first|refine ai 5 a7 0 rfl rfl rfl rfl rfl rfl rfl rfl ?_|refine ai 5 a7 1 rfl rfl rfl rfl rfl rfl rfl rfl ?_|refine ai 5 a7 2 rfl rfl rfl rfl rfl rfl rfl rfl ?_|refine aj a7 0 rfl rfl rfl rfl rfl rfl rfl ?_|refine aj a7 1 rfl rfl rfl rfl rfl rfl rfl ?_|refine aj a7 2 rfl rfl rfl rfl rfl rfl rfl ?_|refine aj a7 3 rfl rfl rfl rfl rfl rfl rfl ?_|fail)|refine bb a7 fun _=>?_|refine bM a7 ?_|fail))
  refine aZ [] [] (gQ [⟨172, [.iptr (bq l)], [], cS (decide ((l.Rules.length : Int) > 60)) 2, 0⟩, ⟨173, [.iptr [c8 true], .iptr (bq l)], [], oD l, 0⟩, ⟨174, [.iptr (bq l), .iptr (bO f)], [], (cC l.Rules fun _ r => ff f l.Kind r).1, (cC l.Rules fun _ r => ff f l.Kind r).2⟩] ⟨⟨inferInstance, me l⟩, fun _ => ⟨⟨inferInstance, mf l true (decide_eq_true (Or.inl h7)).symm⟩, fun _ => ⟨⟨inferInstance, mg f l⟩, fun _ => trivial⟩⟩⟩) rfl rfl (List.Perm.refl _) rfl fun c L1 hc => ?_
  rw [ix] at hc
  subst hc
  unfold bX
  (repeat' (first|refine ah ?_|refine a6 ?_|refine au ?_|refine a8 ?_|refine aa ?_|refine ae a7 rfl rfl ?_|fail))
  exact aB rfl rfl rfl
 ·rw [decide_eq_false h7]
  (repeat' (first|refine ah ?_|refine a6 ?_|refine a8 ?_|refine aa ?_|refine ae a7 rfl rfl ?_|refine aw rfl rfl ?_|(apply aT; first|refine ai 5 a7 0 rfl rfl rfl rfl rfl rfl rfl rfl ?_|refine ai 5 a7 1 rfl rfl rfl rfl rfl rfl rfl rfl ?_|refine ai 5 a7 2 rfl rfl rfl rfl rfl rfl rfl rfl ?_|refine aj a7 0 rfl rfl rfl rfl rfl rfl rfl ?_|refine aj a7 1 rfl rfl rfl rfl rfl rfl rfl ?_|refine aj a7 2 rfl rfl rfl rfl rfl rfl rfl ?_|refine aj a7 3 rfl rfl rfl rfl rfl rfl rfl ?_|fail)|refine bb a7 fun _=>?_|refine bM a7 ?_|fail))
  refine aZ [] [] (gQ [⟨172, [.iptr (bq l)], [], cS (decide ((l.Rules.length : Int) > 60)) 2, 0⟩, ⟨173, [.iptr [c8 (decide (l.Kind = 8))], .iptr (bq l)], [], oD l, 0⟩, ⟨174, [.iptr (bq l), .iptr (bO f)], [], (cC l.Rules fun _ r => ff f l.Kind r).1, (cC l.Rules fun _ r => ff f l.Kind r).2⟩] ⟨⟨inferInstance, me l⟩, fun _ => ⟨⟨inferInstance, mf l (decide (l.Kind = 8)) (decide_eq_decide.2 ⟨Or.inr, fun h => h.resolve_left h7⟩)⟩, fun _ => ⟨⟨inferInstance, mg f l⟩, fun _ => trivial⟩⟩⟩) rfl rfl (List.Perm.refl _) rfl fun c L1 hc => ?_
  rw [ix] at hc
  subst hc
  unfold bX
  (repeat' (first|refine ah ?_|refine a6 ?_|refine au ?_|refine a8 ?_|refine aa ?_|refine ae a7 rfl rfl ?_|fail))
  exact aB rfl rfl rfl
instance (f : aH) (l : bC) : AD Tryz.prog 95 [bw f, .agg (bq l)] (aQ (eL f l)) := ⟨se f l⟩
theorem pK (f : aH) (i : Nat) (l : bC) : bo Tryz.prog 94 [aQ i, .agg (bq l), .iptr (bO f)] (aQ (eL f l)) := by
 refine aU Tryz.func94 rfl Tryz.ntmps94 rfl fun B => ?_
 (repeat' (first|refine ah ?_|refine a6 ?_|refine au ?_|refine a8 ?_|refine aa ?_|refine ae a7 rfl rfl ?_|refine b6 ?_|(apply ba;refine aY ?_)|fail))
 exact aB rfl rfl rfl
end Go.Proofs.YtpbinloeemebkaaGreat

namespace Go.Proofs.YtpbinloeemebkaaGreat
open Go.RowKit
section
variable {P : Program} {tt : TT} {l : List Oper} {fr : c9} {fin : lj} {sk : mx} {acc : c9} {L : AL} {k : Nat} {dd : Option Tmp} {ty t t' : TypeId} {pos : String} {af : Array Edge} {g : Option (Nat × Bool)} {x y : Operand} {u : AV}
theorem e9 (ok : eW P tt) {e sz by_ b off n cap : Nat} {q : IntKind} {i : Int} (ht : mj tt t = some (e, sz, by_)) (hx : bB (dp l.toArray acc fr af.toList) x = some (.sc (.slice (some ⟨b, off, none⟩) n cap))) (hy : bB (dp l.toArray acc fr af.toList) y = some (.sc (.int q i))) (h0 : 0 ≤ i ∧ i < n) (hg : mp ⟨dd, .indexAddr t x y, ty, pos, af, g⟩ acc) (h : DA P l fr fin sk ((k, .sc (.pointer (some ⟨b, off + i.toNat * sz, none⟩))) :: acc) L) :
  d6 P l fr fin k .v ⟨dd, .indexAddr t x y, ty, pos, af, g⟩ sk acc L := iX hg (fun _ _ => (qc (bL ok ht).1 hx hy h0).ao) h
theorem vW (ok : eW P tt) (i : Nat) {b q n : Nat} {cs ys : List AV} {e : TypeId} (ht : Bz tt t = some n) (hx : bB (dp l.toArray acc fr af.toList) x = some (.sc (.pointer (some ⟨b, q, none⟩)))) (hy : bB (dp l.toArray acc fr af.toList) y = some u) (hu : u.cells = some ys) (hL : L[i]? = some (b, .box cs e)) (hn : Nat.beq ys.length n = true) (hk : Nat.ble (q + n) cs.length = true) (hg : mp ⟨dd, .store t x y, ty, pos, af, g⟩ acc) (h : ∀ c, DA P l fr fin sk ((k, c) :: acc) (gA L i (.box (jI cs q ys) e))) :
  d6 P l fr fin k .e ⟨dd, .store t x y, ty, pos, af, g⟩ sk acc L := io hg (fun _ => mU i (oa ok ht) hx hy hu hL hn hk) fun c L' h1 => by subst h1; exact h c
theorem qr {v : Value} (ht : gq P t = true) (hx : bB (dp l.toArray acc fr af.toList) x = some (.sc (.iface t v))) (hg : mp ⟨dd, .typeAssert x t' t false, ty, pos, af, g⟩ acc) (h : DA P l fr fin sk ((k, .sc v) :: acc) L) : d6 P l fr fin k .v ⟨dd, .typeAssert x t' t false, ty, pos, af, g⟩ sk acc L :=
 iX hg (fun _ _ => (qb ht hx).ao) h
theorem u4 (ok : eW P tt) (i : Nat) {e by_ b n cap : Nat} {cs : List AV} {c : AV} (ht : mj tt t = some (e, 1, by_)) (hz : zI tt e = some [.int .i64 0]) (hx : bB (dp l.toArray acc fr af.toList) x = some (.sc (.slice (some ⟨b, 0, none⟩) n cap))) (hy : bB (dp l.toArray acc fr af.toList) y = some u) (hu : j7 u = some (1, [[c]])) (hL : L[i]? = some (b, .box cs e)) (hcl : cs.length = cap) (hn : n ≤ cap) (h63 : n + 1 ≤ 9223372036854775807) (hby : (n + 1) * by_ ≤ 140737488355328) (hg : mp ⟨dd, .call ⟨.builtin .append, #[x, y], #[t, t]⟩, ty, pos, af, g⟩ acc)
  (h : ∀ b' cs', cs'.take (n + 1) = cs.take n ++ [c] → n + 1 ≤ cs'.length → DA P l fr fin sk ((k, .sc (.slice (some ⟨b', 0, none⟩) (n + 1) cs'.length)) :: acc) ((b', .box cs' e) :: L.eraseIdx i)) :
  d6 P l fr fin k .e ⟨dd, .call ⟨.builtin .append, #[x, y], #[t, t]⟩, ty, pos, af, g⟩ sk acc L :=
 io hg (fun _ => mS i (bL ok ht).1 (eN ok hz) hx hy (df hu) hL hcl hn h63 hby) fun q L' ⟨b', cs', h1, h2, h3, h4⟩ => by subst h1; subst h4; exact h b' cs' h2 h3
theorem u5 (ok : eW P tt) {e by_ : Nat} {c : AV} (ht : mj tt t = some (e, 1, by_)) (hz : zI tt e = some [.int .i64 0]) (hx : bB (dp l.toArray acc fr af.toList) x = some (.sc (.slice none 0 0))) (hy : bB (dp l.toArray acc fr af.toList) y = some u) (hu : j7 u = some (1, [[c]])) (hby : Nat.ble by_ 140737488355328 = true) (hg : mp ⟨dd, .call ⟨.builtin .append, #[x, y], #[t, t]⟩, ty, pos, af, g⟩ acc)
  (h : ∀ b' cs', cs'.take 1 = [c] → 1 ≤ cs'.length → DA P l fr fin sk ((k, .sc (.slice (some ⟨b', 0, none⟩) 1 cs'.length)) :: acc) ((b', .box cs' e) :: L)) :
  d6 P l fr fin k .e ⟨dd, .call ⟨.builtin .append, #[x, y], #[t, t]⟩, ty, pos, af, g⟩ sk acc L :=
 io hg (fun _ => mT (bL ok ht).1 (eN ok hz) hx hy (df hu) (Nat.ble_eq .. ▸ hby)) fun q L' ⟨b', cs', h1, h2, h3, h4⟩ => by subst h1; subst h4; exact h b' cs' h2 h3
end
def yZ (P : Program) (t : TypeId) (name : String) (f : FuncId) (ptr : Bool) (e : TypeId) : Bool := (match P.underlying t with | some (.pointer e') => Nat.beq e' e | _ => false) && match P.info? t with
 | some ti => match ti.methods.find? (·.name == name) with
  | some m => m.path.isEmpty && (match m.func with | some (f', p') => Nat.beq f' f && (p' == ptr) | none => false)
  | none => false
 | none => false
theorem gk {P : Program} {t : TypeId} {name : String} {f : FuncId} {ptr : Bool} {e : TypeId} (h : yZ P t name f ptr e = true) : ky P t name f ptr e := by
 unfold yZ at h
 rw [Bool.and_eq_true] at h
 obtain ⟨h1, h2⟩ := h
 split at h1
 ·rename_i e' hu
  rw [Nat.beq_eq] at h1
  subst h1
  split at h2
  ·rename_i ti hti
   split at h2
   ·rename_i m hm
    rw [Bool.and_eq_true] at h2
    obtain ⟨h3, h4⟩ := h2
    split at h4
    ·rename_i f' p' hf
     rw [Bool.and_eq_true, Nat.beq_eq, beq_iff_eq] at h4
     refine ⟨hu, ti, m, hti, hm, ?_, by rw [hf, h4.1, h4.2]⟩
     simpa using h3
    ·cases h4
   ·cases h2
  ·cases h2
 ·cases h1
end Go.Proofs.YtpbinloeemebkaaGreat
