/-
  A lookup is copied: the walk.
-/
import Derived.Test.YtamjlkdanllgjaaGreatDoorM23
import Derived.Test.YtamjlkdanllgjaaGreatDoorM12
import Derived.Test.YtamjlkdanllgjaaGreatDoorM11
import Derived.Test.YtamjlkdanllgjaaGreatDoorM17
import Derived.Test.YtamjlkdanllgjaaGreatDoorM19
import Derived.Test.YtamjlkdanllgjaaGreatDoorM16
namespace Go.Proofs.YtamjlkdanllgjaaGreatDoor
open Go.RowKit
attribute [local irreducible] AT br AX AO Av Kt aW cZ DA cw
set_option maxRecDepth 8000
theorem xK (l : List Int) (hl : l.length ≤ 1000000) : bw Tryz.prog 216 [.imm 1 (aT l)] (.imm 1 (aT l)) := by
 refine aG Tryz.func216 rfl Tryz.ntmps216 rfl fun B => ?_
 have hml := bg l
 repeat' (first|refine ae ?_|refine a6 ?_|refine a8 ?_|refine aa ?_|refine ah a7 rfl rfl ?_)
 refine qm a7 rfl rfl rfl rfl rfl fun b hb => ?_
 repeat' (first|refine a8 ?_|refine aa ?_)
 cases b with
 | true =>
  rw [hb rfl]
  repeat' (first|refine ae ?_|refine a6 ?_|refine am ?_|refine a8 ?_|refine aw ?_|refine aa ?_|refine ah a7 rfl rfl ?_|refine bK rfl ?_)
  refine bf (bA (t := 2) (c' := .imm 1 []) rfl fun σ v h => dA 1 h) ?_
  exact au rfl rfl rfl
 | false =>
  repeat' (first|refine ae ?_|refine a6 ?_|refine aq ?_|refine a8 ?_|refine ah a7 rfl rfl ?_|refine yF (d := 5) a7 fun _=>?_|refine bi rfl ?_)
  refine cP a7 [] rfl rfl rfl rfl (Hp _) (by rw [hml]; simp; omega) (by rw [hml]; simp; omega) rfl fun k' => ?_
  repeat' (first|refine am ?_|refine a8 ?_|refine aa ?_|refine ah a7 rfl rfl ?_)
  refine bf (bA (t := 2) (c' := .imm 1 (aT l)) rfl fun σ v h => VR.im h) ?_
  refine cB (List.nil_sublist _) ?_
  exact au rfl rfl rfl
theorem D9 (l : List jw) (hl : l.length ≤ 1000000) : bw Tryz.prog 217 [.imm 2 (l.map gz)] (.imm 2 (l.map gz)) := by
 refine aG Tryz.func217 rfl Tryz.ntmps217 rfl fun B => ?_
 have hml : (l.map gz).length = l.length := Hv ..
 repeat' (first|refine ae ?_|refine a6 ?_|refine a8 ?_|refine aa ?_|refine ah a7 rfl rfl ?_)
 refine qm a7 rfl rfl rfl rfl rfl fun b hb => ?_
 repeat' (first|refine a8 ?_|refine aa ?_)
 cases b with
 | true =>
  rw [hb rfl]
  repeat' (first|refine ae ?_|refine a6 ?_|refine am ?_|refine a8 ?_|refine aw ?_|refine aa ?_|refine ah a7 rfl rfl ?_|refine bK rfl ?_)
  refine bf (bA (t := 2) (c' := .imm 2 []) rfl fun σ v h => dA 2 h) ?_
  exact au rfl rfl rfl
 | false =>
  repeat' (first|refine ae ?_|refine a6 ?_|refine aq ?_|refine a8 ?_|refine ah a7 rfl rfl ?_|refine yF (d := 5) a7 fun _=>?_|refine bi rfl ?_)
  refine cP a7 [] rfl rfl rfl rfl (Hp _) (by rw [hml]; simp; omega) (by rw [hml]; simp; omega) rfl fun k' => ?_
  repeat' (first|refine am ?_|refine a8 ?_|refine aa ?_|refine ah a7 rfl rfl ?_)
  refine bf (bA (t := 2) (c' := .imm 2 (l.map gz)) rfl fun σ v h => VR.im h) ?_
  refine cB (List.nil_sublist _) ?_
  exact au rfl rfl rfl
abbrev dH : AV := .sc (.slice none 0 0)
def eP {α : Type} (w : α → List AV) (z : List AV) (l : List α) (i : Nat) : List (List AV) := (l.take i).map w ++ List.replicate (l.length - i) z
theorem nE {α : Type} {w : α → List AV} {z : List AV} {l : List α} : eP w z l 0 = List.replicate l.length z := by simp [eP]
theorem pd {α : Type} {w : α → List AV} {z : List AV} {l : List α} : eP w z l l.length = l.map w := by simp [eP]
theorem pf {α : Type} {w : α → List AV} {z : List AV} {l : List α} {i : Nat} {x : α} (h : l[i]? = some x) : (eP w z l i).set i (w x) = eP w z l (i + 1) := by
 have hi := (Hq h).1
 unfold eP
 rw [List.set_append, if_neg (by rw [Hv, List.length_take]; omega), Hv, List.length_take, Nat.min_eq_left (by omega), Nat.sub_self, show l.length - i = (l.length - (i + 1)) + 1 by omega, List.replicate_succ, List.set_cons_zero, List.take_add_one, h]
 simp
theorem pe {α : Type} {w : α → List AV} {z : List AV} {l : List α} {i : Nat} (hi : i ≤ l.length) : (eP w z l i).length = l.length := by
 unfold eP
 rw [List.length_append, Hv, List.length_take, List.length_replicate]
 omega
theorem lz {sz : Nat} : ∀ {l : List (List AV)} {i : Nat} {e : List AV}, (∀ q ∈ l, q.length = sz) → e.length = sz → i < l.length → ew l.flatten (i * sz) e = (l.set i e).flatten
 | [], _, _, _, _, h => by simp at h
 | q :: l, 0, e, hs, he, _ => by
  have hq := hs q (by simp)
  rw [List.set_cons_zero, List.flatten_cons, List.flatten_cons, Nat.zero_mul]
  apply List.ext_getElem?
  intro j
  rw [ea _ _ _ _ (by rw [List.length_append]; omega)]
  by_cases hj : j < e.length
  ·rw [if_pos (by omega), Nat.sub_zero, List.getElem?_append_left hj]
  ·rw [if_neg (by omega), List.getElem?_append_right (by omega), List.getElem?_append_right (by omega), hq, he]
 | q :: l, i + 1, e, hs, he, h => by
  have hq := hs q (by simp)
  have ih := lz (l := l) (i := i) (e := e) (fun x hx => hs x (by simp [hx])) he (by simpa using h)
  have hlen : i * sz + e.length ≤ l.flatten.length := by
   have hl : l.flatten.length = l.length * sz := e7 l fun x hx => hs x (by simp [hx])
   rw [hl, he]
   have : (i + 1) * sz ≤ l.length * sz := Nat.mul_le_mul_right _ (by simp at h; omega)
   rw [Nat.add_mul, Nat.one_mul] at this
   exact this
  rw [List.set_cons_succ, List.flatten_cons, List.flatten_cons, ← ih]
  apply List.ext_getElem?
  intro j
  have e1 : (i + 1) * sz = i * sz + sz := by rw [Nat.add_mul, Nat.one_mul]
  rw [ea _ _ _ _ (by rw [List.length_append]; omega), e1]
  by_cases hj : j < sz
  ·rw [if_neg (by omega), List.getElem?_append_left (by omega), List.getElem?_append_left (by omega)]
  ·rw [List.getElem?_append_right (by omega), List.getElem?_append_right (by omega), ea _ _ _ _ hlen, hq]
   by_cases h2 : i * sz ≤ j - sz ∧ j - sz < i * sz + e.length
   ·rw [if_pos h2, if_pos (by omega)]
    congr 1
    omega
   ·rw [if_neg h2, if_neg (by omega)]
set_option maxHeartbeats 4000000 in
theorem oM (l : List (List Int)) (hl : l.length ≤ 1000000) (hs : ∀ s ∈ l, s.length ≤ 1000000) : bw Tryz.prog 215 [.imm 1 (ba l)] (.imm 1 (ba l)) := by
 refine aG Tryz.func215 rfl Tryz.ntmps215 rfl fun B => ?_
 have hil := c8 l
 repeat' (first|refine ae ?_|refine a6 ?_|refine a8 ?_|refine aa ?_|refine ah a7 rfl rfl ?_)
 refine dv a7 l.length rfl rfl rfl rfl rfl (by rw [hil]) (by rw [hil]) (by omega) (by omega) rfl fun rb => ?_
 repeat' (first|refine ae ?_|refine a6 ?_|refine ar ?_|refine a8 ?_|refine aa ?_|refine ah a7 rfl rfl ?_)
 refine aI [3, 9, 10] (α := Nat) (fun i => [(11, aD i)]) (fun i => i ≤ l.length) (fun i => [(rb, .box (eP (fun s => [AV.imm 1 (aT s)]) [dH] l i).flatten 22)]) (fun i => l.length - i) 0 rfl ⟨rfl, trivial⟩ (Nat.zero_le _) (fun _ _ hh => by rw [nE]; exact hh) fun i hi => ?_
 try dsimp only [Ht, Hs, Hr, Hn]
 repeat' (first|refine ae ?_|refine a6 ?_|refine a8 ?_|refine aa ?_|refine ah a7 rfl rfl ?_)
 refine ay rfl (fun h1 => ?_) (fun h1 => ?_)
 ·have hi2 : i < l.length := by have := Hz h1; omega
  obtain ⟨s, hsi⟩ : ∃ z, l[i]? = some z := ⟨_, Eg hi2⟩
  have hsg := gP hsi
  haveI := AD.mk (xK s (hs s (Hx hsi)))
  have hsz : ∀ q ∈ eP (fun s => [AV.imm 1 (aT s)]) [dH] l i, q.length = 1 := by
   intro q hq
   unfold eP at hq
   rw [List.mem_append] at hq
   rcases hq with hq | hq
   ·obtain ⟨_, _, rfl⟩ := List.mem_map.1 hq; rfl
   ·rw [(List.mem_replicate.1 hq).2]; rfl
  have hfl := pe (w := fun s => [AV.imm 1 (aT s)]) (z := [dH]) (l := l) (i := i) hi
  have hput := lz (sz := 1) (l := eP (fun s => [AV.imm 1 (aT s)]) [dH] l i) (i := i) (e := [AV.imm 1 (aT s)]) hsz rfl (by omega)
  rw [pf hsi] at hput
  have hfll : (eP (fun s => [AV.imm 1 (aT s)]) [dH] l i).flatten.length = l.length * 1 := by rw [e7 _ hsz, hfl]
  clear h1
  repeat' (first|refine ae ?_|refine a6 ?_|refine ar ?_|refine aq ?_|refine a8 ?_|refine aa ?_|refine ah a7 rfl rfl ?_|(apply aO; first|refine aN a7 ?_|refine aH a7 ?_)|(apply bc;refine aX ?_)|fail)
  refine aj a7 0 rfl rfl rfl rfl rfl rfl (Nat.ble_eq_true_of_le (by rw [hfll, Int.toNat_natCast]; show 0 + i * 1 + 1 ≤ _; omega)) ?_
  repeat' (first|refine a6 ?_|refine a8 ?_|refine aR ?_|refine aa ?_|refine ah a7 rfl rfl ?_|(apply b6; refine aZ ?_)|fail)
  refine aF (i + 1) rfl ⟨by rw [Hw]; rfl, trivial⟩ hi2 (by omega) (fun _ _ hh => ?_)
  rw [← hput]
  rw [Int.toNat_natCast, Nat.zero_add] at hh
  exact hh
 ·have hi2 : i = l.length := by have := Hy h1; omega
  subst hi2
  rw [pd]
  clear h1
  repeat' (first|refine ae ?_|refine a6 ?_|refine am ?_|refine aL ?_|refine a8 ?_|refine av ?_|refine aA ?_|refine az ?_|refine aa ?_|refine ah a7 rfl rfl ?_)
  have hml : (l.map fun s => [AV.imm 1 (aT s)]).flatten.length = l.length * 1 := by rw [e7 _ (sz := 1) (fun q hq => by obtain ⟨_, _, rfl⟩ := List.mem_map.1 hq; rfl), Hv]
  refine bf (cy (t := 2) (sz := 1) (n := l.length) (cap := l.length) (l := ba l) 0 rfl rfl (by rw [List.take_of_length_le (by omega)]; rfl) (by omega) (fun e he => by unfold ba at he; obtain ⟨_, _, rfl⟩ := List.mem_map.1 he; rfl) hil (Nat.le_refl _) (by unfold maxLen; omega)) ?_
  exact au rfl rfl rfl
def gn (r : bn) : List AV := [dH, .imm 1 (ba r.In), dH, .imm 1 (aT r.Out), .imm 2 (r.Calls.map gz), aD r.X]
theorem zN (r : bn) : mL (gn r) (bL (oy r)) := ⟨dJ.nil 1, dJ.refl _, dJ.nil 1, dJ.refl _, dJ.refl _, dJ.refl _, trivial⟩
theorem vc {α : Type} {a b : α → List AV} (h : ∀ x, mL (a x) (b x)) : ∀ (l : List α), CH (l.map a) (l.map b)
 | [] => trivial
 | x :: l => ⟨h x, vc h l⟩
structure C6 (r : bn) : Prop where
 in_ : r.In.length ≤ 1000000 ∧ ∀ s ∈ r.In, s.length ≤ 1000000
 out : r.Out.length ≤ 1000000
 calls : r.Calls.length ≤ 1000000
set_option maxHeartbeats 8000000 in
theorem rp (l : bk) (hl : l.Rules.length ≤ 1000000) (hr : ∀ r ∈ l.Rules, C6 r) : bw Tryz.prog 137 [.agg (bo l)] (.agg (bo (j5 l))) := by
 refine aG Tryz.func137 rfl Tryz.ntmps137 rfl fun B => ?_
 have hml : (l.Rules.map bL).length = l.Rules.length := Hv ..
 repeat' (first|refine ae ?_|refine a6 ?_|refine a8 ?_|refine aa ?_|refine ah a7 rfl rfl ?_|refine b9 ?_|refine aY a7 fun _=>?_|fail)
 refine dv a7 l.Rules.length rfl rfl rfl rfl rfl (by rw [hml]) (by rw [hml]) (by omega) (by omega) rfl fun rb => ?_
 repeat' (first|refine ae ?_|refine a6 ?_|refine ar ?_|refine a8 ?_|refine aa ?_|refine ah a7 rfl rfl ?_)
 rename_i r2
 refine aI [1, 2, 3, 11, 12] (α := Nat) (fun i => [(13, aD i)]) (fun i => i ≤ l.Rules.length) (fun i => [(rb, .box (eP gn [dH, dH, dH, dH, dH, aD 0] l.Rules i).flatten 73), (r2, .box [aD 0, ce false, dH] 76)]) (fun i => l.Rules.length - i) 0 rfl ⟨rfl, trivial⟩ (Nat.zero_le _) (fun _ _ hh => by rw [nE]; exact hh) fun i hi => ?_
 try dsimp only [Ht, Hs, Hr, Hn]
 repeat' (first|refine ae ?_|refine a6 ?_|refine a8 ?_|refine aa ?_|refine ah a7 rfl rfl ?_)
 refine ay rfl (fun h1 => ?_) (fun h1 => ?_)
 ·have hi2 : i < l.Rules.length := by have := Hz h1; omega
  obtain ⟨r, hri⟩ : ∃ z, l.Rules[i]? = some z := ⟨_, Eg hi2⟩
  have hrg : (l.Rules.map bL)[i]? = some (bL r) := by simp [hri]
  have hcr := hr r (Hx hri)
  haveI := AD.mk (oM r.In hcr.in_.1 hcr.in_.2)
  haveI := AD.mk (xK r.Out hcr.out)
  haveI := AD.mk (D9 r.Calls hcr.calls)
  have hsz : ∀ q ∈ eP gn [dH, dH, dH, dH, dH, aD 0] l.Rules i, q.length = 6 := by
   intro q hq
   unfold eP at hq
   rw [List.mem_append] at hq
   rcases hq with hq | hq
   ·obtain ⟨_, _, rfl⟩ := List.mem_map.1 hq; rfl
   ·rw [(List.mem_replicate.1 hq).2]; rfl
  have hfl := pe (w := gn) (z := [dH, dH, dH, dH, dH, aD 0]) (l := l.Rules) (i := i) hi
  have hput := lz (sz := 6) (l := eP gn [dH, dH, dH, dH, dH, aD 0] l.Rules i) (i := i) (e := gn r) hsz rfl (by omega)
  rw [pf hri] at hput
  have hfll : (eP gn [dH, dH, dH, dH, dH, aD 0] l.Rules i).flatten.length = l.Rules.length * 6 := by rw [e7 _ hsz, hfl]
  clear h1
  repeat' (first|refine ae ?_|refine a6 ?_|refine ar ?_|refine aq ?_|refine a8 ?_|refine aa ?_|refine ah a7 rfl rfl ?_|(apply aO; first|refine aN a7 ?_|refine aH a7 ?_)|(apply aQ; first|refine ai 5 a7 0 rfl rfl rfl rfl rfl rfl rfl rfl ?_|refine ai 5 a7 1 rfl rfl rfl rfl rfl rfl rfl rfl ?_|refine ai 5 a7 2 rfl rfl rfl rfl rfl rfl rfl rfl ?_|refine aj a7 0 rfl rfl rfl rfl rfl rfl rfl ?_|refine aj a7 1 rfl rfl rfl rfl rfl rfl rfl ?_|refine aj a7 2 rfl rfl rfl rfl rfl rfl rfl ?_|refine aj a7 3 rfl rfl rfl rfl rfl rfl rfl ?_|fail)|refine aY a7 fun _=>?_|fail)
  refine bF 14 [(0, .v), (1, .v), (2, .v), (3, .v), (4, .v), (5, .v), (6, .v), (7, .v), (8, .v), (9, .v), (10, .v), (11, .v), (12, .v), (13, .v)] none ?_ trivial rfl (by kernel_rfl) (by kernel_rfl) (by kernel_rfl) mixed (by kernel_rfl) rfl
  repeat' (first|refine aM ?_|refine bD a7 ?_|(apply cL;refine d8 ?_)|fail)
  refine bM [1, 2, 3, 11, 12, 13, 18, 19, 31] rfl rfl ?_
  repeat' (first|(apply aO; first|refine aN a7 ?_|refine aH a7 ?_)|fail)
  refine aj a7 0 rfl rfl rfl rfl rfl rfl (Nat.ble_eq_true_of_le (by rw [hfll, Int.toNat_natCast]; show 0 + i * 6 + 6 ≤ _; omega)) ?_
  repeat' (first|refine a6 ?_|refine a8 ?_|refine aR ?_|refine aa ?_|refine ah a7 rfl rfl ?_|(apply b6; refine aZ ?_)|fail)
  refine aF (i + 1) rfl ⟨by rw [Hw]; rfl, trivial⟩ hi2 (by omega) (fun _ _ hh => ?_)
  rw [← hput]
  rw [Int.toNat_natCast, Nat.zero_add] at hh
  exact hh
 ·have hi2 : i = l.Rules.length := by have := Hy h1; omega
  subst hi2
  rw [pd]
  clear h1
  have hsz : ∀ q ∈ l.Rules.map gn, q.length = 6 := fun q hq => by obtain ⟨_, _, rfl⟩ := List.mem_map.1 hq; rfl
  have hml2 : (l.Rules.map gn).flatten.length = l.Rules.length * 6 := by rw [e7 _ hsz, Hv]
  refine cA (cy (t := 3) (sz := 6) (n := l.Rules.length) (cap := l.Rules.length) (l := l.Rules.map gn) 0 rfl rfl (by rw [List.take_of_length_le (by omega)]) (by omega) hsz (Hv ..) (Nat.le_refl _) (by unfold maxLen; omega)) ?_
  refine cA (bA (t := 3) (c' := .imm 6 ((j5 l).Rules.map bL)) rfl fun σ v h => ?_) ?_
  ·have e : (j5 l).Rules.map bL = l.Rules.map fun r => bL (oy r) := by unfold j5; rw [List.map_map]; rfl
   rw [e]
   exact dJ.imm (vc zN l.Rules) σ v h
  repeat' (first|refine ae ?_|refine a6 ?_|refine am ?_|refine aL ?_|refine a8 ?_|refine av ?_|refine aA ?_|refine az ?_|refine aa ?_|refine ah a7 rfl rfl ?_|(apply aQ; first|refine ai 5 a7 0 rfl rfl rfl rfl rfl rfl rfl rfl ?_|refine ai 5 a7 1 rfl rfl rfl rfl rfl rfl rfl rfl ?_|refine ai 5 a7 2 rfl rfl rfl rfl rfl rfl rfl rfl ?_|refine aj a7 0 rfl rfl rfl rfl rfl rfl rfl ?_|refine aj a7 1 rfl rfl rfl rfl rfl rfl rfl ?_|refine aj a7 2 rfl rfl rfl rfl rfl rfl rfl ?_|refine aj a7 3 rfl rfl rfl rfl rfl rfl rfl ?_|fail))
  exact ez (cs := [.agg (bo (j5 l))]) [] ⟨⟨_, 0, _, _, rfl, rfl, .inr ⟨dh a7 rfl, rfl⟩⟩, trivial⟩ (List.nil_sublist _) rfl
set_option maxRecDepth 8000
structure C9 (f : aP) : Prop where
 glyphs : 0 < f.Glyphs.length ∧ f.Glyphs.length ≤ 65536
 lookups : f.Lookups.length ≤ 1000000
 look : ∀ l ∈ f.Lookups, u3 f.Glyphs.length l
 rule : ∀ l ∈ f.Lookups, ∀ r ∈ l.Rules, C6 r
structure Ej (f : aP) (E : sB) : Prop where
 ls : E.lks.map (·.l) = f.Lookups
 ms : E.ms = f.Glyphs.map b7.Mark
 auto : ∀ e ∈ E.lks, 1 ≤ e.l.Kind → e.l.Kind ≤ 6 → mV e
def H1 : Option iG → List AV
 | none => [dH, dH, dH, dH, dH]
 | some a => Ga a
def FT : iG := ⟨[], [], [], [], []⟩
def Fn (l : bk) (a : Option iG) (j : Nat) : List AV := [aD l.Kind, ce l.Ignore, .imm 6 ((j5 l).Rules.map bL)] ++ H1 a ++ [aD (jB (l.Rules.take j)), aD (jy (l.Rules.take j))]
def wn (l : bk) (a : iG) (j : Nat) : List AV := [aD l.Kind, ce l.Ignore, .imm 6 ((j5 l).Rules.map bL), .imm 1 (aT a.cls), .imm 1 (ba a.fore), .imm 1 (ba a.back), .imm 1 (f4 a.foreE), .imm 1 (f4 a.backE), aD (jB (l.Rules.take j)), aD (jy (l.Rules.take j))]
theorem yQ (l : bk) (a : Option iG) (j : Nat) : mL (Fn l a j) (wn l (a.getD FT) j) := by
 cases a with
 | none => exact ⟨dJ.refl _, dJ.refl _, dJ.refl _, dJ.nil 1, dJ.nil 1, dJ.nil 1, dJ.nil 1, dJ.nil 1, dJ.refl _, dJ.refl _, trivial⟩
 | some a => exact ⟨dJ.refl _, dJ.refl _, dJ.refl _, dJ.refl _, dJ.refl _, dJ.refl _, dJ.refl _, dJ.refl _, dJ.refl _, dJ.refl _, trivial⟩
theorem yR (l : bk) (a : iG) : wn l a l.Rules.length = gm (Ax l a) := by
 unfold wn
 rw [List.take_length]
 rfl
theorem te {rs : List bn} {j : Nat} {r : bn} (h : rs[j]? = some r) : jB (rs.take (j + 1)) = max (jB (rs.take j)) (r.In.length + r.Ahead.length) ∧ jy (rs.take (j + 1)) = max (jy (rs.take j)) r.Back.length := by
 unfold jB jy
 rw [List.take_add_one, h]
 constructor <;> simp
theorem xZ {N : Nat} {rs : List bn} (h : ∀ r ∈ rs, qU N r) (j : Nat) : jB (rs.take j) ≤ 200 ∧ jy (rs.take j) ≤ 200 := ⟨fU (by omega) fun r hr => (h r (List.mem_of_mem_take hr)).long.2, fU (by omega) fun r hr => (h r (List.mem_of_mem_take hr)).long.1⟩
theorem vv (l : List Bool) (b : Bool) : oL l ++ [[ce b]] = oL (l ++ [b]) := by simp [oL]
set_option maxHeartbeats 16000000 in
theorem DL (f : aP) (h : C9 f) (hck : AC Tryz.prog 60 [cf f] [] fun c _ => ∃ n : Int, c = bX (0, n)) : AC Tryz.prog 61 [cf f] [] fun c _ => ∃ E, Ej f E ∧ c = .tup [.iptr (nr E), aD 0] := by
 refine aG Tryz.func61 rfl Tryz.ntmps61 rfl fun B => ?_
 have hgl : (f.Glyphs.map bE).length = f.Glyphs.length := Hv ..
 have hll : (f.Lookups.map bo).length = f.Lookups.length := Hv ..
 obtain ⟨hN0, hN⟩ := h.glyphs
 have hL := h.lookups
 repeat' (first|refine ae ?_|refine a6 ?_|refine a8 ?_|refine aa ?_|refine ah a7 rfl rfl ?_|refine b9 ?_|fail)
 refine aV [] _ hck rfl rfl (Hp _) rfl fun c1 L1 ⟨n0, hc1⟩ => ?_
 subst hc1
 refine bq (da (List.sublist_append_right ..)) ?_
 unfold bX
 repeat' (first|refine ae ?_|refine a6 ?_|refine ar ?_|refine aq ?_|refine a8 ?_|refine aa ?_|refine ah a7 rfl rfl ?_|refine yz (d := 25) fun _=>?_|refine bi rfl ?_)
 rename_i eb
 refine cA (dx 0 (cs' := [.vec none 10 [], .vec none 1 []]) rfl fun σ vs hh => mL.vrs (a := [dH, dH]) (b := [.vec none 10 [], .vec none 1 []]) ⟨fun σ v h => er 10 h, fun σ v h => er 1 h, trivial⟩ hh) ?_
 refine aI [1, 6, 27, 28] (α := List wT × Option (Nat × Nat)) (fun s => [(29, aD s.1.length)]) (fun s => s.1.length ≤ f.Lookups.length ∧ s.1.map (·.l) = f.Lookups.take s.1.length ∧ ∀ e ∈ s.1, 1 ≤ e.l.Kind → e.l.Kind ≤ 6 → mV e) (fun s => (eb, .box [.vec s.2 10 (s.1.map gm), .vec none 1 []] 237) :: tok s.2 243 10 s.1.length) (fun s => f.Lookups.length - s.1.length) ([], none) rfl ⟨rfl, trivial⟩ ⟨Nat.zero_le _, rfl, fun e he => by cases he⟩ (fun _ _ hh => hh) ?_
 rintro ⟨es, q⟩ ⟨hk, hes, hau⟩
 dsimp only at hk hes hau ⊢
 try dsimp only [Ht, Hs, Hr, Hn]
 repeat' (first|refine ae ?_|refine a6 ?_|refine a8 ?_|refine aa ?_|refine ah a7 rfl rfl ?_)
 refine ay rfl (fun h1 => ?_) (fun h1 => ?_)
 ·have hk2 : es.length < f.Lookups.length := by have := Hz h1; omega
  obtain ⟨l, hl⟩ : ∃ z, f.Lookups[es.length]? = some z := ⟨_, Eg hk2⟩
  have hlg : (f.Lookups.map bo)[es.length]? = some (bo l) := by simp [hl]
  have hlm := Hx hl
  have hbl := h.look l hlm
  have hfew := hbl.few
  haveI := AD.mk (rp l (by omega) (h.rule l hlm))
  have hbu := xF f es.length l hl hbl hN0 hN
  have hrl : (l.Rules.map bL).length = l.Rules.length := Hv ..
  clear h1
  repeat' (first|refine ae ?_|refine a6 ?_|refine ar ?_|refine aq ?_|refine a8 ?_|refine aa ?_|refine ah a7 rfl rfl ?_|(apply aO; first|refine aN a7 ?_|refine aH a7 ?_)|(apply aQ; first|refine ai 8 a7 0 rfl rfl rfl rfl rfl rfl rfl rfl ?_|refine ai 8 a7 1 rfl rfl rfl rfl rfl rfl rfl rfl ?_|refine ai 8 a7 2 rfl rfl rfl rfl rfl rfl rfl rfl ?_|refine ai 10 a7 0 rfl rfl rfl rfl rfl rfl rfl rfl ?_|refine ai 10 a7 1 rfl rfl rfl rfl rfl rfl rfl rfl ?_|refine ai 10 a7 2 rfl rfl rfl rfl rfl rfl rfl rfl ?_|refine ai 13 a7 0 rfl rfl rfl rfl rfl rfl rfl rfl ?_|refine ai 13 a7 1 rfl rfl rfl rfl rfl rfl rfl rfl ?_|refine ai 13 a7 2 rfl rfl rfl rfl rfl rfl rfl rfl ?_|refine ai 15 a7 0 rfl rfl rfl rfl rfl rfl rfl rfl ?_|refine ai 15 a7 1 rfl rfl rfl rfl rfl rfl rfl rfl ?_|refine ai 15 a7 2 rfl rfl rfl rfl rfl rfl rfl rfl ?_|refine aj a7 0 rfl rfl rfl rfl rfl rfl rfl ?_|refine aj a7 1 rfl rfl rfl rfl rfl rfl rfl ?_|refine aj a7 2 rfl rfl rfl rfl rfl rfl rfl ?_|refine aj a7 3 rfl rfl rfl rfl rfl rfl rfl ?_|fail)|refine aY a7 fun _=>?_|(apply bc;refine aX ?_)|fail)
  rename_i ob
  refine gW (α := Option iG) [1, 6, 8, 9, 27, 28, 29] (fun _ => [(1, .iptr (bH f)), (6, f0 eb), (8, .iptr (bo l)), (9, f0 ob), (27, .imm 3 (f.Lookups.map bo)), (28, .sc (.int .i64 ((f.Lookups.map bo).length : Int))), (29, aD es.length)]) (fun a => (ob, .box (Fn l a 0) 243) :: (eb, .box [.vec q 10 (es.map gm), .vec none 1 []] 237) :: tok q 243 10 es.length) (fun a => 1 ≤ l.Kind → l.Kind ≤ 6 → ∃ a', a = some a' ∧ u4 f.Glyphs.length l.Rules a') (fun Q' K => ?_) (fun a ha => ?_)
  ·refine ay rfl (fun h1 => ?_) (fun h1 => ?_)
   ·repeat' (first|refine ae ?_|refine a6 ?_|refine ah a7 rfl rfl ?_)
    refine aV [] _ hbu rfl rfl (Hp _) rfl fun c1 L1 ⟨a, ha, hc1⟩ => ?_
    subst hc1
    refine bq (da (List.sublist_append_right ..)) ?_
    repeat' (first|refine ae ?_|refine a6 ?_|refine aq ?_|refine a8 ?_|refine aa ?_|refine ah a7 rfl rfl ?_|(apply aQ; first|refine ai 8 a7 0 rfl rfl rfl rfl rfl rfl rfl rfl ?_|refine ai 8 a7 1 rfl rfl rfl rfl rfl rfl rfl rfl ?_|refine ai 8 a7 2 rfl rfl rfl rfl rfl rfl rfl rfl ?_|refine ai 10 a7 0 rfl rfl rfl rfl rfl rfl rfl rfl ?_|refine ai 10 a7 1 rfl rfl rfl rfl rfl rfl rfl rfl ?_|refine ai 10 a7 2 rfl rfl rfl rfl rfl rfl rfl rfl ?_|refine ai 13 a7 0 rfl rfl rfl rfl rfl rfl rfl rfl ?_|refine ai 13 a7 1 rfl rfl rfl rfl rfl rfl rfl rfl ?_|refine ai 13 a7 2 rfl rfl rfl rfl rfl rfl rfl rfl ?_|refine ai 15 a7 0 rfl rfl rfl rfl rfl rfl rfl rfl ?_|refine ai 15 a7 1 rfl rfl rfl rfl rfl rfl rfl rfl ?_|refine ai 15 a7 2 rfl rfl rfl rfl rfl rfl rfl rfl ?_|refine aj a7 0 rfl rfl rfl rfl rfl rfl rfl ?_|refine aj a7 1 rfl rfl rfl rfl rfl rfl rfl ?_|refine aj a7 2 rfl rfl rfl rfl rfl rfl rfl ?_|refine aj a7 3 rfl rfl rfl rfl rfl rfl rfl ?_|fail)|refine aY a7 fun _=>?_|refine bi rfl ?_)
    exact K (some a) _ (fun _ _ => ⟨a, rfl, ha⟩) rfl
   ·repeat' (first|refine aq ?_)
    exact K none _ (fun h1' h6 => absurd (Hy h1) (fun hn => hn ⟨h1', h6⟩)) rfl
  ·have hA : 1 ≤ l.Kind → l.Kind ≤ 6 → u4 f.Glyphs.length l.Rules (a.getD FT) := fun h1 h6 => by
    obtain ⟨a', rfl, hb⟩ := ha h1 h6
    exact hb
   refine cA (dx 0 (cs' := wn l (a.getD FT) 0) rfl fun σ vs hh => (yQ l a 0).vrs hh) ?_
   generalize a.getD FT = A at hA
   clear ha
   repeat' (first|refine ae ?_|refine a6 ?_|refine ar ?_|refine a8 ?_|refine aa ?_|refine ah a7 rfl rfl ?_)
   refine aI [1, 6, 9, 27, 28, 29, 52, 53] (α := Nat) (fun j => [(54, aD j)]) (fun j => j ≤ l.Rules.length) (fun j => (ob, .box (wn l A j) 243) :: (eb, .box [.vec q 10 (es.map gm), .vec none 1 []] 237) :: tok q 243 10 es.length) (fun j => l.Rules.length - j) 0 rfl ⟨rfl, trivial⟩ (Nat.zero_le _) (fun _ _ hh => hh) fun j hj => ?_
   try dsimp only [Ht, Hs, Hr, Hn]
   repeat' (first|refine ae ?_|refine a6 ?_|refine a8 ?_|refine aa ?_|refine ah a7 rfl rfl ?_)
   refine ay rfl (fun h1 => ?_) (fun h1 => ?_)
   ·have hj2 : j < l.Rules.length := by have := Hz h1; omega
    obtain ⟨r, hr⟩ : ∃ z, l.Rules[j]? = some z := ⟨_, Eg hj2⟩
    have hrg : (l.Rules.map bL)[j]? = some (bL r) := by simp [hr]
    have hlong := (hbl.rule r (Hx hr)).long
    have hl1 := c8 r.In
    have hl2 := c8 r.Ahead
    have hl3 := c8 r.Back
    obtain ⟨hfb, hbb⟩ := xZ hbl.rule j
    obtain ⟨hfs, hbs⟩ := te hr
    clear h1
    repeat' (first|refine ae ?_|refine a6 ?_|refine ar ?_|refine aq ?_|refine a8 ?_|refine aR ?_|refine aa ?_|refine ah a7 rfl rfl ?_|(apply c9; first|refine aC a7 0 rfl rfl rfl rfl rfl ?_|refine aC a7 1 rfl rfl rfl rfl rfl ?_|refine aC a7 2 rfl rfl rfl rfl rfl ?_|refine aC a7 3 rfl rfl rfl rfl rfl ?_|refine aJ a7 0 rfl rfl rfl rfl rfl ?_|refine aJ a7 1 rfl rfl rfl rfl rfl ?_|refine aJ a7 2 rfl rfl rfl rfl rfl ?_|refine aC a7 1 rfl rfl rfl (by assumption) rfl ?_|refine aC a7 0 rfl rfl rfl (by assumption) rfl ?_|fail)|(apply b6; refine aZ ?_)|(apply aO; first|refine aN a7 ?_|refine aH a7 ?_)|(apply aQ; first|refine ai 8 a7 0 rfl rfl rfl rfl rfl rfl rfl rfl ?_|refine ai 8 a7 1 rfl rfl rfl rfl rfl rfl rfl rfl ?_|refine ai 8 a7 2 rfl rfl rfl rfl rfl rfl rfl rfl ?_|refine ai 10 a7 0 rfl rfl rfl rfl rfl rfl rfl rfl ?_|refine ai 10 a7 1 rfl rfl rfl rfl rfl rfl rfl rfl ?_|refine ai 10 a7 2 rfl rfl rfl rfl rfl rfl rfl rfl ?_|refine ai 13 a7 0 rfl rfl rfl rfl rfl rfl rfl rfl ?_|refine ai 13 a7 1 rfl rfl rfl rfl rfl rfl rfl rfl ?_|refine ai 13 a7 2 rfl rfl rfl rfl rfl rfl rfl rfl ?_|refine ai 15 a7 0 rfl rfl rfl rfl rfl rfl rfl rfl ?_|refine ai 15 a7 1 rfl rfl rfl rfl rfl rfl rfl rfl ?_|refine ai 15 a7 2 rfl rfl rfl rfl rfl rfl rfl rfl ?_|refine aj a7 0 rfl rfl rfl rfl rfl rfl rfl ?_|refine aj a7 1 rfl rfl rfl rfl rfl rfl rfl ?_|refine aj a7 2 rfl rfl rfl rfl rfl rfl rfl ?_|refine aj a7 3 rfl rfl rfl rfl rfl rfl rfl ?_|fail)|refine aY a7 fun _=>?_|fail)
    refine aF (j + 1) rfl ⟨by rw [Hw]; rfl, trivial⟩ hj2 (by omega) (fun _ _ hh => ?_)
    have e1 : ((max (jB (l.Rules.take j)) (r.In.length + r.Ahead.length) : Nat) : Int) = max ((jB (l.Rules.take j) : Nat) : Int) (((ba r.In).length : Int) + ((ba r.Ahead).length : Int)) := by omega
    have e2 : ((max (jy (l.Rules.take j)) r.Back.length : Nat) : Int) = max ((jy (l.Rules.take j) : Nat) : Int) ((ba r.Back).length : Int) := by omega
    unfold wn
    rw [hfs, hbs, e1, e2]
    exact hh
   ·have hj2 : j = l.Rules.length := by have := Hy h1; omega
    subst hj2
    rw [yR]
    clear h1
    have hel : (es.map gm).length = es.length := Hv ..
    have hsn : es.map gm ++ [gm (Ax l A)] = (es ++ [Ax l A]).map gm := by rw [List.map_append]; rfl
    repeat' (first|refine aL ?_|refine a8 ?_|refine av ?_|refine aA ?_|refine az ?_)
    refine bF 8 [(0, .v), (1, .v), (2, .v), (3, .v), (4, .l), (5, .l), (6, .v), (7, .e)] none ?_ trivial rfl (by kernel_rfl) (by kernel_rfl) (by kernel_rfl) mixed (by kernel_rfl) rfl
    repeat' (first|refine aM ?_|refine bD a7 ?_|refine iK a7 ?_|refine du a7 1 rfl rfl rfl rfl (by first|trivial|rfl) ?_|refine mN a7 0 rfl rfl rfl rfl (by first|trivial|rfl) ?_)
    refine kv a7 [(ob, .box (gm (Ax l A)) 243), (eb, .box [.vec q 10 (es.map gm), .vec none 1 []] 237)] rfl rfl rfl rfl (by rw [hel]; exact List.perm_append_comm (l₁ := [_, _])) (by rw [hel]; simp; omega) (by rw [hel]; simp; omega) trivial fun q' => ?_
    repeat' (first|fail)
    refine bM [1, 6, 27, 28, 29, 77, 84] rfl rfl ?_
    refine bq (bj (L' := (ob, .box (gm (Ax l A)) 243) :: (eb, .box [.vec q 10 (es.map gm), .vec none 1 []] 237) :: tok q' 243 10 (es.map gm ++ [gm (Ax l A)]).length) (List.perm_append_comm (l₂ := [_, _]))) ?_
    repeat' (first|refine a6 ?_|refine a8 ?_|refine aR ?_|refine aa ?_|refine ah a7 rfl rfl ?_|(apply b6; refine aZ ?_)|(apply aQ; first|refine ai 8 a7 0 rfl rfl rfl rfl rfl rfl rfl rfl ?_|refine ai 8 a7 1 rfl rfl rfl rfl rfl rfl rfl rfl ?_|refine ai 8 a7 2 rfl rfl rfl rfl rfl rfl rfl rfl ?_|refine ai 10 a7 0 rfl rfl rfl rfl rfl rfl rfl rfl ?_|refine ai 10 a7 1 rfl rfl rfl rfl rfl rfl rfl rfl ?_|refine ai 10 a7 2 rfl rfl rfl rfl rfl rfl rfl rfl ?_|refine ai 13 a7 0 rfl rfl rfl rfl rfl rfl rfl rfl ?_|refine ai 13 a7 1 rfl rfl rfl rfl rfl rfl rfl rfl ?_|refine ai 13 a7 2 rfl rfl rfl rfl rfl rfl rfl rfl ?_|refine ai 15 a7 0 rfl rfl rfl rfl rfl rfl rfl rfl ?_|refine ai 15 a7 1 rfl rfl rfl rfl rfl rfl rfl rfl ?_|refine ai 15 a7 2 rfl rfl rfl rfl rfl rfl rfl rfl ?_|refine aj a7 0 rfl rfl rfl rfl rfl rfl rfl ?_|refine aj a7 1 rfl rfl rfl rfl rfl rfl rfl ?_|refine aj a7 2 rfl rfl rfl rfl rfl rfl rfl ?_|refine aj a7 3 rfl rfl rfl rfl rfl rfl rfl ?_|fail))
    have hll2 : (es ++ [Ax l A]).length = es.length + 1 := by simp
    refine aF (es ++ [Ax l A], q') rfl ⟨by dsimp only; rw [hll2, Hw]; rfl, trivial⟩ ⟨by dsimp only; omega, ?_, ?_⟩ (by dsimp only; omega) (fun σ w hh => ?_)
    ·dsimp only
     rw [List.map_append, hes, hll2, List.take_add_one, hl]
     rfl
    ·intro e he h1 h6
     rw [List.mem_append, List.mem_singleton] at he
     rcases he with he | rfl
     ·exact hau e he h1 h6
     ·exact Ah hbl (hA h1 h6)
    ·have h2 := hh.sublist (List.sublist_cons_self ..)
     rw [hsn, Hv] at h2
     dsimp only
     rw [← hsn]
     exact h2
 ·have hk2 : es.length = f.Lookups.length := by have := Hy h1; omega
  rw [hk2, List.take_length] at hes
  clear h1
  repeat' (first|refine ae ?_|refine a6 ?_|refine ar ?_|refine aL ?_|refine a8 ?_|refine av ?_|refine aA ?_|refine az ?_|refine aa ?_|refine ah a7 rfl rfl ?_)
  refine aI [6, 89, 90] (α := Nat × Option (Nat × Nat)) (fun s => [(91, aD s.1)]) (fun s => s.1 ≤ f.Glyphs.length) (fun s => (eb, .box [.vec q 10 (es.map gm), .vec s.2 1 (oL ((f.Glyphs.map b7.Mark).take s.1))] 237) :: (tok q 243 10 es.length ++ tok s.2 4 1 s.1)) (fun s => f.Glyphs.length - s.1) (0, none) rfl ⟨rfl, trivial⟩ (Nat.zero_le _) (fun σ w hh => by show ct B σ ((eb, .box [.vec q 10 (es.map gm), .vec none 1 []] 237) :: (tok q 243 10 es.length ++ [])) w; rw [List.append_nil]; exact hh) ?_
  rintro ⟨k, q2⟩ hk3
  dsimp only at hk3 ⊢
  try dsimp only [Ht, Hs, Hr, Hn]
  repeat' (first|refine ae ?_|refine a6 ?_|refine a8 ?_|refine aa ?_|refine ah a7 rfl rfl ?_)
  refine ay rfl (fun h1 => ?_) (fun h1 => ?_)
  ·have hk4 : k < f.Glyphs.length := by have := Hz h1; omega
   obtain ⟨g, hg⟩ : ∃ z, f.Glyphs[k]? = some z := ⟨_, Eg hk4⟩
   have hgg : (f.Glyphs.map bE)[k]? = some (bE g) := by simp [hg]
   have hbl : (oL ((f.Glyphs.map b7.Mark).take k)).length = k := by rw [xD, List.length_take, Hv]; omega
   have hbs : (f.Glyphs.map b7.Mark).take (k + 1) = (f.Glyphs.map b7.Mark).take k ++ [g.Mark] := by rw [List.take_add_one, List.getElem?_map, hg]; rfl
   have hsn := vv ((f.Glyphs.map b7.Mark).take k) g.Mark
   rw [← hbs] at hsn
   generalize oL ((f.Glyphs.map b7.Mark).take k) = bl at *
   clear h1
   repeat' (first|refine ae ?_|refine a6 ?_|refine ar ?_|refine aq ?_|refine a8 ?_|refine aa ?_|refine ah a7 rfl rfl ?_|(apply aO; first|refine aN a7 ?_|refine aH a7 ?_)|(apply aQ; first|refine ai 8 a7 0 rfl rfl rfl rfl rfl rfl rfl rfl ?_|refine ai 8 a7 1 rfl rfl rfl rfl rfl rfl rfl rfl ?_|refine ai 8 a7 2 rfl rfl rfl rfl rfl rfl rfl rfl ?_|refine ai 10 a7 0 rfl rfl rfl rfl rfl rfl rfl rfl ?_|refine ai 10 a7 1 rfl rfl rfl rfl rfl rfl rfl rfl ?_|refine ai 10 a7 2 rfl rfl rfl rfl rfl rfl rfl rfl ?_|refine ai 13 a7 0 rfl rfl rfl rfl rfl rfl rfl rfl ?_|refine ai 13 a7 1 rfl rfl rfl rfl rfl rfl rfl rfl ?_|refine ai 13 a7 2 rfl rfl rfl rfl rfl rfl rfl rfl ?_|refine ai 15 a7 0 rfl rfl rfl rfl rfl rfl rfl rfl ?_|refine ai 15 a7 1 rfl rfl rfl rfl rfl rfl rfl rfl ?_|refine ai 15 a7 2 rfl rfl rfl rfl rfl rfl rfl rfl ?_|refine aj a7 0 rfl rfl rfl rfl rfl rfl rfl ?_|refine aj a7 1 rfl rfl rfl rfl rfl rfl rfl ?_|refine aj a7 2 rfl rfl rfl rfl rfl rfl rfl ?_|refine aj a7 3 rfl rfl rfl rfl rfl rfl rfl ?_|fail)|refine aY a7 fun _=>?_|fail)
   refine bF 9 [(0, .v), (1, .v), (2, .v), (3, .v), (4, .l), (5, .v), (6, .v), (7, .v), (8, .e)] none ?_ trivial rfl (by kernel_rfl) (by kernel_rfl) (by kernel_rfl) mixed (by kernel_rfl) rfl
   repeat' (first|refine aM ?_|refine bD a7 ?_|refine iK a7 ?_|refine du a7 0 rfl rfl rfl rfl (by first|trivial|rfl) ?_)
   refine kv a7 ((eb, .box [.vec q 10 (es.map gm), .vec q2 1 bl] 237) :: tok q 243 10 es.length) rfl rfl rfl rfl (by rw [hbl]; exact (List.perm_append_comm (l₁ := _ :: tok q 243 10 es.length))) (by rw [hbl]; simp; omega) (by rw [hbl]; simp; omega) trivial fun q' => ?_
   repeat' (first|fail)
   refine bM [6, 89, 90, 91, 95, 103] rfl rfl ?_
   refine bq (bj (L' := (eb, .box [.vec q 10 (es.map gm), .vec q2 1 bl] 237) :: (tok q 243 10 es.length ++ tok q' 4 1 (k + 1))) (by rw [List.length_append, hbl]; exact (List.perm_append_comm (l₂ := _ :: tok q 243 10 es.length)))) ?_
   repeat' (first|refine a6 ?_|refine a8 ?_|refine aR ?_|refine aa ?_|refine ah a7 rfl rfl ?_|(apply b6; refine aZ ?_)|(apply aQ; first|refine ai 8 a7 0 rfl rfl rfl rfl rfl rfl rfl rfl ?_|refine ai 8 a7 1 rfl rfl rfl rfl rfl rfl rfl rfl ?_|refine ai 8 a7 2 rfl rfl rfl rfl rfl rfl rfl rfl ?_|refine ai 10 a7 0 rfl rfl rfl rfl rfl rfl rfl rfl ?_|refine ai 10 a7 1 rfl rfl rfl rfl rfl rfl rfl rfl ?_|refine ai 10 a7 2 rfl rfl rfl rfl rfl rfl rfl rfl ?_|refine ai 13 a7 0 rfl rfl rfl rfl rfl rfl rfl rfl ?_|refine ai 13 a7 1 rfl rfl rfl rfl rfl rfl rfl rfl ?_|refine ai 13 a7 2 rfl rfl rfl rfl rfl rfl rfl rfl ?_|refine ai 15 a7 0 rfl rfl rfl rfl rfl rfl rfl rfl ?_|refine ai 15 a7 1 rfl rfl rfl rfl rfl rfl rfl rfl ?_|refine ai 15 a7 2 rfl rfl rfl rfl rfl rfl rfl rfl ?_|refine aj a7 0 rfl rfl rfl rfl rfl rfl rfl ?_|refine aj a7 1 rfl rfl rfl rfl rfl rfl rfl ?_|refine aj a7 2 rfl rfl rfl rfl rfl rfl rfl ?_|refine aj a7 3 rfl rfl rfl rfl rfl rfl rfl ?_|fail))
   exact aF (k + 1, q') rfl ⟨by rw [Hw]; rfl, trivial⟩ hk4 (by dsimp only; omega) (fun _ _ hh => by dsimp only; rw [← hsn]; exact hh)
  ·have hk4 : k = f.Glyphs.length := by have := Hy h1; omega
   subst hk4
   rw [List.take_of_length_le (by rw [Hv]; exact Nat.le_refl _)]
   clear h1
   repeat' (first|refine ae ?_|refine a6 ?_|refine am ?_|refine aL ?_|refine a8 ?_|refine av ?_|refine aA ?_|refine az ?_|refine aa ?_|refine ah a7 rfl rfl ?_)
   refine bf (dx 0 (cs' := nr ⟨es, f.Glyphs.map b7.Mark⟩) rfl fun σ vs hh => mL.vrs (a := [.vec q 10 (es.map gm), .vec q2 1 (oL (f.Glyphs.map b7.Mark))]) (b := nr ⟨es, f.Glyphs.map b7.Mark⟩) ⟨fun σ v h => VR.im h, fun σ v h => VR.im h, trivial⟩ hh) ?_
   refine bf (su (t := 2) (cs := nr ⟨es, f.Glyphs.map b7.Mark⟩) 0 rfl rfl rfl) ?_
   refine cB (List.nil_sublist _) ?_
   exact aS rfl rfl rfl ⟨⟨es, f.Glyphs.map b7.Mark⟩, ⟨hes, rfl, hau⟩, rfl⟩
def pv : Nat → List Int → List b8
 | _, [] => []
 | i, g :: l => ⟨g, i, 0, 0, 0, 0⟩ :: pv (i + 1) l
def lJ (l : List Int) : List b8 := pv 0 l
def lN : List Bool := [false, false, false, false, true]
def F8 (ig : Bool) : List bk := [⟨3, ig, [⟨[], [[0], [1]], [], [2], [], 0⟩]⟩]
def qi (a b c : Nat) : List Int := List.replicate a 4 ++ 0 :: (List.replicate b 4 ++ 1 :: List.replicate c 4)
def rP (a b c : Nat) (ig : Bool) : List Int := if 0 < b ∧ ig = false then qi a b c else List.replicate a 4 ++ 2 :: (List.replicate b 4 ++ List.replicate c 4)
def yp (a b c : Nat) (ig : Bool) : Bool :=
 let out := lm lN (F8 ig) 0 (lJ (qi a b c)) []
 (out.map b8.Glyph == rP a b c ig) && (decide ((rP a b c ig).length = (qi a b c).length) || (match out[a]? with | some x => decide (x.Cluster = a) | none => false))
def FS : Bool := (List.range 8).all fun a => (List.range 8).all fun b => (List.range 8).all fun c => yp a b c true && yp a b c false
def Fv : bn := ⟨[], [[0]], [[1]], [1], [], 0⟩
def Bw : List bk := [⟨5, false, [Fv]⟩, ⟨1, false, [Fv]⟩]
def z8 (n : Nat) : List Int := List.replicate n 0 ++ [1]
def DX (n : Nat) : List Int := (List.range (n + 1)).map fun (k : Nat) => if (n : Int) - 1 ≤ (k : Int) then (1 : Int) else 0
def Ha (n : Nat) : Bool := ((lm lN Bw 0 (lJ (z8 n)) []).map b8.Glyph == List.replicate (n + 1) 1) && ((lm lN Bw 1 (lJ (z8 n)) []).map b8.Glyph == DX n)
def EM (k : Nat) : List bk := [⟨4, false, [⟨[], [[0]], [], [], [⟨0, 1⟩, ⟨0, 2⟩, ⟨0, 0⟩], 0⟩]⟩, ⟨1, false, [⟨[], [[0]], [], [2], [], 0⟩]⟩, ⟨2, false, [⟨[], [[2]], [], List.replicate k 1, [], 0⟩]⟩]
def GF (n k : Nat) : Bool :=
 let out := lm lN (EM k) 0 (lJ (List.replicate n 0)) []
 if k = 0 then decide (out.length < n) else out.map b8.Glyph == List.replicate (n * k) 1
def eD (l : List Int) (i : Nat) : List AV := (l.take i ++ List.replicate (l.length - i) 0).map aD
theorem B0 (l : List Int) {i : Nat} (h : i ≤ l.length) : (eD l i).length = l.length := by simp [eD]; omega
theorem uz (l : List Int) (m : Nat) (hm : m = l.length) : (List.replicate m [aD 0]).flatten = eD l 0 := by
 subst hm
 unfold eD
 rw [List.take_zero, Hs, Nat.sub_zero, List.map_replicate]
 generalize l.length = m
 induction m with
 | zero => rfl
 | succ m ih => rw [List.replicate_succ, List.flatten_cons, ih, List.replicate_succ]; rfl
theorem B2 {l : List Int} {i : Nat} {z : Int} (h : l[i]? = some z) : (eD l i).set (0 + (i : Int).toNat * 1) (aD z) = eD l (i + 1) := by
 have hi := (Hq h).1
 rw [Nat.zero_add, Nat.mul_one, Int.toNat_natCast]
 unfold eD
 rw [← List.map_set (f := aD)]
 congr 1
 rw [List.set_append_right _ _ (by simp; omega), List.take_add_one, h, List.append_assoc]
 congr 1
 rw [show l.length - i = (l.length - (i + 1)) + 1 by omega, List.replicate_succ, show i - (l.take i).length = 0 by simp; omega]
 rfl
theorem AZ (l : List Int) : eD l l.length = l.map aD := by simp [eD]
theorem pt (l : List Int) : (aT l).flatten = l.map aD := by
 unfold aT
 induction l with
 | nil => rfl
 | cons z l ih => rw [Hr, List.flatten_cons, ih]; rfl
set_option maxRecDepth 8000
theorem FG {n i : Nat} (h : i < n) : (eD (ca n) i).set (0 + (i : Int).toNat * 1) (aD i) = eD (ca n) (i + 1) := B2 (gS h)
set_option maxHeartbeats 1000000 in
theorem yO (f : aP) (hf : Few f) (hr : iF f.Glyphs.length (prt f) ∨ AC Tryz.prog 257 [cf f] [] fun c _ => ∃ z : Int, c = aD z) : AC Tryz.prog 185 [cf f] [] fun c _ => (∃ T, c = .tup [.imm 1 (aT T), aD 0, aD 0] ∧ ge f.Glyphs.length (prt f) T ∧ T.length = f.Glyphs.length) ∨ (¬ iF f.Glyphs.length (prt f) ∧ ∃ z : Int, c = .tup [.imm 1 [], aD z, aD 33]) := by
 refine aG Tryz.func185 rfl Tryz.ntmps185 rfl fun B => ?_
 have hn := hf.n
 have hln := Bg f hf
 have hml : (f.Glyphs.map bE).length = f.Glyphs.length := Hv ..
 generalize hN : f.Glyphs.length = n at *
 repeat' (first|refine ae ?_|refine a6 ?_|refine a8 ?_|refine aa ?_|refine ah a7 rfl rfl ?_|refine b9 ?_|fail)
 rw [hml]
 refine dv a7 n rfl rfl rfl rfl rfl rfl rfl (by omega) (by omega) rfl fun b => ?_
 rw [show (List.replicate n (List.map AV.sc [Value.int .i64 0])).flatten = eD (ca n) 0 from uz (ca n) n (dP n).symm]
 have hul := dP n
 repeat' (first|refine ae ?_|refine a6 ?_|refine ar ?_|refine a8 ?_|refine aa ?_|refine ah a7 rfl rfl ?_)
 refine aI [1, 5, 13] (α := Nat) (fun i => [(14, aD i)]) (fun i => i ≤ n) (fun i => [(b, .box (eD (ca n) i) 3)]) (fun i => n - i) 0 rfl ⟨rfl, trivial⟩ (Nat.zero_le _) (fun _ _ h => h) fun i hi => ?_
 try dsimp only [Ht, Hs, Hr, Hn]
 repeat' (first|refine ae ?_|refine a6 ?_|refine a8 ?_|refine aa ?_|refine ah a7 rfl rfl ?_)
 refine ay rfl (fun h => ?_) (fun h => ?_)
 ·have hil : i < n := by have := Hz h; omega
  repeat' (first|refine ae ?_|refine a6 ?_|refine ar ?_|refine aq ?_|refine a8 ?_|refine aa ?_|refine ah a7 rfl rfl ?_|(apply aO; first|refine aN a7 ?_|refine aH a7 ?_)|fail)
  refine aj a7 0 rfl rfl rfl rfl rfl rfl (by rw [Nat.ble_eq, B0 (ca n) (by omega), hul]; show _ + 1 ≤ n; omega) ?_
  rw [eT, FG hil]
  repeat' (first|refine a6 ?_|refine a8 ?_|refine aR ?_|refine aa ?_|refine ah a7 rfl rfl ?_|(apply b6; refine aZ ?_)|fail)
  exact aF (i + 1) rfl ⟨by rw [Hw]; rfl, trivial⟩ (by omega) (by omega) (fun _ _ h => h)
 ·have hil : i = n := by have := Hy h; omega
  subst hil
  clear h
  rw [show eD (ca i) i = (ca i).map aD by have := AZ (ca i); rw [hul] at this; exact this]
  refine cA (zJ (t := 5) (sz := 1) (l := aT (ca i)) 0 rfl rfl (pt _).symm (by simp [aT]) (by rw [bg, hul]) (by omega)) ?_
  repeat' (first|refine ae ?_|refine a6 ?_|refine aL ?_|refine a8 ?_|refine av ?_|refine aA ?_|refine az ?_|refine ah a7 rfl rfl ?_)
  refine aV [] _ hln rfl rfl (Hp _) rfl fun c L1 ⟨T, hc, hT⟩ => ?_
  subst hc
  have hTl := bg T
  have hIl := bg (ca i)
  have hTn := hT.len
  rw [hul] at hIl
  refine bq (da (List.nil_sublist _)) ?_
  repeat' (first|refine ae ?_|refine a6 ?_|refine a8 ?_|refine aa ?_|refine ah a7 rfl rfl ?_)
  refine ay rfl (fun h => ?_) (fun h => ?_)
  ·have hlt := Hz h
   rw [hTl, hIl] at hlt
   have hna : ¬ iF i (prt f) := fun ha => by
    have := hT.len_all (hT.all ha fun g p hp => by have := DW hp; rw [hN] at this; exact this)
    omega
   rcases hr with hr | hr
   ·exact absurd hr hna
   repeat' (first|refine ae ?_|refine a6 ?_|refine ah a7 rfl rfl ?_)
   refine aV [] [] hr rfl rfl (Hp _) rfl fun c L1 ⟨z, hc⟩ => ?_
   subst hc
   repeat' (first|refine am ?_|refine a8 ?_|refine aw ?_|refine aa ?_|refine ah a7 rfl rfl ?_)
   refine bf (bA (t := 2) (c' := .imm 1 []) rfl fun σ v h => dA 1 h) ?_
   exact ui (cs := [.imm 1 [], aD z, aD 33]) ⟨rfl, rfl, rfl, trivial⟩ (.inr ⟨hna, z, rfl⟩)
  ·have hlt := Hy h
   rw [hTl, hIl] at hlt
   repeat' (first|refine ae ?_|refine a6 ?_|refine aq ?_|refine am ?_|refine a8 ?_|refine aa ?_|refine ah a7 rfl rfl ?_)
   exact ui (cs := [.imm 1 (aT T), aD 0, aD 0]) ⟨rfl, rfl, rfl, trivial⟩ (.inl ⟨T, rfl, hT, by omega⟩)
end Go.Proofs.YtamjlkdanllgjaaGreatDoor
