/-
  Go's library: a stable sort of places by their classes, of at most twenty.
-/
import Derived.Test.YtamjlkdanllgjaaGreatDoorM12
import Derived.Test.YtamjlkdanllgjaaGreatDoorM10
import Derived.Test.YtamjlkdanllgjaaGreatDoorM11
namespace Go.Proofs.YtamjlkdanllgjaaGreatDoor
open Go.RowKit
attribute [local irreducible] AT br AX AO Av Kt aW cZ DA cw
set_option maxRecDepth 8000
def wW (u : AV) (key : Nat → Int) (D : Nat → Prop) : Prop := ∀ a b, D a → D b → gk Tryz.prog u [aD a, aD b] [] fun c L => c = aD (pZ (key a) (key b)) ∧ L = []
def fI (p rest : List Nat) (x j : Nat) : List Nat := p.take j ++ x :: (p.drop j ++ rest)
theorem kX (p rest : List Nat) (x j : Nat) : (fI p rest x j).length = p.length + 1 + rest.length := by
 unfold fI
 rw [List.length_append, List.length_cons, List.length_append]
 have := congrArg List.length (List.take_append_drop j p)
 rw [List.length_append] at this
 omega
theorem uW {p rest : List Nat} {x j : Nat} (h : j ≤ p.length) : (fI p rest x j)[j]? = some x := by
 unfold fI
 rw [List.getElem?_append_right (by rw [List.length_take]; omega), List.length_take, Nat.min_eq_left h, Nat.sub_self]
 rfl
theorem tN {p rest : List Nat} {x j : Nat} (h : j + 1 ≤ p.length) : (fI p rest x (j + 1))[j]? = p[j]? := by
 unfold fI
 rw [List.getElem?_append_left (by rw [List.length_take]; omega), List.getElem?_take_of_lt (by omega)]
theorem wr {p rest : List Nat} {x y j : Nat} (h : p[j]? = some y) : ((fI p rest x (j + 1)).set (j + 1) y).set j x = fI p rest x j := by
 have hj := (Hq h).1
 have hy : p[j] = y := by rw [Eg hj] at h; exact Option.some.inj h
 apply List.ext_getElem?
 intro i
 have hl : (fI p rest x (j + 1)).length = (fI p rest x j).length := by rw [kX, kX]
 have hjl : j + 1 < (fI p rest x (j + 1)).length := by rw [kX]; omega
 by_cases h1 : i = j
 ·subst h1
  rw [List.getElem?_set_self (by rw [List.length_set]; omega), uW (by omega)]
 ·rw [List.getElem?_set_ne (by omega)]
  by_cases h2 : i = j + 1
  ·subst h2
   rw [List.getElem?_set_self hjl]
   unfold fI
   rw [List.getElem?_append_right (by rw [List.length_take]; omega), List.length_take, Nat.min_eq_left (by omega), show j + 1 - j = 0 + 1 by omega, List.getElem?_cons_succ, List.drop_eq_getElem_cons hj]
   simp [hy]
  ·rw [List.getElem?_set_ne (by omega)]
   unfold fI
   by_cases h3 : i < j
   ·rw [List.getElem?_append_left (by rw [List.length_take]; omega), List.getElem?_append_left (by rw [List.length_take]; omega), List.getElem?_take_of_lt (by omega), List.getElem?_take_of_lt (by omega)]
   ·rw [List.getElem?_append_right (by rw [List.length_take]; omega), List.getElem?_append_right (by rw [List.length_take]; omega), List.length_take, List.length_take, Nat.min_eq_left (by omega), Nat.min_eq_left (by omega)]
    rw [show i - (j + 1) = (i - j - 2) + 1 by omega, show i - j = (i - j - 2) + 1 + 1 by omega, List.getElem?_cons_succ, List.getElem?_cons_succ, List.drop_eq_getElem_cons hj, Ht, List.getElem?_cons_succ]
    rfl
theorem zb (p rest : List Nat) (x : Nat) : fI p rest x p.length = p ++ x :: rest := by unfold fI; simp
theorem s9 (key : Nat → Int) (p rest : List Nat) (x : Nat) : fI p rest x (nL key x p p.length) = to key p x ++ rest := by unfold fI to; simp
def cG (l : List Nat) : List AV := l.map fun (n : Nat) => aD n
theorem dN (l : List Nat) : (cG l).length = l.length := Hv ..
theorem rV {l : List Nat} {i v : Nat} (h : l[i]? = some v) : (cG l)[i]? = some (aD v) := by simp [cG, h]
theorem rW (l : List Nat) (i v : Nat) : (cG l).set i (aD v) = cG (l.set i v) := by simp [cG, List.map_set]
theorem uM {a c m : List AV} {i : Nat} (h : i < m.length) : (a ++ (m ++ c))[a.length + i]? = m[i]? := by
 rw [List.getElem?_append_right (by omega), Nat.add_sub_cancel_left, List.getElem?_append_left h]
theorem uN {a c m : List AV} {i : Nat} {v : AV} (h : i < m.length) : (a ++ (m ++ c)).set (a.length + i) v = a ++ (m.set i v ++ c) := by
 rw [List.set_append_right _ _ (by omega), Nat.add_sub_cancel_left, List.set_append_left _ _ h]
set_option maxHeartbeats 4000000 in
theorem vZ (g : FuncId) (caps : List AV) (key : Nat → Int) (D : Nat → Prop) (hu : wW (.fn g caps) key D) (b cap : Nat) (pre post : List AV) (l : List Nat) (hD : ∀ x ∈ l, D x) (hl : l.length ≤ 1000000) :
  AC Tryz.prog 228 [.sc (.slice (some ⟨b, pre.length, none⟩) l.length cap), aD 0, aD l.length, .fn g caps] [(b, .box (pre ++ (cG l ++ post)) 3)] fun _ L => L = [(b, .box (pre ++ (cG (dX key l) ++ post)) 3)] := by
 refine aG Tryz.func228 rfl Tryz.ntmps228 rfl fun B => ?_
 have h0 : dX key (l.take 1) ++ l.drop 1 = l := by
  cases l with
  | nil => rfl
  | cons x r => rfl
 repeat' (first|refine ae ?_|refine a6 ?_|refine ar ?_|refine a8 ?_|refine aa ?_|refine ah a7 rfl rfl ?_|(apply b6; refine aZ ?_)|fail)
 refine aI [0, 1, 2, 3] (α := Nat) (fun i => [(8, aD i)]) (fun i => 1 ≤ i ∧ i ≤ max l.length 1) (fun i => [(b, .box (pre ++ (cG (dX key (l.take i) ++ l.drop i) ++ post)) 3)]) (fun i => l.length + 1 - i) 1 rfl ⟨rfl, trivial⟩ ⟨Nat.le_refl _, by omega⟩ (fun _ _ h => by rw [h0]; exact h) fun i hi => ?_
 try dsimp only [Ht, Hs, Hr, Hn]
 repeat' (first|refine ae ?_|refine a6 ?_|refine a8 ?_|refine aa ?_|refine ah a7 rfl rfl ?_)
 refine ay rfl (fun h => ?_) (fun h => ?_)
 ·have hil : i < l.length := by have := Hz h; omega
  obtain ⟨x, hx⟩ : ∃ x, l[i]? = some x := ⟨_, Eg hil⟩
  have hdx : D x := hD x (Hx hx)
  have hsucc : dX key (l.take (i + 1)) = to key (dX key (l.take i)) x := by
   unfold dX
   rw [List.take_add_one, hx, List.foldl_append]
   rfl
  have hpl : (dX key (l.take i)).length = i := by rw [(jq _ _).length_eq, List.length_take]; omega
  have hpD : ∀ y ∈ dX key (l.take i), D y := fun y hy => hD y (List.mem_of_mem_take ((jq _ _).mem_iff.1 hy))
  have hdr : l.drop i = x :: l.drop (i + 1) := by
   rw [List.drop_eq_getElem_cons hil]
   congr 1
   rw [Eg hil] at hx
   exact Option.some.inj hx
  have hrl : (l.drop (i + 1)).length = l.length - (i + 1) := List.length_drop ..
  rw [hdr]
  generalize dX key (l.take i) = p at *
  generalize hrest : l.drop (i + 1) = rest at *
  clear h
  repeat' (first|refine ae ?_|refine a6 ?_|refine ar ?_|refine aq ?_|refine a8 ?_|refine aa ?_|refine ah a7 rfl rfl ?_)
  refine aI [0, 1, 2, 3, 8] (α := Nat) (fun j => [(9, aD j)]) (fun j => j ≤ i ∧ nL key x p j = nL key x p p.length) (fun j => [(b, .box (pre ++ (cG (fI p rest x j) ++ post)) 3)]) (fun j => j) i rfl ⟨rfl, trivial⟩ ⟨Nat.le_refl _, by rw [hpl]⟩ (fun _ _ h => by rw [← hpl, zb]; exact h) fun j hj => ?_
  try dsimp only [Ht, Hs, Hr, Hn]
  have hrow : (cG (fI p rest x j)).length = l.length := by rw [dN, kX, hpl, hrl]; omega
  obtain ⟨hji, hins⟩ := hj
  cases j with
  | zero =>
   repeat' (first|refine ae ?_)
   refine bF 17 [(0, .v), (1, .v), (2, .v), (3, .v), (4, .v), (5, .v), (6, .v), (7, .v), (8, .v), (9, .v), (10, .v), (11, .v), (12, .v), (13, .v), (14, .v), (15, .v), (16, .v)] none ?_ trivial rfl (by kernel_rfl) (by kernel_rfl) (by kernel_rfl) mixed (by kernel_rfl) rfl
   repeat' (first|refine aM ?_|refine bD a7 ?_|refine rz rfl rfl ?_)
   refine bM [0, 1, 2, 3, 8, 34] rfl rfl ?_
   repeat' (first|refine a6 ?_|refine aL ?_|refine a8 ?_|refine av ?_|refine aR ?_|refine aA ?_|refine az ?_|refine aa ?_|refine ah a7 rfl rfl ?_|(apply b6; refine aZ ?_)|refine bi rfl ?_)
   have hj1 : nL key x p p.length = 0 := by rw [← hins]; rfl
   refine aF (i + 1) rfl ⟨by rw [Hw]; rfl, trivial⟩ ⟨by omega, by omega⟩ (by omega) (fun _ _ h => ?_)
   rw [hsucc, hrest, ← s9, hj1]
   exact h
  | succ j =>
   obtain ⟨y, hy⟩ : ∃ y, p[j]? = some y := ⟨_, Eg (by omega)⟩
   have hdy : D y := hpD y (Hx hy)
   have g1 : (pre ++ (cG (fI p rest x (j + 1)) ++ post))[pre.length + (j + 1)]? = some (aD x) := by
    rw [uM (by omega)]
    exact rV (uW (by omega))
   have g2 : (pre ++ (cG (fI p rest x (j + 1)) ++ post))[pre.length + j]? = some (aD y) := by
    rw [uM (by omega)]
    exact rV (by rw [tN (by omega)]; exact hy)
   repeat' (first|refine ae ?_)
   refine bF 14 [(0, .v), (1, .v), (2, .v), (3, .v), (4, .v), (5, .v), (6, .v), (7, .v), (8, .l), (9, .v), (10, .v), (11, .v), (12, .v), (13, .l)] none ?_ trivial rfl (by kernel_rfl) (by kernel_rfl) (by kernel_rfl) mixed (by kernel_rfl) rfl
   repeat' (first|refine aM ?_|refine bD a7 ?_|fail)
   rw [decide_eq_true (show (0 : Int) < ((j + 1 : Nat) : Int) by omega)]
   repeat' (first|refine aM ?_|refine bD a7 ?_|fail)
   refine cS a7 rfl rfl rfl ⟨by omega, by omega⟩ (by first | trivial | rfl) ?_
   repeat' (first|refine aM ?_|fail)
   refine kw a7 0 (pre.length + (j + 1)) rfl rfl (by omega) rfl g1 (by first | trivial | rfl) ?_
   repeat' (first|refine aM ?_|refine bD a7 ?_|(apply iM;refine m9 ?_)|fail)
   refine cS a7 rfl rfl rfl ⟨by omega, by omega⟩ (by first | trivial | rfl) ?_
   repeat' (first|refine aM ?_|fail)
   refine kw a7 0 (pre.length + j) rfl rfl (by omega) rfl g2 (by first | trivial | rfl) ?_
   repeat' (first|fail)
   refine bM [0, 1, 2, 3, 8, 9, 21, 22, 26, 31] rfl rfl ?_
   repeat' (first|refine aB rfl rfl ?_)
   refine ji [] [(b, .box (pre ++ (cG (fI p rest x (j + 1)) ++ post)) 3)] (hu x y hdx hdy) rfl rfl (Hp _) rfl rfl fun c L1 ⟨hc, hL⟩ => ?_
   subst hc; subst hL
   repeat' (first|refine a8 ?_|refine aa ?_|refine ah a7 rfl rfl ?_|refine aB rfl rfl ?_)
   refine ay rfl (fun h => ?_) (fun h => ?_)
   ·have hlt : key x < key y := by
     have := Hz h
     unfold pZ at this
     split at this
     ·assumption
     ·split at this <;> omega
    clear h
    repeat' (first|refine ae ?_|refine ar ?_|refine aq ?_|refine a8 ?_)
    refine bF 16 [(0, .v), (1, .v), (2, .v), (3, .v), (4, .v), (5, .v), (6, .v), (7, .v), (8, .v), (9, .l), (10, .v), (11, .v), (12, .v), (13, .l), (14, .v), (15, .e)] none ?_ trivial rfl (by kernel_rfl) (by kernel_rfl) (by kernel_rfl) mixed (by kernel_rfl) rfl
    repeat' (first|refine aM ?_|refine bD a7 ?_|(apply iM;refine m9 ?_)|fail)
    refine cS a7 rfl rfl rfl ⟨by omega, by omega⟩ (by first | trivial | rfl) ?_
    repeat' (first|refine aM ?_|fail)
    refine kw a7 0 (pre.length + j) rfl rfl (by omega) rfl g2 (by first | trivial | rfl) ?_
    repeat' (first|refine aM ?_|refine bD a7 ?_|fail)
    refine cS a7 rfl rfl rfl ⟨by omega, by omega⟩ (by first | trivial | rfl) ?_
    repeat' (first|refine aM ?_|fail)
    refine kw a7 0 (pre.length + (j + 1)) rfl rfl (by omega) rfl g1 (by first | trivial | rfl) ?_
    repeat' (first|refine aM ?_|fail)
    refine cS a7 rfl rfl rfl ⟨by omega, by omega⟩ (by first | trivial | rfl) ?_
    repeat' (first|refine aM ?_|fail)
    refine xN a7 0 (pre.length + (j + 1)) rfl rfl (by omega) rfl rfl rfl (by simp only [List.length_append]; omega) (by first | trivial | rfl) fun _ => ?_
    repeat' (first|fail)
    refine bM [0, 1, 2, 3, 8, 9, 39, 41, 50] rfl rfl ?_
    repeat' (first|(apply aO; first|refine aN a7 ?_|refine aH a7 ?_)|fail)
    refine iX a7 0 (pre.length + j) rfl rfl (by omega) rfl rfl rfl (by simp only [List.length_set, List.length_append]; omega) ?_
    repeat' (first|refine a6 ?_|refine a8 ?_|refine aR ?_|refine aa ?_|refine ah a7 rfl rfl ?_|(apply b6; refine aZ ?_)|fail)
    have hsw : ((pre ++ (cG (fI p rest x (j + 1)) ++ post)).set (pre.length + (j + 1)) (aD y)).set (pre.length + j) (aD x) = pre ++ (cG (fI p rest x j) ++ post) := by
     rw [uN (by omega), rW, uN (by rw [dN, List.length_set, ← dN]; omega), rW, wr hy]
    rw [hsw]
    refine aF j rfl ⟨?_, trivial⟩ ⟨by omega, ?_⟩ (by omega) (fun _ _ h => h)
    ·rw [show ((j + 1 : Nat) : Int) - 1 = (j : Int) by omega]; rfl
    ·rw [← hins, nL, if_pos (by rw [List.getD_eq_getElem?_getD, hy]; exact hlt)]
   ·have hlt : ¬ key x < key y := by
     have := Hy h
     unfold pZ at this
     intro hc
     rw [if_pos hc] at this
     omega
    clear h
    have hj1 : nL key x p p.length = j + 1 := by rw [← hins, nL, if_neg (by rw [List.getD_eq_getElem?_getD, hy]; exact hlt)]
    repeat' (first|refine a6 ?_|refine aL ?_|refine a8 ?_|refine av ?_|refine aR ?_|refine aA ?_|refine az ?_|refine aa ?_|refine ah a7 rfl rfl ?_|(apply b6; refine aZ ?_)|fail)
    refine aF (i + 1) rfl ⟨by rw [Hw]; rfl, trivial⟩ ⟨by omega, by omega⟩ (by omega) (fun _ _ h => ?_)
    rw [hsucc, hrest, ← s9, hj1]
    exact h
 ·have hil : l.length ≤ i := by have := Hy h; omega
  rw [List.take_of_length_le hil, List.drop_of_length_le hil, List.append_nil]
  repeat' (first|refine aL ?_|refine av ?_|refine aA ?_|refine az ?_)
  exact cK rfl rfl
set_option maxRecDepth 8000
theorem nM (v u : AV) (a c : Int) (h : c ≤ a + 1) (ha : 0 ≤ a ∧ a ≤ 1000000) (L : AL) : AC Tryz.prog 228 [v, aD a, aD c, u] L fun _ L' => L' = L := by
 refine aG Tryz.func228 rfl Tryz.ntmps228 rfl fun B => ?_
 repeat' (first|refine ae ?_|refine a6 ?_|refine ar ?_|refine a8 ?_|refine aa ?_|refine ah a7 rfl rfl ?_|(apply b6; refine aZ ?_)|fail)
 refine aI [0, 1, 2, 3] (α := Unit) (fun _ => [(8, aD (a + 1))]) (fun _ => True) (fun _ => L) (fun _ => 0) () rfl ⟨rfl, trivial⟩ trivial (fun _ _ h => h) fun _ _ => ?_
 try dsimp only [Ht, Hs, Hr, Hn]
 repeat' (first|refine ae ?_|refine a6 ?_|refine a8 ?_|refine aa ?_|refine ah a7 rfl rfl ?_)
 refine ay rfl (fun h => by have := Hz h; omega) (fun _ => ?_)
 repeat' (first|refine aL ?_|refine av ?_|refine aA ?_|refine az ?_)
 exact cK rfl rfl
set_option maxHeartbeats 4000000 in
theorem wI (g : FuncId) (caps : List AV) (key : Nat → Int) (D : Nat → Prop) (hu : wW (.fn g caps) key D) (b cap : Nat) (pre post : List AV) (l : List Nat) (hD : ∀ x ∈ l, D x) (hl : l.length ≤ 20) :
  AC Tryz.prog 147 [.sc (.slice (some ⟨b, pre.length, none⟩) l.length cap), aD l.length, .fn g caps] [(b, .box (pre ++ (cG l ++ post)) 3)] fun _ L => L = [(b, .box (pre ++ (cG (dX key l) ++ post)) 3)] := by
 refine aG Tryz.func147 rfl Tryz.ntmps147 rfl fun B => ?_
 have hins := vZ g caps key D hu b cap pre post l hD (by omega)
 repeat' (first|refine ae ?_|refine a6 ?_|refine ar ?_|refine a8 ?_|refine aa ?_|refine ah a7 rfl rfl ?_)
 refine aI [0, 1, 2, 6] (α := Bool) (fun k => [(7, aD (if k then 20 else 0)), (8, aD (if k then 40 else 20))]) (fun k => k = true → l.length = 20) (fun k => [(b, .box (pre ++ (cG (if k then dX key l else l) ++ post)) 3)]) (fun k => if k then 0 else 1) false rfl ⟨rfl, rfl, trivial⟩ (fun h => by cases h) (fun _ _ h => h) fun k hk => ?_
 try dsimp only [Ht, Hs, Hr, Hn]
 repeat' (first|refine ae ?_|refine a6 ?_|refine a8 ?_|refine aa ?_|refine ah a7 rfl rfl ?_)
 cases k with
 | false =>
  simp only [Bool.false_eq_true, if_false]
  repeat' (first|fail)
  refine ay rfl (fun h => ?_) (fun h => ?_)
  ·have hn : l.length = 20 := by have := Hz h; omega
   clear h
   rw [show ((l.length : Nat) : Int) = 20 by omega] at hins
   repeat' (first|refine ae ?_|refine a6 ?_|refine ar ?_|refine aq ?_|refine a8 ?_|refine ah a7 rfl rfl ?_)
   refine aV [(b, .box (pre ++ (cG l ++ post)) 3)] [] hins rfl rfl (Hp _) rfl fun c L1 hL => ?_
   subst hL
   repeat' (first|refine ae ?_|refine a6 ?_|refine a8 ?_|refine aR ?_|refine aa ?_|refine ah a7 rfl rfl ?_|(apply b6; refine aZ ?_)|fail)
   exact aF true rfl ⟨rfl, rfl, trivial⟩ (fun _ => hn) (by decide) (fun _ _ h => h)
  ·have hn : ¬ (20 : Int) ≤ l.length := Hy h
   repeat' (first|refine ae ?_|refine a6 ?_|refine aL ?_|refine a8 ?_|refine av ?_|refine aA ?_|refine az ?_|refine ah a7 rfl rfl ?_)
   refine aV [(b, .box (pre ++ (cG l ++ post)) 3)] [] hins rfl rfl (Hp _) rfl fun c L1 hL => ?_
   subst hL
   repeat' (first|refine ar ?_|refine a8 ?_|refine aa ?_)
   refine aI [0, 1, 2] (α := Unit) (fun _ => [(6, aD 20)]) (fun _ => True) (fun _ => [(b, .box (pre ++ (cG (dX key l) ++ post)) 3)]) (fun _ => 0) () rfl ⟨rfl, trivial⟩ trivial (fun _ _ h => h) fun _ _ => ?_
   try dsimp only [Ht, Hs, Hr, Hn]
   repeat' (first|refine ae ?_|refine a6 ?_|refine a8 ?_|refine aa ?_|refine ah a7 rfl rfl ?_)
   refine ay rfl (fun h => by have := Hz h; omega) (fun _ => ?_)
   repeat' (first|refine aL ?_|refine av ?_|refine aA ?_|refine az ?_)
   exact cK rfl rfl
 | true =>
  have hn := hk rfl
  simp only [if_true]
  repeat' (first|fail)
  refine ay rfl (fun h => by have := Hz h; omega) (fun _ => ?_)
  repeat' (first|refine ae ?_|refine a6 ?_|refine aL ?_|refine a8 ?_|refine av ?_|refine aA ?_|refine az ?_|refine ah a7 rfl rfl ?_)
  refine aV [(b, .box (pre ++ (cG (dX key l) ++ post)) 3)] [] (nM _ _ 20 l.length (by omega) (by omega) _) rfl rfl (Hp _) rfl fun c L1 hL => ?_
  subst hL
  repeat' (first|refine ar ?_|refine a8 ?_|refine aa ?_)
  refine aI [0, 1, 2] (α := Unit) (fun _ => [(6, aD 20)]) (fun _ => True) (fun _ => [(b, .box (pre ++ (cG (dX key l) ++ post)) 3)]) (fun _ => 0) () rfl ⟨rfl, trivial⟩ trivial (fun _ _ h => h) fun _ _ => ?_
  try dsimp only [Ht, Hs, Hr, Hn]
  repeat' (first|refine ae ?_|refine a6 ?_|refine a8 ?_|refine aa ?_|refine ah a7 rfl rfl ?_)
  refine ay rfl (fun h => by have := Hz h; omega) (fun _ => ?_)
  repeat' (first|refine aL ?_|refine av ?_|refine aA ?_|refine az ?_)
  exact cK rfl rfl
theorem jI (g : FuncId) (caps : List AV) (key : Nat → Int) (D : Nat → Prop) (hu : wW (.fn g caps) key D) (b cap : Nat) (pre post : List AV) (l : List Nat) (hD : ∀ x ∈ l, D x) (hl : l.length ≤ 20) :
  AC Tryz.prog 65 [.sc (.slice (some ⟨b, pre.length, none⟩) l.length cap), .fn g caps] [(b, .box (pre ++ (cG l ++ post)) 3)] fun _ L => L = [(b, .box (pre ++ (cG (dX key l) ++ post)) 3)] := by
 refine aG Tryz.func65 rfl Tryz.ntmps65 rfl fun B => ?_
 repeat' (first|refine a6 ?_|refine ah a7 rfl rfl ?_)
 refine aV [(b, .box (pre ++ (cG l ++ post)) 3)] [] (wI g caps key D hu b cap pre post l hD hl) rfl rfl (Hp _) rfl fun c L1 hL => ?_
 subst hL
 repeat' (first|refine aa ?_)
 exact cK rfl rfl
set_option maxRecDepth 8000
theorem tl (rs : List Int) : bw Tryz.prog 39 [.imm 1 (aT rs)] (.fn 64 [.iptr [.imm 1 (aT rs)]]) := by
 refine aG Tryz.func39 rfl Tryz.ntmps39 rfl fun B => ?_
 repeat' (first|refine ae ?_|refine a6 ?_|refine am ?_|refine a8 ?_|refine aa ?_|refine ah a7 rfl rfl ?_|refine b9 ?_|fail)
 exact au rfl rfl rfl
instance (rs : List Int) : AD Tryz.prog 39 [.imm 1 (aT rs)] (.fn 64 [.iptr [.imm 1 (aT rs)]]) := ⟨tl rs⟩
theorem pa {α : Type} {l : List α} {k : Nat} {x : α} {r : List α} (h : l.drop k = x :: r) : l[k]? = some x ∧ l.drop (k + 1) = r := by
 have h1 : (l.drop k)[0]? = some x := by rw [h]; rfl
 rw [List.getElem?_drop, Nat.add_zero] at h1
 refine ⟨h1, ?_⟩
 rw [← List.drop_drop, h]
 rfl
set_option maxHeartbeats 4000000 in
theorem y2 {α : Type} {σ0 : bT} {l : Nat} (rs : List Int) (hr : rs.length ≤ 1000000) (E : α → AL) (J : Nat → α → Prop) (hy : ∀ (k : Nat) x (g : Nat × Nat), J k x → (cU rs)[k]? = some g → AY Tryz.prog σ0 l [.agg [aD g.1, aD g.2]] (E x) fun c L => c = ce true ∧ ∃ x', J (k + 1) x' ∧ L = E x') (x0 : α) (h0 : J 0 x0) :
  C5 Tryz.prog σ0 64 [.sc (.func (.yield l) #[] #[]), .iptr [.imm 1 (aT rs)]] (E x0) fun _ L => ∃ x, J (cU rs).length x ∧ L = E x := by
 refine sG Tryz.func64 rfl Tryz.ntmps64 rfl fun B hB => ?_
 have hil := bg rs
 repeat' (first|refine ae ?_|refine a6 ?_|refine ar ?_|refine a8 ?_|refine aa ?_|refine ah a7 rfl rfl ?_)
 refine aI [0, 1, 6, 7] (α := Nat × Nat × Nat × α) (fun y => [(3, aD y.2.1), (8, aD y.1)]) (fun y => y.1 ≤ rs.length ∧ y.2.1 ≤ y.1 ∧ iz rs (rs.length - y.1) y.2.1 y.1 = (cU rs).drop y.2.2.1 ∧ y.2.2.1 ≤ (cU rs).length ∧ J y.2.2.1 y.2.2.2) (fun y => E y.2.2.2) (fun y => rs.length - y.1) (0, 0, 0, x0) rfl ⟨rfl, rfl, trivial⟩ ⟨Nat.zero_le _, Nat.le_refl _, rfl, Nat.zero_le _, h0⟩ (fun _ _ h => h) ?_
 rintro ⟨i, a, k, x⟩ ⟨hi, ha, hg, hkk, hj⟩
 dsimp only at hi ha hg hkk hj ⊢
 try dsimp only [Ht, Hs, Hr, Hn]
 repeat' (first|refine ae ?_|refine a6 ?_|refine a8 ?_|refine aa ?_|refine ah a7 rfl rfl ?_)
 refine ay rfl (fun h => ?_) (fun h => ?_)
 ·have hil2 : i < rs.length := by have := Hz h; omega
  have h1 := bU (e8 hil2)
  rw [show rs.length - i = (rs.length - (i + 1)) + 1 by omega, iz] at hg
  clear h
  repeat' (first|refine ae ?_|refine a6 ?_|refine ar ?_|refine aq ?_|refine a8 ?_|refine aa ?_|refine ah a7 rfl rfl ?_|(apply aO; first|refine aN a7 ?_|refine aH a7 ?_)|fail)
  refine co [0, 1, 3, 4, 6, 7, 8] (i = a ∨ cq (rs.getD i 0) = 3) rfl (fun Q' K => ?_) (fun hC => ?_) (fun hC => ?_)
  ·repeat' (first|refine aa ?_|refine ah a7 rfl rfl ?_|refine aB rfl rfl ?_|refine aE rfl rfl rfl rfl ?_|(apply bc;refine aX ?_)|refine aU rfl rfl rfl (fun _ => ?_) (fun _ => ?_))
   all_goals exact K _ _ rfl rfl (by simp_all <;> omega)
  ·rw [if_pos hC] at hg
   repeat' (first|refine a6 ?_|refine aL ?_|refine a8 ?_|refine av ?_|refine aA ?_|refine aa ?_|refine ah a7 rfl rfl ?_|(apply b6; refine aZ ?_)|fail)
   exact aF (i + 1, a, k, x) rfl ⟨rfl, by rw [Hw]; rfl, trivial⟩ ⟨by dsimp only; omega, by dsimp only; omega, hg, hkk, hj⟩ (by dsimp only; omega) (fun _ _ h => h)
  ·rw [if_neg hC] at hg
   obtain ⟨hk1, hk2⟩ := pa hg.symm
   repeat' (first|refine ae ?_|refine a6 ?_|refine aq ?_|refine a8 ?_|refine ah a7 rfl rfl ?_)
   refine mS (E x) [] hB (hy k x (a, i) hj hk1) rfl rfl rfl (by rw [List.append_nil]) rfl rfl fun c L1 ⟨hc, x', hj', hL⟩ => ?_
   subst hc; subst hL
   rw [List.append_nil]
   repeat' (first|refine a6 ?_|refine aq ?_|refine a8 ?_|refine aR ?_|refine aa ?_|refine ah a7 rfl rfl ?_|(apply b6; refine aZ ?_)|refine bi rfl ?_)
   exact aF (i + 1, i, k + 1, x') rfl ⟨rfl, by rw [Hw]; rfl, trivial⟩ ⟨by dsimp only; omega, by dsimp only; omega, hk2.symm, (Hq hk1).1, hj'⟩ (by dsimp only; omega) (fun _ _ h => h)
 ·have hil2 : i = rs.length := by have := Hy h; omega
  subst hil2
  rw [Nat.sub_self, iz] at hg
  clear h
  repeat' (first|refine ae ?_|refine a6 ?_|refine aL ?_|refine a8 ?_|refine av ?_|refine aA ?_|refine az ?_|refine aa ?_|refine ah a7 rfl rfl ?_)
  refine ay rfl (fun h => ?_) (fun h => ?_)
  ·have hlt : a < rs.length := by have := Hz h; omega
   rw [if_pos hlt] at hg
   obtain ⟨hk1, hk2⟩ := pa hg.symm
   have hkl : (cU rs).length = k + 1 := by
    have h2 := congrArg List.length hk2
    have h3 := (Hq hk1).1
    rw [List.length_drop, List.length_nil] at h2
    omega
   clear h
   repeat' (first|refine a6 ?_|refine ah a7 rfl rfl ?_)
   rw [hil]
   refine mS (E x) [] hB (hy k x (a, rs.length) hj hk1) rfl rfl rfl (by rw [List.append_nil]) rfl rfl fun c L1 ⟨hc, x', hj', hL⟩ => ?_
   subst hc; subst hL
   rw [List.append_nil]
   repeat' (first|refine aa ?_)
   exact cK rfl ⟨x', by rw [hkl]; exact hj', rfl⟩
  ·have hlt : ¬ a < rs.length := by have := Hy h; omega
   rw [if_neg hlt] at hg
   have hkl : (cU rs).length ≤ k := by
    have := congrArg List.length hg
    rw [List.length_drop] at this
    simp at this
    omega
   have hkl : (cU rs).length = k := by omega
   repeat' (first|refine aq ?_)
   exact cK rfl ⟨x, by rw [hkl]; exact hj, rfl⟩
theorem tV (g : FuncId) (caps : List AV) (a : Option Addr) (cap : Nat) (L : AL) : AC Tryz.prog 147 [.sc (.slice a 0 cap), aD 0, .fn g caps] L fun _ L' => L' = L := by
 refine aG Tryz.func147 rfl Tryz.ntmps147 rfl fun B => ?_
 repeat' (first|refine ae ?_|refine a6 ?_|refine ar ?_|refine a8 ?_|refine aa ?_|refine ah a7 rfl rfl ?_)
 refine aI [0, 1, 2, 6] (α := Unit) (fun _ => [(7, aD 0), (8, aD 20)]) (fun _ => True) (fun _ => L) (fun _ => 0) () rfl ⟨rfl, rfl, trivial⟩ trivial (fun _ _ h => h) fun _ _ => ?_
 try dsimp only [Ht, Hs, Hr, Hn]
 repeat' (first|refine ae ?_|refine a6 ?_|refine aL ?_|refine a8 ?_|refine av ?_|refine aA ?_|refine az ?_|refine aa ?_|refine ah a7 rfl rfl ?_|refine bi rfl ?_)
 refine aV L [] (nM _ _ 0 0 (by omega) (by omega) L) rfl rfl (by rw [List.append_nil]) rfl fun c L1 hL => ?_
 subst hL
 rw [List.append_nil]
 repeat' (first|refine ar ?_|refine a8 ?_|refine aa ?_)
 refine aI [0, 1, 2] (α := Unit) (fun _ => [(6, aD 20)]) (fun _ => True) (fun _ => L1) (fun _ => 0) () rfl ⟨rfl, trivial⟩ trivial (fun _ _ h => h) fun _ _ => ?_
 try dsimp only [Ht, Hs, Hr, Hn]
 repeat' (first|refine ae ?_|refine a6 ?_|refine aL ?_|refine a8 ?_|refine av ?_|refine aA ?_|refine az ?_|refine aa ?_|refine ah a7 rfl rfl ?_|refine bi rfl ?_)
 exact cK rfl rfl
theorem j3 (g : FuncId) (caps : List AV) (a : Option Addr) (cap : Nat) (L : AL) : AC Tryz.prog 65 [.sc (.slice a 0 cap), .fn g caps] L fun _ L' => L' = L := by
 refine aG Tryz.func65 rfl Tryz.ntmps65 rfl fun B => ?_
 repeat' (first|refine a6 ?_|refine ah a7 rfl rfl ?_)
 refine aV L [] (tV _ _ _ _ L) rfl rfl (by rw [List.append_nil]) rfl fun c L1 hL => ?_
 subst hL
 repeat' (first|refine aa ?_)
 exact cK rfl (List.append_nil _)
def n3 (o : List Nat) (cs : List AV) : Prop := cs.take o.length = cG o ∧ o.length ≤ cs.length
theorem iY (a b : List Nat) : cG (a ++ b) = cG a ++ cG b := by simp [cG]
theorem n3.split {o : List Nat} {cs : List AV} (h : n3 o cs) : cs = cG o ++ cs.drop o.length := by
 rw [← h.1, List.take_append_drop]
theorem qy {o : List Nat} {cs : List AV} : n3 o (cG o ++ cs) := by
 refine ⟨?_, by rw [List.length_append, dN]; omega⟩
 rw [← dN o, List.take_left']
 rfl
def zP (rs : List Int) (g : Nat × Nat) : Nat := if g.1 < g.2 ∧ cq (rs.getD g.1 0) ≠ 3 then g.2 - (g.1 + 1) else g.2 - g.1
def zn (b n : Nat) (o : List Nat) (c : AV) (L : AL) : Prop := ∃ cs, n3 o cs ∧ cs.length = n ∧ c = .sc (.slice (some ⟨b, 0, none⟩) o.length n) ∧ L = [(b, .box cs 3)]
set_option maxHeartbeats 8000000 in
theorem qK (rs : List Int) (b0 : Nat) (cs0 : List AV) (o : List Nat) (g : Nat × Nat) (hg1 : g.1 ≤ g.2) (hg2 : g.2 ≤ rs.length) (hm : zP rs g ≤ 20) (ho : n3 o cs0) (hol : o.length + (g.2 - g.1) ≤ cs0.length) (hrl : cs0.length ≤ 1000000) (hrs : rs.length ≤ 1000000) :
  AC Tryz.prog 41 [.sc (.slice (some ⟨b0, 0, none⟩) o.length cs0.length), .imm 1 (aT rs), .agg [aD g.1, aD g.2]] [(b0, .box cs0 3)] (zn b0 cs0.length (o ++ cn rs g)) := by
 obtain ⟨a, c⟩ := g
 dsimp only at hg1 hg2 hm hol ⊢
 generalize hcap : cs0.length = cap at *
 refine aG Tryz.func41 rfl Tryz.ntmps41 rfl fun B => ?_
 repeat' (first|refine ae ?_|refine a6 ?_|refine ar ?_|refine a8 ?_|refine aa ?_|refine ah a7 rfl rfl ?_|refine b9 ?_|fail)
 refine aI [4, 5, 7] (α := Nat × List AV) (fun s => [(0, .sc (.slice (some ⟨b0, 0, none⟩) (o.length + s.1) cap)), (8, aD ((a + s.1 : Nat) : Int))]) (fun s => s.1 ≤ c - a ∧ n3 (o ++ List.range' a s.1) s.2 ∧ s.2.length = cap) (fun s => [(b0, .box s.2 3)]) (fun s => c - a - s.1) (0, cs0) rfl ⟨rfl, rfl, trivial⟩ ⟨Nat.zero_le _, by simpa using ho, hcap⟩ (fun _ _ h => h) ?_
 clear ho hcap
 rintro ⟨k, cs⟩ ⟨hk, hP, hcap⟩
 dsimp only at hk hP hcap ⊢
 have hPl := hP.2
 rw [List.length_append, List.length_range'] at hPl
 try dsimp only [Ht, Hs, Hr, Hn]
 repeat' (first|refine ae ?_|refine a6 ?_|refine a8 ?_|refine aa ?_|refine ah a7 rfl rfl ?_)
 refine ay rfl (fun h => ?_) (fun h => ?_)
 ·have hkc : a + k < c := by have := Hz h; omega
  clear h
  repeat' (first|refine ae ?_|refine a6 ?_|refine ar ?_|refine aq ?_|refine a8 ?_|refine ah a7 rfl rfl ?_|refine cE a7 ?_|fail)
  refine pA a7 0 rfl rfl rfl rfl (eW rfl rfl) rfl (by omega) (by omega) (by unfold maxLen; omega) (by simp only [List.length_cons, List.length_nil]; unfold maxLen; omega) (by simp only [List.length_cons, List.length_nil]; omega) rfl fun b' cs' cap' e1 e2 e3 e4 e5 => ?_
  obtain ⟨rfl, rfl, h1⟩ := e5 (by simp only [List.length_cons, List.length_nil]; omega)
  clear e1 e2 e3 e4 e5
  have hn1 : (o ++ List.range' a (k + 1)).length = o.length + k + 1 := by rw [List.length_append, List.length_range']; omega
  have hcs : cs' = cG (o ++ List.range' a (k + 1)) ++ cs.drop (o.length + k + 1) := by
   rw [h1]
   have h3 := hP.1
   rw [List.length_append, List.length_range'] at h3
   simp only [List.length_cons, List.length_nil, Nat.mul_one]
   rw [h3, List.range'_1_concat, ← List.append_assoc, iY (o ++ _) [a + k]]
   rfl
  clear h1
  subst hcs
  repeat' (first|refine a6 ?_|refine a8 ?_|refine aR ?_|refine aa ?_|refine ah a7 rfl rfl ?_|(apply b6; refine aZ ?_)|fail)
  refine aF (k + 1, cG (o ++ List.range' a (k + 1)) ++ cs.drop (o.length + k + 1)) rfl ⟨rfl, by rw [show a + (k + 1) = (a + k) + 1 by omega, Hw]; rfl, trivial⟩ ⟨by dsimp only; omega, qy, ?_⟩ (by dsimp only; omega) (fun _ _ h => h)
  dsimp only
  rw [List.length_append, dN, hn1, List.length_drop]
  omega
 ·have hkc : k = c - a := by have := Hy h; omega
  subst hkc
  clear h
  repeat' (first|refine ae ?_|refine a6 ?_|refine aL ?_|refine a8 ?_|refine av ?_|refine aA ?_|refine az ?_|refine ah a7 rfl rfl ?_)
  subst hcap
  refine rS a7 o.length rfl rfl rfl rfl (by omega) (by omega) rfl ?_
  rw [Nat.add_sub_cancel_left]
  repeat' (first|refine ae ?_|refine a6 ?_|refine a8 ?_|refine aa ?_|refine ah a7 rfl rfl ?_)
  by_cases hac : a < c
  ·have hg := bU (e8 (show a < rs.length by omega))
   rw [if_neg (by omega), show 0 + o.length * 1 = o.length by omega, decide_eq_true (show (0 : Int) < ((c - a : Nat) : Int) by omega)]
   have hcs := hP.split
   rw [List.length_append, List.length_range'] at hcs
   generalize cs.drop (o.length + (c - a)) = post at hcs
   subst hcs
   repeat' (first|refine a8 ?_|refine aa ?_|refine ah a7 rfl rfl ?_|refine aB rfl rfl ?_|(apply aO; first|refine aN a7 ?_|refine aH a7 ?_)|(apply bc;refine aX ?_)|fail)
   refine ay rfl (fun h => ?_) (fun h => ?_)
   ·have hk3 : cq (rs.getD a 0) ≠ 3 := Hz h
    have hmk : c - (a + 1) ≤ 20 := by unfold zP at hm; rwa [if_pos ⟨hac, hk3⟩] at hm
    clear h
    repeat' (first|refine a6 ?_|refine ah a7 rfl rfl ?_)
    refine rS a7 1 rfl rfl rfl rfl (by omega) (by omega) rfl ?_
    have hpl : cn rs (a, c) = a :: dX (jz rs) (List.range' (a + 1) (c - (a + 1))) := by
     unfold cn
     rw [if_pos ⟨hac, hk3⟩]
    have hsp := kV hac
    rw [hsp] at hP hPl ⊢
    have hlen : (cG (o ++ a :: List.range' (a + 1) (c - (a + 1))) ++ post).length = o.length + (c - a) + post.length := by
     rw [List.length_append, dN, List.length_append, List.length_cons, List.length_range']
     omega
    have hcell : cG (o ++ a :: List.range' (a + 1) (c - (a + 1))) ++ post = cG (o ++ [a]) ++ (cG (List.range' (a + 1) (c - (a + 1))) ++ post) := by
     rw [← List.append_assoc, ← iY, List.append_assoc]
     rfl
    by_cases h1 : c = a + 1
    ·subst h1
     rw [show a + 1 - a - 1 = 0 by omega]
     rw [show a + 1 - (a + 1) = 0 by omega] at *
     repeat' (first|refine ae ?_|refine a6 ?_|refine a8 ?_|refine aa ?_|refine ah a7 rfl rfl ?_)
     refine aV [(b0, .box (cG (o ++ a :: List.range' (a + 1) 0) ++ post) 3)] [] (j3 66 [.iptr [.imm 1 (aT rs)]] _ _ _) rfl rfl (Hp _) rfl fun c1 L1 hL => ?_
     subst hL
     repeat' (first|refine ae ?_|refine a6 ?_|refine am ?_|refine a8 ?_|refine aa ?_|refine ah a7 rfl rfl ?_)
     refine au rfl rfl ⟨_, ?_, rfl, ?_, rfl⟩
     ·rw [hpl]; exact hP
     ·rw [hpl]; simp [dX]
    ·have hl2 : (List.range' (a + 1) (c - (a + 1))).length = c - (a + 1) := List.length_range' ..
     have hpre : (cG (o ++ [a])).length = o.length + 1 := by rw [dN, List.length_append]; rfl
     have hsort := jI 66 [.iptr [.imm 1 (aT rs)]] (jz rs) (fun x => x < rs.length) (fun x y hx hy => gk.fn (uq rs x y hx hy).nil) b0 ((cG (o ++ a :: List.range' (a + 1) (c - (a + 1))) ++ post).length - o.length - 1) (cG (o ++ [a])) post (List.range' (a + 1) (c - (a + 1))) (fun x hx => by rw [List.mem_range'_1] at hx; omega) (by omega)
     rw [← hcell, hl2, hpre] at hsort
     rw [if_neg (by omega), show o.length + 1 * 1 = o.length + 1 by omega, show c - a - 1 = c - (a + 1) by omega]
     repeat' (first|refine ae ?_|refine a6 ?_|refine a8 ?_|refine aa ?_|refine ah a7 rfl rfl ?_)
     refine aV [(b0, .box (cG (o ++ a :: List.range' (a + 1) (c - (a + 1))) ++ post) 3)] [] hsort rfl rfl (Hp _) rfl fun c1 L1 hL => ?_
     subst hL
     repeat' (first|refine ae ?_|refine a6 ?_|refine am ?_|refine a8 ?_|refine aa ?_|refine ah a7 rfl rfl ?_)
     have hfin : cG (o ++ [a]) ++ (cG (dX (jz rs) (List.range' (a + 1) (c - (a + 1)))) ++ post) = cG (o ++ cn rs (a, c)) ++ post := by
      rw [hpl, ← List.append_assoc, ← iY, List.append_assoc]
      rfl
     rw [hfin]
     refine au rfl rfl ⟨_, qy, ?_, ?_, rfl⟩
     ·rw [hlen, List.length_append, dN, List.length_append, dK]
     ·rw [show (o ++ cn rs (a, c)).length = o.length + (c - a) by rw [List.length_append, dK]]
   ·have hk3 : cq (rs.getD a 0) = 3 := Decidable.not_not.1 (Hy h)
    have hmk : c - a ≤ 20 := by unfold zP at hm; rwa [if_neg (fun hc => hc.2 hk3)] at hm
    clear h
    have hpl : cn rs (a, c) = dX (jz rs) (List.range' a (c - a)) := by
     unfold cn
     rw [if_neg (fun hc => hc.2 hk3)]
    have hcell : cG (o ++ List.range' a (c - a)) ++ post = cG o ++ (cG (List.range' a (c - a)) ++ post) := by
     rw [iY, List.append_assoc]
    have hl2 : (List.range' a (c - a)).length = c - a := List.length_range' ..
    have hsort := jI 66 [.iptr [.imm 1 (aT rs)]] (jz rs) (fun x => x < rs.length) (fun x y hx hy => gk.fn (uq rs x y hx hy).nil) b0 ((cG (o ++ List.range' a (c - a)) ++ post).length - o.length) (cG o) post (List.range' a (c - a)) (fun x hx => by rw [List.mem_range'_1] at hx; omega) (by omega)
    rw [← hcell, hl2, dN o] at hsort
    repeat' (first|refine ae ?_|refine a6 ?_|refine aq ?_|refine a8 ?_|refine ah a7 rfl rfl ?_)
    refine aV [(b0, .box (cG (o ++ List.range' a (c - a)) ++ post) 3)] [] hsort rfl rfl (Hp _) rfl fun c1 L1 hL => ?_
    subst hL
    repeat' (first|refine ae ?_|refine a6 ?_|refine am ?_|refine a8 ?_|refine aa ?_|refine ah a7 rfl rfl ?_)
    have hfin : cG o ++ (cG (dX (jz rs) (List.range' a (c - a))) ++ post) = cG (o ++ cn rs (a, c)) ++ post := by
     rw [hpl, iY, List.append_assoc]
    rw [hfin]
    refine au rfl rfl ⟨_, qy, ?_, ?_, rfl⟩
    ·rw [List.length_append, dN, List.length_append, dK, List.length_append, dN, List.length_append, List.length_range']
    ·rw [show (o ++ cn rs (a, c)).length = o.length + (c - a) by rw [List.length_append, dK]]
  ·have hpl : cn rs (a, c) = [] := List.length_eq_zero_iff.1 (by rw [dK]; dsimp only; omega)
   rw [show c - a = 0 by omega] at *
   repeat' (first|refine ae ?_|refine a6 ?_|refine aq ?_|refine a8 ?_|refine aa ?_|refine ah a7 rfl rfl ?_|refine aE rfl rfl rfl rfl ?_|refine bi rfl ?_)
   refine aV [(b0, .box cs 3)] [] (j3 66 [.iptr [.imm 1 (aT rs)]] _ _ _) rfl rfl (Hp _) rfl fun c1 L1 hL => ?_
   subst hL
   repeat' (first|refine ae ?_|refine a6 ?_|refine am ?_|refine a8 ?_|refine aa ?_|refine ah a7 rfl rfl ?_)
   refine au rfl rfl ⟨cs, ?_, rfl, ?_, rfl⟩
   ·rw [hpl]; exact hP
   ·rw [hpl, List.append_nil]; rfl
end Go.Proofs.YtamjlkdanllgjaaGreatDoor
