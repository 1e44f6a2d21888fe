/-
  Numbers in a line, each behind what it needs.
-/
import Derived.Test.YtamjlkdanllgjaaGreatDoorM15
import Derived.Test.YtamjlkdanllgjaaGreatDoorM10
namespace Go.Proofs.YtamjlkdanllgjaaGreatDoor
def ca (n : Nat) : List Int := (List.range n).map fun (i : Nat) => (i : Int)
theorem e9 {n : Nat} {z : Int} : z ∈ ca n ↔ 0 ≤ z ∧ z < n := by
 simp only [ca, List.mem_map, List.mem_range]
 constructor
 ·rintro ⟨i, hi, rfl⟩; omega
 ·rintro ⟨h0, h1⟩; exact ⟨z.toNat, by omega, by omega⟩
theorem it (n : Nat) : (ca n).Nodup := by
 unfold ca List.Nodup
 rw [List.pairwise_map]
 exact List.nodup_range.imp fun h e => h (by omega)
theorem dP (n : Nat) : (ca n).length = n := by simp [ca]
theorem gS {n i : Nat} (h : i < n) : (ca n)[i]? = some (i : Int) := by simp [ca, h]
theorem pO (n : Nat) : ca (n + 1) = ca n ++ [(n : Int)] := by
 unfold ca
 rw [List.range_succ, List.map_append]
 rfl
def c5 (pr : Int → List Int) (gs : List Int) (z : Int) : List Int := gs.flatMap fun g => ((pr g).filter fun p => decide (p = z)).map fun _ => g
theorem jJ (pr : Int → List Int) (z g : Int) : ∀ gs : List Int, gs.Nodup → (c5 pr gs z).count g = if g ∈ gs then (pr g).count z else 0
 | [], _ => by simp [c5]
 | y :: gs, h => by
  have h' := List.nodup_cons.1 h
  have ih := jJ pr z g gs h'.2
  unfold c5 at ih ⊢
  rw [List.flatMap_cons, List.count_append, ih]
  by_cases e : y = g
  ·subst e
   rw [if_pos (List.mem_cons_self ..), if_neg h'.1, List.map_const', List.count_replicate_self, Nat.add_zero, List.count_eq_countP, List.countP_eq_length_filter]
   rfl
  ·rw [List.map_const', List.count_replicate, if_neg (by simpa using e), Nat.zero_add]
   by_cases hm : g ∈ gs
   ·rw [if_pos hm, if_pos (Hu _ hm)]
   ·rw [if_neg hm, if_neg (by simp [hm]; exact fun h => e h.symm)]
def jD (pr : Int → List Int) (T : List Int) (g : Int) : Nat := ((pr g).filter fun p => decide (p ∉ T)).length
theorem nY (pr : Int → List Int) {T : List Int} {x : Int} (hx : x ∉ T) (g : Int) : jD pr (T ++ [x]) g + (pr g).count x = jD pr T g := by
 unfold jD
 induction pr g with
 | nil => rfl
 | cons p l ih =>
  rw [List.filter_cons, List.filter_cons, List.count_cons]
  by_cases e : p = x
  ·subst e
   rw [if_neg (by simp), if_pos (decide_eq_true hx)]
   rw [if_pos (by simp), List.length_cons]
   omega
  ·have e1 : decide (p ∉ T ++ [x]) = decide (p ∉ T) := by simp [e]
   rw [e1]
   have e2 : (p == x) = false := by simpa using e
   rw [e2]
   simp only [Bool.false_eq_true, if_false]
   split
   ·simp only [List.length_cons]; omega
   ·omega
theorem nZ {pr : Int → List Int} {T : List Int} {g : Int} : jD pr T g = 0 ↔ ∀ p ∈ pr g, p ∈ T := by
 unfold jD
 rw [List.length_eq_zero_iff, List.filter_eq_nil_iff]
 simp
def vh (pr : Int → List Int) (T : List Int) : Prop := ∀ (i : Nat) (x : Int), T[i]? = some x → ∀ p ∈ pr x, p ∈ T.take i
theorem vh.snoc {pr : Int → List Int} {T : List Int} {x : Int} (h : vh pr T) (hx : ∀ p ∈ pr x, p ∈ T) : vh pr (T ++ [x]) := by
 intro i y hy p hp
 by_cases hi : i < T.length
 ·rw [List.getElem?_append_left hi] at hy
  rw [List.take_append_of_le_length (by omega)]
  exact h i y hy p hp
 ·rw [List.getElem?_append_right (by omega)] at hy
  have hil : i - T.length = 0 := by
   rcases Nat.eq_zero_or_pos (i - T.length) with h0 | h0
   ·exact h0
   ·rw [List.getElem?_eq_none (by simp; omega)] at hy; cases hy
  rw [hil] at hy
  simp at hy
  subst hy
  rw [show i = T.length by omega, List.take_left]
  exact hx p hp
structure ld (n : Nat) (pr : Int → List Int) (T R : List Int) (M : Int → Int) : Prop where
 nodup : (T ++ R).Nodup
 dom : ∀ z ∈ T ++ R, 0 ≤ z ∧ z < n
 miss : ∀ g : Int, 0 ≤ g → g < n → M g = jD pr T g
 ready : ∀ g : Int, 0 ≤ g → g < n → (g ∈ T ++ R ↔ M g = 0)
 topo : vh pr T
structure oH (n : Nat) (pr : Int → List Int) (T : List Int) (x : Int) (us : List Int) (R : List Int) (M : Int → Int) : Prop where
 nodup : (T ++ [x] ++ R).Nodup
 dom : ∀ z ∈ T ++ [x] ++ R, 0 ≤ z ∧ z < n
 miss : ∀ g : Int, 0 ≤ g → g < n → M g + us.count g = jD pr T g
 ready : ∀ g : Int, 0 ≤ g → g < n → (g ∈ T ++ [x] ++ R ↔ M g = 0)
 topo : vh pr (T ++ [x])
theorem ld.perm {n : Nat} {pr : Int → List Int} {T R R' : List Int} {M : Int → Int} (h : ld n pr T R M) (hp : R'.Perm R) : ld n pr T R' M := by
 have hp' : (T ++ R').Perm (T ++ R) := List.Perm.append_left T hp
 exact ⟨hp'.nodup_iff.2 h.nodup, fun z hz => h.dom z (hp'.mem_iff.1 hz), h.miss, fun g h0 h1 => by rw [hp'.mem_iff]; exact h.ready g h0 h1, h.topo⟩
theorem oH.perm {n : Nat} {pr : Int → List Int} {T R R' us : List Int} {x : Int} {M : Int → Int} (h : oH n pr T x us R M) (hp : R'.Perm R) : oH n pr T x us R' M := by
 have hp' : (T ++ [x] ++ R').Perm (T ++ [x] ++ R) := List.Perm.append_left _ hp
 exact ⟨hp'.nodup_iff.2 h.nodup, fun z hz => h.dom z (hp'.mem_iff.1 hz), h.miss, fun g h0 h1 => by rw [hp'.mem_iff]; exact h.ready g h0 h1, h.topo⟩
theorem ld.pop {n : Nat} {pr : Int → List Int} {T R : List Int} {x : Int} {M : Int → Int} (h : ld n pr T (R ++ [x]) M) : oH n pr T x [] R M := by
 have hp : (T ++ [x] ++ R).Perm (T ++ (R ++ [x])) := by
  rw [List.append_assoc]
  exact List.Perm.append_left T List.perm_append_comm
 have hx := h.dom x (by simp)
 refine ⟨hp.nodup_iff.2 h.nodup, fun z hz => h.dom z (hp.mem_iff.1 hz), fun g h0 h1 => by simpa using h.miss g h0 h1, fun g h0 h1 => by rw [hp.mem_iff]; exact h.ready g h0 h1, h.topo.snoc ?_⟩
 have h1 := (h.ready x hx.1 hx.2).1 (by simp)
 rw [h.miss x hx.1 hx.2] at h1
 exact nZ.1 (by omega)
theorem ix {all : List Int} {j : Nat} {u : Int} (h : all[j]? = some u) (g : Int) : (all.take (j + 1)).count g = (all.take j).count g + if u = g then 1 else 0 := by
 rw [List.take_add_one, h, Option.toList_some, List.count_append]
 by_cases e : u = g
 ·subst e; simp
 ·rw [if_neg e, List.count_singleton, if_neg (by simpa using e)]
theorem oH.step {n : Nat} {pr : Int → List Int} {T R all : List Int} {x u : Int} {j : Nat} {M : Int → Int} (hall : ∀ g : Int, 0 ≤ g → g < n → all.count g = (pr g).count x) (hx : x ∉ T) (h : oH n pr T x (all.take j) R M) (hu : all[j]? = some u) (h0 : 0 ≤ u) (h1 : u < n) :
  0 < M u ∧ oH n pr T x (all.take (j + 1)) (if M u - 1 = 0 then R ++ [u] else R) (fun g => if g = u then M u - 1 else M g) := by
 have hm := h.miss u h0 h1
 have hlt : (all.take (j + 1)).count u ≤ all.count u := (List.take_sublist _ _).count_le u
 have hsn := nY pr hx u
 rw [ix hu, if_pos rfl, hall u h0 h1] at hlt
 have hpos : 0 < M u := by omega
 have hnot : u ∉ T ++ [x] ++ R := fun hm' => by have := (h.ready u h0 h1).1 hm'; omega
 refine ⟨hpos, ?_⟩
 have hmiss : ∀ g : Int, 0 ≤ g → g < n → (if g = u then M u - 1 else M g) + ((all.take (j + 1)).count g : Int) = jD pr T g := by
  intro g g0 g1
  rw [ix hu]
  by_cases e : g = u
  ·subst e
   rw [if_pos rfl, if_pos rfl]
   have := h.miss g g0 g1
   omega
  ·rw [if_neg e, if_neg (fun q => e q.symm)]
   have := h.miss g g0 g1
   omega
 by_cases hz : M u - 1 = 0
 ·rw [if_pos hz]
  refine ⟨?_, fun z hz' => ?_, hmiss, fun g g0 g1 => ?_, h.topo⟩
  ·rw [← List.append_assoc, List.nodup_append]
   refine ⟨h.nodup, by simp, fun a ha b hb => ?_⟩
   rw [List.mem_singleton.1 hb]
   exact fun e => hnot (e ▸ ha)
  ·rw [← List.append_assoc] at hz'
   rcases Ho hz' with hz' | hz'
   ·exact h.dom z hz'
   ·rw [List.mem_singleton.1 hz']; exact ⟨h0, h1⟩
  ·rw [← List.append_assoc, List.mem_append, List.mem_singleton]
   by_cases e : g = u
   ·subst e; simp [hz]
   ·rw [if_neg e, h.ready g g0 g1]
    simp [e]
 ·rw [if_neg hz]
  refine ⟨h.nodup, h.dom, hmiss, fun g g0 g1 => ?_, h.topo⟩
  by_cases e : g = u
  ·subst e
   rw [if_pos rfl]
   exact ⟨fun q => absurd q hnot, fun q => absurd q hz⟩
  ·rw [if_neg e]
   exact h.ready g g0 g1
theorem oH.done {n : Nat} {pr : Int → List Int} {T R all : List Int} {x : Int} {M : Int → Int} (hall : ∀ g : Int, 0 ≤ g → g < n → all.count g = (pr g).count x) (hx : x ∉ T) (h : oH n pr T x all R M) : ld n pr (T ++ [x]) R M := by
 refine ⟨h.nodup, h.dom, fun g h0 h1 => ?_, h.ready, h.topo⟩
 have h2 := h.miss g h0 h1
 have h3 := nY pr hx g
 rw [hall g h0 h1] at h2
 omega
structure ge (n : Nat) (pr : Int → List Int) (T : List Int) : Prop where
 nodup : T.Nodup
 dom : ∀ z ∈ T, 0 ≤ z ∧ z < n
 topo : vh pr T
 full : ∀ g : Int, 0 ≤ g → g < n → (∀ p ∈ pr g, p ∈ T) → g ∈ T
theorem ld.fin {n : Nat} {pr : Int → List Int} {T : List Int} {M : Int → Int} (h : ld n pr T [] M) : ge n pr T := by
 have h1 := h.nodup
 have h2 := h.dom
 have h3 := h.ready
 rw [List.append_nil] at h1 h2 h3
 exact ⟨h1, h2, h.topo, fun g h0 h4 hp => (h3 g h0 h4).2 (by rw [h.miss g h0 h4, nZ.2 hp]; rfl)⟩
theorem ld.start {n : Nat} {pr : Int → List Int} {M : Int → Int} (hM : ∀ g : Int, 0 ≤ g → g < n → M g = (pr g).length) : ld n pr [] ((ca n).filter fun g => decide (M g = 0)) M := by
 refine ⟨by rw [Hs]; exact (it n).filter _, fun z hz => ?_, fun g h0 h1 => ?_, fun g h0 h1 => ?_, fun i x h => by simp at h⟩
 ·rw [Hs, List.mem_filter, e9] at hz
  exact hz.1
 ·rw [hM g h0 h1]
  unfold jD
  rw [List.filter_eq_self.2 (by simp)]
 ·rw [Hs, List.mem_filter, e9, decide_eq_true_eq]
  exact ⟨fun h => h.2, fun h => ⟨⟨h0, h1⟩, h⟩⟩
def iF (n : Nat) (pr : Int → List Int) : Prop := ∃ r : Int → Nat, ∀ g : Int, 0 ≤ g → g < n → ∀ p ∈ pr g, r p < r g
theorem ge.all {n : Nat} {pr : Int → List Int} {T : List Int} (h : ge n pr T) (ha : iF n pr) (hp : ∀ g, ∀ p ∈ pr g, 0 ≤ p ∧ p < n) : ∀ g : Int, 0 ≤ g → g < n → g ∈ T := by
 obtain ⟨r, hr⟩ := ha
 have : ∀ (k : Nat) (g : Int), r g < k → 0 ≤ g → g < n → g ∈ T := by
  intro k
  induction k with
  | zero => intro g hk; exact absurd hk (Nat.not_lt_zero _)
  | succ k ih =>
   intro g hk h0 h1
   refine h.full g h0 h1 fun p hpp => ih p ?_ (hp g p hpp).1 (hp g p hpp).2
   have := hr g h0 h1 p hpp
   omega
 intro g h0 h1
 exact this (r g + 1) g (by omega) h0 h1
theorem ge.len {n : Nat} {pr : Int → List Int} {T : List Int} (h : ge n pr T) : T.length ≤ n := ev h.nodup h.dom
theorem kN : ∀ (l T : List Int), l.Nodup → (∀ x ∈ l, x ∈ T) → l.length ≤ T.length
 | [], _, _, _ => Nat.zero_le _
 | x :: l, T, h, hs => by
  have h' := List.nodup_cons.1 h
  have hx := hs x (List.mem_cons_self ..)
  have := kN l (T.erase x) h'.2 fun y hy => (List.mem_erase_of_ne (fun e => h'.1 (by rw [← e]; exact hy))).2 (hs y (Hu _ hy))
  rw [List.length_erase_of_mem hx] at this
  have hpos := List.length_pos_of_mem hx
  rw [List.length_cons]
  omega
theorem ge.len_all {n : Nat} {pr : Int → List Int} {T : List Int} (h : ge n pr T) (ha : ∀ g : Int, 0 ≤ g → g < n → g ∈ T) : T.length = n := by
 refine Nat.le_antisymm h.len ?_
 have := kN (ca n) T (it n) fun z hz => by
  rw [e9] at hz
  exact ha z hz.1 hz.2
 rwa [dP] at this
theorem ge.all_of_len {n : Nat} {pr : Int → List Int} {T : List Int} (h : ge n pr T) (hl : T.length = n) : ∀ g : Int, 0 ≤ g → g < n → g ∈ T := by
 intro g h0 h1
 apply Classical.byContradiction
 intro hn
 have := ev (l := g :: T) (n := n) (List.nodup_cons.2 ⟨hn, h.nodup⟩) fun z hz => by
  rcases List.mem_cons.1 hz with rfl | hz
  ·exact ⟨h0, h1⟩
  ·exact h.dom z hz
 rw [List.length_cons] at this
 omega
theorem ge.acyc {n : Nat} {pr : Int → List Int} {T : List Int} (h : ge n pr T) (ha : ∀ g : Int, 0 ≤ g → g < n → g ∈ T) : iF n pr := by
 refine ⟨fun g => T.idxOf g, fun g h0 h1 p hp => ?_⟩
 have hg := ha g h0 h1
 have hi := List.idxOf_lt_length_iff.2 hg
 have h2 := h.topo (T.idxOf g) g (by rw [Eg hi, List.getElem_idxOf]) p hp
 obtain ⟨j, hj⟩ := List.mem_iff_getElem?.1 h2
 rw [List.getElem?_take] at hj
 split at hj
 ·rename_i hlt
  dsimp only
  obtain ⟨hjl, hje⟩ := Hq hj
  have : T.idxOf p ≤ j := by
   rw [← hje]
   have := h.nodup.idxOf_getElem j hjl
   omega
  omega
 ·cases hj
end Go.Proofs.YtamjlkdanllgjaaGreatDoor
namespace Go.Proofs.YtamjlkdanllgjaaGreatDoor
open Go.RowKit
attribute [local irreducible] AT br AX AO Av Kt aW cZ DA cw
set_option maxRecDepth 8000
theorem wL (f : aP) (n : Int) : bw Tryz.prog 346 [cf f, aD n] (ce (jv f n)) := by
 refine aG Tryz.func346 rfl Tryz.ntmps346 rfl fun B => ?_
 repeat' (first|refine ae ?_|refine a6 ?_|refine a8 ?_|refine aa ?_|refine ah a7 rfl rfl ?_|refine b9 ?_|fail)
 refine cT (t := 4) [] (jv f n = true) rfl (fun Q' K => ?_) ?_
 ·repeat' (first|refine aa ?_|refine ah a7 rfl rfl ?_|refine aB rfl rfl ?_|refine aE rfl rfl rfl rfl ?_|refine aU rfl rfl rfl (fun _ => ?_) (fun _ => ?_))
  all_goals exact K _ _ rfl rfl (by unfold jv; simp_all <;> omega)
 repeat' (first|refine am ?_|refine a8 ?_)
 refine au rfl rfl ?_
 simp
instance (f : aP) (n : Int) : AD Tryz.prog 346 [cf f, aD n] (ce (jv f n)) := ⟨wL f n⟩
theorem wo (f : aP) (g : Int) : bw Tryz.prog 309 [cf f, aD g] (.fn 345 [.iptr (bH f), .iptr [aD g]]) := by
 refine aG Tryz.func309 rfl Tryz.ntmps309 rfl fun B => ?_
 repeat' (first|refine ae ?_|refine a6 ?_|refine am ?_|refine a8 ?_|refine aa ?_|refine ah a7 rfl rfl ?_|refine b9 ?_|fail)
 exact au rfl rfl rfl
instance (f : aP) (g : Int) : AD Tryz.prog 309 [cf f, aD g] (.fn 345 [.iptr (bH f), .iptr [aD g]]) := ⟨wo f g⟩
set_option maxHeartbeats 1000000 in
theorem Bt {α : Type} {σ0 : bT} {l : Nat} (f : aP) (g : Nat) (gl : b7) (hg : f.Glyphs[g]? = some gl) (E : α → AL) (J : Nat → α → Prop)
  (hy : ∀ i x p, J i x → gl.Parts[i]? = some p → jv f p.Glyph = true → AY Tryz.prog σ0 l [.agg (eN p)] (E x) fun c L => c = ce true ∧ ∃ x', J (i + 1) x' ∧ L = E x')
  (hs : ∀ i x p, J i x → gl.Parts[i]? = some p → jv f p.Glyph = false → J (i + 1) x) (x0 : α) (h0 : J 0 x0) (hlen : gl.Parts.length ≤ 1000000) :
  C5 Tryz.prog σ0 345 [.sc (.func (.yield l) #[] #[]), .iptr (bH f), .iptr [aD g]] (E x0) fun _ L => ∃ x, J gl.Parts.length x ∧ L = E x := by
 refine sG Tryz.func345 rfl Tryz.ntmps345 rfl fun B hB => ?_
 have hgg := bO (c := bE) hg
 repeat' (first|refine ae ?_|refine a6 ?_|refine ar ?_|refine a8 ?_|refine aa ?_|refine ah a7 rfl rfl ?_|(apply aO; first|refine aN a7 ?_|refine aH a7 ?_)|fail)
 refine aI [0, 1, 11, 12] (α := Nat × α) (fun y => [(13, aD y.1)]) (fun y => y.1 ≤ gl.Parts.length ∧ J y.1 y.2) (fun y => E y.2) (fun y => gl.Parts.length - y.1) (0, x0) rfl ⟨rfl, trivial⟩ ⟨Nat.zero_le _, h0⟩ (fun _ _ h => h) ?_
 rintro ⟨i, x⟩ ⟨hi, hj⟩
 dsimp only at hi hj ⊢
 try dsimp only [Ht, Hs, Hr, Hn]
 repeat' (first|refine ae ?_|refine a6 ?_|refine a8 ?_|refine aa ?_|refine ah a7 rfl rfl ?_)
 refine ay rfl (fun h => ?_) (fun h => ?_)
 ·have hil : i < gl.Parts.length := by have := Hz h; simp at this; omega
  obtain ⟨p, hp⟩ : ∃ z, gl.Parts[i]? = some z := ⟨_, Eg hil⟩
  have hpg := bO (c := eN) hp
  repeat' (first|refine ae ?_|refine a6 ?_|refine ar ?_|refine aq ?_|refine a8 ?_|refine aa ?_|refine ah a7 rfl rfl ?_|(apply aO; first|refine aN a7 ?_|refine aH a7 ?_)|(apply aQ; first|refine ai 5 a7 0 rfl rfl rfl rfl rfl rfl rfl rfl ?_|refine ai 5 a7 1 rfl rfl rfl rfl rfl rfl rfl rfl ?_|refine ai 5 a7 2 rfl rfl rfl rfl rfl rfl rfl rfl ?_|refine aj a7 0 rfl rfl rfl rfl rfl rfl rfl ?_|refine aj a7 1 rfl rfl rfl rfl rfl rfl rfl ?_|refine aj a7 2 rfl rfl rfl rfl rfl rfl rfl ?_|refine aj a7 3 rfl rfl rfl rfl rfl rfl rfl ?_|fail)|refine aY a7 fun _=>?_|(apply bc;refine aX ?_)|fail)
  by_cases hG : jv f p.Glyph = true
  ·rw [hG]
   repeat' (first|refine ah a7 rfl rfl ?_|refine aB rfl rfl ?_)
   refine mS (E x) [] hB (hy i x p hj hp hG) rfl rfl rfl (by rw [List.append_nil]; exact Hp _) rfl rfl fun c L1 ⟨hc, x', hj', hL⟩ => ?_
   subst hc; subst hL
   rw [List.append_nil]
   repeat' (first|refine a6 ?_|refine aq ?_|refine a8 ?_|refine aR ?_|refine aa ?_|refine ah a7 rfl rfl ?_|refine aB rfl rfl ?_|(apply b6; refine aZ ?_)|refine bi rfl ?_)
   exact aF (i + 1, x') rfl ⟨by rw [Hw]; rfl, trivial⟩ ⟨by dsimp only; omega, hj'⟩ (by dsimp only; omega) (fun _ _ h => h)
  ·have hG' : jv f p.Glyph = false := by simpa using hG
   rw [hG']
   repeat' (first|refine a6 ?_|refine aq ?_|refine a8 ?_|refine aR ?_|refine aa ?_|refine ah a7 rfl rfl ?_|refine aE rfl rfl rfl rfl ?_|(apply b6; refine aZ ?_)|refine bi rfl ?_)
   exact aF (i + 1, x) rfl ⟨by rw [Hw]; rfl, trivial⟩ ⟨by dsimp only; omega, hs i x p hj hp hG'⟩ (by dsimp only; omega) (fun _ _ h => h)
 ·have hil : i = gl.Parts.length := by have := Hy h; simp at this; omega
  subst hil
  repeat' (first|refine aL ?_|refine av ?_|refine aA ?_|refine az ?_)
  exact cK rfl ⟨x, hj, rfl⟩
set_option maxRecDepth 8000
open Go.MapKept
attribute [local irreducible] mU
def prt (f : aP) (g : Int) : List Int := match f.Glyphs[g.toNat]? with
 | some gl => (gl.Parts.map d6.Glyph).filter (jv f)
 | none => []
def sy (f : aP) (gl : b7) (i : Nat) : List Int := ((gl.Parts.take i).map d6.Glyph).filter (jv f)
theorem uU {f : aP} {gl : b7} {i : Nat} {p : d6} (h : gl.Parts[i]? = some p) (hg : jv f p.Glyph = true) : sy f gl (i + 1) = sy f gl i ++ [p.Glyph] := by
 unfold sy
 rw [List.take_add_one, h, Option.toList_some, List.map_append, List.filter_append]
 simp [hg]
theorem yU {f : aP} {gl : b7} {i : Nat} {p : d6} (h : gl.Parts[i]? = some p) (hg : jv f p.Glyph = false) : sy f gl (i + 1) = sy f gl i := by
 unfold sy
 rw [List.take_add_one, h, Option.toList_some, List.map_append, List.filter_append]
 simp [hg]
theorem uS {f : aP} {g : Nat} {gl : b7} (hg : f.Glyphs[g]? = some gl) : sy f gl gl.Parts.length = prt f g := by
 unfold sy prt
 rw [Int.toNat_natCast, hg, List.take_length]
theorem uT (f : aP) (gl : b7) (i : Nat) : (sy f gl i).length ≤ gl.Parts.length := by
 unfold sy
 refine Nat.le_trans (List.length_filter_le _ _) ?_
 rw [Hv, List.length_take]
 omega
theorem mR {f : aP} {z : Int} : jv f z = true ↔ 0 ≤ z ∧ z < f.Glyphs.length := by unfold jv; simp
theorem DW {f : aP} {g p : Int} (h : p ∈ prt f g) : 0 ≤ p ∧ p < f.Glyphs.length := by
 unfold prt at h
 split at h
 ·rw [List.mem_filter] at h; exact mR.1 h.2
 ·cases h
structure Few (f : aP) : Prop where
 n : f.Glyphs.length ≤ 1000
 parts : ∀ gl ∈ f.Glyphs, gl.Parts.length ≤ 1000
theorem Few.prt {f : aP} (h : Few f) (g : Int) : (prt f g).length ≤ 1000 := by
 unfold Go.Proofs.YtamjlkdanllgjaaGreatDoor.prt
 split
 ·rename_i gl hgl
  refine Nat.le_trans (List.length_filter_le _ _) ?_
  rw [Hv]
  exact h.parts gl (Hx hgl)
 ·exact Nat.zero_le _
theorem lS {pr : Int → List Int} (h : ∀ g, (pr g).length ≤ 1000) (z : Int) : ∀ gs : List Int, (c5 pr gs z).length ≤ 1000 * gs.length
 | [] => by simp [c5]
 | g :: gs => by
  have ih := lS h z gs
  unfold c5 at ih ⊢
  rw [List.flatMap_cons, List.length_append, Hv, List.length_cons]
  have h1 := List.length_filter_le (fun p => decide (p = z)) (pr g)
  have h2 := h g
  omega
theorem wR {pr : Int → List Int} {gs : List Int} {z g : Int} (h : g ∈ c5 pr gs z) : g ∈ gs := by
 unfold c5 at h
 obtain ⟨y, hy, h1⟩ := List.mem_flatMap.1 h
 obtain ⟨_, _, rfl⟩ := List.mem_map.1 h1
 exact hy
theorem yw (pr : Int → List Int) (T : List Int) (g : Int) : jD pr T g ≤ (pr g).length := List.length_filter_le _ _
def Mi (f : aP) (gl : b7) (g i : Nat) : Int → Int := fun z => if z = g then (sy f gl i).length else if 0 ≤ z ∧ z < g then (prt f z).length else 0
def Ui (f : aP) (gl : b7) (g i : Nat) : Int → List Int := fun z => c5 (prt f) (ca g) z ++ ((sy f gl i).filter fun p => decide (p = z)).map fun _ => (g : Int)
def Mb (f : aP) (g : Nat) : Int → Int := fun z => if 0 ≤ z ∧ z < g then (prt f z).length else 0
def Rb (f : aP) (g : Nat) : List Int := (ca g).filter fun z => decide ((prt f z).length = 0)
theorem zV (f : aP) (gl : b7) (g : Nat) : Mi f gl g 0 = Mb f g := by
 funext z
 unfold Mi Mb sy
 by_cases e : z = g
 ·subst e; rw [if_pos rfl, if_neg (by omega)]; rfl
 ·rw [if_neg e]
theorem u6 (f : aP) (gl : b7) (g : Nat) : Ui f gl g 0 = c5 (prt f) (ca g) := by
 funext z
 unfold Ui sy
 simp
theorem CB {f : aP} {g : Nat} {gl : b7} (hg : f.Glyphs[g]? = some gl) : Mi f gl g gl.Parts.length = Mb f (g + 1) := by
 funext z
 unfold Mi Mb
 rw [uS hg]
 by_cases e : z = g
 ·subst e; rw [if_pos rfl, if_pos (by omega)]
 ·rw [if_neg e]
  by_cases h : 0 ≤ z ∧ z < g
  ·rw [if_pos h, if_pos (by omega)]
  ·rw [if_neg h, if_neg (by omega)]
theorem CE {f : aP} {g : Nat} {gl : b7} (hg : f.Glyphs[g]? = some gl) : Ui f gl g gl.Parts.length = c5 (prt f) (ca (g + 1)) := by
 funext z
 unfold Ui
 rw [uS hg, pO]
 unfold c5
 rw [List.flatMap_append]
 simp
theorem CC {f : aP} {gl : b7} {g i : Nat} {p : d6} (h : gl.Parts[i]? = some p) (hg : jv f p.Glyph = true) : (fun q => if q = (g : Int) then Mi f gl g i g + 1 else Mi f gl g i q) = Mi f gl g (i + 1) := by
 funext q
 unfold Mi
 rw [uU h hg]
 by_cases e : q = g
 ·rw [if_pos e, if_pos e, if_pos rfl]; simp
 ·rw [if_neg e, if_neg e, if_neg e]
theorem CG {f : aP} {gl : b7} {g i : Nat} {p : d6} (h : gl.Parts[i]? = some p) (hg : jv f p.Glyph = true) : (fun q => if q = p.Glyph then Ui f gl g i p.Glyph ++ [(g : Int)] else Ui f gl g i q) = Ui f gl g (i + 1) := by
 funext q
 unfold Ui
 rw [uU h hg, List.filter_append, List.map_append]
 by_cases e : q = p.Glyph
 ·subst e; rw [if_pos rfl]; simp
 ·have e' : ¬ p.Glyph = q := fun h => e h.symm
  rw [if_neg e]; simp [e']
theorem Ek {f : aP} {gl : b7} {g i : Nat} {p : d6} (h : gl.Parts[i]? = some p) (hg : jv f p.Glyph = false) : Mi f gl g (i + 1) = Mi f gl g i := by unfold Mi; rw [yU h hg]
theorem Er {f : aP} {gl : b7} {g i : Nat} {p : d6} (h : gl.Parts[i]? = some p) (hg : jv f p.Glyph = false) : Ui f gl g (i + 1) = Ui f gl g i := by unfold Ui; rw [yU h hg]
theorem CF {f : aP} (hf : Few f) (gl : b7) (hgl : gl ∈ f.Glyphs) {g : Nat} (hg : g ≤ 1000) (i : Nat) (z : Int) : (Ui f gl g i z).length ≤ 1001000 := by
 unfold Ui
 have h1 := lS hf.prt z (ca g)
 have h2 := uT f gl i
 have h3 := List.length_filter_le (fun p => decide (p = z)) (sy f gl i)
 have h4 := hf.parts gl hgl
 rw [dP] at h1
 rw [List.length_append, Hv]
 omega
theorem ja (f : aP) (g : Nat) : Rb f (g + 1) = if (prt f g).length = 0 then Rb f g ++ [(g : Int)] else Rb f g := by
 unfold Rb
 rw [pO, List.filter_append]
 by_cases h : (prt f g).length = 0
 ·rw [if_pos h, List.filter_cons_of_pos (by simpa using h)]; rfl
 ·rw [if_neg h, List.filter_cons_of_neg (by simpa using h)]; simp
theorem wZ (f : aP) (g : Nat) : (Rb f g).length ≤ g := by
 unfold Rb
 refine Nat.le_trans (List.length_filter_le _ _) ?_
 rw [dP]
 exact Nat.le_refl _
theorem kU {a b : Nat × AB} {T T' t H R : AL} (h : T.Perm (t ++ T')) : (a :: b :: (H ++ (T ++ R))).Perm (t ++ (a :: b :: (H ++ (T' ++ R)))) := by
 have h1 : (a :: b :: (H ++ (T ++ R))).Perm (a :: b :: (H ++ (t ++ (T' ++ R)))) := by
  refine List.Perm.cons _ (List.Perm.cons _ (List.Perm.append_left _ ?_))
  rw [← List.append_assoc]
  exact h.append_right _
 refine h1.trans ?_
 have h2 : (a :: b :: (H ++ (t ++ (T' ++ R)))) = ((a :: b :: H) ++ t) ++ (T' ++ R) := by simp
 have h3 : t ++ (a :: b :: (H ++ (T' ++ R))) = (t ++ (a :: b :: H)) ++ (T' ++ R) := by simp
 rw [h2, h3]
 exact List.Perm.append_right _ List.perm_append_comm
end Go.Proofs.YtamjlkdanllgjaaGreatDoor
namespace Go.Proofs.YtamjlkdanllgjaaGreatDoor
open Go.RowKit
attribute [local irreducible] AT br AX AO Av Kt aW cZ DA cw
set_option maxRecDepth 8000
open Go.MapKept
attribute [local irreducible] mU
theorem kW {rec : Loop} (h1 : rec.state = .ready) (h2 : rec.pending = none) : ({ ({ rec with state := .busy } : Loop) with state := .ready, pending := none } : Loop) = rec := by cases rec; simp_all
abbrev KI : TypeDesc := .int .i64
theorem zT (f : aP) : Mb f 0 = fun _ => 0 := by
 funext z
 unfold Mb
 rw [if_neg (by omega)]
abbrev KT := Int → Option (Nat × Nat)
abbrev VM := Value → Option AV
abbrev LX := VM × VM × KT × (Int → List Int)
theorem s1 {a b c d e : Nat × AB} {T M : AL} : (d :: a :: b :: c :: (T ++ (M ++ [e]))).Perm (a :: b :: c :: d :: (T ++ (e :: M))) := by
 refine (List.perm_middle (l₁ := [a, b, c])).symm.trans ?_
 exact List.Perm.cons _ (List.Perm.cons _ (List.Perm.cons _ (List.Perm.cons _ (List.Perm.append_left T (List.perm_append_singleton e M)))))
def qb (bm bu p n : Nat) (kh : Option (Nat × List AV)) (R : List Int) (rest : AL) (x : LX) : AL := (bm, bP KI x.1) :: (bu, bP KI x.2.1) :: (hst p kh R ++ (kc 3 x.2.2.1 x.2.2.2 (ca n) ++ rest))
abbrev LS := Nat × List Nat × VM × VM × KT × Option (Nat × List AV)
def rM (dbs : List Nat) : AL := dbs.map fun b => (b, lu)
theorem lM {a b : Nat × AB} {H X : AL} : (a :: b :: (H ++ X)).Perm (H ++ (a :: b :: X)) := by
 have h1 : (a :: b :: (H ++ X)) = (a :: b :: H) ++ X := rfl
 have h2 : H ++ (a :: b :: X) = (H ++ [a, b]) ++ X := by simp
 rw [h1, h2]
 exact (List.perm_append_comm (l₁ := [a, b]) (l₂ := H)).append_right X
structure KS where
 T : List Int
 R : List Int
 M : Int → Int
 mm : VM
 kh : Option (Nat × List AV)
 kt : Option (Nat × Nat)
def FQ (bm bu p : Nat) (mu : VM) (X : AL) (x : KS) : AL := (bm, bP KI x.mm) :: (bu, bP KI mu) :: (hst p x.kh x.R ++ (tok x.kt 3 1 (aT x.T).length ++ X))
set_option maxHeartbeats 8000000 in
theorem Bg (f : aP) (hf : Few f) : AC Tryz.prog 256 [cf f, .imm 1 (aT (ca f.Glyphs.length))] [] fun c _ => ∃ T, c = .imm 1 (aT T) ∧ ge f.Glyphs.length (prt f) T := by
 refine n5 Tryz.func256 rfl Tryz.ntmps256 rfl fun B => ?_
 have hn := hf.n
 have hil : (aT (ca f.Glyphs.length)).length = f.Glyphs.length := by rw [bg, dP]
 generalize hN : f.Glyphs.length = n at *
 repeat' (first|refine ae ?_|refine a6 ?_|refine a8 ?_|refine aa ?_|refine ah a7 rfl rfl ?_|refine b9 ?_|fail)
 refine dg KI fun bm => ?_
 repeat' (first|refine ae ?_|refine a6 ?_|refine a8 ?_|refine aa ?_|(apply aQ; first|refine ai 5 a7 0 rfl rfl rfl rfl rfl rfl rfl rfl ?_|refine ai 5 a7 1 rfl rfl rfl rfl rfl rfl rfl rfl ?_|refine ai 5 a7 2 rfl rfl rfl rfl rfl rfl rfl rfl ?_|refine ai 6 a7 0 rfl rfl rfl rfl rfl rfl rfl rfl ?_|refine ai 6 a7 1 rfl rfl rfl rfl rfl rfl rfl rfl ?_|refine ai 6 a7 2 rfl rfl rfl rfl rfl rfl rfl rfl ?_|refine ai 9 a7 0 rfl rfl rfl rfl rfl rfl rfl rfl ?_|refine ai 9 a7 1 rfl rfl rfl rfl rfl rfl rfl rfl ?_|refine ai 9 a7 2 rfl rfl rfl rfl rfl rfl rfl rfl ?_|refine ai 10 a7 0 rfl rfl rfl rfl rfl rfl rfl rfl ?_|refine ai 10 a7 1 rfl rfl rfl rfl rfl rfl rfl rfl ?_|refine ai 10 a7 2 rfl rfl rfl rfl rfl rfl rfl rfl ?_|refine aj a7 0 rfl rfl rfl rfl rfl rfl rfl ?_|refine aj a7 1 rfl rfl rfl rfl rfl rfl rfl ?_|refine aj a7 2 rfl rfl rfl rfl rfl rfl rfl ?_|refine aj a7 3 rfl rfl rfl rfl rfl rfl rfl ?_|fail)|refine aY a7 fun _=>?_|fail)
 refine dg KI fun bu => ?_
 repeat' (first|refine ae ?_|refine a6 ?_|refine ar ?_|refine a8 ?_|refine aa ?_|refine ah a7 rfl rfl ?_|(apply aQ; first|refine ai 5 a7 0 rfl rfl rfl rfl rfl rfl rfl rfl ?_|refine ai 5 a7 1 rfl rfl rfl rfl rfl rfl rfl rfl ?_|refine ai 5 a7 2 rfl rfl rfl rfl rfl rfl rfl rfl ?_|refine ai 6 a7 0 rfl rfl rfl rfl rfl rfl rfl rfl ?_|refine ai 6 a7 1 rfl rfl rfl rfl rfl rfl rfl rfl ?_|refine ai 6 a7 2 rfl rfl rfl rfl rfl rfl rfl rfl ?_|refine ai 9 a7 0 rfl rfl rfl rfl rfl rfl rfl rfl ?_|refine ai 9 a7 1 rfl rfl rfl rfl rfl rfl rfl rfl ?_|refine ai 9 a7 2 rfl rfl rfl rfl rfl rfl rfl rfl ?_|refine ai 10 a7 0 rfl rfl rfl rfl rfl rfl rfl rfl ?_|refine ai 10 a7 1 rfl rfl rfl rfl rfl rfl rfl rfl ?_|refine ai 10 a7 2 rfl rfl rfl rfl rfl rfl rfl rfl ?_|refine aj a7 0 rfl rfl rfl rfl rfl rfl rfl ?_|refine aj a7 1 rfl rfl rfl rfl rfl rfl rfl ?_|refine aj a7 2 rfl rfl rfl rfl rfl rfl rfl ?_|refine aj a7 3 rfl rfl rfl rfl rfl rfl rfl ?_|fail)|refine aY a7 fun _=>?_|fail)
 rename_i p
 refine xt [2, 5, 6, 7, 17, 18] (α := LS) (fun x => yq x.2.1) (fun x => [(19, aD x.1)]) (fun x => x.1 ≤ n ∧ lf x.2.2.1 (Mb f x.1) ∧ mZ x.2.2.2.1 x.2.2.2.2.1 (c5 (prt f) (ca x.1)) ∧ lT x.2.2.2.2.2 (Rb f x.1)) (fun x => qb bm bu p n x.2.2.2.2.2 (Rb f x.1) (rM x.2.1) (x.2.2.1, x.2.2.2.1, x.2.2.2.2.1, c5 (prt f) (ca x.1))) (fun x => n - x.1) (0, [], (fun _ => none), (fun _ => none), (fun _ => none), none) rfl ⟨rfl, trivial⟩ rfl ⟨Nat.zero_le _, ?_, ?_, rfl⟩ (fun σ w h => ?_) ?_
 ·intro z; exact .inl ⟨rfl, by rw [zT]⟩
 ·intro z; exact .inl ⟨rfl, rfl, rfl⟩
 ·have h1 := ct.perm (L := [(p, .box [.sc (.slice none 0 0)] 423), (bu, bP KI fun _ => none), (bm, bP KI fun _ => none)]) h (List.reverse_perm _).symm
  have h2 : qb bm bu p n none (Rb f 0) (rM []) ((fun _ => none), (fun _ => none), (fun _ => none), c5 (prt f) (ca 0)) = [(bm, bP KI fun _ => none), (bu, bP KI fun _ => none), (p, .box [.sc (.slice none 0 0)] 423)] := by
   unfold qb
   rw [wN]
   rfl
  show ct B σ (qb bm bu p n none (Rb f 0) (rM []) ((fun _ => none), (fun _ => none), (fun _ => none), c5 (prt f) (ca 0))) w
  rw [h2]
  exact h1
 rintro ⟨g, dbs, mm, mu, K, kh⟩ ⟨hg, hM, hU, hR⟩
 dsimp only at hg hM hU hR ⊢
 try dsimp only [Ht, Hs, Hr, Hn]
 repeat' (first|refine ae ?_|refine a6 ?_|refine a8 ?_|refine aa ?_|refine ah a7 rfl rfl ?_)
 rw [hil]
 refine ay rfl (fun h => ?_) (fun h => ?_)
 ·have hgl : g < n := by have := Hz h; omega
  obtain ⟨gl, hgg⟩ : ∃ z, f.Glyphs[g]? = some z := ⟨_, Eg (by omega)⟩
  have hgm := Hx hgg
  have hgi := bU (gS hgl)
  clear h
  unfold qb
  dsimp only
  repeat' (first|refine ae ?_|refine a6 ?_|refine ar ?_|refine aq ?_|refine a8 ?_|refine aa ?_|refine ah a7 rfl rfl ?_|(apply aO; first|refine aN a7 ?_|refine aH a7 ?_)|(apply aQ; first|refine ai 5 a7 0 rfl rfl rfl rfl rfl rfl rfl rfl ?_|refine ai 5 a7 1 rfl rfl rfl rfl rfl rfl rfl rfl ?_|refine ai 5 a7 2 rfl rfl rfl rfl rfl rfl rfl rfl ?_|refine ai 6 a7 0 rfl rfl rfl rfl rfl rfl rfl rfl ?_|refine ai 6 a7 1 rfl rfl rfl rfl rfl rfl rfl rfl ?_|refine ai 6 a7 2 rfl rfl rfl rfl rfl rfl rfl rfl ?_|refine ai 9 a7 0 rfl rfl rfl rfl rfl rfl rfl rfl ?_|refine ai 9 a7 1 rfl rfl rfl rfl rfl rfl rfl rfl ?_|refine ai 9 a7 2 rfl rfl rfl rfl rfl rfl rfl rfl ?_|refine ai 10 a7 0 rfl rfl rfl rfl rfl rfl rfl rfl ?_|refine ai 10 a7 1 rfl rfl rfl rfl rfl rfl rfl rfl ?_|refine ai 10 a7 2 rfl rfl rfl rfl rfl rfl rfl rfl ?_|refine aj a7 0 rfl rfl rfl rfl rfl rfl rfl ?_|refine aj a7 1 rfl rfl rfl rfl rfl rfl rfl ?_|refine aj a7 2 rfl rfl rfl rfl rfl rfl rfl ?_|refine aj a7 3 rfl rfl rfl rfl rfl rfl rfl ?_|fail)|refine aY a7 fun _=>?_|(apply bc;refine aX ?_)|fail)
  refine kl (fr' := [(2, .iptr (bH f)), (5, .iptr [.sc (.map (some bm))]), (6, .iptr [.sc (.map (some bu))]), (7, .sc (.pointer (some ⟨p, 0, none⟩))), (9, .iptr [aD g]), (17, .imm 1 (aT (ca n))), (18, aD n), (19, aD g), (25, .fn 345 [.iptr (bH f), .iptr [aD g]])]) (L' := qb bm bu p n kh (Rb f g) (rM dbs) (mm, mu, K, Ui f gl g 0)) ⟨rfl, rfl, rfl, rfl, rfl, rfl, rfl, rfl, rfl, trivial⟩ (fun _ _ h => by rw [u6]; exact h) ?_
  refine nf (ps := [26]) rfl fun σ0 l db rec hrec => ?_
  have hy : ∀ (i : Nat) (x : LX) (q : d6), (lf x.1 (Mi f gl g i) ∧ mZ x.2.1 x.2.2.1 x.2.2.2 ∧ x.2.2.2 = Ui f gl g i) → gl.Parts[i]? = some q → jv f q.Glyph = true → AY Tryz.prog σ0 l [.agg (eN q)] (qb bm bu p n kh (Rb f g) (rM dbs) x ++ [(db, lu)] ++ [(l, iE rec)]) fun c L => c = ce true ∧ ∃ x' : LX, (lf x'.1 (Mi f gl g (i + 1)) ∧ mZ x'.2.1 x'.2.2.1 x'.2.2.2 ∧ x'.2.2.2 = Ui f gl g (i + 1)) ∧ L = qb bm bu p n kh (Rb f g) (rM dbs) x' ++ [(db, lu)] ++ [(l, iE rec)] := by
   rintro i ⟨mm, mu, K, U⟩ q ⟨hM, hU, rfl⟩ hq hG
   dsimp only at hM hU ⊢
   refine xA hrec rfl rfl fun B1 hB1 => ?_
   repeat' (first|refine a6 ?_|refine aa ?_|(apply aQ; first|refine ai 5 a7 0 rfl rfl rfl rfl rfl rfl rfl rfl ?_|refine ai 5 a7 1 rfl rfl rfl rfl rfl rfl rfl rfl ?_|refine ai 5 a7 2 rfl rfl rfl rfl rfl rfl rfl rfl ?_|refine ai 6 a7 0 rfl rfl rfl rfl rfl rfl rfl rfl ?_|refine ai 6 a7 1 rfl rfl rfl rfl rfl rfl rfl rfl ?_|refine ai 6 a7 2 rfl rfl rfl rfl rfl rfl rfl rfl ?_|refine ai 9 a7 0 rfl rfl rfl rfl rfl rfl rfl rfl ?_|refine ai 9 a7 1 rfl rfl rfl rfl rfl rfl rfl rfl ?_|refine ai 9 a7 2 rfl rfl rfl rfl rfl rfl rfl rfl ?_|refine ai 10 a7 0 rfl rfl rfl rfl rfl rfl rfl rfl ?_|refine ai 10 a7 1 rfl rfl rfl rfl rfl rfl rfl rfl ?_|refine ai 10 a7 2 rfl rfl rfl rfl rfl rfl rfl rfl ?_|refine aj a7 0 rfl rfl rfl rfl rfl rfl rfl ?_|refine aj a7 1 rfl rfl rfl rfl rfl rfl rfl ?_|refine aj a7 2 rfl rfl rfl rfl rfl rfl rfl ?_|refine aj a7 3 rfl rfl rfl rfl rfl rfl rfl ?_|fail)|refine aY a7 fun _=>?_|fail)
   refine ng hrec.state ?_
   unfold qb
   dsimp only
   have hqr := mR.1 hG
   have hcnt := uT f gl i
   have hpl := hf.parts gl hgm
   have hMg : Mi f gl g i g = (sy f gl i).length := by unfold Mi; rw [if_pos rfl]
   simp only [Ht, List.append_assoc]
   have hUl := CF hf gl hgm (g := g) (by omega) i q.Glyph
   have hUi : (aT (Ui f gl g i q.Glyph)).length = (Ui f gl g i q.Glyph).length := bg _
   have hz : q.Glyph ∈ ca n := e9.2 (by omega)
   repeat' (first|refine ae ?_|refine a6 ?_|refine ar ?_|refine ah a7 rfl rfl ?_)
   refine gG 0 (.int .i64 0) (aD (Mi f gl g i g)) Tryz.underlying96 Tryz.underlying3 rfl rfl rfl rfl (by kernel_rfl) (hM.at g) rfl ?_
   repeat' (first|(apply b6; refine aZ ?_)|fail)
   refine cH 0 (lL mm (.int .i64 g) (aD (Mi f gl g i g + 1))) Tryz.underlying96 Tryz.underlying3 rfl rfl rfl rfl rfl gE (fun q h => fZ q h) ?_
   repeat' (first|refine a8 ?_|refine aa ?_)
   refine bF 10 [(0, .v), (1, .v), (2, .v), (3, .v), (4, .v), (5, .v), (7, .v), (8, .v), (6, .e), (9, .e)] none ?_ trivial rfl (by kernel_rfl) (by kernel_rfl) (by kernel_rfl) mixed (by kernel_rfl) rfl
   repeat' (first|refine aM ?_|refine bD a7 ?_|refine iK a7 ?_|fail)
   refine vF 1 (.slice none 0 0) (.vec (K q.Glyph) 1 (aT (Ui f gl g i q.Glyph))) Tryz.underlying422 Tryz.underlying3 rfl rfl rfl rfl (by kernel_rfl) (hU.at q.Glyph) trivial ?_
   repeat' (first|refine aM ?_|fail)
   refine kv a7 _ rfl rfl rfl rfl (kU (lQ hz)) (by rw [hUi]; show _ + 1 ≤ _; omega) (by rw [hUi]; show (_ + 1) * 8 ≤ _; omega) trivial fun k' => ?_
   repeat' (first|fail)
   refine bM [2, 5, 6, 7, 9, 17, 18, 19, 26, 31, 33, 40] rfl rfl ?_
   have hput := zH (e := 3) (K := K) (U := Ui f gl g i) (k := k') (l := Ui f gl g i q.Glyph ++ [(g : Int)]) (it n) hz
   rw [show aT (Ui f gl g i q.Glyph) ++ [[AV.sc (.int .i64 (g : Int))]] = aT (Ui f gl g i q.Glyph ++ [(g : Int)]) from nN _ [(g : Int)]]
   refine bq (bj (kU hput.symm).symm) ?_
   repeat' (first|fail)
   refine cH 1 (lL mu (.int .i64 q.Glyph) (.vec k' 1 (aT (Ui f gl g i q.Glyph ++ [(g : Int)])))) Tryz.underlying422 Tryz.underlying3 rfl rfl rfl rfl rfl gE (fun q h => fZ q h) ?_
   repeat' (first|refine aR ?_|refine aa ?_)
   refine bf (L' := qb bm bu p n kh (Rb f g) (rM dbs) (lL mm (.int .i64 g) (aD (Mi f gl g i g + 1)), lL mu (.int .i64 q.Glyph) (.vec k' 1 (aT (Ui f gl g i q.Glyph ++ [(g : Int)]))), (fun y => if y = q.Glyph then k' else K y), fun y => if y = q.Glyph then Ui f gl g i q.Glyph ++ [(g : Int)] else Ui f gl g i y) ++ [(db, lu)] ++ [(l, iE { rec with state := .busy })]) (bj (List.Perm.of_eq (by simp only [qb, fC, Ht, List.append_assoc, Hs]))) (pX ?_)
   rw [kW hrec.state hrec.pending]
   refine ⟨rfl, (lL mm (.int .i64 g) (aD (Mi f gl g i g + 1)), lL mu (.int .i64 q.Glyph) (.vec k' 1 (aT (Ui f gl g i q.Glyph ++ [(g : Int)]))), (fun y => if y = q.Glyph then k' else K y), fun y => if y = q.Glyph then Ui f gl g i q.Glyph ++ [(g : Int)] else Ui f gl g i y), ⟨?_, hU.put q.Glyph k' _, CG hq hG⟩, ?_⟩
   ·have := hM.put g (Mi f gl g i g + 1)
    rw [CC hq hG] at this
    exact this
   ·simp only [qb, Ht, List.append_assoc, Hs]
  have hsk : ∀ (i : Nat) (x : LX) (q : d6), (lf x.1 (Mi f gl g i) ∧ mZ x.2.1 x.2.2.1 x.2.2.2 ∧ x.2.2.2 = Ui f gl g i) → gl.Parts[i]? = some q → jv f q.Glyph = false → (lf x.1 (Mi f gl g (i + 1)) ∧ mZ x.2.1 x.2.2.1 x.2.2.2 ∧ x.2.2.2 = Ui f gl g (i + 1)) := by
   intro i x q h hq hG
   rw [Ek hq hG, Er hq hG]
   exact h
  have hit := Bt (σ0 := σ0) (l := l) f g gl hgg (fun x => qb bm bu p n kh (Rb f g) (rM dbs) x ++ [(db, lu)] ++ [(l, iE rec)]) (fun i x => lf x.1 (Mi f gl g i) ∧ mZ x.2.1 x.2.2.1 x.2.2.2 ∧ x.2.2.2 = Ui f gl g i) hy hsk (mm, mu, K, Ui f gl g 0) ⟨by rw [zV]; exact hM, by rw [u6]; exact hU, rfl⟩ (by have := hf.parts gl hgm; omega)
  refine ⟨_, hit, ?_⟩
  rintro c L' ⟨⟨mm', mu', K', U'⟩, ⟨hM', hU', rfl⟩, rfl⟩
  dsimp only at hM' hU' ⊢
  refine ⟨rec, _, Hp _, (by rw [hrec.state]; intro h; cases h), ?_⟩
  rw [hrec.pending]
  show AX _ _ _ _ _ _ _ _
  rw [CB hgg] at hM'
  rw [CE hgg] at hU' ⊢
  clear hy hsk hit hM hU
  unfold qb
  dsimp only
  simp only [Ht, List.append_assoc, Hs]
  repeat' (first|refine ae ?_|refine a6 ?_|refine a8 ?_|refine aR ?_|refine ah a7 rfl rfl ?_)
  refine gG 0 (.int .i64 0) (aD (Mb f (g + 1) g)) Tryz.underlying96 Tryz.underlying3 rfl rfl rfl rfl (by kernel_rfl) (hM'.at g) rfl ?_
  rw [show Mb f (g + 1) g = (prt f g).length by unfold Mb; rw [if_pos (by omega)]]
  repeat' (first|refine a8 ?_|refine aa ?_|refine ah a7 rfl rfl ?_)
  refine ay rfl (fun h => ?_) (fun h => ?_)
  ·have h0 : (prt f g).length = 0 := by have := Hz h; omega
   cases kh with
   | none =>
    have hR0 : Rb f g = [] := hR
    unfold hst nJ wV
    dsimp only
    simp only [Ht, Hs]
    repeat' (first|refine a6 ?_|refine ah a7 rfl rfl ?_|(apply c9; first|refine aC a7 0 rfl rfl rfl rfl rfl ?_|refine aC a7 1 rfl rfl rfl rfl rfl ?_|refine aC a7 2 rfl rfl rfl rfl rfl ?_|refine aC a7 3 rfl rfl rfl rfl rfl ?_|refine aJ a7 0 rfl rfl rfl rfl rfl ?_|refine aJ a7 1 rfl rfl rfl rfl rfl ?_|refine aJ a7 2 rfl rfl rfl rfl rfl ?_|refine aC a7 1 rfl rfl rfl (by assumption) rfl ?_|refine aC a7 0 rfl rfl rfl (by assumption) rfl ?_|fail)|refine cE a7 ?_|fail)
    refine wd a7 rfl rfl rfl rfl rfl rfl rfl fun b' cs' h1 h2 => ?_
    repeat' (first|refine a6 ?_|refine a8 ?_|refine aR ?_|refine aa ?_|refine ah a7 rfl rfl ?_|(apply b6; refine aZ ?_)|(apply aQ; first|refine ai 5 a7 0 rfl rfl rfl rfl rfl rfl rfl rfl ?_|refine ai 5 a7 1 rfl rfl rfl rfl rfl rfl rfl rfl ?_|refine ai 5 a7 2 rfl rfl rfl rfl rfl rfl rfl rfl ?_|refine ai 6 a7 0 rfl rfl rfl rfl rfl rfl rfl rfl ?_|refine ai 6 a7 1 rfl rfl rfl rfl rfl rfl rfl rfl ?_|refine ai 6 a7 2 rfl rfl rfl rfl rfl rfl rfl rfl ?_|refine ai 9 a7 0 rfl rfl rfl rfl rfl rfl rfl rfl ?_|refine ai 9 a7 1 rfl rfl rfl rfl rfl rfl rfl rfl ?_|refine ai 9 a7 2 rfl rfl rfl rfl rfl rfl rfl rfl ?_|refine ai 10 a7 0 rfl rfl rfl rfl rfl rfl rfl rfl ?_|refine ai 10 a7 1 rfl rfl rfl rfl rfl rfl rfl rfl ?_|refine ai 10 a7 2 rfl rfl rfl rfl rfl rfl rfl rfl ?_|refine aj a7 0 rfl rfl rfl rfl rfl rfl rfl ?_|refine aj a7 1 rfl rfl rfl rfl rfl rfl rfl ?_|refine aj a7 2 rfl rfl rfl rfl rfl rfl rfl ?_|refine aj a7 3 rfl rfl rfl rfl rfl rfl rfl ?_|fail))
    refine ln (g + 1, db :: dbs, mm', mu', K', some (b', cs')) rfl ⟨by rw [Hw]; rfl, trivial⟩ rfl ⟨by dsimp only; omega, hM', hU', ?_⟩ (by dsimp only; omega) (fun σ w h => ?_)
    ·rw [ja, if_pos h0, hR0]
     exact ⟨h1, h2, h2⟩
    ·have h := ct.perm (L := (b', .box cs' 3) :: (bm, bP KI mm') :: (bu, bP KI mu') :: (p, .box [.sc (.slice (some ⟨b', 0, none⟩) 1 cs'.length)] 423) :: (kc 3 K' (c5 (prt f) (ca (g + 1))) (ca n) ++ (rM dbs ++ [(db, lu)]))) h s1
     show ct B σ (qb bm bu p n (some (b', cs')) (Rb f (g + 1)) (rM (db :: dbs)) (mm', mu', K', c5 (prt f) (ca (g + 1)))) w
     rw [ja, if_pos h0, hR0]
     exact h
   | some kk =>
    obtain ⟨b, cs⟩ := kk
    rw [fW]
    simp only [Ht, Hs]
    repeat' (first|refine a6 ?_|refine ah a7 rfl rfl ?_|(apply c9; first|refine aC a7 0 rfl rfl rfl rfl rfl ?_|refine aC a7 1 rfl rfl rfl rfl rfl ?_|refine aC a7 2 rfl rfl rfl rfl rfl ?_|refine aC a7 3 rfl rfl rfl rfl rfl ?_|refine aJ a7 0 rfl rfl rfl rfl rfl ?_|refine aJ a7 1 rfl rfl rfl rfl rfl ?_|refine aJ a7 2 rfl rfl rfl rfl rfl ?_|refine aC a7 1 rfl rfl rfl (by assumption) rfl ?_|refine aC a7 0 rfl rfl rfl (by assumption) rfl ?_|fail)|refine cE a7 ?_|fail)
    have hRl := wZ f g
    refine wc a7 3 rfl rfl rfl rfl rfl rfl rfl hR.2.1 (by omega) (by omega) rfl fun b' cs' h1 h2 => ?_
    repeat' (first|refine a6 ?_|refine a8 ?_|refine aR ?_|refine aa ?_|refine ah a7 rfl rfl ?_|(apply b6; refine aZ ?_)|(apply aQ; first|refine ai 5 a7 0 rfl rfl rfl rfl rfl rfl rfl rfl ?_|refine ai 5 a7 1 rfl rfl rfl rfl rfl rfl rfl rfl ?_|refine ai 5 a7 2 rfl rfl rfl rfl rfl rfl rfl rfl ?_|refine ai 6 a7 0 rfl rfl rfl rfl rfl rfl rfl rfl ?_|refine ai 6 a7 1 rfl rfl rfl rfl rfl rfl rfl rfl ?_|refine ai 6 a7 2 rfl rfl rfl rfl rfl rfl rfl rfl ?_|refine ai 9 a7 0 rfl rfl rfl rfl rfl rfl rfl rfl ?_|refine ai 9 a7 1 rfl rfl rfl rfl rfl rfl rfl rfl ?_|refine ai 9 a7 2 rfl rfl rfl rfl rfl rfl rfl rfl ?_|refine ai 10 a7 0 rfl rfl rfl rfl rfl rfl rfl rfl ?_|refine ai 10 a7 1 rfl rfl rfl rfl rfl rfl rfl rfl ?_|refine ai 10 a7 2 rfl rfl rfl rfl rfl rfl rfl rfl ?_|refine aj a7 0 rfl rfl rfl rfl rfl rfl rfl ?_|refine aj a7 1 rfl rfl rfl rfl rfl rfl rfl ?_|refine aj a7 2 rfl rfl rfl rfl rfl rfl rfl ?_|refine aj a7 3 rfl rfl rfl rfl rfl rfl rfl ?_|fail))
    refine ln (g + 1, db :: dbs, mm', mu', K', some (b', cs')) rfl ⟨by rw [Hw]; rfl, trivial⟩ rfl ⟨by dsimp only; omega, hM', hU', ?_⟩ (by dsimp only; omega) (fun σ w h => ?_)
    ·rw [ja, if_pos h0]
     refine ⟨?_, by rw [List.length_append]; exact h2, by omega⟩
     rw [List.length_append, List.map_append, ← hR.1]
     exact h1
    ·have h := ct.perm (L := (b', .box cs' 3) :: (bm, bP KI mm') :: (bu, bP KI mu') :: (p, .box [.sc (.slice (some ⟨b', 0, none⟩) ((Rb f g).length + 1) cs'.length)] 423) :: (kc 3 K' (c5 (prt f) (ca (g + 1))) (ca n) ++ (rM dbs ++ [(db, lu)]))) h s1
     show ct B σ (qb bm bu p n (some (b', cs')) (Rb f (g + 1)) (rM (db :: dbs)) (mm', mu', K', c5 (prt f) (ca (g + 1)))) w
     rw [ja, if_pos h0]
     unfold qb
     rw [fW, List.length_append]
     exact h
  ·have h0 : ¬ (prt f g).length = 0 := by have := Hy h; omega
   repeat' (first|refine a6 ?_|refine aq ?_|refine a8 ?_|refine aR ?_|refine aa ?_|refine ah a7 rfl rfl ?_|(apply b6; refine aZ ?_)|fail)
   refine ln (g + 1, db :: dbs, mm', mu', K', kh) rfl ⟨by rw [Hw]; rfl, trivial⟩ rfl ⟨by dsimp only; omega, hM', hU', by rw [ja, if_neg h0]; exact hR⟩ (by dsimp only; omega) (fun σ w h => ?_)
   show ct B σ (qb bm bu p n kh (Rb f (g + 1)) (rM (db :: dbs)) (mm', mu', K', c5 (prt f) (ca (g + 1)))) w
   rw [ja, if_neg h0]
   refine h.perm (List.Perm.cons _ (List.Perm.cons _ (List.Perm.append_left _ (List.Perm.append_left _ ?_))))
   exact List.perm_append_singleton _ _
 have hgn : g = n := by have := Hy h; omega
 subst hgn
 clear h
 have hst0 : ld g (prt f) [] (Rb f g) (Mb f g) := by
  have h1 := ld.start (n := g) (pr := prt f) (M := Mb f g) fun z h0 h1 => by unfold Mb; rw [if_pos ⟨h0, h1⟩]
  have h2 : (ca g).filter (fun z => decide (Mb f g z = 0)) = Rb f g := by
   unfold Rb
   refine List.filter_congr fun z hz => ?_
   unfold Mb
   rw [if_pos (e9.1 hz)]
   exact decide_eq_decide.2 (by omega)
  rw [h2] at h1
  exact h1
 have hRl := wZ f g
 unfold qb
 dsimp only
 repeat' (first|refine ae ?_|refine a6 ?_|refine aL ?_|refine a8 ?_|refine av ?_|refine aA ?_|refine oJ ?_)
 refine jk (by kernel_rfl) rfl rfl ?_
 repeat' (first|fail)
 refine aV (hst p kh (Rb f g)) _ (y6 p kh (Rb f g) hR (by omega)) rfl rfl lM rfl fun c L1 ⟨kh', R', hL, hR', hpm⟩ => ?_
 subst hL
 refine bq (bj lM.symm) ?_
 repeat' (first|refine ae ?_|refine a6 ?_|refine ar ?_|refine a8 ?_|refine aa ?_|refine ah a7 rfl rfl ?_)
 refine cA (bA (t := 11) (c' := .vec none 1 (aT [])) rfl fun σ v h => er 1 h) ?_
 refine aI [5, 6, 7] (α := KS) (fun x => [(11, .vec x.kt 1 (aT x.T))]) (fun x => ld g (prt f) x.T x.R x.M ∧ lf x.mm x.M ∧ lT x.kh x.R) (fun x => FQ bm bu p mu (kc 3 K (c5 (prt f) (ca g)) (ca g) ++ rM dbs) x) (fun x => g - x.T.length) ⟨[], R', Mb f g, mm, kh', none⟩ rfl ⟨rfl, trivial⟩ ⟨hst0.perm hpm, hM, hR'⟩ (fun σ w h => ?_) ?_
 ·exact h
 rintro ⟨T, R, M, mm, kh, kt⟩ ⟨hK, hM, hR⟩
 dsimp only at hK hM hR ⊢
 unfold FQ
 dsimp only
 try dsimp only [Ht, Hs, Hr, Hn]
 cases kh with
 | none =>
  have hR0 : R = [] := hR
  subst hR0
  unfold hst nJ wV
  dsimp only
  repeat' (first|refine ae ?_|refine a6 ?_|refine am ?_|refine aL ?_|refine a8 ?_|refine av ?_|refine aA ?_|refine az ?_|refine aa ?_|refine ah a7 rfl rfl ?_|(apply c9; first|refine aC a7 0 rfl rfl rfl rfl rfl ?_|refine aC a7 1 rfl rfl rfl rfl rfl ?_|refine aC a7 2 rfl rfl rfl rfl rfl ?_|refine aC a7 3 rfl rfl rfl rfl rfl ?_|refine aJ a7 0 rfl rfl rfl rfl rfl ?_|refine aJ a7 1 rfl rfl rfl rfl rfl ?_|refine aJ a7 2 rfl rfl rfl rfl rfl ?_|refine aC a7 1 rfl rfl rfl (by assumption) rfl ?_|refine aC a7 0 rfl rfl rfl (by assumption) rfl ?_|fail)|refine bi rfl ?_)
  refine bf (bA (t := 4) (c' := .imm 1 (aT T)) rfl fun σ v h => VR.im h) ?_
  refine cB (L' := rM dbs) (((((List.sublist_append_right _ _).trans (List.sublist_append_right _ _)).trans (List.sublist_append_right _ _)).cons _).cons _) ?_
  exact ko (cs := [.imm 1 (aT T)]) dbs [] rfl (Hp _) ⟨rfl, trivial⟩ ⟨T, rfl, hK.fin⟩
 | some kk =>
  obtain ⟨b, cs⟩ := kk
  rw [fW]
  have hTR := ev hK.nodup hK.dom
  rw [List.length_append] at hTR
  repeat' (first|refine ae ?_|refine a6 ?_|refine a8 ?_|refine aa ?_|refine ah a7 rfl rfl ?_|(apply c9; first|refine aC a7 0 rfl rfl rfl rfl rfl ?_|refine aC a7 1 rfl rfl rfl rfl rfl ?_|refine aC a7 2 rfl rfl rfl rfl rfl ?_|refine aC a7 3 rfl rfl rfl rfl rfl ?_|refine aJ a7 0 rfl rfl rfl rfl rfl ?_|refine aJ a7 1 rfl rfl rfl rfl rfl ?_|refine aJ a7 2 rfl rfl rfl rfl rfl ?_|refine aC a7 1 rfl rfl rfl (by assumption) rfl ?_|refine aC a7 0 rfl rfl rfl (by assumption) rfl ?_|fail)|fail)
  refine ay rfl (fun h => ?_) (fun h => ?_)
  ·have h0 : 0 < R.length := by have := Hz h; omega
   clear h
   repeat' (first|refine ae ?_|refine a6 ?_|refine ar ?_|refine aq ?_|refine a8 ?_)
   refine jk (by kernel_rfl) rfl rfl ?_
   repeat' (first|fail)
   refine aV (hst p (some (b, cs)) R) _ (Bc p b cs R hR h0 (by omega)) rfl rfl lM rfl fun c L1 ⟨z, cs', R', hc, hL, hR', hpm⟩ => ?_
   subst hc; subst hL
   refine bq (bj lM.symm) ?_
   repeat' (first|fail)
   refine yx (by kernel_rfl) rfl rfl ?_
   repeat' (first|refine ae ?_|refine a6 ?_|refine a8 ?_|refine aa ?_|refine ah a7 rfl rfl ?_|refine cE a7 ?_|fail)
   have hKm := (hK.perm hpm).pop
   have hz := hKm.dom z (by simp)
   have hTz : z ∉ T := fun hm => by
    have := hKm.nodup
    rw [List.append_assoc, List.nodup_append] at this
    exact this.2.2 z hm z (by simp) rfl
   have hTl := ev (List.nodup_append.1 hKm.nodup).1 (fun y hy => hKm.dom y (List.mem_append_left _ hy))
   rw [List.length_append] at hTl
   have hTi := bg T
   have hall : ∀ q : Int, 0 ≤ q → q < g → (c5 (prt f) (ca g) z).count q = (prt f q).count z := fun q q0 q1 => by rw [jJ _ _ _ _ (it g), if_pos (e9.2 ⟨q0, q1⟩)]
   have hUl := lS hf.prt z (ca g)
   rw [dP] at hUl
   refine cP a7 _ rfl rfl rfl rfl (kU (T := tok kt 3 1 (aT T).length) (T' := []) (by rw [List.append_nil])) (by rw [hTi]; show _ + 1 ≤ _; simp at hTl; omega) (by rw [hTi]; show (_ + 1) * 8 ≤ _; simp at hTl; omega) rfl fun k' => ?_
   rw [show aT T ++ [[AV.sc (.int .i64 z)]] = aT (T ++ [z]) from nN T [z]]
   refine bq (bj (kU (T := tok k' 3 1 (aT (T ++ [z])).length) (T' := []) (by rw [List.append_nil])).symm) ?_
   repeat' (first|refine ae ?_|refine a6 ?_|refine a8 ?_|refine aa ?_|refine ah a7 rfl rfl ?_)
   refine gG 1 (.slice none 0 0) (.vec (K z) 1 (aT (c5 (prt f) (ca g) z))) Tryz.underlying422 Tryz.underlying3 rfl rfl rfl rfl (by kernel_rfl) (hU.at z) rfl ?_
   repeat' (first|refine ar ?_|refine a8 ?_|refine aa ?_|refine ah a7 rfl rfl ?_)
   have hUi := bg (c5 (prt f) (ca g) z)
   refine aI [5, 6, 7, 11, 64, 65] (α := Nat × KS) (fun x => [(66, aD x.1)]) (fun x => x.2.T = T ++ [z] ∧ x.2.kt = k' ∧ x.1 ≤ (c5 (prt f) (ca g) z).length ∧ oH g (prt f) T z ((c5 (prt f) (ca g) z).take x.1) x.2.R x.2.M ∧ lf x.2.mm x.2.M ∧ lT x.2.kh x.2.R) (fun x => FQ bm bu p mu (kc 3 K (c5 (prt f) (ca g)) (ca g) ++ rM dbs) x.2) (fun x => (c5 (prt f) (ca g) z).length - x.1) (0, ⟨T ++ [z], R', M, mm, some (b, cs'), k'⟩) rfl ⟨rfl, trivial⟩ ⟨rfl, rfl, Nat.zero_le _, hKm, hM, hR'⟩ (fun σ w h => h) ?_
   clear hM hR hK hR' hKm hpm
   rintro ⟨j, ⟨T', R, M, mm, kh, kt'⟩⟩ ⟨hT', hk', hj, hK, hM, hR⟩
   dsimp only at hT' hk' hj hK hM hR ⊢
   subst hT'; subst hk'
   unfold FQ
   dsimp only
   try dsimp only [Ht, Hs, Hr, Hn]
   repeat' (first|refine ae ?_|refine a6 ?_|refine a8 ?_|refine aa ?_|refine ah a7 rfl rfl ?_)
   refine ay rfl (fun h => ?_) (fun h => ?_)
   ·have hjl : j < (c5 (prt f) (ca g) z).length := by have := Hz h; rw [hUi] at this; omega
    obtain ⟨u, hu⟩ : ∃ u, (c5 (prt f) (ca g) z)[j]? = some u := ⟨_, Eg hjl⟩
    have hug := bU hu
    have hur := e9.1 (wR (Hx hu))
    obtain ⟨hpos, hK'⟩ := hK.step hall hTz hu hur.1 hur.2
    have hmu := hK.miss u hur.1 hur.2
    have hml := yw (prt f) T u
    have hpl := hf.prt u
    have hRl2 := ev hK.nodup hK.dom
    rw [List.length_append, List.length_append] at hRl2
    clear h
    repeat' (first|refine ae ?_|refine a6 ?_|refine ar ?_|refine aq ?_|refine a8 ?_|refine aa ?_|refine ah a7 rfl rfl ?_|(apply aO; first|refine aN a7 ?_|refine aH a7 ?_)|fail)
    refine gG 0 (.int .i64 0) (aD (M u)) Tryz.underlying96 Tryz.underlying3 rfl rfl rfl rfl (by kernel_rfl) (hM.at u) rfl ?_
    repeat' (first|(apply b6; refine aZ ?_)|fail)
    refine cH 0 (lL mm (.int .i64 u) (aD (M u - 1))) Tryz.underlying96 Tryz.underlying3 rfl rfl rfl rfl rfl gE (fun q h => fZ q h) ?_
    repeat' (first|refine ae ?_|refine a6 ?_|refine a8 ?_|refine aa ?_|refine ah a7 rfl rfl ?_)
    refine gG 0 (.int .i64 0) (aD (M u - 1)) Tryz.underlying96 Tryz.underlying3 rfl rfl rfl rfl (by kernel_rfl) (fun σ v h => ?_) rfl ?_
    ·have := (hM.put u (M u - 1)).at u σ v h
     simpa using this
    repeat' (first|refine a8 ?_|refine aa ?_|refine ah a7 rfl rfl ?_)
    refine ay rfl (fun h => ?_) (fun h => ?_)
    ·have h1 := Hz h
     rw [if_pos h1] at hK'
     repeat' (first|refine a6 ?_)
     refine jk (by kernel_rfl) rfl rfl ?_
     repeat' (first|refine ah a7 rfl rfl ?_)
     refine jk (by kernel_rfl) rfl rfl ?_
     repeat' (first|fail)
     refine aV (hst p kh R) _ (y7 p kh R u hR (by omega)) rfl rfl lM rfl fun c L1 ⟨b2, cs2, R2, hL, hR2, hpm⟩ => ?_
     subst hL
     refine bq (bj lM.symm) ?_
     repeat' (first|refine a6 ?_|refine a8 ?_|refine aR ?_|refine aa ?_|refine ah a7 rfl rfl ?_|(apply b6; refine aZ ?_)|fail)
     exact aF (j + 1, ⟨T ++ [z], R2, _, _, some (b2, cs2), kt'⟩) rfl ⟨by rw [Hw]; rfl, trivial⟩ ⟨rfl, rfl, by dsimp only; omega, hK'.perm hpm, hM.put u (M u - 1), hR2⟩ (by dsimp only; omega) (fun _ _ h => h)
    ·have h1 := Hy h
     rw [if_neg h1] at hK'
     repeat' (first|refine a6 ?_|refine aq ?_|refine a8 ?_|refine aR ?_|refine aa ?_|refine ah a7 rfl rfl ?_|(apply b6; refine aZ ?_)|fail)
     exact aF (j + 1, ⟨T ++ [z], R, _, _, kh, kt'⟩) rfl ⟨by rw [Hw]; rfl, trivial⟩ ⟨rfl, rfl, by dsimp only; omega, hK', hM.put u (M u - 1), hR⟩ (by dsimp only; omega) (fun _ _ h => h)
   ·have hjl : j = (c5 (prt f) (ca g) z).length := by have := Hy h; rw [hUi] at this; omega
    subst hjl
    rw [List.take_length] at hK
    repeat' (first|refine aL ?_|refine av ?_|refine aR ?_|refine aA ?_|refine az ?_)
    exact aF ⟨T ++ [z], R, M, mm, kh, kt'⟩ rfl ⟨rfl, trivial⟩ ⟨hK.done hall hTz, hM, hR⟩ (by dsimp only; simp at hTl ⊢; omega) (fun _ _ h => h)
  ·have hR0 : R = [] := List.eq_nil_of_length_eq_zero (by have := Hy h; omega)
   subst hR0
   repeat' (first|refine ae ?_|refine a6 ?_|refine am ?_|refine aL ?_|refine a8 ?_|refine av ?_|refine aA ?_|refine az ?_|refine aa ?_|refine ah a7 rfl rfl ?_)
   refine bf (bA (t := 4) (c' := .imm 1 (aT T)) rfl fun σ v h => VR.im h) ?_
   refine cB (L' := rM dbs) (((((List.sublist_append_right _ _).trans (List.sublist_append_right _ _)).trans (List.sublist_append_right _ _)).cons _).cons _) ?_
   exact ko (cs := [.imm 1 (aT T)]) dbs [] rfl (Hp _) ⟨rfl, trivial⟩ ⟨T, rfl, hK.fin⟩
end Go.Proofs.YtamjlkdanllgjaaGreatDoor
