/-
  Numbers in a line, each behind what it needs.
-/
import Derived.Test.YtjjpkibjffmceaaGreatM15
import Derived.Test.YtjjpkibjffmceaaGreatM10
namespace Go.Proofs.YtjjpkibjffmceaaGreat
def cH (n : Nat) : List Int := (List.range n).map fun (i : Nat) => (i : Int)
theorem f7 {n : Nat} {z : Int} : z ∈ cH n ↔ 0 ≤ z ∧ z < n := by
 simp only [cH, List.mem_map, List.mem_range]
 constructor
 ·rintro ⟨i, hi, rfl⟩; omega
 ·rintro ⟨h0, h1⟩; exact ⟨z.toNat, by omega, by omega⟩
theorem js (n : Nat) : (cH n).Nodup := by
 unfold cH List.Nodup
 rw [List.pairwise_map]
 exact List.nodup_range.imp fun h e => h (by omega)
theorem eM (n : Nat) : (cH n).length = n := by simp [cH]
theorem iT {n i : Nat} (h : i < n) : (cH n)[i]? = some (i : Int) := by simp [cH, h]
theorem qC (n : Nat) : cH (n + 1) = cH n ++ [(n : Int)] := by
 unfold cH
 rw [List.range_succ, List.map_append]
 rfl
def cu (pr : Int → List Int) (gs : List Int) (z : Int) : List Int := gs.flatMap fun g => ((pr g).filter fun p => decide (p = z)).map fun _ => g
theorem kM (pr : Int → List Int) (z g : Int) : ∀ gs : List Int, gs.Nodup → (cu pr gs z).count g = if g ∈ gs then (pr g).count z else 0
 | [], _ => by simp [cu]
 | y :: gs, h => by
  have h' := List.nodup_cons.1 h
  have ih := kM pr z g gs h'.2
  unfold cu at ih ⊢
  rw [List.flatMap_cons, List.count_append, ih]
  by_cases e : y = g
  ·subst e
   rw [if_pos (List.mem_cons_self ..), if_neg h'.1, List.map_const', List.count_replicate_self, Nat.add_zero, List.count_eq_countP, List.countP_eq_length_filter]
   rfl
  ·rw [List.map_const', List.count_replicate, if_neg (by simpa using e), Nat.zero_add]
   by_cases hm : g ∈ gs
   ·rw [if_pos hm, if_pos (Gt _ hm)]
   ·rw [if_neg hm, if_neg (by simp [hm]; exact fun h => e h.symm)]
def kG (pr : Int → List Int) (T : List Int) (g : Int) : Nat := ((pr g).filter fun p => decide (p ∉ T)).length
theorem oQ (pr : Int → List Int) {T : List Int} {x : Int} (hx : x ∉ T) (g : Int) : kG pr (T ++ [x]) g + (pr g).count x = kG pr T g := by
 unfold kG
 induction pr g with
 | nil => rfl
 | cons p l ih =>
  rw [List.filter_cons, List.filter_cons, List.count_cons]
  by_cases e : p = x
  ·subst e
   rw [if_neg (by simp), if_pos (decide_eq_true hx)]
   rw [if_pos (by simp), List.length_cons]
   omega
  ·have e1 : decide (p ∉ T ++ [x]) = decide (p ∉ T) := by simp [e]
   rw [e1]
   have e2 : (p == x) = false := by simpa using e
   rw [e2]
   simp only [Bool.false_eq_true, if_false]
   split
   ·simp only [List.length_cons]; omega
   ·omega
theorem oR {pr : Int → List Int} {T : List Int} {g : Int} : kG pr T g = 0 ↔ ∀ p ∈ pr g, p ∈ T := by
 unfold kG
 rw [List.length_eq_zero_iff, List.filter_eq_nil_iff]
 simp
def vI (pr : Int → List Int) (T : List Int) : Prop := ∀ (i : Nat) (x : Int), T[i]? = some x → ∀ p ∈ pr x, p ∈ T.take i
theorem vI.snoc {pr : Int → List Int} {T : List Int} {x : Int} (h : vI pr T) (hx : ∀ p ∈ pr x, p ∈ T) : vI pr (T ++ [x]) := by
 intro i y hy p hp
 by_cases hi : i < T.length
 ·rw [List.getElem?_append_left hi] at hy
  rw [List.take_append_of_le_length (by omega)]
  exact h i y hy p hp
 ·rw [List.getElem?_append_right (by omega)] at hy
  have hil : i - T.length = 0 := by
   rcases Nat.eq_zero_or_pos (i - T.length) with h0 | h0
   ·exact h0
   ·rw [List.getElem?_eq_none (by simp; omega)] at hy; cases hy
  rw [hil] at hy
  simp at hy
  subst hy
  rw [show i = T.length by omega, List.take_left]
  exact hx p hp
structure mn (n : Nat) (pr : Int → List Int) (T R : List Int) (M : Int → Int) : Prop where
 nodup : (T ++ R).Nodup
 dom : ∀ z ∈ T ++ R, 0 ≤ z ∧ z < n
 miss : ∀ g : Int, 0 ≤ g → g < n → M g = kG pr T g
 ready : ∀ g : Int, 0 ≤ g → g < n → (g ∈ T ++ R ↔ M g = 0)
 topo : vI pr T
structure py (n : Nat) (pr : Int → List Int) (T : List Int) (x : Int) (us : List Int) (R : List Int) (M : Int → Int) : Prop where
 nodup : (T ++ [x] ++ R).Nodup
 dom : ∀ z ∈ T ++ [x] ++ R, 0 ≤ z ∧ z < n
 miss : ∀ g : Int, 0 ≤ g → g < n → M g + us.count g = kG pr T g
 ready : ∀ g : Int, 0 ≤ g → g < n → (g ∈ T ++ [x] ++ R ↔ M g = 0)
 topo : vI pr (T ++ [x])
theorem mn.perm {n : Nat} {pr : Int → List Int} {T R R' : List Int} {M : Int → Int} (h : mn n pr T R M) (hp : R'.Perm R) : mn n pr T R' M := by
 have hp' : (T ++ R').Perm (T ++ R) := List.Perm.append_left T hp
 exact ⟨hp'.nodup_iff.2 h.nodup, fun z hz => h.dom z (hp'.mem_iff.1 hz), h.miss, fun g h0 h1 => by rw [hp'.mem_iff]; exact h.ready g h0 h1, h.topo⟩
theorem py.perm {n : Nat} {pr : Int → List Int} {T R R' us : List Int} {x : Int} {M : Int → Int} (h : py n pr T x us R M) (hp : R'.Perm R) : py n pr T x us R' M := by
 have hp' : (T ++ [x] ++ R').Perm (T ++ [x] ++ R) := List.Perm.append_left _ hp
 exact ⟨hp'.nodup_iff.2 h.nodup, fun z hz => h.dom z (hp'.mem_iff.1 hz), h.miss, fun g h0 h1 => by rw [hp'.mem_iff]; exact h.ready g h0 h1, h.topo⟩
theorem mn.pop {n : Nat} {pr : Int → List Int} {T R : List Int} {x : Int} {M : Int → Int} (h : mn n pr T (R ++ [x]) M) : py n pr T x [] R M := by
 have hp : (T ++ [x] ++ R).Perm (T ++ (R ++ [x])) := by
  rw [List.append_assoc]
  exact List.Perm.append_left T List.perm_append_comm
 have hx := h.dom x (by simp)
 refine ⟨hp.nodup_iff.2 h.nodup, fun z hz => h.dom z (hp.mem_iff.1 hz), fun g h0 h1 => by simpa using h.miss g h0 h1, fun g h0 h1 => by rw [hp.mem_iff]; exact h.ready g h0 h1, h.topo.snoc ?_⟩
 have h1 := (h.ready x hx.1 hx.2).1 (by simp)
 rw [h.miss x hx.1 hx.2] at h1
 exact oR.1 (by omega)
theorem jv {all : List Int} {j : Nat} {u : Int} (h : all[j]? = some u) (g : Int) : (all.take (j + 1)).count g = (all.take j).count g + if u = g then 1 else 0 := by
 rw [List.take_add_one, h, Option.toList_some, List.count_append]
 by_cases e : u = g
 ·subst e; simp
 ·rw [if_neg e, List.count_singleton, if_neg (by simpa using e)]
theorem py.step {n : Nat} {pr : Int → List Int} {T R all : List Int} {x u : Int} {j : Nat} {M : Int → Int} (hall : ∀ g : Int, 0 ≤ g → g < n → all.count g = (pr g).count x) (hx : x ∉ T) (h : py n pr T x (all.take j) R M) (hu : all[j]? = some u) (h0 : 0 ≤ u) (h1 : u < n) :
  0 < M u ∧ py n pr T x (all.take (j + 1)) (if M u - 1 = 0 then R ++ [u] else R) (fun g => if g = u then M u - 1 else M g) := by
 have hm := h.miss u h0 h1
 have hlt : (all.take (j + 1)).count u ≤ all.count u := (List.take_sublist _ _).count_le u
 have hsn := oQ pr hx u
 rw [jv hu, if_pos rfl, hall u h0 h1] at hlt
 have hpos : 0 < M u := by omega
 have hnot : u ∉ T ++ [x] ++ R := fun hm' => by have := (h.ready u h0 h1).1 hm'; omega
 refine ⟨hpos, ?_⟩
 have hmiss : ∀ g : Int, 0 ≤ g → g < n → (if g = u then M u - 1 else M g) + ((all.take (j + 1)).count g : Int) = kG pr T g := by
  intro g g0 g1
  rw [jv hu]
  by_cases e : g = u
  ·subst e
   rw [if_pos rfl, if_pos rfl]
   have := h.miss g g0 g1
   omega
  ·rw [if_neg e, if_neg (fun q => e q.symm)]
   have := h.miss g g0 g1
   omega
 by_cases hz : M u - 1 = 0
 ·rw [if_pos hz]
  refine ⟨?_, fun z hz' => ?_, hmiss, fun g g0 g1 => ?_, h.topo⟩
  ·rw [← List.append_assoc, List.nodup_append]
   refine ⟨h.nodup, by simp, fun a ha b hb => ?_⟩
   rw [Gk hb]
   exact fun e => hnot (e ▸ ha)
  ·rw [← List.append_assoc] at hz'
   rcases Gl hz' with hz' | hz'
   ·exact h.dom z hz'
   ·rw [Gk hz']; exact ⟨h0, h1⟩
  ·rw [← List.append_assoc, List.mem_append, List.mem_singleton]
   by_cases e : g = u
   ·subst e; simp [hz]
   ·rw [if_neg e, h.ready g g0 g1]
    simp [e]
 ·rw [if_neg hz]
  refine ⟨h.nodup, h.dom, hmiss, fun g g0 g1 => ?_, h.topo⟩
  by_cases e : g = u
  ·subst e
   rw [if_pos rfl]
   exact ⟨fun q => absurd q hnot, fun q => absurd q hz⟩
  ·rw [if_neg e]
   exact h.ready g g0 g1
theorem py.done {n : Nat} {pr : Int → List Int} {T R all : List Int} {x : Int} {M : Int → Int} (hall : ∀ g : Int, 0 ≤ g → g < n → all.count g = (pr g).count x) (hx : x ∉ T) (h : py n pr T x all R M) : mn n pr (T ++ [x]) R M := by
 refine ⟨h.nodup, h.dom, fun g h0 h1 => ?_, h.ready, h.topo⟩
 have h2 := h.miss g h0 h1
 have h3 := oQ pr hx g
 rw [hall g h0 h1] at h2
 omega
structure io (n : Nat) (pr : Int → List Int) (T : List Int) : Prop where
 nodup : T.Nodup
 dom : ∀ z ∈ T, 0 ≤ z ∧ z < n
 topo : vI pr T
 full : ∀ g : Int, 0 ≤ g → g < n → (∀ p ∈ pr g, p ∈ T) → g ∈ T
theorem mn.fin {n : Nat} {pr : Int → List Int} {T : List Int} {M : Int → Int} (h : mn n pr T [] M) : io n pr T := by
 have h1 := h.nodup
 have h2 := h.dom
 have h3 := h.ready
 rw [List.append_nil] at h1 h2 h3
 exact ⟨h1, h2, h.topo, fun g h0 h4 hp => (h3 g h0 h4).2 (by rw [h.miss g h0 h4, oR.2 hp]; rfl)⟩
theorem mn.start {n : Nat} {pr : Int → List Int} {M : Int → Int} (hM : ∀ g : Int, 0 ≤ g → g < n → M g = (pr g).length) : mn n pr [] ((cH n).filter fun g => decide (M g = 0)) M := by
 refine ⟨by rw [Gq]; exact (js n).filter _, fun z hz => ?_, fun g h0 h1 => ?_, fun g h0 h1 => ?_, fun i x h => by simp at h⟩
 ·rw [Gq, List.mem_filter, f7] at hz
  exact hz.1
 ·rw [hM g h0 h1]
  unfold kG
  rw [List.filter_eq_self.2 (by simp)]
 ·rw [Gq, List.mem_filter, f7, decide_eq_true_eq]
  exact ⟨fun h => h.2, fun h => ⟨⟨h0, h1⟩, h⟩⟩
def jA (n : Nat) (pr : Int → List Int) : Prop := ∃ r : Int → Nat, ∀ g : Int, 0 ≤ g → g < n → ∀ p ∈ pr g, r p < r g
theorem io.all {n : Nat} {pr : Int → List Int} {T : List Int} (h : io n pr T) (ha : jA n pr) (hp : ∀ g, ∀ p ∈ pr g, 0 ≤ p ∧ p < n) : ∀ g : Int, 0 ≤ g → g < n → g ∈ T := by
 obtain ⟨r, hr⟩ := ha
 have : ∀ (k : Nat) (g : Int), r g < k → 0 ≤ g → g < n → g ∈ T := by
  intro k
  induction k with
  | zero => intro g hk; exact absurd hk (Nat.not_lt_zero _)
  | succ k ih =>
   intro g hk h0 h1
   refine h.full g h0 h1 fun p hpp => ih p ?_ (hp g p hpp).1 (hp g p hpp).2
   have := hr g h0 h1 p hpp
   omega
 intro g h0 h1
 exact this (r g + 1) g (by omega) h0 h1
theorem io.len {n : Nat} {pr : Int → List Int} {T : List Int} (h : io n pr T) : T.length ≤ n := gw h.nodup h.dom
theorem lT : ∀ (l T : List Int), l.Nodup → (∀ x ∈ l, x ∈ T) → l.length ≤ T.length
 | [], _, _, _ => Nat.zero_le _
 | x :: l, T, h, hs => by
  have h' := List.nodup_cons.1 h
  have hx := hs x (List.mem_cons_self ..)
  have := lT l (T.erase x) h'.2 fun y hy => (List.mem_erase_of_ne (fun e => h'.1 (by rw [← e]; exact hy))).2 (hs y (Gt _ hy))
  rw [List.length_erase_of_mem hx] at this
  have hpos := List.length_pos_of_mem hx
  rw [List.length_cons]
  omega
theorem io.len_all {n : Nat} {pr : Int → List Int} {T : List Int} (h : io n pr T) (ha : ∀ g : Int, 0 ≤ g → g < n → g ∈ T) : T.length = n := by
 refine Nat.le_antisymm h.len ?_
 have := lT (cH n) T (js n) fun z hz => by
  rw [f7] at hz
  exact ha z hz.1 hz.2
 rwa [eM] at this
theorem io.all_of_len {n : Nat} {pr : Int → List Int} {T : List Int} (h : io n pr T) (hl : T.length = n) : ∀ g : Int, 0 ≤ g → g < n → g ∈ T := by
 intro g h0 h1
 apply Classical.byContradiction
 intro hn
 have := gw (l := g :: T) (n := n) (List.nodup_cons.2 ⟨hn, h.nodup⟩) fun z hz => by
  rcases List.mem_cons.1 hz with rfl | hz
  ·exact ⟨h0, h1⟩
  ·exact h.dom z hz
 rw [List.length_cons] at this
 omega
theorem io.acyc {n : Nat} {pr : Int → List Int} {T : List Int} (h : io n pr T) (ha : ∀ g : Int, 0 ≤ g → g < n → g ∈ T) : jA n pr := by
 refine ⟨fun g => T.idxOf g, fun g h0 h1 p hp => ?_⟩
 have hg := ha g h0 h1
 have hi := List.idxOf_lt_length_iff.2 hg
 have h2 := h.topo (T.idxOf g) g (by rw [Ds hi, List.getElem_idxOf]) p hp
 obtain ⟨j, hj⟩ := List.mem_iff_getElem?.1 h2
 rw [List.getElem?_take] at hj
 split at hj
 ·rename_i hlt
  dsimp only
  obtain ⟨hjl, hje⟩ := Gn hj
  have : T.idxOf p ≤ j := by
   rw [← hje]
   have := h.nodup.idxOf_getElem j hjl
   omega
  omega
 ·cases hj
end Go.Proofs.YtjjpkibjffmceaaGreat
namespace Go.Proofs.YtjjpkibjffmceaaGreat
open Go.RowKit
attribute [local irreducible] AT bT AX AO Av Kt bk ej DA cX
theorem xg (f : aJ) (n : Int) : bO Tryz.prog 263 [cr f, aM n] (cF (jS f n)) := by
 refine aP Tryz.func263 rfl Tryz.ntmps263 rfl fun B => ?_
 repeat' (first|refine ah ?_|refine a7 ?_|refine a8 ?_|refine aa ?_|refine ae a6 rfl rfl ?_|refine be ?_|fail)
 refine cZ (t := 4) [] (jS f n = true) rfl (fun Q' K => ?_) ?_
 ·repeat' (first|refine aa ?_|refine ae a6 rfl rfl ?_|refine aG rfl rfl ?_|refine aL rfl rfl rfl rfl ?_|refine bc rfl rfl rfl (fun _ => ?_) (fun _ => ?_))
  all_goals exact K _ _ rfl rfl (by unfold jS; simp_all <;> omega)
 repeat' (first|refine ar ?_|refine a8 ?_)
 refine aA rfl rfl ?_
 simp
instance (f : aJ) (n : Int) : AD Tryz.prog 263 [cr f, aM n] (cF (jS f n)) := ⟨xg f n⟩
theorem wQ (f : aJ) (g : Int) : bO Tryz.prog 251 [cr f, aM g] (.fn 262 [.iptr (bZ f), .iptr [aM g]]) := by
 refine aP Tryz.func251 rfl Tryz.ntmps251 rfl fun B => ?_
 repeat' (first|refine ah ?_|refine a7 ?_|refine ar ?_|refine a8 ?_|refine aa ?_|refine ae a6 rfl rfl ?_|refine be ?_|fail)
 exact aA rfl rfl rfl
instance (f : aJ) (g : Int) : AD Tryz.prog 251 [cr f, aM g] (.fn 262 [.iptr (bZ f), .iptr [aM g]]) := ⟨wQ f g⟩
set_option maxHeartbeats 1000000 in
theorem Bh {α : Type} {σ0 : cw} {l : Nat} (f : aJ) (g : Nat) (gl : bf) (hg : f.Glyphs[g]? = some gl) (E : α → AL) (J : Nat → α → Prop)
  (hy : ∀ i x p, J i x → gl.Parts[i]? = some p → jS f p.Glyph = true → AY Tryz.prog σ0 l [.agg (cn p)] (E x) fun c L => c = cF true ∧ ∃ x', J (i + 1) x' ∧ L = E x')
  (hs : ∀ i x p, J i x → gl.Parts[i]? = some p → jS f p.Glyph = false → J (i + 1) x) (x0 : α) (h0 : J 0 x0) (hlen : gl.Parts.length ≤ 1000000) :
  zP Tryz.prog σ0 262 [.sc (.func (.yield l) #[] #[]), .iptr (bZ f), .iptr [aM g]] (E x0) fun _ L => ∃ x, J gl.Parts.length x ∧ L = E x := by
 refine qI Tryz.func262 rfl Tryz.ntmps262 rfl fun B hB => ?_
 have hgg := bj (c := bb) hg
 repeat' (first|refine ah ?_|refine a7 ?_|refine aq ?_|refine a8 ?_|refine aa ?_|refine ae a6 rfl rfl ?_|(apply aY; first|refine aX a6 ?_|refine aS a6 ?_)|fail)
 refine aN [0, 1, 11, 12] (α := Nat × α) (fun y => [(13, aM y.1)]) (fun y => y.1 ≤ gl.Parts.length ∧ J y.1 y.2) (fun y => E y.2) (fun y => gl.Parts.length - y.1) (0, x0) rfl ⟨rfl, trivial⟩ ⟨Nat.zero_le _, h0⟩ (fun _ _ h => h) ?_
 rintro ⟨i, x⟩ ⟨hi, hj⟩
 dsimp only at hi hj ⊢
 try dsimp only [Gr, Gq, Gp, Gj]
 repeat' (first|refine ah ?_|refine a7 ?_|refine a8 ?_|refine aa ?_|refine ae a6 rfl rfl ?_)
 refine aw rfl (fun h => ?_) (fun h => ?_)
 ·have hil : i < gl.Parts.length := by have := Gz h; simp at this; omega
  obtain ⟨p, hp⟩ : ∃ z, gl.Parts[i]? = some z := ⟨_, Ds hil⟩
  have hpg := bj (c := cn) hp
  repeat' (first|refine ah ?_|refine a7 ?_|refine aq ?_|refine au ?_|refine a8 ?_|refine aa ?_|refine ae a6 rfl rfl ?_|(apply aY; first|refine aX a6 ?_|refine aS a6 ?_)|(apply aH; first|refine ai 5 a6 0 rfl rfl rfl rfl rfl rfl rfl rfl ?_|refine ai 5 a6 1 rfl rfl rfl rfl rfl rfl rfl rfl ?_|refine ai 5 a6 2 rfl rfl rfl rfl rfl rfl rfl rfl ?_|refine aj a6 0 rfl rfl rfl rfl rfl rfl rfl ?_|refine aj a6 1 rfl rfl rfl rfl rfl rfl rfl ?_|refine aj a6 2 rfl rfl rfl rfl rfl rfl rfl ?_|refine aj a6 3 rfl rfl rfl rfl rfl rfl rfl ?_|fail)|refine b5 a6 fun _=>?_|(apply bA;refine bh ?_)|fail)
  by_cases hG : jS f p.Glyph = true
  ·rw [hG]
   repeat' (first|refine ae a6 rfl rfl ?_|refine aG rfl rfl ?_)
   refine nQ (E x) [] hB (hy i x p hj hp hG) rfl rfl rfl (by rw [List.append_nil]; exact Gm _) rfl rfl fun c L1 ⟨hc, x', hj', hL⟩ => ?_
   subst hc; subst hL
   rw [List.append_nil]
   repeat' (first|refine a7 ?_|refine au ?_|refine a8 ?_|refine aI ?_|refine aa ?_|refine ae a6 rfl rfl ?_|refine aG rfl rfl ?_|(apply aW; refine aV ?_)|refine bv rfl ?_)
   exact aC (i + 1, x') rfl ⟨by rw [Gw]; rfl, trivial⟩ ⟨by dsimp only; omega, hj'⟩ (by dsimp only; omega) (fun _ _ h => h)
  ·have hG' : jS f p.Glyph = false := by simpa using hG
   rw [hG']
   repeat' (first|refine a7 ?_|refine au ?_|refine a8 ?_|refine aI ?_|refine aa ?_|refine ae a6 rfl rfl ?_|refine aL rfl rfl rfl rfl ?_|(apply aW; refine aV ?_)|refine bv rfl ?_)
   exact aC (i + 1, x) rfl ⟨by rw [Gw]; rfl, trivial⟩ ⟨by dsimp only; omega, hs i x p hj hp hG'⟩ (by dsimp only; omega) (fun _ _ h => h)
 ·have hil : i = gl.Parts.length := by have := Gy h; simp at this; omega
  subst hil
  repeat' (first|refine aR ?_|refine av ?_|refine aB ?_|refine ay ?_)
  exact dz rfl ⟨x, hj, rfl⟩
end Go.Proofs.YtjjpkibjffmceaaGreat
namespace Go.Proofs.YtjjpkibjffmceaaGreat
open Go.RowKit
attribute [local irreducible] AT bT AX AO Av Kt bk ej DA cX
open Go.MapKept
attribute [local irreducible] nV
def prt (f : aJ) (g : Int) : List Int := match f.Glyphs[g.toNat]? with
 | some gl => (gl.Parts.map cB.Glyph).filter (jS f)
 | none => []
def tk (f : aJ) (gl : bf) (i : Nat) : List Int := ((gl.Parts.take i).map cB.Glyph).filter (jS f)
theorem vo {f : aJ} {gl : bf} {i : Nat} {p : cB} (h : gl.Parts[i]? = some p) (hg : jS f p.Glyph = true) : tk f gl (i + 1) = tk f gl i ++ [p.Glyph] := by
 unfold tk
 rw [List.take_add_one, h, Option.toList_some, List.map_append, List.filter_append]
 simp [hg]
theorem zd {f : aJ} {gl : bf} {i : Nat} {p : cB} (h : gl.Parts[i]? = some p) (hg : jS f p.Glyph = false) : tk f gl (i + 1) = tk f gl i := by
 unfold tk
 rw [List.take_add_one, h, Option.toList_some, List.map_append, List.filter_append]
 simp [hg]
theorem vm {f : aJ} {g : Nat} {gl : bf} (hg : f.Glyphs[g]? = some gl) : tk f gl gl.Parts.length = prt f g := by
 unfold tk prt
 rw [Int.toNat_natCast, hg, List.take_length]
theorem vn (f : aJ) (gl : bf) (i : Nat) : (tk f gl i).length ≤ gl.Parts.length := by
 unfold tk
 refine Nat.le_trans (List.length_filter_le _ _) ?_
 rw [Gu, List.length_take]
 omega
theorem nP {f : aJ} {z : Int} : jS f z = true ↔ 0 ≤ z ∧ z < f.Glyphs.length := by unfold jS; simp
theorem D6 {f : aJ} {g p : Int} (h : p ∈ prt f g) : 0 ≤ p ∧ p < f.Glyphs.length := by
 unfold prt at h
 split at h
 ·rw [List.mem_filter] at h; exact nP.1 h.2
 ·cases h
structure Few (f : aJ) : Prop where
 n : f.Glyphs.length ≤ 1000
 parts : ∀ gl ∈ f.Glyphs, gl.Parts.length ≤ 1000
theorem Few.prt {f : aJ} (h : Few f) (g : Int) : (prt f g).length ≤ 1000 := by
 unfold Go.Proofs.YtjjpkibjffmceaaGreat.prt
 split
 ·rename_i gl hgl
  refine Nat.le_trans (List.length_filter_le _ _) ?_
  rw [Gu]
  exact h.parts gl (Gx hgl)
 ·exact Nat.zero_le _
theorem mU {pr : Int → List Int} (h : ∀ g, (pr g).length ≤ 1000) (z : Int) : ∀ gs : List Int, (cu pr gs z).length ≤ 1000 * gs.length
 | [] => by simp [cu]
 | g :: gs => by
  have ih := mU h z gs
  unfold cu at ih ⊢
  rw [List.flatMap_cons, List.length_append, Gu, List.length_cons]
  have h1 := List.length_filter_le (fun p => decide (p = z)) (pr g)
  have h2 := h g
  omega
theorem xk {pr : Int → List Int} {gs : List Int} {z g : Int} (h : g ∈ cu pr gs z) : g ∈ gs := by
 unfold cu at h
 obtain ⟨y, hy, h1⟩ := List.mem_flatMap.1 h
 obtain ⟨_, _, rfl⟩ := List.mem_map.1 h1
 exact hy
theorem yK (pr : Int → List Int) (T : List Int) (g : Int) : kG pr T g ≤ (pr g).length := List.length_filter_le _ _
def Mi (f : aJ) (gl : bf) (g i : Nat) : Int → Int := fun z => if z = g then (tk f gl i).length else if 0 ≤ z ∧ z < g then (prt f z).length else 0
def Ui (f : aJ) (gl : bf) (g i : Nat) : Int → List Int := fun z => cu (prt f) (cH g) z ++ ((tk f gl i).filter fun p => decide (p = z)).map fun _ => (g : Int)
def Mb (f : aJ) (g : Nat) : Int → Int := fun z => if 0 ≤ z ∧ z < g then (prt f z).length else 0
def Rb (f : aJ) (g : Nat) : List Int := (cH g).filter fun z => decide ((prt f z).length = 0)
theorem zW (f : aJ) (gl : bf) (g : Nat) : Mi f gl g 0 = Mb f g := by
 funext z
 unfold Mi Mb tk
 by_cases e : z = g
 ·subst e; rw [if_pos rfl, if_neg (by omega)]; rfl
 ·rw [if_neg e]
theorem uP (f : aJ) (gl : bf) (g : Nat) : Ui f gl g 0 = cu (prt f) (cH g) := by
 funext z
 unfold Ui tk
 simp
theorem C8 {f : aJ} {g : Nat} {gl : bf} (hg : f.Glyphs[g]? = some gl) : Mi f gl g gl.Parts.length = Mb f (g + 1) := by
 funext z
 unfold Mi Mb
 rw [vm hg]
 by_cases e : z = g
 ·subst e; rw [if_pos rfl, if_pos (by omega)]
 ·rw [if_neg e]
  by_cases h : 0 ≤ z ∧ z < g
  ·rw [if_pos h, if_pos (by omega)]
  ·rw [if_neg h, if_neg (by omega)]
theorem Ca {f : aJ} {g : Nat} {gl : bf} (hg : f.Glyphs[g]? = some gl) : Ui f gl g gl.Parts.length = cu (prt f) (cH (g + 1)) := by
 funext z
 unfold Ui
 rw [vm hg, qC]
 unfold cu
 rw [List.flatMap_append]
 simp
theorem C9 {f : aJ} {gl : bf} {g i : Nat} {p : cB} (h : gl.Parts[i]? = some p) (hg : jS f p.Glyph = true) : (fun q => if q = (g : Int) then Mi f gl g i g + 1 else Mi f gl g i q) = Mi f gl g (i + 1) := by
 funext q
 unfold Mi
 rw [vo h hg]
 by_cases e : q = g
 ·rw [if_pos e, if_pos e, if_pos rfl]; simp
 ·rw [if_neg e, if_neg e, if_neg e]
theorem Cc {f : aJ} {gl : bf} {g i : Nat} {p : cB} (h : gl.Parts[i]? = some p) (hg : jS f p.Glyph = true) : (fun q => if q = p.Glyph then Ui f gl g i p.Glyph ++ [(g : Int)] else Ui f gl g i q) = Ui f gl g (i + 1) := by
 funext q
 unfold Ui
 rw [vo h hg, List.filter_append, List.map_append]
 by_cases e : q = p.Glyph
 ·subst e; rw [if_pos rfl]; simp
 ·have e' : ¬ p.Glyph = q := fun h => e h.symm
  rw [if_neg e]; simp [e']
theorem DC {f : aJ} {gl : bf} {g i : Nat} {p : cB} (h : gl.Parts[i]? = some p) (hg : jS f p.Glyph = false) : Mi f gl g (i + 1) = Mi f gl g i := by unfold Mi; rw [zd h hg]
theorem DF {f : aJ} {gl : bf} {g i : Nat} {p : cB} (h : gl.Parts[i]? = some p) (hg : jS f p.Glyph = false) : Ui f gl g (i + 1) = Ui f gl g i := by unfold Ui; rw [zd h hg]
theorem Cb {f : aJ} (hf : Few f) (gl : bf) (hgl : gl ∈ f.Glyphs) {g : Nat} (hg : g ≤ 1000) (i : Nat) (z : Int) : (Ui f gl g i z).length ≤ 1001000 := by
 unfold Ui
 have h1 := mU hf.prt z (cH g)
 have h2 := vn f gl i
 have h3 := List.length_filter_le (fun p => decide (p = z)) (tk f gl i)
 have h4 := hf.parts gl hgl
 rw [eM] at h1
 rw [List.length_append, Gu]
 omega
theorem ke (f : aJ) (g : Nat) : Rb f (g + 1) = if (prt f g).length = 0 then Rb f g ++ [(g : Int)] else Rb f g := by
 unfold Rb
 rw [qC, List.filter_append]
 by_cases h : (prt f g).length = 0
 ·rw [if_pos h, List.filter_cons_of_pos (by simpa using h)]; rfl
 ·rw [if_neg h, List.filter_cons_of_neg (by simpa using h)]; simp
theorem xp (f : aJ) (g : Nat) : (Rb f g).length ≤ g := by
 unfold Rb
 refine Nat.le_trans (List.length_filter_le _ _) ?_
 rw [eM]
 exact Nat.le_refl _
theorem k5 {a b : Nat × AB} {T T' t H R : AL} (h : T.Perm (t ++ T')) : (a :: b :: (H ++ (T ++ R))).Perm (t ++ (a :: b :: (H ++ (T' ++ R)))) := by
 have h1 : (a :: b :: (H ++ (T ++ R))).Perm (a :: b :: (H ++ (t ++ (T' ++ R)))) := by
  refine List.Perm.cons _ (List.Perm.cons _ (List.Perm.append_left _ ?_))
  rw [← List.append_assoc]
  exact h.append_right _
 refine h1.trans ?_
 have h2 : (a :: b :: (H ++ (t ++ (T' ++ R)))) = ((a :: b :: H) ++ t) ++ (T' ++ R) := by simp
 have h3 : t ++ (a :: b :: (H ++ (T' ++ R))) = (t ++ (a :: b :: H)) ++ (T' ++ R) := by simp
 rw [h2, h3]
 exact List.Perm.append_right _ List.perm_append_comm
theorem oY {rec : Loop} (h1 : rec.state = .ready) (h2 : rec.pending = none) : ({ ({ rec with state := .busy } : Loop) with state := .ready, pending := none } : Loop) = rec := by cases rec; simp_all
abbrev KI : TypeDesc := .int .i64
theorem zV (f : aJ) : Mb f 0 = fun _ => 0 := by
 funext z
 unfold Mb
 rw [if_neg (by omega)]
abbrev KT := Int → Option (Nat × Nat)
abbrev VM := Value → Option AV
abbrev LX := VM × VM × KT × (Int → List Int)
theorem sR {a b c d e : Nat × AB} {T M : AL} : (d :: a :: b :: c :: (T ++ (M ++ [e]))).Perm (a :: b :: c :: d :: (T ++ (e :: M))) := by
 refine (List.perm_middle (l₁ := [a, b, c])).symm.trans ?_
 exact List.Perm.cons _ (List.Perm.cons _ (List.Perm.cons _ (List.Perm.cons _ (List.Perm.append_left T (List.perm_append_singleton e M)))))
def r8 (bm bu p n : Nat) (kh : Option (Nat × List AV)) (R : List Int) (rest : AL) (x : LX) : AL := (bm, cj KI x.1) :: (bu, cj KI x.2.1) :: (hst p kh R ++ (li 3 x.2.2.1 x.2.2.2 (cH n) ++ rest))
abbrev LS := Nat × List Nat × VM × VM × KT × Option (Nat × List AV)
def sB (dbs : List Nat) : AL := dbs.map fun b => (b, gO)
theorem mL {a b : Nat × AB} {H X : AL} : (a :: b :: (H ++ X)).Perm (H ++ (a :: b :: X)) := by
 have h1 : (a :: b :: (H ++ X)) = (a :: b :: H) ++ X := rfl
 have h2 : H ++ (a :: b :: X) = (H ++ [a, b]) ++ X := by simp
 rw [h1, h2]
 exact (List.perm_append_comm (l₁ := [a, b]) (l₂ := H)).append_right X
structure KS where
 T : List Int
 R : List Int
 M : Int → Int
 mm : VM
 kh : Option (Nat × List AV)
 kt : Option (Nat × Nat)
def EF (bm bu p : Nat) (mu : VM) (X : AL) (x : KS) : AL := (bm, cj KI x.mm) :: (bu, cj KI mu) :: (hst p x.kh x.R ++ (tok x.kt 3 1 (aU x.T).length ++ X))
set_option maxHeartbeats 8000000 in
theorem B6 (f : aJ) (hf : Few f) : AC Tryz.prog 226 [cr f, .imm 1 (aU (cH f.Glyphs.length))] [] fun c _ => ∃ T, c = .imm 1 (aU T) ∧ io f.Glyphs.length (prt f) T := by
 refine nZ Tryz.func226 rfl Tryz.ntmps226 rfl fun B => ?_
 have hn := hf.n
 have hil : (aU (cH f.Glyphs.length)).length = f.Glyphs.length := by rw [aQ, eM]
 generalize hN : f.Glyphs.length = n at *
 repeat' (first|refine ah ?_|refine a7 ?_|refine a8 ?_|refine aa ?_|refine ae a6 rfl rfl ?_|refine be ?_|fail)
 refine eN KI fun bm => ?_
 repeat' (first|refine ah ?_|refine a7 ?_|refine a8 ?_|refine aa ?_|(apply aH; first|refine ai 5 a6 0 rfl rfl rfl rfl rfl rfl rfl rfl ?_|refine ai 5 a6 1 rfl rfl rfl rfl rfl rfl rfl rfl ?_|refine ai 5 a6 2 rfl rfl rfl rfl rfl rfl rfl rfl ?_|refine ai 6 a6 0 rfl rfl rfl rfl rfl rfl rfl rfl ?_|refine ai 6 a6 1 rfl rfl rfl rfl rfl rfl rfl rfl ?_|refine ai 6 a6 2 rfl rfl rfl rfl rfl rfl rfl rfl ?_|refine ai 9 a6 0 rfl rfl rfl rfl rfl rfl rfl rfl ?_|refine ai 9 a6 1 rfl rfl rfl rfl rfl rfl rfl rfl ?_|refine ai 9 a6 2 rfl rfl rfl rfl rfl rfl rfl rfl ?_|refine ai 10 a6 0 rfl rfl rfl rfl rfl rfl rfl rfl ?_|refine ai 10 a6 1 rfl rfl rfl rfl rfl rfl rfl rfl ?_|refine ai 10 a6 2 rfl rfl rfl rfl rfl rfl rfl rfl ?_|refine aj a6 0 rfl rfl rfl rfl rfl rfl rfl ?_|refine aj a6 1 rfl rfl rfl rfl rfl rfl rfl ?_|refine aj a6 2 rfl rfl rfl rfl rfl rfl rfl ?_|refine aj a6 3 rfl rfl rfl rfl rfl rfl rfl ?_|fail)|refine b5 a6 fun _=>?_|fail)
 refine eN KI fun bu => ?_
 repeat' (first|refine ah ?_|refine a7 ?_|refine aq ?_|refine a8 ?_|refine aa ?_|refine ae a6 rfl rfl ?_|(apply aH; first|refine ai 5 a6 0 rfl rfl rfl rfl rfl rfl rfl rfl ?_|refine ai 5 a6 1 rfl rfl rfl rfl rfl rfl rfl rfl ?_|refine ai 5 a6 2 rfl rfl rfl rfl rfl rfl rfl rfl ?_|refine ai 6 a6 0 rfl rfl rfl rfl rfl rfl rfl rfl ?_|refine ai 6 a6 1 rfl rfl rfl rfl rfl rfl rfl rfl ?_|refine ai 6 a6 2 rfl rfl rfl rfl rfl rfl rfl rfl ?_|refine ai 9 a6 0 rfl rfl rfl rfl rfl rfl rfl rfl ?_|refine ai 9 a6 1 rfl rfl rfl rfl rfl rfl rfl rfl ?_|refine ai 9 a6 2 rfl rfl rfl rfl rfl rfl rfl rfl ?_|refine ai 10 a6 0 rfl rfl rfl rfl rfl rfl rfl rfl ?_|refine ai 10 a6 1 rfl rfl rfl rfl rfl rfl rfl rfl ?_|refine ai 10 a6 2 rfl rfl rfl rfl rfl rfl rfl rfl ?_|refine aj a6 0 rfl rfl rfl rfl rfl rfl rfl ?_|refine aj a6 1 rfl rfl rfl rfl rfl rfl rfl ?_|refine aj a6 2 rfl rfl rfl rfl rfl rfl rfl ?_|refine aj a6 3 rfl rfl rfl rfl rfl rfl rfl ?_|fail)|refine b5 a6 fun _=>?_|fail)
 rename_i p
 refine xL [2, 5, 6, 7, 17, 18] (α := LS) (fun x => yH x.2.1) (fun x => [(19, aM x.1)]) (fun x => x.1 ≤ n ∧ mo x.2.2.1 (Mb f x.1) ∧ nW x.2.2.2.1 x.2.2.2.2.1 (cu (prt f) (cH x.1)) ∧ mX x.2.2.2.2.2 (Rb f x.1)) (fun x => r8 bm bu p n x.2.2.2.2.2 (Rb f x.1) (sB x.2.1) (x.2.2.1, x.2.2.2.1, x.2.2.2.2.1, cu (prt f) (cH x.1))) (fun x => n - x.1) (0, [], (fun _ => none), (fun _ => none), (fun _ => none), none) rfl ⟨rfl, trivial⟩ rfl ⟨Nat.zero_le _, ?_, ?_, rfl⟩ (fun σ w h => ?_) ?_
 ·intro z; exact .inl ⟨rfl, by rw [zV]⟩
 ·intro z; exact .inl ⟨rfl, rfl, rfl⟩
 ·have h1 := dl.perm (L := [(p, .box [.sc (.slice none 0 0)] 337), (bu, cj KI fun _ => none), (bm, cj KI fun _ => none)]) h (List.reverse_perm _).symm
  have h2 : r8 bm bu p n none (Rb f 0) (sB []) ((fun _ => none), (fun _ => none), (fun _ => none), cu (prt f) (cH 0)) = [(bm, cj KI fun _ => none), (bu, cj KI fun _ => none), (p, .box [.sc (.slice none 0 0)] 337)] := by
   unfold r8
   rw [xi]
   rfl
  show dl B σ (r8 bm bu p n none (Rb f 0) (sB []) ((fun _ => none), (fun _ => none), (fun _ => none), cu (prt f) (cH 0))) w
  rw [h2]
  exact h1
 rintro ⟨g, dbs, mm, mu, K, kh⟩ ⟨hg, hM, hU, hR⟩
 dsimp only at hg hM hU hR ⊢
 try dsimp only [Gr, Gq, Gp, Gj]
 repeat' (first|refine ah ?_|refine a7 ?_|refine a8 ?_|refine aa ?_|refine ae a6 rfl rfl ?_)
 rw [hil]
 refine aw rfl (fun h => ?_) (fun h => ?_)
 ·have hgl : g < n := by have := Gz h; omega
  obtain ⟨gl, hgg⟩ : ∃ z, f.Glyphs[g]? = some z := ⟨_, Ds (by omega)⟩
  have hgm := Gx hgg
  have hgi := bN (iT hgl)
  clear h
  unfold r8
  dsimp only
  repeat' (first|refine ah ?_|refine a7 ?_|refine aq ?_|refine au ?_|refine a8 ?_|refine aa ?_|refine ae a6 rfl rfl ?_|(apply aY; first|refine aX a6 ?_|refine aS a6 ?_)|(apply aH; first|refine ai 5 a6 0 rfl rfl rfl rfl rfl rfl rfl rfl ?_|refine ai 5 a6 1 rfl rfl rfl rfl rfl rfl rfl rfl ?_|refine ai 5 a6 2 rfl rfl rfl rfl rfl rfl rfl rfl ?_|refine ai 6 a6 0 rfl rfl rfl rfl rfl rfl rfl rfl ?_|refine ai 6 a6 1 rfl rfl rfl rfl rfl rfl rfl rfl ?_|refine ai 6 a6 2 rfl rfl rfl rfl rfl rfl rfl rfl ?_|refine ai 9 a6 0 rfl rfl rfl rfl rfl rfl rfl rfl ?_|refine ai 9 a6 1 rfl rfl rfl rfl rfl rfl rfl rfl ?_|refine ai 9 a6 2 rfl rfl rfl rfl rfl rfl rfl rfl ?_|refine ai 10 a6 0 rfl rfl rfl rfl rfl rfl rfl rfl ?_|refine ai 10 a6 1 rfl rfl rfl rfl rfl rfl rfl rfl ?_|refine ai 10 a6 2 rfl rfl rfl rfl rfl rfl rfl rfl ?_|refine aj a6 0 rfl rfl rfl rfl rfl rfl rfl ?_|refine aj a6 1 rfl rfl rfl rfl rfl rfl rfl ?_|refine aj a6 2 rfl rfl rfl rfl rfl rfl rfl ?_|refine aj a6 3 rfl rfl rfl rfl rfl rfl rfl ?_|fail)|refine b5 a6 fun _=>?_|(apply bA;refine bh ?_)|fail)
  refine j5 (fr' := [(2, .iptr (bZ f)), (5, .iptr [.sc (.map (some bm))]), (6, .iptr [.sc (.map (some bu))]), (7, .sc (.pointer (some ⟨p, 0, none⟩))), (9, .iptr [aM g]), (17, .imm 1 (aU (cH n))), (18, aM n), (19, aM g), (25, .fn 262 [.iptr (bZ f), .iptr [aM g]])]) (L' := r8 bm bu p n kh (Rb f g) (sB dbs) (mm, mu, K, Ui f gl g 0)) ⟨rfl, rfl, rfl, rfl, rfl, rfl, rfl, rfl, rfl, trivial⟩ (fun _ _ h => by rw [uP]; exact h) ?_
  refine jC (ps := [26]) rfl fun σ0 l db rec hrec => ?_
  have hy : ∀ (i : Nat) (x : LX) (q : cB), (mo x.1 (Mi f gl g i) ∧ nW x.2.1 x.2.2.1 x.2.2.2 ∧ x.2.2.2 = Ui f gl g i) → gl.Parts[i]? = some q → jS f q.Glyph = true → AY Tryz.prog σ0 l [.agg (cn q)] (r8 bm bu p n kh (Rb f g) (sB dbs) x ++ [(db, gO)] ++ [(l, gk rec)]) fun c L => c = cF true ∧ ∃ x' : LX, (mo x'.1 (Mi f gl g (i + 1)) ∧ nW x'.2.1 x'.2.2.1 x'.2.2.2 ∧ x'.2.2.2 = Ui f gl g (i + 1)) ∧ L = r8 bm bu p n kh (Rb f g) (sB dbs) x' ++ [(db, gO)] ++ [(l, gk rec)] := by
   rintro i ⟨mm, mu, K, U⟩ q ⟨hM, hU, rfl⟩ hq hG
   dsimp only at hM hU ⊢
   refine rW hrec rfl rfl fun B1 hB1 => ?_
   repeat' (first|refine a7 ?_|refine aa ?_|(apply aH; first|refine ai 5 a6 0 rfl rfl rfl rfl rfl rfl rfl rfl ?_|refine ai 5 a6 1 rfl rfl rfl rfl rfl rfl rfl rfl ?_|refine ai 5 a6 2 rfl rfl rfl rfl rfl rfl rfl rfl ?_|refine ai 6 a6 0 rfl rfl rfl rfl rfl rfl rfl rfl ?_|refine ai 6 a6 1 rfl rfl rfl rfl rfl rfl rfl rfl ?_|refine ai 6 a6 2 rfl rfl rfl rfl rfl rfl rfl rfl ?_|refine ai 9 a6 0 rfl rfl rfl rfl rfl rfl rfl rfl ?_|refine ai 9 a6 1 rfl rfl rfl rfl rfl rfl rfl rfl ?_|refine ai 9 a6 2 rfl rfl rfl rfl rfl rfl rfl rfl ?_|refine ai 10 a6 0 rfl rfl rfl rfl rfl rfl rfl rfl ?_|refine ai 10 a6 1 rfl rfl rfl rfl rfl rfl rfl rfl ?_|refine ai 10 a6 2 rfl rfl rfl rfl rfl rfl rfl rfl ?_|refine aj a6 0 rfl rfl rfl rfl rfl rfl rfl ?_|refine aj a6 1 rfl rfl rfl rfl rfl rfl rfl ?_|refine aj a6 2 rfl rfl rfl rfl rfl rfl rfl ?_|refine aj a6 3 rfl rfl rfl rfl rfl rfl rfl ?_|fail)|refine b5 a6 fun _=>?_|fail)
   refine jD hrec.state ?_
   unfold r8
   dsimp only
   have hqr := nP.1 hG
   have hcnt := vn f gl i
   have hpl := hf.parts gl hgm
   have hMg : Mi f gl g i g = (tk f gl i).length := by unfold Mi; rw [if_pos rfl]
   simp only [Gr, List.append_assoc]
   have hUl := Cb hf gl hgm (g := g) (by omega) i q.Glyph
   have hUi : (aU (Ui f gl g i q.Glyph)).length = (Ui f gl g i q.Glyph).length := aQ _
   have hz : q.Glyph ∈ cH n := f7.2 (by omega)
   repeat' (first|refine ah ?_|refine a7 ?_|refine aq ?_|refine ae a6 rfl rfl ?_)
   refine iN 0 (.int .i64 0) (aM (Mi f gl g i g)) Tryz.underlying99 Tryz.underlying3 rfl rfl rfl rfl (by kernel_rfl) (hM.at g) rfl ?_
   repeat' (first|(apply aW; refine aV ?_)|fail)
   refine dD 0 (mJ mm (.int .i64 g) (aM (Mi f gl g i g + 1))) Tryz.underlying99 Tryz.underlying3 rfl rfl rfl rfl rfl iK (fun q h => ia q h) ?_
   repeat' (first|refine a8 ?_|refine aa ?_)
   refine bt 10 [(0, .v), (1, .v), (2, .v), (3, .v), (4, .v), (5, .v), (7, .v), (8, .v), (6, .e), (9, .e)] none ?_ trivial rfl (by kernel_rfl) (by kernel_rfl) (by kernel_rfl) mixed (by kernel_rfl) rfl
   repeat' (first|refine aE ?_|refine aZ a6 ?_|refine ee a6 ?_|fail)
   refine wd 1 (.slice none 0 0) (.vec (K q.Glyph) 1 (aU (Ui f gl g i q.Glyph))) Tryz.underlying336 Tryz.underlying3 rfl rfl rfl rfl (by kernel_rfl) (hU.at q.Glyph) trivial ?_
   repeat' (first|refine aE ?_|fail)
   refine fJ a6 _ rfl rfl rfl rfl (k5 (mS hz)) (by rw [hUi]; show _ + 1 ≤ _; omega) (by rw [hUi]; show (_ + 1) * 8 ≤ _; omega) trivial fun k' => ?_
   repeat' (first|fail)
   refine br [2, 5, 6, 7, 9, 17, 18, 19, 26, 31, 33, 40] rfl rfl ?_
   have hput := zH (e := 3) (K := K) (U := Ui f gl g i) (k := k') (l := Ui f gl g i q.Glyph ++ [(g : Int)]) (js n) hz
   rw [show aU (Ui f gl g i q.Glyph) ++ [[AV.sc (.int .i64 (g : Int))]] = aU (Ui f gl g i q.Glyph ++ [(g : Int)]) from jQ _ [(g : Int)]]
   refine aO (aK (k5 hput.symm).symm) ?_
   repeat' (first|fail)
   refine dD 1 (mJ mu (.int .i64 q.Glyph) (.vec k' 1 (aU (Ui f gl g i q.Glyph ++ [(g : Int)])))) Tryz.underlying336 Tryz.underlying3 rfl rfl rfl rfl rfl iK (fun q h => ia q h) ?_
   repeat' (first|refine aI ?_|refine aa ?_)
   refine ba (L' := r8 bm bu p n kh (Rb f g) (sB dbs) (mJ mm (.int .i64 g) (aM (Mi f gl g i g + 1)), mJ mu (.int .i64 q.Glyph) (.vec k' 1 (aU (Ui f gl g i q.Glyph ++ [(g : Int)]))), (fun y => if y = q.Glyph then k' else K y), fun y => if y = q.Glyph then Ui f gl g i q.Glyph ++ [(g : Int)] else Ui f gl g i y) ++ [(db, gO)] ++ [(l, gk { rec with state := .busy })]) (aK (List.Perm.of_eq (by simp only [r8, fS, Gr, List.append_assoc, Gq]))) (oa ?_)
   rw [oY hrec.state hrec.pending]
   refine ⟨rfl, (mJ mm (.int .i64 g) (aM (Mi f gl g i g + 1)), mJ mu (.int .i64 q.Glyph) (.vec k' 1 (aU (Ui f gl g i q.Glyph ++ [(g : Int)]))), (fun y => if y = q.Glyph then k' else K y), fun y => if y = q.Glyph then Ui f gl g i q.Glyph ++ [(g : Int)] else Ui f gl g i y), ⟨?_, hU.put q.Glyph k' _, Cc hq hG⟩, ?_⟩
   ·have := hM.put g (Mi f gl g i g + 1)
    rw [C9 hq hG] at this
    exact this
   ·simp only [r8, Gr, List.append_assoc, Gq]
  have hsk : ∀ (i : Nat) (x : LX) (q : cB), (mo x.1 (Mi f gl g i) ∧ nW x.2.1 x.2.2.1 x.2.2.2 ∧ x.2.2.2 = Ui f gl g i) → gl.Parts[i]? = some q → jS f q.Glyph = false → (mo x.1 (Mi f gl g (i + 1)) ∧ nW x.2.1 x.2.2.1 x.2.2.2 ∧ x.2.2.2 = Ui f gl g (i + 1)) := by
   intro i x q h hq hG
   rw [DC hq hG, DF hq hG]
   exact h
  have hit := Bh (σ0 := σ0) (l := l) f g gl hgg (fun x => r8 bm bu p n kh (Rb f g) (sB dbs) x ++ [(db, gO)] ++ [(l, gk rec)]) (fun i x => mo x.1 (Mi f gl g i) ∧ nW x.2.1 x.2.2.1 x.2.2.2 ∧ x.2.2.2 = Ui f gl g i) hy hsk (mm, mu, K, Ui f gl g 0) ⟨by rw [zW]; exact hM, by rw [uP]; exact hU, rfl⟩ (by have := hf.parts gl hgm; omega)
  refine ⟨_, hit, ?_⟩
  rintro c L' ⟨⟨mm', mu', K', U'⟩, ⟨hM', hU', rfl⟩, rfl⟩
  dsimp only at hM' hU' ⊢
  refine ⟨rec, _, Gm _, (by rw [hrec.state]; intro h; cases h), ?_⟩
  rw [hrec.pending]
  show AX _ _ _ _ _ _ _ _
  rw [C8 hgg] at hM'
  rw [Ca hgg] at hU' ⊢
  clear hy hsk hit hM hU
  unfold r8
  dsimp only
  simp only [Gr, List.append_assoc, Gq]
  repeat' (first|refine ah ?_|refine a7 ?_|refine a8 ?_|refine aI ?_|refine ae a6 rfl rfl ?_)
  refine iN 0 (.int .i64 0) (aM (Mb f (g + 1) g)) Tryz.underlying99 Tryz.underlying3 rfl rfl rfl rfl (by kernel_rfl) (hM'.at g) rfl ?_
  rw [show Mb f (g + 1) g = (prt f g).length by unfold Mb; rw [if_pos (by omega)]]
  repeat' (first|refine a8 ?_|refine aa ?_|refine ae a6 rfl rfl ?_)
  refine aw rfl (fun h => ?_) (fun h => ?_)
  ·have h0 : (prt f g).length = 0 := by have := Gz h; omega
   cases kh with
   | none =>
    have hR0 : Rb f g = [] := hR
    unfold hst oD sr
    dsimp only
    simp only [Gr, Gq]
    repeat' (first|refine a7 ?_|refine ae a6 rfl rfl ?_|(apply bB; first|refine ak a6 0 rfl rfl rfl rfl rfl ?_|refine ak a6 1 rfl rfl rfl rfl rfl ?_|refine ak a6 2 rfl rfl rfl rfl rfl ?_|refine ak a6 3 rfl rfl rfl rfl rfl ?_|refine aD a6 0 rfl rfl rfl rfl rfl ?_|refine aD a6 1 rfl rfl rfl rfl rfl ?_|refine aD a6 2 rfl rfl rfl rfl rfl ?_|refine ak a6 1 rfl rfl rfl (by assumption) rfl ?_|refine ak a6 0 rfl rfl rfl (by assumption) rfl ?_|fail)|refine bz a6 ?_|fail)
    refine wJ a6 rfl rfl rfl rfl rfl rfl rfl fun b' cs' h1 h2 => ?_
    repeat' (first|refine a7 ?_|refine a8 ?_|refine aI ?_|refine aa ?_|refine ae a6 rfl rfl ?_|(apply aW; refine aV ?_)|(apply aH; first|refine ai 5 a6 0 rfl rfl rfl rfl rfl rfl rfl rfl ?_|refine ai 5 a6 1 rfl rfl rfl rfl rfl rfl rfl rfl ?_|refine ai 5 a6 2 rfl rfl rfl rfl rfl rfl rfl rfl ?_|refine ai 6 a6 0 rfl rfl rfl rfl rfl rfl rfl rfl ?_|refine ai 6 a6 1 rfl rfl rfl rfl rfl rfl rfl rfl ?_|refine ai 6 a6 2 rfl rfl rfl rfl rfl rfl rfl rfl ?_|refine ai 9 a6 0 rfl rfl rfl rfl rfl rfl rfl rfl ?_|refine ai 9 a6 1 rfl rfl rfl rfl rfl rfl rfl rfl ?_|refine ai 9 a6 2 rfl rfl rfl rfl rfl rfl rfl rfl ?_|refine ai 10 a6 0 rfl rfl rfl rfl rfl rfl rfl rfl ?_|refine ai 10 a6 1 rfl rfl rfl rfl rfl rfl rfl rfl ?_|refine ai 10 a6 2 rfl rfl rfl rfl rfl rfl rfl rfl ?_|refine aj a6 0 rfl rfl rfl rfl rfl rfl rfl ?_|refine aj a6 1 rfl rfl rfl rfl rfl rfl rfl ?_|refine aj a6 2 rfl rfl rfl rfl rfl rfl rfl ?_|refine aj a6 3 rfl rfl rfl rfl rfl rfl rfl ?_|fail))
    refine mw (g + 1, db :: dbs, mm', mu', K', some (b', cs')) rfl ⟨by rw [Gw]; rfl, trivial⟩ rfl ⟨by dsimp only; omega, hM', hU', ?_⟩ (by dsimp only; omega) (fun σ w h => ?_)
    ·rw [ke, if_pos h0, hR0]
     exact ⟨h1, h2, h2⟩
    ·have h := dl.perm (L := (b', .box cs' 3) :: (bm, cj KI mm') :: (bu, cj KI mu') :: (p, .box [.sc (.slice (some ⟨b', 0, none⟩) 1 cs'.length)] 337) :: (li 3 K' (cu (prt f) (cH (g + 1))) (cH n) ++ (sB dbs ++ [(db, gO)]))) h sR
     show dl B σ (r8 bm bu p n (some (b', cs')) (Rb f (g + 1)) (sB (db :: dbs)) (mm', mu', K', cu (prt f) (cH (g + 1)))) w
     rw [ke, if_pos h0, hR0]
     exact h
   | some kk =>
    obtain ⟨b, cs⟩ := kk
    rw [i5]
    simp only [Gr, Gq]
    repeat' (first|refine a7 ?_|refine ae a6 rfl rfl ?_|(apply bB; first|refine ak a6 0 rfl rfl rfl rfl rfl ?_|refine ak a6 1 rfl rfl rfl rfl rfl ?_|refine ak a6 2 rfl rfl rfl rfl rfl ?_|refine ak a6 3 rfl rfl rfl rfl rfl ?_|refine aD a6 0 rfl rfl rfl rfl rfl ?_|refine aD a6 1 rfl rfl rfl rfl rfl ?_|refine aD a6 2 rfl rfl rfl rfl rfl ?_|refine ak a6 1 rfl rfl rfl (by assumption) rfl ?_|refine ak a6 0 rfl rfl rfl (by assumption) rfl ?_|fail)|refine bz a6 ?_|fail)
    have hRl := xp f g
    refine wI a6 3 rfl rfl rfl rfl rfl rfl rfl hR.2.1 (by omega) (by omega) rfl fun b' cs' h1 h2 => ?_
    repeat' (first|refine a7 ?_|refine a8 ?_|refine aI ?_|refine aa ?_|refine ae a6 rfl rfl ?_|(apply aW; refine aV ?_)|(apply aH; first|refine ai 5 a6 0 rfl rfl rfl rfl rfl rfl rfl rfl ?_|refine ai 5 a6 1 rfl rfl rfl rfl rfl rfl rfl rfl ?_|refine ai 5 a6 2 rfl rfl rfl rfl rfl rfl rfl rfl ?_|refine ai 6 a6 0 rfl rfl rfl rfl rfl rfl rfl rfl ?_|refine ai 6 a6 1 rfl rfl rfl rfl rfl rfl rfl rfl ?_|refine ai 6 a6 2 rfl rfl rfl rfl rfl rfl rfl rfl ?_|refine ai 9 a6 0 rfl rfl rfl rfl rfl rfl rfl rfl ?_|refine ai 9 a6 1 rfl rfl rfl rfl rfl rfl rfl rfl ?_|refine ai 9 a6 2 rfl rfl rfl rfl rfl rfl rfl rfl ?_|refine ai 10 a6 0 rfl rfl rfl rfl rfl rfl rfl rfl ?_|refine ai 10 a6 1 rfl rfl rfl rfl rfl rfl rfl rfl ?_|refine ai 10 a6 2 rfl rfl rfl rfl rfl rfl rfl rfl ?_|refine aj a6 0 rfl rfl rfl rfl rfl rfl rfl ?_|refine aj a6 1 rfl rfl rfl rfl rfl rfl rfl ?_|refine aj a6 2 rfl rfl rfl rfl rfl rfl rfl ?_|refine aj a6 3 rfl rfl rfl rfl rfl rfl rfl ?_|fail))
    refine mw (g + 1, db :: dbs, mm', mu', K', some (b', cs')) rfl ⟨by rw [Gw]; rfl, trivial⟩ rfl ⟨by dsimp only; omega, hM', hU', ?_⟩ (by dsimp only; omega) (fun σ w h => ?_)
    ·rw [ke, if_pos h0]
     refine ⟨?_, by rw [List.length_append]; exact h2, by omega⟩
     rw [List.length_append, List.map_append, ← hR.1]
     exact h1
    ·have h := dl.perm (L := (b', .box cs' 3) :: (bm, cj KI mm') :: (bu, cj KI mu') :: (p, .box [.sc (.slice (some ⟨b', 0, none⟩) ((Rb f g).length + 1) cs'.length)] 337) :: (li 3 K' (cu (prt f) (cH (g + 1))) (cH n) ++ (sB dbs ++ [(db, gO)]))) h sR
     show dl B σ (r8 bm bu p n (some (b', cs')) (Rb f (g + 1)) (sB (db :: dbs)) (mm', mu', K', cu (prt f) (cH (g + 1)))) w
     rw [ke, if_pos h0]
     unfold r8
     rw [i5, List.length_append]
     exact h
  ·have h0 : ¬ (prt f g).length = 0 := by have := Gy h; omega
   repeat' (first|refine a7 ?_|refine au ?_|refine a8 ?_|refine aI ?_|refine aa ?_|refine ae a6 rfl rfl ?_|(apply aW; refine aV ?_)|fail)
   refine mw (g + 1, db :: dbs, mm', mu', K', kh) rfl ⟨by rw [Gw]; rfl, trivial⟩ rfl ⟨by dsimp only; omega, hM', hU', by rw [ke, if_neg h0]; exact hR⟩ (by dsimp only; omega) (fun σ w h => ?_)
   show dl B σ (r8 bm bu p n kh (Rb f (g + 1)) (sB (db :: dbs)) (mm', mu', K', cu (prt f) (cH (g + 1)))) w
   rw [ke, if_neg h0]
   refine h.perm (List.Perm.cons _ (List.Perm.cons _ (List.Perm.append_left _ (List.Perm.append_left _ ?_))))
   exact List.perm_append_singleton _ _
 have hgn : g = n := by have := Gy h; omega
 subst hgn
 clear h
 have hst0 : mn g (prt f) [] (Rb f g) (Mb f g) := by
  have h1 := mn.start (n := g) (pr := prt f) (M := Mb f g) fun z h0 h1 => by unfold Mb; rw [if_pos ⟨h0, h1⟩]
  have h2 : (cH g).filter (fun z => decide (Mb f g z = 0)) = Rb f g := by
   unfold Rb
   refine List.filter_congr fun z hz => ?_
   unfold Mb
   rw [if_pos (f7.1 hz)]
   exact decide_eq_decide.2 (by omega)
  rw [h2] at h1
  exact h1
 have hRl := xp f g
 unfold r8
 dsimp only
 repeat' (first|refine ah ?_|refine a7 ?_|refine aR ?_|refine a8 ?_|refine av ?_|refine aB ?_|refine pB ?_)
 refine lR (by kernel_rfl) rfl rfl ?_
 repeat' (first|fail)
 refine b7 (hst p kh (Rb f g)) _ (yl p kh (Rb f g) hR (by omega)) rfl rfl mL rfl fun c L1 ⟨kh', R', hL, hR', hpm⟩ => ?_
 subst hL
 refine aO (aK mL.symm) ?_
 repeat' (first|refine ah ?_|refine a7 ?_|refine aq ?_|refine a8 ?_|refine aa ?_|refine ae a6 rfl rfl ?_)
 refine bK (bg (t := 11) (c' := .vec none 1 (aU [])) rfl fun σ v h => co 1 h) ?_
 refine aN [5, 6, 7] (α := KS) (fun x => [(11, .vec x.kt 1 (aU x.T))]) (fun x => mn g (prt f) x.T x.R x.M ∧ mo x.mm x.M ∧ mX x.kh x.R) (fun x => EF bm bu p mu (li 3 K (cu (prt f) (cH g)) (cH g) ++ sB dbs) x) (fun x => g - x.T.length) ⟨[], R', Mb f g, mm, kh', none⟩ rfl ⟨rfl, trivial⟩ ⟨hst0.perm hpm, hM, hR'⟩ (fun σ w h => ?_) ?_
 ·exact h
 rintro ⟨T, R, M, mm, kh, kt⟩ ⟨hK, hM, hR⟩
 dsimp only at hK hM hR ⊢
 unfold EF
 dsimp only
 try dsimp only [Gr, Gq, Gp, Gj]
 cases kh with
 | none =>
  have hR0 : R = [] := hR
  subst hR0
  unfold hst oD sr
  dsimp only
  repeat' (first|refine ah ?_|refine a7 ?_|refine ar ?_|refine aR ?_|refine a8 ?_|refine av ?_|refine aB ?_|refine ay ?_|refine aa ?_|refine ae a6 rfl rfl ?_|(apply bB; first|refine ak a6 0 rfl rfl rfl rfl rfl ?_|refine ak a6 1 rfl rfl rfl rfl rfl ?_|refine ak a6 2 rfl rfl rfl rfl rfl ?_|refine ak a6 3 rfl rfl rfl rfl rfl ?_|refine aD a6 0 rfl rfl rfl rfl rfl ?_|refine aD a6 1 rfl rfl rfl rfl rfl ?_|refine aD a6 2 rfl rfl rfl rfl rfl ?_|refine ak a6 1 rfl rfl rfl (by assumption) rfl ?_|refine ak a6 0 rfl rfl rfl (by assumption) rfl ?_|fail)|refine bv rfl ?_)
  refine ba (bg (t := 4) (c' := .imm 1 (aU T)) rfl fun σ v h => VR.im h) ?_
  refine cO (L' := sB dbs) (((((List.sublist_append_right _ _).trans (List.sublist_append_right _ _)).trans (List.sublist_append_right _ _)).cons _).cons _) ?_
  exact j6 (cs := [.imm 1 (aU T)]) dbs [] rfl (Gm _) ⟨rfl, trivial⟩ ⟨T, rfl, hK.fin⟩
 | some kk =>
  obtain ⟨b, cs⟩ := kk
  rw [i5]
  have hTR := gw hK.nodup hK.dom
  rw [List.length_append] at hTR
  repeat' (first|refine ah ?_|refine a7 ?_|refine a8 ?_|refine aa ?_|refine ae a6 rfl rfl ?_|(apply bB; first|refine ak a6 0 rfl rfl rfl rfl rfl ?_|refine ak a6 1 rfl rfl rfl rfl rfl ?_|refine ak a6 2 rfl rfl rfl rfl rfl ?_|refine ak a6 3 rfl rfl rfl rfl rfl ?_|refine aD a6 0 rfl rfl rfl rfl rfl ?_|refine aD a6 1 rfl rfl rfl rfl rfl ?_|refine aD a6 2 rfl rfl rfl rfl rfl ?_|refine ak a6 1 rfl rfl rfl (by assumption) rfl ?_|refine ak a6 0 rfl rfl rfl (by assumption) rfl ?_|fail)|fail)
  refine aw rfl (fun h => ?_) (fun h => ?_)
  ·have h0 : 0 < R.length := by have := Gz h; omega
   clear h
   repeat' (first|refine ah ?_|refine a7 ?_|refine aq ?_|refine au ?_|refine a8 ?_)
   refine lR (by kernel_rfl) rfl rfl ?_
   repeat' (first|fail)
   refine b7 (hst p (some (b, cs)) R) _ (B3 p b cs R hR h0 (by omega)) rfl rfl mL rfl fun c L1 ⟨z, cs', R', hc, hL, hR', hpm⟩ => ?_
   subst hc; subst hL
   refine aO (aK mL.symm) ?_
   repeat' (first|fail)
   refine yM (by kernel_rfl) rfl rfl ?_
   repeat' (first|refine ah ?_|refine a7 ?_|refine a8 ?_|refine aa ?_|refine ae a6 rfl rfl ?_|refine bz a6 ?_|fail)
   have hKm := (hK.perm hpm).pop
   have hz := hKm.dom z (by simp)
   have hTz : z ∉ T := fun hm => by
    have := hKm.nodup
    rw [List.append_assoc, List.nodup_append] at this
    exact this.2.2 z hm z (by simp) rfl
   have hTl := gw (List.nodup_append.1 hKm.nodup).1 (fun y hy => hKm.dom y (List.mem_append_left _ hy))
   rw [List.length_append] at hTl
   have hTi := aQ T
   have hall : ∀ q : Int, 0 ≤ q → q < g → (cu (prt f) (cH g) z).count q = (prt f q).count z := fun q q0 q1 => by rw [kM _ _ _ _ (js g), if_pos (f7.2 ⟨q0, q1⟩)]
   have hUl := mU hf.prt z (cH g)
   rw [eM] at hUl
   refine bF a6 _ rfl rfl rfl rfl (k5 (T := tok kt 3 1 (aU T).length) (T' := []) (by rw [List.append_nil])) (by rw [hTi]; show _ + 1 ≤ _; simp at hTl; omega) (by rw [hTi]; show (_ + 1) * 8 ≤ _; simp at hTl; omega) rfl fun k' => ?_
   rw [show aU T ++ [[AV.sc (.int .i64 z)]] = aU (T ++ [z]) from jQ T [z]]
   refine aO (aK (k5 (T := tok k' 3 1 (aU (T ++ [z])).length) (T' := []) (by rw [List.append_nil])).symm) ?_
   repeat' (first|refine ah ?_|refine a7 ?_|refine a8 ?_|refine aa ?_|refine ae a6 rfl rfl ?_)
   refine iN 1 (.slice none 0 0) (.vec (K z) 1 (aU (cu (prt f) (cH g) z))) Tryz.underlying336 Tryz.underlying3 rfl rfl rfl rfl (by kernel_rfl) (hU.at z) rfl ?_
   repeat' (first|refine aq ?_|refine a8 ?_|refine aa ?_|refine ae a6 rfl rfl ?_)
   have hUi := aQ (cu (prt f) (cH g) z)
   refine aN [5, 6, 7, 11, 64, 65] (α := Nat × KS) (fun x => [(66, aM x.1)]) (fun x => x.2.T = T ++ [z] ∧ x.2.kt = k' ∧ x.1 ≤ (cu (prt f) (cH g) z).length ∧ py g (prt f) T z ((cu (prt f) (cH g) z).take x.1) x.2.R x.2.M ∧ mo x.2.mm x.2.M ∧ mX x.2.kh x.2.R) (fun x => EF bm bu p mu (li 3 K (cu (prt f) (cH g)) (cH g) ++ sB dbs) x.2) (fun x => (cu (prt f) (cH g) z).length - x.1) (0, ⟨T ++ [z], R', M, mm, some (b, cs'), k'⟩) rfl ⟨rfl, trivial⟩ ⟨rfl, rfl, Nat.zero_le _, hKm, hM, hR'⟩ (fun σ w h => h) ?_
   clear hM hR hK hR' hKm hpm
   rintro ⟨j, ⟨T', R, M, mm, kh, kt'⟩⟩ ⟨hT', hk', hj, hK, hM, hR⟩
   dsimp only at hT' hk' hj hK hM hR ⊢
   subst hT'; subst hk'
   unfold EF
   dsimp only
   try dsimp only [Gr, Gq, Gp, Gj]
   repeat' (first|refine ah ?_|refine a7 ?_|refine a8 ?_|refine aa ?_|refine ae a6 rfl rfl ?_)
   refine aw rfl (fun h => ?_) (fun h => ?_)
   ·have hjl : j < (cu (prt f) (cH g) z).length := by have := Gz h; rw [hUi] at this; omega
    obtain ⟨u, hu⟩ : ∃ u, (cu (prt f) (cH g) z)[j]? = some u := ⟨_, Ds hjl⟩
    have hug := bN hu
    have hur := f7.1 (xk (Gx hu))
    obtain ⟨hpos, hK'⟩ := hK.step hall hTz hu hur.1 hur.2
    have hmu := hK.miss u hur.1 hur.2
    have hml := yK (prt f) T u
    have hpl := hf.prt u
    have hRl2 := gw hK.nodup hK.dom
    rw [List.length_append, List.length_append] at hRl2
    clear h
    repeat' (first|refine ah ?_|refine a7 ?_|refine aq ?_|refine au ?_|refine a8 ?_|refine aa ?_|refine ae a6 rfl rfl ?_|(apply aY; first|refine aX a6 ?_|refine aS a6 ?_)|fail)
    refine iN 0 (.int .i64 0) (aM (M u)) Tryz.underlying99 Tryz.underlying3 rfl rfl rfl rfl (by kernel_rfl) (hM.at u) rfl ?_
    repeat' (first|(apply aW; refine aV ?_)|fail)
    refine dD 0 (mJ mm (.int .i64 u) (aM (M u - 1))) Tryz.underlying99 Tryz.underlying3 rfl rfl rfl rfl rfl iK (fun q h => ia q h) ?_
    repeat' (first|refine ah ?_|refine a7 ?_|refine a8 ?_|refine aa ?_|refine ae a6 rfl rfl ?_)
    refine iN 0 (.int .i64 0) (aM (M u - 1)) Tryz.underlying99 Tryz.underlying3 rfl rfl rfl rfl (by kernel_rfl) (fun σ v h => ?_) rfl ?_
    ·have := (hM.put u (M u - 1)).at u σ v h
     simpa using this
    repeat' (first|refine a8 ?_|refine aa ?_|refine ae a6 rfl rfl ?_)
    refine aw rfl (fun h => ?_) (fun h => ?_)
    ·have h1 := Gz h
     rw [if_pos h1] at hK'
     repeat' (first|refine a7 ?_)
     refine lR (by kernel_rfl) rfl rfl ?_
     repeat' (first|refine ae a6 rfl rfl ?_)
     refine lR (by kernel_rfl) rfl rfl ?_
     repeat' (first|fail)
     refine b7 (hst p kh R) _ (ym p kh R u hR (by omega)) rfl rfl mL rfl fun c L1 ⟨b2, cs2, R2, hL, hR2, hpm⟩ => ?_
     subst hL
     refine aO (aK mL.symm) ?_
     repeat' (first|refine a7 ?_|refine a8 ?_|refine aI ?_|refine aa ?_|refine ae a6 rfl rfl ?_|(apply aW; refine aV ?_)|fail)
     exact aC (j + 1, ⟨T ++ [z], R2, _, _, some (b2, cs2), kt'⟩) rfl ⟨by rw [Gw]; rfl, trivial⟩ ⟨rfl, rfl, by dsimp only; omega, hK'.perm hpm, hM.put u (M u - 1), hR2⟩ (by dsimp only; omega) (fun _ _ h => h)
    ·have h1 := Gy h
     rw [if_neg h1] at hK'
     repeat' (first|refine a7 ?_|refine au ?_|refine a8 ?_|refine aI ?_|refine aa ?_|refine ae a6 rfl rfl ?_|(apply aW; refine aV ?_)|fail)
     exact aC (j + 1, ⟨T ++ [z], R, _, _, kh, kt'⟩) rfl ⟨by rw [Gw]; rfl, trivial⟩ ⟨rfl, rfl, by dsimp only; omega, hK', hM.put u (M u - 1), hR⟩ (by dsimp only; omega) (fun _ _ h => h)
   ·have hjl : j = (cu (prt f) (cH g) z).length := by have := Gy h; rw [hUi] at this; omega
    subst hjl
    rw [List.take_length] at hK
    repeat' (first|refine aR ?_|refine av ?_|refine aI ?_|refine aB ?_|refine ay ?_)
    exact aC ⟨T ++ [z], R, M, mm, kh, kt'⟩ rfl ⟨rfl, trivial⟩ ⟨hK.done hall hTz, hM, hR⟩ (by dsimp only; simp at hTl ⊢; omega) (fun _ _ h => h)
  ·have hR0 : R = [] := List.eq_nil_of_length_eq_zero (by have := Gy h; omega)
   subst hR0
   repeat' (first|refine ah ?_|refine a7 ?_|refine ar ?_|refine aR ?_|refine a8 ?_|refine av ?_|refine aB ?_|refine ay ?_|refine aa ?_|refine ae a6 rfl rfl ?_)
   refine ba (bg (t := 4) (c' := .imm 1 (aU T)) rfl fun σ v h => VR.im h) ?_
   refine cO (L' := sB dbs) (((((List.sublist_append_right _ _).trans (List.sublist_append_right _ _)).trans (List.sublist_append_right _ _)).cons _).cons _) ?_
   exact j6 (cs := [.imm 1 (aU T)]) dbs [] rfl (Gm _) ⟨rfl, trivial⟩ ⟨T, rfl, hK.fin⟩
end Go.Proofs.YtjjpkibjffmceaaGreat
