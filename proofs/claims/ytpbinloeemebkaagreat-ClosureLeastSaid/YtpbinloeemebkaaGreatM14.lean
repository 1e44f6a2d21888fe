/-
  Numbers in a line, each behind what it needs.
-/
import Derived.Test.YtpbinloeemebkaaGreatM13
import Derived.Test.YtpbinloeemebkaaGreatM11
import Derived.Test.YtpbinloeemebkaaGreatM10
namespace Go.Proofs.YtpbinloeemebkaaGreat
def upTo (n : Nat) : List Int := (List.range n).map fun (i : Nat) => (i : Int)
theorem mem_upTo {n : Nat} {z : Int} : z ∈ upTo n ↔ 0 ≤ z ∧ z < n := by
  simp only [upTo, List.mem_map, List.mem_range]
  constructor
  · rintro ⟨i, hi, rfl⟩; omega
  · rintro ⟨h0, h1⟩; exact ⟨z.toNat, by omega, by omega⟩
theorem upTo_nodup (n : Nat) : (upTo n).Nodup := by
  unfold upTo List.Nodup
  rw [List.pairwise_map]
  exact List.nodup_range.imp fun h e => h (by omega)
theorem upTo_len (n : Nat) : (upTo n).length = n := by simp [upTo]
theorem upTo_get {n i : Nat} (h : i < n) : (upTo n)[i]? = some (i : Int) := by simp [upTo, h]
theorem upTo_succ (n : Nat) : upTo (n + 1) = upTo n ++ [(n : Int)] := by
  unfold upTo
  rw [List.range_succ, List.map_append]
  rfl
def usersOf (pr : Int → List Int) (gs : List Int) (z : Int) : List Int := gs.flatMap fun g => ((pr g).filter fun p => decide (p = z)).map fun _ => g
theorem usersOf_count (pr : Int → List Int) (z g : Int) : ∀ gs : List Int, gs.Nodup → (usersOf pr gs z).count g = if g ∈ gs then (pr g).count z else 0
  | [], _ => by simp [usersOf]
  | y :: gs, h => by
    have h' := List.nodup_cons.1 h
    have ih := usersOf_count pr z g gs h'.2
    unfold usersOf at ih ⊢
    rw [List.flatMap_cons, List.count_append, ih]
    by_cases e : y = g
    · subst e
      rw [if_pos (List.mem_cons_self ..), if_neg h'.1, List.map_const', List.count_replicate_self, Nat.add_zero, List.count_eq_countP, List.countP_eq_length_filter]
      rfl
    · rw [List.map_const', List.count_replicate, if_neg (by simpa using e), Nat.zero_add]
      by_cases hm : g ∈ gs
      · rw [if_pos hm, if_pos (List.mem_cons_of_mem _ hm)]
      · rw [if_neg hm, if_neg (by simp [hm]; exact fun h => e h.symm)]
def missN (pr : Int → List Int) (T : List Int) (g : Int) : Nat := ((pr g).filter fun p => decide (p ∉ T)).length
theorem missN_snoc (pr : Int → List Int) {T : List Int} {x : Int} (hx : x ∉ T) (g : Int) : missN pr (T ++ [x]) g + (pr g).count x = missN pr T g := by
  unfold missN
  induction pr g with
  | nil => rfl
  | cons p l ih =>
    rw [List.filter_cons, List.filter_cons, List.count_cons]
    by_cases e : p = x
    · subst e
      rw [if_neg (by simp), if_pos (decide_eq_true hx)]
      rw [if_pos (by simp), List.length_cons]
      omega
    · have e1 : decide (p ∉ T ++ [x]) = decide (p ∉ T) := by simp [e]
      rw [e1]
      have e2 : (p == x) = false := by simpa using e
      rw [e2]
      simp only [Bool.false_eq_true, if_false]
      split
      · simp only [List.length_cons]; omega
      · omega
theorem missN_zero {pr : Int → List Int} {T : List Int} {g : Int} : missN pr T g = 0 ↔ ∀ p ∈ pr g, p ∈ T := by
  unfold missN
  rw [List.length_eq_zero_iff, List.filter_eq_nil_iff]
  simp
def Topo (pr : Int → List Int) (T : List Int) : Prop := ∀ (i : Nat) (x : Int), T[i]? = some x → ∀ p ∈ pr x, p ∈ T.take i
theorem Topo.snoc {pr : Int → List Int} {T : List Int} {x : Int} (h : Topo pr T) (hx : ∀ p ∈ pr x, p ∈ T) : Topo pr (T ++ [x]) := by
  intro i y hy p hp
  by_cases hi : i < T.length
  · rw [List.getElem?_append_left hi] at hy
    rw [List.take_append_of_le_length (by omega)]
    exact h i y hy p hp
  · rw [List.getElem?_append_right (by omega)] at hy
    have hil : i - T.length = 0 := by
      rcases Nat.eq_zero_or_pos (i - T.length) with h0 | h0
      · exact h0
      · rw [List.getElem?_eq_none (by simp; omega)] at hy; cases hy
    rw [hil] at hy
    simp at hy
    subst hy
    rw [show i = T.length by omega, List.take_left]
    exact hx p hp
structure KInv (n : Nat) (pr : Int → List Int) (T R : List Int) (M : Int → Int) : Prop where
  nodup : (T ++ R).Nodup
  dom : ∀ z ∈ T ++ R, 0 ≤ z ∧ z < n
  miss : ∀ g : Int, 0 ≤ g → g < n → M g = missN pr T g
  ready : ∀ g : Int, 0 ≤ g → g < n → (g ∈ T ++ R ↔ M g = 0)
  topo : Topo pr T
structure KMid (n : Nat) (pr : Int → List Int) (T : List Int) (x : Int) (us : List Int) (R : List Int) (M : Int → Int) : Prop where
  nodup : (T ++ [x] ++ R).Nodup
  dom : ∀ z ∈ T ++ [x] ++ R, 0 ≤ z ∧ z < n
  miss : ∀ g : Int, 0 ≤ g → g < n → M g + us.count g = missN pr T g
  ready : ∀ g : Int, 0 ≤ g → g < n → (g ∈ T ++ [x] ++ R ↔ M g = 0)
  topo : Topo pr (T ++ [x])
theorem KInv.perm {n : Nat} {pr : Int → List Int} {T R R' : List Int} {M : Int → Int} (h : KInv n pr T R M) (hp : R'.Perm R) : KInv n pr T R' M := by
  have hp' : (T ++ R').Perm (T ++ R) := List.Perm.append_left T hp
  exact ⟨hp'.nodup_iff.2 h.nodup, fun z hz => h.dom z (hp'.mem_iff.1 hz), h.miss, fun g h0 h1 => by rw [hp'.mem_iff]; exact h.ready g h0 h1, h.topo⟩
theorem KMid.perm {n : Nat} {pr : Int → List Int} {T R R' us : List Int} {x : Int} {M : Int → Int} (h : KMid n pr T x us R M) (hp : R'.Perm R) : KMid n pr T x us R' M := by
  have hp' : (T ++ [x] ++ R').Perm (T ++ [x] ++ R) := List.Perm.append_left _ hp
  exact ⟨hp'.nodup_iff.2 h.nodup, fun z hz => h.dom z (hp'.mem_iff.1 hz), h.miss, fun g h0 h1 => by rw [hp'.mem_iff]; exact h.ready g h0 h1, h.topo⟩
theorem KInv.pop {n : Nat} {pr : Int → List Int} {T R : List Int} {x : Int} {M : Int → Int} (h : KInv n pr T (R ++ [x]) M) : KMid n pr T x [] R M := by
  have hp : (T ++ [x] ++ R).Perm (T ++ (R ++ [x])) := by
    rw [List.append_assoc]
    exact List.Perm.append_left T List.perm_append_comm
  have hx := h.dom x (by simp)
  refine ⟨hp.nodup_iff.2 h.nodup, fun z hz => h.dom z (hp.mem_iff.1 hz), fun g h0 h1 => by simpa using h.miss g h0 h1, fun g h0 h1 => by rw [hp.mem_iff]; exact h.ready g h0 h1, h.topo.snoc ?_⟩
  have h1 := (h.ready x hx.1 hx.2).1 (by simp)
  rw [h.miss x hx.1 hx.2] at h1
  exact missN_zero.1 (by omega)
theorem count_take_succ {all : List Int} {j : Nat} {u : Int} (h : all[j]? = some u) (g : Int) : (all.take (j + 1)).count g = (all.take j).count g + if u = g then 1 else 0 := by
  rw [List.take_add_one, h, Option.toList_some, List.count_append]
  by_cases e : u = g
  · subst e; simp
  · rw [if_neg e, List.count_singleton, if_neg (by simpa using e)]
theorem KMid.step {n : Nat} {pr : Int → List Int} {T R all : List Int} {x u : Int} {j : Nat} {M : Int → Int} (hall : ∀ g : Int, 0 ≤ g → g < n → all.count g = (pr g).count x) (hx : x ∉ T) (h : KMid n pr T x (all.take j) R M) (hu : all[j]? = some u) (h0 : 0 ≤ u) (h1 : u < n) :
    0 < M u ∧ KMid n pr T x (all.take (j + 1)) (if M u - 1 = 0 then R ++ [u] else R) (fun g => if g = u then M u - 1 else M g) := by
  have hm := h.miss u h0 h1
  have hlt : (all.take (j + 1)).count u ≤ all.count u := (List.take_sublist _ _).count_le u
  have hsn := missN_snoc pr hx u
  rw [count_take_succ hu, if_pos rfl, hall u h0 h1] at hlt
  have hpos : 0 < M u := by omega
  have hnot : u ∉ T ++ [x] ++ R := fun hm' => by have := (h.ready u h0 h1).1 hm'; omega
  refine ⟨hpos, ?_⟩
  have hmiss : ∀ g : Int, 0 ≤ g → g < n → (if g = u then M u - 1 else M g) + ((all.take (j + 1)).count g : Int) = missN pr T g := by
    intro g g0 g1
    rw [count_take_succ hu]
    by_cases e : g = u
    · subst e
      rw [if_pos rfl, if_pos rfl]
      have := h.miss g g0 g1
      omega
    · rw [if_neg e, if_neg (fun q => e q.symm)]
      have := h.miss g g0 g1
      omega
  by_cases hz : M u - 1 = 0
  · rw [if_pos hz]
    refine ⟨?_, fun z hz' => ?_, hmiss, fun g g0 g1 => ?_, h.topo⟩
    · rw [← List.append_assoc, List.nodup_append]
      refine ⟨h.nodup, by simp, fun a ha b hb => ?_⟩
      rw [List.mem_singleton.1 hb]
      exact fun e => hnot (e ▸ ha)
    · rw [← List.append_assoc] at hz'
      rcases List.mem_append.1 hz' with hz' | hz'
      · exact h.dom z hz'
      · rw [List.mem_singleton.1 hz']; exact ⟨h0, h1⟩
    · rw [← List.append_assoc, List.mem_append, List.mem_singleton]
      by_cases e : g = u
      · subst e; simp [hz]
      · rw [if_neg e, h.ready g g0 g1]
        simp [e]
  · rw [if_neg hz]
    refine ⟨h.nodup, h.dom, hmiss, fun g g0 g1 => ?_, h.topo⟩
    by_cases e : g = u
    · subst e
      rw [if_pos rfl]
      exact ⟨fun q => absurd q hnot, fun q => absurd q hz⟩
    · rw [if_neg e]
      exact h.ready g g0 g1
theorem KMid.done {n : Nat} {pr : Int → List Int} {T R all : List Int} {x : Int} {M : Int → Int} (hall : ∀ g : Int, 0 ≤ g → g < n → all.count g = (pr g).count x) (hx : x ∉ T) (h : KMid n pr T x all R M) : KInv n pr (T ++ [x]) R M := by
  refine ⟨h.nodup, h.dom, fun g h0 h1 => ?_, h.ready, h.topo⟩
  have h2 := h.miss g h0 h1
  have h3 := missN_snoc pr hx g
  rw [hall g h0 h1] at h2
  omega
structure KDone (n : Nat) (pr : Int → List Int) (T : List Int) : Prop where
  nodup : T.Nodup
  dom : ∀ z ∈ T, 0 ≤ z ∧ z < n
  topo : Topo pr T
  full : ∀ g : Int, 0 ≤ g → g < n → (∀ p ∈ pr g, p ∈ T) → g ∈ T
theorem KInv.fin {n : Nat} {pr : Int → List Int} {T : List Int} {M : Int → Int} (h : KInv n pr T [] M) : KDone n pr T := by
  have h1 := h.nodup
  have h2 := h.dom
  have h3 := h.ready
  rw [List.append_nil] at h1 h2 h3
  exact ⟨h1, h2, h.topo, fun g h0 h4 hp => (h3 g h0 h4).2 (by rw [h.miss g h0 h4, missN_zero.2 hp]; rfl)⟩
theorem KInv.start {n : Nat} {pr : Int → List Int} {M : Int → Int} (hM : ∀ g : Int, 0 ≤ g → g < n → M g = (pr g).length) : KInv n pr [] ((upTo n).filter fun g => decide (M g = 0)) M := by
  refine ⟨by rw [List.nil_append]; exact (upTo_nodup n).filter _, fun z hz => ?_, fun g h0 h1 => ?_, fun g h0 h1 => ?_, fun i x h => by simp at h⟩
  · rw [List.nil_append, List.mem_filter, mem_upTo] at hz
    exact hz.1
  · rw [hM g h0 h1]
    unfold missN
    rw [List.filter_eq_self.2 (by simp)]
  · rw [List.nil_append, List.mem_filter, mem_upTo, decide_eq_true_eq]
    exact ⟨fun h => h.2, fun h => ⟨⟨h0, h1⟩, h⟩⟩
def Acyc (n : Nat) (pr : Int → List Int) : Prop := ∃ r : Int → Nat, ∀ g : Int, 0 ≤ g → g < n → ∀ p ∈ pr g, r p < r g
theorem KDone.all {n : Nat} {pr : Int → List Int} {T : List Int} (h : KDone n pr T) (ha : Acyc n pr) (hp : ∀ g, ∀ p ∈ pr g, 0 ≤ p ∧ p < n) : ∀ g : Int, 0 ≤ g → g < n → g ∈ T := by
  obtain ⟨r, hr⟩ := ha
  have : ∀ (k : Nat) (g : Int), r g < k → 0 ≤ g → g < n → g ∈ T := by
    intro k
    induction k with
    | zero => intro g hk; exact absurd hk (Nat.not_lt_zero _)
    | succ k ih =>
      intro g hk h0 h1
      refine h.full g h0 h1 fun p hpp => ih p ?_ (hp g p hpp).1 (hp g p hpp).2
      have := hr g h0 h1 p hpp
      omega
  intro g h0 h1
  exact this (r g + 1) g (by omega) h0 h1
theorem KDone.len {n : Nat} {pr : Int → List Int} {T : List Int} (h : KDone n pr T) : T.length ≤ n := nodup_le h.nodup h.dom
theorem nodup_sub_le : ∀ (l T : List Int), l.Nodup → (∀ x ∈ l, x ∈ T) → l.length ≤ T.length
  | [], _, _, _ => Nat.zero_le _
  | x :: l, T, h, hs => by
    have h' := List.nodup_cons.1 h
    have hx := hs x (List.mem_cons_self ..)
    have := nodup_sub_le l (T.erase x) h'.2 fun y hy => (List.mem_erase_of_ne (fun e => h'.1 (by rw [← e]; exact hy))).2 (hs y (List.mem_cons_of_mem _ hy))
    rw [List.length_erase_of_mem hx] at this
    have hpos := List.length_pos_of_mem hx
    rw [List.length_cons]
    omega
theorem KDone.len_all {n : Nat} {pr : Int → List Int} {T : List Int} (h : KDone n pr T) (ha : ∀ g : Int, 0 ≤ g → g < n → g ∈ T) : T.length = n := by
  refine Nat.le_antisymm h.len ?_
  have := nodup_sub_le (upTo n) T (upTo_nodup n) fun z hz => by
    rw [mem_upTo] at hz
    exact ha z hz.1 hz.2
  rwa [upTo_len] at this
theorem KDone.all_of_len {n : Nat} {pr : Int → List Int} {T : List Int} (h : KDone n pr T) (hl : T.length = n) : ∀ g : Int, 0 ≤ g → g < n → g ∈ T := by
  intro g h0 h1
  apply Classical.byContradiction
  intro hn
  have := nodup_le (l := g :: T) (n := n) (List.nodup_cons.2 ⟨hn, h.nodup⟩) fun z hz => by
    rcases List.mem_cons.1 hz with rfl | hz
    · exact ⟨h0, h1⟩
    · exact h.dom z hz
  rw [List.length_cons] at this
  omega
theorem KDone.acyc {n : Nat} {pr : Int → List Int} {T : List Int} (h : KDone n pr T) (ha : ∀ g : Int, 0 ≤ g → g < n → g ∈ T) : Acyc n pr := by
  refine ⟨fun g => T.idxOf g, fun g h0 h1 p hp => ?_⟩
  have hg := ha g h0 h1
  have hi := List.idxOf_lt_length_iff.2 hg
  have h2 := h.topo (T.idxOf g) g (by rw [List.getElem?_eq_getElem hi, List.getElem_idxOf]) p hp
  obtain ⟨j, hj⟩ := List.mem_iff_getElem?.1 h2
  rw [List.getElem?_take] at hj
  split at hj
  · rename_i hlt
    dsimp only
    obtain ⟨hjl, hje⟩ := List.getElem?_eq_some_iff.1 hj
    have : T.idxOf p ≤ j := by
      rw [← hje]
      have := h.nodup.idxOf_getElem j hjl
      omega
    omega
  · cases hj
end Go.Proofs.YtpbinloeemebkaaGreat

namespace Go.Proofs.YtpbinloeemebkaaGreat
open Go.RowKit
attribute [local irreducible] AT ATL AX AO Av Kt ALoopK OkA DA DA1
theorem there_det (f : FFont) (n : Int) : ADet Tryz.prog 281 [aFont f, I64 n] (Bol (isG f n)) := by
  refine ac_of Tryz.func281 rfl Tryz.ntmps281 rfl fun B => ?_
  (repeat' (first|refine at_seq ?_|refine at_region ?_|refine ax_then ?_|refine atl_nil ?_|refine n_run ttok rfl rfl ?_|refine n_boxI ?_|fail))
  refine atl_cut (t := 4) [] (isG f n = true) rfl (fun Q' K => ?_) ?_
  · (repeat' (first|refine atl_nil ?_|refine n_run ttok rfl rfl ?_|refine atl_guard_yes rfl rfl ?_|refine atl_guard_no rfl rfl rfl rfl ?_|refine atl_guard rfl rfl rfl (fun _ => ?_) (fun _ => ?_)|fail))
    all_goals exact K _ _ rfl rfl (by unfold isG; simp_all <;> omega)
  (repeat' (first|refine at_ret ?_|refine ax_then ?_|fail))
  refine ax_ret1 rfl rfl ?_
  simp
instance (f : FFont) (n : Int) : AD Tryz.prog 281 [aFont f, I64 n] (Bol (isG f n)) := ⟨there_det f n⟩
theorem parts_det (f : FFont) (g : Int) : ADet Tryz.prog 268 [aFont f, I64 g] (.fn 280 [.iptr (cFont f), .iptr [I64 g]]) := by
  refine ac_of Tryz.func268 rfl Tryz.ntmps268 rfl fun B => ?_
  (repeat' (first|refine at_seq ?_|refine at_region ?_|refine at_ret ?_|refine ax_then ?_|refine atl_nil ?_|refine n_run ttok rfl rfl ?_|refine n_boxI ?_|fail))
  exact ax_ret1 rfl rfl rfl
instance (f : FFont) (g : Int) : AD Tryz.prog 268 [aFont f, I64 g] (.fn 280 [.iptr (cFont f), .iptr [I64 g]]) := ⟨parts_det f g⟩
set_option maxHeartbeats 1000000 in
theorem partsIt {α : Type} {σ0 : Mem} {l : Nat} (f : FFont) (g : Nat) (gl : FGlyph) (hg : f.Glyphs[g]? = some gl) (E : α → AL) (J : Nat → α → Prop)
    (hy : ∀ i x p, J i x → gl.Parts[i]? = some p → isG f p.Glyph = true → AY Tryz.prog σ0 l [.agg (cPart p)] (E x) fun c L => c = Bol true ∧ ∃ x', J (i + 1) x' ∧ L = E x')
    (hs : ∀ i x p, J i x → gl.Parts[i]? = some p → isG f p.Glyph = false → J (i + 1) x) (x0 : α) (h0 : J 0 x0) (hlen : gl.Parts.length ≤ 1000000) :
    ACs Tryz.prog σ0 280 [.sc (.func (.yield l) #[] #[]), .iptr (cFont f), .iptr [I64 g]] (E x0) fun _ L => ∃ x, J gl.Parts.length x ∧ L = E x := by
  refine acs_of Tryz.func280 rfl Tryz.ntmps280 rfl fun B hB => ?_
  have hgg := map_get (c := cGlyph) hg
  (repeat' (first|refine at_seq ?_|refine at_region ?_|refine at_block ?_|refine ax_then ?_|refine atl_nil ?_|refine n_run ttok rfl rfl ?_|(apply s_index; first|refine n_index ttok ?_|refine n_indexP ttok ?_)|fail))
  refine at_loopK [0, 1, 11, 12] (α := Nat × α) (fun y => [(13, I64 y.1)]) (fun y => y.1 ≤ gl.Parts.length ∧ J y.1 y.2) (fun y => E y.2) (fun y => gl.Parts.length - y.1) (0, x0) rfl ⟨rfl, trivial⟩ ⟨Nat.zero_le _, h0⟩ (fun _ _ h => h) ?_
  rintro ⟨i, x⟩ ⟨hi, hj⟩
  dsimp only at hi hj ⊢
  try dsimp only [List.cons_append, List.nil_append, List.map_cons, List.map_nil]
  (repeat' (first|refine at_seq ?_|refine at_region ?_|refine ax_then ?_|refine atl_nil ?_|refine n_run ttok rfl rfl ?_|fail))
  refine at_cond rfl (fun h => ?_) (fun h => ?_)
  · have hil : i < gl.Parts.length := by have := of_decide_eq_true h; simp at this; omega
    obtain ⟨p, hp⟩ : ∃ z, gl.Parts[i]? = some z := ⟨_, List.getElem?_eq_getElem hil⟩
    have hpg := map_get (c := cPart) hp
    (repeat' (first|refine at_seq ?_|refine at_region ?_|refine at_block ?_|refine at_skip ?_|refine ax_then ?_|refine atl_nil ?_|refine n_run ttok rfl rfl ?_|(apply s_index; first|refine n_index ttok ?_|refine n_indexP ttok ?_)|(apply s_store; first|refine n_storeF 5 ttok 0 rfl rfl rfl rfl rfl rfl rfl rfl ?_|refine n_storeF 5 ttok 1 rfl rfl rfl rfl rfl rfl rfl rfl ?_|refine n_storeF 5 ttok 2 rfl rfl rfl rfl rfl rfl rfl rfl ?_|refine n_store ttok 0 rfl rfl rfl rfl rfl rfl rfl ?_|refine n_store ttok 1 rfl rfl rfl rfl rfl rfl rfl ?_|refine n_store ttok 2 rfl rfl rfl rfl rfl rfl rfl ?_|refine n_store ttok 3 rfl rfl rfl rfl rfl rfl rfl ?_|fail)|refine n_alloc ttok fun _=>?_|(apply s_call;refine n_call ?_)|fail))
    by_cases hG : isG f p.Glyph = true
    · rw [hG]
      (repeat' (first|refine n_run ttok rfl rfl ?_|refine atl_guard_yes rfl rfl ?_|fail))
      refine n_yield (E x) [] hB (hy i x p hj hp hG) rfl rfl rfl (by rw [List.append_nil]; exact List.Perm.refl _) rfl rfl fun c L1 ⟨hc, x', hj', hL⟩ => ?_
      subst hc; subst hL
      rw [List.append_nil]
      (repeat' (first|refine at_region ?_|refine at_skip ?_|refine ax_then ?_|refine ax_blk ?_|refine atl_nil ?_|refine n_run ttok rfl rfl ?_|refine atl_guard_yes rfl rfl ?_|(apply s_bin; refine n_bin ?_)|refine n_condF rfl ?_|fail))
      exact ax_roundK (i + 1, x') rfl ⟨by rw [Int.natCast_add]; rfl, trivial⟩ ⟨by dsimp only; omega, hj'⟩ (by dsimp only; omega) (fun _ _ h => h)
    · have hG' : isG f p.Glyph = false := by simpa using hG
      rw [hG']
      (repeat' (first|refine at_region ?_|refine at_skip ?_|refine ax_then ?_|refine ax_blk ?_|refine atl_nil ?_|refine n_run ttok rfl rfl ?_|refine atl_guard_no rfl rfl rfl rfl ?_|(apply s_bin; refine n_bin ?_)|refine n_condF rfl ?_|fail))
      exact ax_roundK (i + 1, x) rfl ⟨by rw [Int.natCast_add]; rfl, trivial⟩ ⟨by dsimp only; omega, hs i x p hj hp hG'⟩ (by dsimp only; omega) (fun _ _ h => h)
  · have hil : i = gl.Parts.length := by have := of_decide_eq_false h; simp at this; omega
    subst hil
    (repeat' (first|refine at_exit ?_|refine ax_then_exit ?_|refine ax_blk_exit ?_|refine ax_loop_exit ?_|fail))
    exact ax_end0 rfl ⟨x, hj, rfl⟩
end Go.Proofs.YtpbinloeemebkaaGreat

namespace Go.Proofs.YtpbinloeemebkaaGreat
open Go.RowKit
attribute [local irreducible] AT ATL AX AO Av Kt ALoopK OkA DA DA1
open Go.MapKept
attribute [local irreducible] ALoopM
def prt (f : FFont) (g : Int) : List Int := match f.Glyphs[g.toNat]? with
  | some gl => (gl.Parts.map FPart.Glyph).filter (isG f)
  | none => []
def prI (f : FFont) (gl : FGlyph) (i : Nat) : List Int := ((gl.Parts.take i).map FPart.Glyph).filter (isG f)
theorem prI_yes {f : FFont} {gl : FGlyph} {i : Nat} {p : FPart} (h : gl.Parts[i]? = some p) (hg : isG f p.Glyph = true) : prI f gl (i + 1) = prI f gl i ++ [p.Glyph] := by
  unfold prI
  rw [List.take_add_one, h, Option.toList_some, List.map_append, List.filter_append]
  simp [hg]
theorem prI_no {f : FFont} {gl : FGlyph} {i : Nat} {p : FPart} (h : gl.Parts[i]? = some p) (hg : isG f p.Glyph = false) : prI f gl (i + 1) = prI f gl i := by
  unfold prI
  rw [List.take_add_one, h, Option.toList_some, List.map_append, List.filter_append]
  simp [hg]
theorem prI_all {f : FFont} {g : Nat} {gl : FGlyph} (hg : f.Glyphs[g]? = some gl) : prI f gl gl.Parts.length = prt f g := by
  unfold prI prt
  rw [Int.toNat_natCast, hg, List.take_length]
theorem prI_len (f : FFont) (gl : FGlyph) (i : Nat) : (prI f gl i).length ≤ gl.Parts.length := by
  unfold prI
  refine Nat.le_trans (List.length_filter_le _ _) ?_
  rw [List.length_map, List.length_take]
  omega
theorem isG_iff {f : FFont} {z : Int} : isG f z = true ↔ 0 ≤ z ∧ z < f.Glyphs.length := by unfold isG; simp
theorem prt_in {f : FFont} {g p : Int} (h : p ∈ prt f g) : 0 ≤ p ∧ p < f.Glyphs.length := by
  unfold prt at h
  split at h
  · rw [List.mem_filter] at h; exact isG_iff.1 h.2
  · cases h
structure Few (f : FFont) : Prop where
  n : f.Glyphs.length ≤ 1000
  parts : ∀ gl ∈ f.Glyphs, gl.Parts.length ≤ 1000
theorem Few.prt {f : FFont} (h : Few f) (g : Int) : (prt f g).length ≤ 1000 := by
  unfold Go.Proofs.YtpbinloeemebkaaGreat.prt
  split
  · rename_i gl hgl
    refine Nat.le_trans (List.length_filter_le _ _) ?_
    rw [List.length_map]
    exact h.parts gl (List.mem_of_getElem? hgl)
  · exact Nat.zero_le _
theorem users_len {pr : Int → List Int} (h : ∀ g, (pr g).length ≤ 1000) (z : Int) : ∀ gs : List Int, (usersOf pr gs z).length ≤ 1000 * gs.length
  | [] => by simp [usersOf]
  | g :: gs => by
    have ih := users_len h z gs
    unfold usersOf at ih ⊢
    rw [List.flatMap_cons, List.length_append, List.length_map, List.length_cons]
    have h1 := List.length_filter_le (fun p => decide (p = z)) (pr g)
    have h2 := h g
    omega
theorem users_mem {pr : Int → List Int} {gs : List Int} {z g : Int} (h : g ∈ usersOf pr gs z) : g ∈ gs := by
  unfold usersOf at h
  obtain ⟨y, hy, h1⟩ := List.mem_flatMap.1 h
  obtain ⟨_, _, rfl⟩ := List.mem_map.1 h1
  exact hy
theorem missN_le (pr : Int → List Int) (T : List Int) (g : Int) : missN pr T g ≤ (pr g).length := List.length_filter_le _ _
def Mi (f : FFont) (gl : FGlyph) (g i : Nat) : Int → Int := fun z => if z = g then (prI f gl i).length else if 0 ≤ z ∧ z < g then (prt f z).length else 0
def Ui (f : FFont) (gl : FGlyph) (g i : Nat) : Int → List Int := fun z => usersOf (prt f) (upTo g) z ++ ((prI f gl i).filter fun p => decide (p = z)).map fun _ => (g : Int)
def Mb (f : FFont) (g : Nat) : Int → Int := fun z => if 0 ≤ z ∧ z < g then (prt f z).length else 0
def Rb (f : FFont) (g : Nat) : List Int := (upTo g).filter fun z => decide ((prt f z).length = 0)
theorem Mi_zero (f : FFont) (gl : FGlyph) (g : Nat) : Mi f gl g 0 = Mb f g := by
  funext z
  unfold Mi Mb prI
  by_cases e : z = g
  · subst e; rw [if_pos rfl, if_neg (by omega)]; rfl
  · rw [if_neg e]
theorem Ui_zero (f : FFont) (gl : FGlyph) (g : Nat) : Ui f gl g 0 = usersOf (prt f) (upTo g) := by
  funext z
  unfold Ui prI
  simp
theorem Mi_all {f : FFont} {g : Nat} {gl : FGlyph} (hg : f.Glyphs[g]? = some gl) : Mi f gl g gl.Parts.length = Mb f (g + 1) := by
  funext z
  unfold Mi Mb
  rw [prI_all hg]
  by_cases e : z = g
  · subst e; rw [if_pos rfl, if_pos (by omega)]
  · rw [if_neg e]
    by_cases h : 0 ≤ z ∧ z < g
    · rw [if_pos h, if_pos (by omega)]
    · rw [if_neg h, if_neg (by omega)]
theorem Ui_all {f : FFont} {g : Nat} {gl : FGlyph} (hg : f.Glyphs[g]? = some gl) : Ui f gl g gl.Parts.length = usersOf (prt f) (upTo (g + 1)) := by
  funext z
  unfold Ui
  rw [prI_all hg, upTo_succ]
  unfold usersOf
  rw [List.flatMap_append]
  simp
theorem Mi_yes {f : FFont} {gl : FGlyph} {g i : Nat} {p : FPart} (h : gl.Parts[i]? = some p) (hg : isG f p.Glyph = true) : (fun q => if q = (g : Int) then Mi f gl g i g + 1 else Mi f gl g i q) = Mi f gl g (i + 1) := by
  funext q
  unfold Mi
  rw [prI_yes h hg]
  by_cases e : q = g
  · rw [if_pos e, if_pos e, if_pos rfl]; simp
  · rw [if_neg e, if_neg e, if_neg e]
theorem Ui_yes {f : FFont} {gl : FGlyph} {g i : Nat} {p : FPart} (h : gl.Parts[i]? = some p) (hg : isG f p.Glyph = true) : (fun q => if q = p.Glyph then Ui f gl g i p.Glyph ++ [(g : Int)] else Ui f gl g i q) = Ui f gl g (i + 1) := by
  funext q
  unfold Ui
  rw [prI_yes h hg, List.filter_append, List.map_append]
  by_cases e : q = p.Glyph
  · subst e; rw [if_pos rfl]; simp
  · have e' : ¬ p.Glyph = q := fun h => e h.symm
    rw [if_neg e]; simp [e']
theorem Mi_no {f : FFont} {gl : FGlyph} {g i : Nat} {p : FPart} (h : gl.Parts[i]? = some p) (hg : isG f p.Glyph = false) : Mi f gl g (i + 1) = Mi f gl g i := by unfold Mi; rw [prI_no h hg]
theorem Ui_no {f : FFont} {gl : FGlyph} {g i : Nat} {p : FPart} (h : gl.Parts[i]? = some p) (hg : isG f p.Glyph = false) : Ui f gl g (i + 1) = Ui f gl g i := by unfold Ui; rw [prI_no h hg]
theorem Ui_len {f : FFont} (hf : Few f) (gl : FGlyph) (hgl : gl ∈ f.Glyphs) {g : Nat} (hg : g ≤ 1000) (i : Nat) (z : Int) : (Ui f gl g i z).length ≤ 1001000 := by
  unfold Ui
  have h1 := users_len hf.prt z (upTo g)
  have h2 := prI_len f gl i
  have h3 := List.length_filter_le (fun p => decide (p = z)) (prI f gl i)
  have h4 := hf.parts gl hgl
  rw [upTo_len] at h1
  rw [List.length_append, List.length_map]
  omega
theorem Rb_succ (f : FFont) (g : Nat) : Rb f (g + 1) = if (prt f g).length = 0 then Rb f g ++ [(g : Int)] else Rb f g := by
  unfold Rb
  rw [upTo_succ, List.filter_append]
  by_cases h : (prt f g).length = 0
  · rw [if_pos h, List.filter_cons_of_pos (by simpa using h)]; rfl
  · rw [if_neg h, List.filter_cons_of_neg (by simpa using h)]; simp
theorem Rb_len (f : FFont) (g : Nat) : (Rb f g).length ≤ g := by
  unfold Rb
  refine Nat.le_trans (List.length_filter_le _ _) ?_
  rw [upTo_len]
  exact Nat.le_refl _
theorem perm_tok {a b : Nat × AB} {T T' t H R : AL} (h : T.Perm (t ++ T')) : (a :: b :: (H ++ (T ++ R))).Perm (t ++ (a :: b :: (H ++ (T' ++ R)))) := by
  have h1 : (a :: b :: (H ++ (T ++ R))).Perm (a :: b :: (H ++ (t ++ (T' ++ R)))) := by
    refine List.Perm.cons _ (List.Perm.cons _ (List.Perm.append_left _ ?_))
    rw [← List.append_assoc]
    exact h.append_right _
  refine h1.trans ?_
  have h2 : (a :: b :: (H ++ (t ++ (T' ++ R)))) = ((a :: b :: H) ++ t) ++ (T' ++ R) := by simp
  have h3 : t ++ (a :: b :: (H ++ (T' ++ R))) = (t ++ (a :: b :: H)) ++ (T' ++ R) := by simp
  rw [h2, h3]
  exact List.Perm.append_right _ List.perm_append_comm
end Go.Proofs.YtpbinloeemebkaaGreat

namespace Go.Proofs.YtpbinloeemebkaaGreat
open Go.RowKit
attribute [local irreducible] AT ATL AX AO Av Kt ALoopK OkA DA DA1
open Go.MapKept
attribute [local irreducible] ALoopM
theorem rec_same {rec : Loop} (h1 : rec.state = .ready) (h2 : rec.pending = none) : ({ ({ rec with state := .busy } : Loop) with state := .ready, pending := none } : Loop) = rec := by cases rec; simp_all
abbrev KI : TypeDesc := .int .i64
theorem Mb_zero (f : FFont) : Mb f 0 = fun _ => 0 := by
  funext z
  unfold Mb
  rw [if_neg (by omega)]
abbrev KT := Int → Option (Nat × Nat)
abbrev VM := Value → Option AV
abbrev LX := VM × VM × KT × (Int → List Int)
theorem perm_rot {a b c d e : Nat × AB} {T M : AL} : (d :: a :: b :: c :: (T ++ (M ++ [e]))).Perm (a :: b :: c :: d :: (T ++ (e :: M))) := by
  refine (List.perm_middle (l₁ := [a, b, c])).symm.trans ?_
  exact List.Perm.cons _ (List.Perm.cons _ (List.Perm.cons _ (List.Perm.cons _ (List.Perm.append_left T (List.perm_append_singleton e M)))))
def lnE (bm bu p n : Nat) (kh : Option (Nat × List AV)) (R : List Int) (rest : AL) (x : LX) : AL := (bm, mapB KI x.1) :: (bu, mapB KI x.2.1) :: (hst p kh R ++ (toks 3 x.2.2.1 x.2.2.2 (upTo n) ++ rest))
abbrev LS := Nat × List Nat × VM × VM × KT × Option (Nat × List AV)
def lnM (dbs : List Nat) : AL := dbs.map fun b => (b, dfO)
theorem perm_h {a b : Nat × AB} {H X : AL} : (a :: b :: (H ++ X)).Perm (H ++ (a :: b :: X)) := by
  have h1 : (a :: b :: (H ++ X)) = (a :: b :: H) ++ X := rfl
  have h2 : H ++ (a :: b :: X) = (H ++ [a, b]) ++ X := by simp
  rw [h1, h2]
  exact (List.perm_append_comm (l₁ := [a, b]) (l₂ := H)).append_right X
structure KS where
  T : List Int
  R : List Int
  M : Int → Int
  mm : VM
  kh : Option (Nat × List AV)
  kt : Option (Nat × Nat)
def lnK (bm bu p : Nat) (mu : VM) (X : AL) (x : KS) : AL := (bm, mapB KI x.mm) :: (bu, mapB KI mu) :: (hst p x.kh x.R ++ (tok x.kt 3 1 (ints x.T).length ++ X))
set_option maxHeartbeats 8000000 in
theorem line_ac (f : FFont) (hf : Few f) : AC Tryz.prog 234 [aFont f, .imm 1 (ints (upTo f.Glyphs.length))] [] fun c _ => ∃ T, c = .imm 1 (ints T) ∧ KDone f.Glyphs.length (prt f) T := by
  refine ac_ofM Tryz.func234 rfl Tryz.ntmps234 rfl fun B => ?_
  have hn := hf.n
  have hil : (ints (upTo f.Glyphs.length)).length = f.Glyphs.length := by rw [ints_len, upTo_len]
  generalize hN : f.Glyphs.length = n at *
  (repeat' (first|refine at_seq ?_|refine at_region ?_|refine ax_then ?_|refine atl_nil ?_|refine n_run ttok rfl rfl ?_|refine n_boxI ?_|fail))
  refine n_makeMap KI fun bm => ?_
  (repeat' (first|refine at_seq ?_|refine at_region ?_|refine ax_then ?_|refine atl_nil ?_|(apply s_store; first|refine n_storeF 5 ttok 0 rfl rfl rfl rfl rfl rfl rfl rfl ?_|refine n_storeF 5 ttok 1 rfl rfl rfl rfl rfl rfl rfl rfl ?_|refine n_storeF 5 ttok 2 rfl rfl rfl rfl rfl rfl rfl rfl ?_|refine n_storeF 6 ttok 0 rfl rfl rfl rfl rfl rfl rfl rfl ?_|refine n_storeF 6 ttok 1 rfl rfl rfl rfl rfl rfl rfl rfl ?_|refine n_storeF 6 ttok 2 rfl rfl rfl rfl rfl rfl rfl rfl ?_|refine n_storeF 9 ttok 0 rfl rfl rfl rfl rfl rfl rfl rfl ?_|refine n_storeF 9 ttok 1 rfl rfl rfl rfl rfl rfl rfl rfl ?_|refine n_storeF 9 ttok 2 rfl rfl rfl rfl rfl rfl rfl rfl ?_|refine n_storeF 10 ttok 0 rfl rfl rfl rfl rfl rfl rfl rfl ?_|refine n_storeF 10 ttok 1 rfl rfl rfl rfl rfl rfl rfl rfl ?_|refine n_storeF 10 ttok 2 rfl rfl rfl rfl rfl rfl rfl rfl ?_|refine n_store ttok 0 rfl rfl rfl rfl rfl rfl rfl ?_|refine n_store ttok 1 rfl rfl rfl rfl rfl rfl rfl ?_|refine n_store ttok 2 rfl rfl rfl rfl rfl rfl rfl ?_|refine n_store ttok 3 rfl rfl rfl rfl rfl rfl rfl ?_|fail)|refine n_alloc ttok fun _=>?_|fail))
  refine n_makeMap KI fun bu => ?_
  (repeat' (first|refine at_seq ?_|refine at_region ?_|refine at_block ?_|refine ax_then ?_|refine atl_nil ?_|refine n_run ttok rfl rfl ?_|(apply s_store; first|refine n_storeF 5 ttok 0 rfl rfl rfl rfl rfl rfl rfl rfl ?_|refine n_storeF 5 ttok 1 rfl rfl rfl rfl rfl rfl rfl rfl ?_|refine n_storeF 5 ttok 2 rfl rfl rfl rfl rfl rfl rfl rfl ?_|refine n_storeF 6 ttok 0 rfl rfl rfl rfl rfl rfl rfl rfl ?_|refine n_storeF 6 ttok 1 rfl rfl rfl rfl rfl rfl rfl rfl ?_|refine n_storeF 6 ttok 2 rfl rfl rfl rfl rfl rfl rfl rfl ?_|refine n_storeF 9 ttok 0 rfl rfl rfl rfl rfl rfl rfl rfl ?_|refine n_storeF 9 ttok 1 rfl rfl rfl rfl rfl rfl rfl rfl ?_|refine n_storeF 9 ttok 2 rfl rfl rfl rfl rfl rfl rfl rfl ?_|refine n_storeF 10 ttok 0 rfl rfl rfl rfl rfl rfl rfl rfl ?_|refine n_storeF 10 ttok 1 rfl rfl rfl rfl rfl rfl rfl rfl ?_|refine n_storeF 10 ttok 2 rfl rfl rfl rfl rfl rfl rfl rfl ?_|refine n_store ttok 0 rfl rfl rfl rfl rfl rfl rfl ?_|refine n_store ttok 1 rfl rfl rfl rfl rfl rfl rfl ?_|refine n_store ttok 2 rfl rfl rfl rfl rfl rfl rfl ?_|refine n_store ttok 3 rfl rfl rfl rfl rfl rfl rfl ?_|fail)|refine n_alloc ttok fun _=>?_|fail))
  rename_i p
  refine at_loopM [2, 5, 6, 7, 17, 18] (α := LS) (fun x => marks x.2.1) (fun x => [(19, I64 x.1)]) (fun x => x.1 ≤ n ∧ MNum x.2.2.1 (Mb f x.1) ∧ MRow x.2.2.2.1 x.2.2.2.2.1 (usersOf (prt f) (upTo x.1)) ∧ HOk x.2.2.2.2.2 (Rb f x.1)) (fun x => lnE bm bu p n x.2.2.2.2.2 (Rb f x.1) (lnM x.2.1) (x.2.2.1, x.2.2.2.1, x.2.2.2.2.1, usersOf (prt f) (upTo x.1))) (fun x => n - x.1) (0, [], (fun _ => none), (fun _ => none), (fun _ => none), none) rfl ⟨rfl, trivial⟩ rfl ⟨Nat.zero_le _, ?_, ?_, rfl⟩ (fun σ w h => ?_) ?_
  · intro z; exact .inl ⟨rfl, by rw [Mb_zero]⟩
  · intro z; exact .inl ⟨rfl, rfl, rfl⟩
  · have h1 := ASt.perm (L := [(p, .box [.sc (.slice none 0 0)] 328), (bu, mapB KI fun _ => none), (bm, mapB KI fun _ => none)]) h (List.reverse_perm _).symm
    have h2 : lnE bm bu p n none (Rb f 0) (lnM []) ((fun _ => none), (fun _ => none), (fun _ => none), usersOf (prt f) (upTo 0)) = [(bm, mapB KI fun _ => none), (bu, mapB KI fun _ => none), (p, .box [.sc (.slice none 0 0)] 328)] := by
      unfold lnE
      rw [toks_none]
      rfl
    show ASt B σ (lnE bm bu p n none (Rb f 0) (lnM []) ((fun _ => none), (fun _ => none), (fun _ => none), usersOf (prt f) (upTo 0))) w
    rw [h2]
    exact h1
  rintro ⟨g, dbs, mm, mu, K, kh⟩ ⟨hg, hM, hU, hR⟩
  dsimp only at hg hM hU hR ⊢
  try dsimp only [List.cons_append, List.nil_append, List.map_cons, List.map_nil]
  (repeat' (first|refine at_seq ?_|refine at_region ?_|refine ax_then ?_|refine atl_nil ?_|refine n_run ttok rfl rfl ?_|fail))
  rw [hil]
  refine at_cond rfl (fun h => ?_) (fun h => ?_)
  · have hgl : g < n := by have := of_decide_eq_true h; omega
    obtain ⟨gl, hgg⟩ : ∃ z, f.Glyphs[g]? = some z := ⟨_, List.getElem?_eq_getElem (by omega)⟩
    have hgm := List.mem_of_getElem? hgg
    have hgi := ints_get (upTo_get hgl)
    clear h
    unfold lnE
    dsimp only
    (repeat' (first|refine at_seq ?_|refine at_region ?_|refine at_block ?_|refine at_skip ?_|refine ax_then ?_|refine atl_nil ?_|refine n_run ttok rfl rfl ?_|(apply s_index; first|refine n_index ttok ?_|refine n_indexP ttok ?_)|(apply s_store; first|refine n_storeF 5 ttok 0 rfl rfl rfl rfl rfl rfl rfl rfl ?_|refine n_storeF 5 ttok 1 rfl rfl rfl rfl rfl rfl rfl rfl ?_|refine n_storeF 5 ttok 2 rfl rfl rfl rfl rfl rfl rfl rfl ?_|refine n_storeF 6 ttok 0 rfl rfl rfl rfl rfl rfl rfl rfl ?_|refine n_storeF 6 ttok 1 rfl rfl rfl rfl rfl rfl rfl rfl ?_|refine n_storeF 6 ttok 2 rfl rfl rfl rfl rfl rfl rfl rfl ?_|refine n_storeF 9 ttok 0 rfl rfl rfl rfl rfl rfl rfl rfl ?_|refine n_storeF 9 ttok 1 rfl rfl rfl rfl rfl rfl rfl rfl ?_|refine n_storeF 9 ttok 2 rfl rfl rfl rfl rfl rfl rfl rfl ?_|refine n_storeF 10 ttok 0 rfl rfl rfl rfl rfl rfl rfl rfl ?_|refine n_storeF 10 ttok 1 rfl rfl rfl rfl rfl rfl rfl rfl ?_|refine n_storeF 10 ttok 2 rfl rfl rfl rfl rfl rfl rfl rfl ?_|refine n_store ttok 0 rfl rfl rfl rfl rfl rfl rfl ?_|refine n_store ttok 1 rfl rfl rfl rfl rfl rfl rfl ?_|refine n_store ttok 2 rfl rfl rfl rfl rfl rfl rfl ?_|refine n_store ttok 3 rfl rfl rfl rfl rfl rfl rfl ?_|fail)|refine n_alloc ttok fun _=>?_|(apply s_call;refine n_call ?_)|fail))
    refine at_weak (fr' := [(2, .iptr (cFont f)), (5, .iptr [.sc (.map (some bm))]), (6, .iptr [.sc (.map (some bu))]), (7, .sc (.pointer (some ⟨p, 0, none⟩))), (9, .iptr [I64 g]), (17, .imm 1 (ints (upTo n))), (18, I64 n), (19, I64 g), (25, .fn 280 [.iptr (cFont f), .iptr [I64 g]])]) (L' := lnE bm bu p n kh (Rb f g) (lnM dbs) (mm, mu, K, Ui f gl g 0)) ⟨rfl, rfl, rfl, rfl, rfl, rfl, rfl, rfl, rfl, trivial⟩ (fun _ _ h => by rw [Ui_zero]; exact h) ?_
    refine at_range (ps := [26]) rfl fun σ0 l db rec hrec => ?_
    have hy : ∀ (i : Nat) (x : LX) (q : FPart), (MNum x.1 (Mi f gl g i) ∧ MRow x.2.1 x.2.2.1 x.2.2.2 ∧ x.2.2.2 = Ui f gl g i) → gl.Parts[i]? = some q → isG f q.Glyph = true → AY Tryz.prog σ0 l [.agg (cPart q)] (lnE bm bu p n kh (Rb f g) (lnM dbs) x ++ [(db, dfO)] ++ [(l, lpO rec)]) fun c L => c = Bol true ∧ ∃ x' : LX, (MNum x'.1 (Mi f gl g (i + 1)) ∧ MRow x'.2.1 x'.2.2.1 x'.2.2.2 ∧ x'.2.2.2 = Ui f gl g (i + 1)) ∧ L = lnE bm bu p n kh (Rb f g) (lnM dbs) x' ++ [(db, dfO)] ++ [(l, lpO rec)] := by
      rintro i ⟨mm, mu, K, U⟩ q ⟨hM, hU, rfl⟩ hq hG
      dsimp only at hM hU ⊢
      refine ay_of hrec rfl rfl fun B1 hB1 => ?_
      (repeat' (first|refine at_region ?_|refine atl_nil ?_|(apply s_store; first|refine n_storeF 5 ttok 0 rfl rfl rfl rfl rfl rfl rfl rfl ?_|refine n_storeF 5 ttok 1 rfl rfl rfl rfl rfl rfl rfl rfl ?_|refine n_storeF 5 ttok 2 rfl rfl rfl rfl rfl rfl rfl rfl ?_|refine n_storeF 6 ttok 0 rfl rfl rfl rfl rfl rfl rfl rfl ?_|refine n_storeF 6 ttok 1 rfl rfl rfl rfl rfl rfl rfl rfl ?_|refine n_storeF 6 ttok 2 rfl rfl rfl rfl rfl rfl rfl rfl ?_|refine n_storeF 9 ttok 0 rfl rfl rfl rfl rfl rfl rfl rfl ?_|refine n_storeF 9 ttok 1 rfl rfl rfl rfl rfl rfl rfl rfl ?_|refine n_storeF 9 ttok 2 rfl rfl rfl rfl rfl rfl rfl rfl ?_|refine n_storeF 10 ttok 0 rfl rfl rfl rfl rfl rfl rfl rfl ?_|refine n_storeF 10 ttok 1 rfl rfl rfl rfl rfl rfl rfl rfl ?_|refine n_storeF 10 ttok 2 rfl rfl rfl rfl rfl rfl rfl rfl ?_|refine n_store ttok 0 rfl rfl rfl rfl rfl rfl rfl ?_|refine n_store ttok 1 rfl rfl rfl rfl rfl rfl rfl ?_|refine n_store ttok 2 rfl rfl rfl rfl rfl rfl rfl ?_|refine n_store ttok 3 rfl rfl rfl rfl rfl rfl rfl ?_|fail)|refine n_alloc ttok fun _=>?_|fail))
      refine ax_begin hrec.state ?_
      unfold lnE
      dsimp only
      have hqr := isG_iff.1 hG
      have hcnt := prI_len f gl i
      have hpl := hf.parts gl hgm
      have hMg : Mi f gl g i g = (prI f gl i).length := by unfold Mi; rw [if_pos rfl]
      simp only [List.cons_append, List.append_assoc]
      have hUl := Ui_len hf gl hgm (g := g) (by omega) i q.Glyph
      have hUi : (ints (Ui f gl g i q.Glyph)).length = (Ui f gl g i q.Glyph).length := ints_len _
      have hz : q.Glyph ∈ upTo n := mem_upTo.2 (by omega)
      (repeat' (first|refine at_seq ?_|refine at_region ?_|refine at_block ?_|refine n_run ttok rfl rfl ?_|fail))
      refine n_lookupA 0 (.int .i64 0) (I64 (Mi f gl g i g)) Tryz.underlying326 Tryz.underlying3 rfl rfl rfl rfl (by kernel_rfl) (hM.at g) rfl ?_
      (repeat' (first|(apply s_bin; refine n_bin ?_)|fail))
      refine n_mapUpdate 0 (mput mm (.int .i64 g) (I64 (Mi f gl g i g + 1))) Tryz.underlying326 Tryz.underlying3 rfl rfl rfl rfl rfl mput_self (fun q h => mput_other q h) ?_
      (repeat' (first|refine ax_then ?_|refine atl_nil ?_|fail))
      refine at_draw 10 [(0, .v), (1, .v), (2, .v), (3, .v), (4, .v), (5, .v), (7, .v), (8, .v), (6, .e), (9, .e)] none ?_ trivial rfl (by kernel_rfl) (by kernel_rfl) (by kernel_rfl) mixed (by kernel_rfl) rfl
      (repeat' (first|refine da_open ?_|refine d_run ttok ?_|refine d_lit ttok ?_|fail))
      refine d_lookupA 1 (.slice none 0 0) (.vec (K q.Glyph) 1 (ints (Ui f gl g i q.Glyph))) Tryz.underlying327 Tryz.underlying3 rfl rfl rfl rfl (by kernel_rfl) (hU.at q.Glyph) trivial ?_
      (repeat' (first|refine da_open ?_|fail))
      refine d_append ttok _ rfl rfl rfl rfl (perm_tok (toks_pick hz)) (by rw [hUi]; show _ + 1 ≤ _; omega) (by rw [hUi]; show (_ + 1) * 8 ≤ _; omega) trivial fun k' => ?_
      (repeat' (first|fail))
      refine da_end [2, 5, 6, 7, 9, 17, 18, 19, 26, 31, 33, 40] rfl rfl ?_
      have hput := toks_put (e := 3) (K := K) (U := Ui f gl g i) (k := k') (l := Ui f gl g i q.Glyph ++ [(g : Int)]) (upTo_nodup n) hz
      rw [show ints (Ui f gl g i q.Glyph) ++ [[AV.sc (.int .i64 (g : Int))]] = ints (Ui f gl g i q.Glyph ++ [(g : Int)]) from ints_app _ [(g : Int)]]
      refine atl_turn (turn_perm (perm_tok hput.symm).symm) ?_
      (repeat' (first|fail))
      refine n_mapUpdate 1 (mput mu (.int .i64 q.Glyph) (.vec k' 1 (ints (Ui f gl g i q.Glyph ++ [(g : Int)])))) Tryz.underlying327 Tryz.underlying3 rfl rfl rfl rfl rfl mput_self (fun q h => mput_other q h) ?_
      (repeat' (first|refine ax_blk ?_|refine atl_nil ?_|fail))
      refine ax_turn (L' := lnE bm bu p n kh (Rb f g) (lnM dbs) (mput mm (.int .i64 g) (I64 (Mi f gl g i g + 1)), mput mu (.int .i64 q.Glyph) (.vec k' 1 (ints (Ui f gl g i q.Glyph ++ [(g : Int)]))), (fun y => if y = q.Glyph then k' else K y), fun y => if y = q.Glyph then Ui f gl g i q.Glyph ++ [(g : Int)] else Ui f gl g i y) ++ [(db, dfO)] ++ [(l, lpO { rec with state := .busy })]) (turn_perm (List.Perm.of_eq (by simp only [lnE, aput, List.cons_append, List.append_assoc, List.nil_append]))) (ax_rnd ?_)
      rw [rec_same hrec.state hrec.pending]
      refine ⟨rfl, (mput mm (.int .i64 g) (I64 (Mi f gl g i g + 1)), mput mu (.int .i64 q.Glyph) (.vec k' 1 (ints (Ui f gl g i q.Glyph ++ [(g : Int)]))), (fun y => if y = q.Glyph then k' else K y), fun y => if y = q.Glyph then Ui f gl g i q.Glyph ++ [(g : Int)] else Ui f gl g i y), ⟨?_, hU.put q.Glyph k' _, Ui_yes hq hG⟩, ?_⟩
      · have := hM.put g (Mi f gl g i g + 1)
        rw [Mi_yes hq hG] at this
        exact this
      · simp only [lnE, List.cons_append, List.append_assoc, List.nil_append]
    have hsk : ∀ (i : Nat) (x : LX) (q : FPart), (MNum x.1 (Mi f gl g i) ∧ MRow x.2.1 x.2.2.1 x.2.2.2 ∧ x.2.2.2 = Ui f gl g i) → gl.Parts[i]? = some q → isG f q.Glyph = false → (MNum x.1 (Mi f gl g (i + 1)) ∧ MRow x.2.1 x.2.2.1 x.2.2.2 ∧ x.2.2.2 = Ui f gl g (i + 1)) := by
      intro i x q h hq hG
      rw [Mi_no hq hG, Ui_no hq hG]
      exact h
    have hit := partsIt (σ0 := σ0) (l := l) f g gl hgg (fun x => lnE bm bu p n kh (Rb f g) (lnM dbs) x ++ [(db, dfO)] ++ [(l, lpO rec)]) (fun i x => MNum x.1 (Mi f gl g i) ∧ MRow x.2.1 x.2.2.1 x.2.2.2 ∧ x.2.2.2 = Ui f gl g i) hy hsk (mm, mu, K, Ui f gl g 0) ⟨by rw [Mi_zero]; exact hM, by rw [Ui_zero]; exact hU, rfl⟩ (by have := hf.parts gl hgm; omega)
    refine ⟨_, hit, ?_⟩
    rintro c L' ⟨⟨mm', mu', K', U'⟩, ⟨hM', hU', rfl⟩, rfl⟩
    dsimp only at hM' hU' ⊢
    refine ⟨rec, _, List.Perm.refl _, (by rw [hrec.state]; intro h; cases h), ?_⟩
    rw [hrec.pending]
    show AX _ _ _ _ _ _ _ _
    rw [Mi_all hgg] at hM'
    rw [Ui_all hgg] at hU' ⊢
    clear hy hsk hit hM hU
    unfold lnE
    dsimp only
    simp only [List.cons_append, List.append_assoc]
    (repeat' (first|refine at_seq ?_|refine at_region ?_|refine ax_then ?_|refine ax_blk ?_|refine n_run ttok rfl rfl ?_|fail))
    refine n_lookupA 0 (.int .i64 0) (I64 (Mb f (g + 1) g)) Tryz.underlying326 Tryz.underlying3 rfl rfl rfl rfl (by kernel_rfl) (hM'.at g) rfl ?_
    rw [show Mb f (g + 1) g = (prt f g).length by unfold Mb; rw [if_pos (by omega)]]
    (repeat' (first|refine ax_then ?_|refine atl_nil ?_|refine n_run ttok rfl rfl ?_|fail))
    refine at_cond rfl (fun h => ?_) (fun h => ?_)
    · have h0 : (prt f g).length = 0 := by have := of_decide_eq_true h; omega
      cases kh with
      | none =>
        have hR0 : Rb f g = [] := hR
        unfold hst hRow hSl
        dsimp only
        simp only [List.cons_append, List.nil_append]
        (repeat' (first|refine at_region ?_|refine n_run ttok rfl rfl ?_|(apply s_load; first|refine n_load ttok 0 rfl rfl rfl rfl rfl ?_|refine n_load ttok 1 rfl rfl rfl rfl rfl ?_|refine n_load ttok 2 rfl rfl rfl rfl rfl ?_|refine n_load ttok 3 rfl rfl rfl rfl rfl ?_|refine n_loadA ttok 0 rfl rfl rfl rfl rfl ?_|refine n_loadA ttok 1 rfl rfl rfl rfl rfl ?_|refine n_loadA ttok 2 rfl rfl rfl rfl rfl ?_|refine n_load ttok 1 rfl rfl rfl (by assumption) rfl ?_|refine n_load ttok 0 rfl rfl rfl (by assumption) rfl ?_|fail)|refine n_litI ttok ?_|fail))
        refine n_appendN ttok rfl rfl rfl rfl rfl rfl rfl fun b' cs' h1 h2 => ?_
        (repeat' (first|refine at_region ?_|refine ax_then ?_|refine ax_blk ?_|refine atl_nil ?_|refine n_run ttok rfl rfl ?_|(apply s_bin; refine n_bin ?_)|(apply s_store; first|refine n_storeF 5 ttok 0 rfl rfl rfl rfl rfl rfl rfl rfl ?_|refine n_storeF 5 ttok 1 rfl rfl rfl rfl rfl rfl rfl rfl ?_|refine n_storeF 5 ttok 2 rfl rfl rfl rfl rfl rfl rfl rfl ?_|refine n_storeF 6 ttok 0 rfl rfl rfl rfl rfl rfl rfl rfl ?_|refine n_storeF 6 ttok 1 rfl rfl rfl rfl rfl rfl rfl rfl ?_|refine n_storeF 6 ttok 2 rfl rfl rfl rfl rfl rfl rfl rfl ?_|refine n_storeF 9 ttok 0 rfl rfl rfl rfl rfl rfl rfl rfl ?_|refine n_storeF 9 ttok 1 rfl rfl rfl rfl rfl rfl rfl rfl ?_|refine n_storeF 9 ttok 2 rfl rfl rfl rfl rfl rfl rfl rfl ?_|refine n_storeF 10 ttok 0 rfl rfl rfl rfl rfl rfl rfl rfl ?_|refine n_storeF 10 ttok 1 rfl rfl rfl rfl rfl rfl rfl rfl ?_|refine n_storeF 10 ttok 2 rfl rfl rfl rfl rfl rfl rfl rfl ?_|refine n_store ttok 0 rfl rfl rfl rfl rfl rfl rfl ?_|refine n_store ttok 1 rfl rfl rfl rfl rfl rfl rfl ?_|refine n_store ttok 2 rfl rfl rfl rfl rfl rfl rfl ?_|refine n_store ttok 3 rfl rfl rfl rfl rfl rfl rfl ?_|fail)|fail))
        refine ax_roundM (g + 1, db :: dbs, mm', mu', K', some (b', cs')) rfl ⟨by rw [Int.natCast_add]; rfl, trivial⟩ rfl ⟨by dsimp only; omega, hM', hU', ?_⟩ (by dsimp only; omega) (fun σ w h => ?_)
        · rw [Rb_succ, if_pos h0, hR0]
          exact ⟨h1, h2, h2⟩
        · have h := ASt.perm (L := (b', .box cs' 3) :: (bm, mapB KI mm') :: (bu, mapB KI mu') :: (p, .box [.sc (.slice (some ⟨b', 0, none⟩) 1 cs'.length)] 328) :: (toks 3 K' (usersOf (prt f) (upTo (g + 1))) (upTo n) ++ (lnM dbs ++ [(db, dfO)]))) h perm_rot
          show ASt B σ (lnE bm bu p n (some (b', cs')) (Rb f (g + 1)) (lnM (db :: dbs)) (mm', mu', K', usersOf (prt f) (upTo (g + 1)))) w
          rw [Rb_succ, if_pos h0, hR0]
          exact h
      | some kk =>
        obtain ⟨b, cs⟩ := kk
        rw [hst_some]
        simp only [List.cons_append, List.nil_append]
        (repeat' (first|refine at_region ?_|refine n_run ttok rfl rfl ?_|(apply s_load; first|refine n_load ttok 0 rfl rfl rfl rfl rfl ?_|refine n_load ttok 1 rfl rfl rfl rfl rfl ?_|refine n_load ttok 2 rfl rfl rfl rfl rfl ?_|refine n_load ttok 3 rfl rfl rfl rfl rfl ?_|refine n_loadA ttok 0 rfl rfl rfl rfl rfl ?_|refine n_loadA ttok 1 rfl rfl rfl rfl rfl ?_|refine n_loadA ttok 2 rfl rfl rfl rfl rfl ?_|refine n_load ttok 1 rfl rfl rfl (by assumption) rfl ?_|refine n_load ttok 0 rfl rfl rfl (by assumption) rfl ?_|fail)|refine n_litI ttok ?_|fail))
        have hRl := Rb_len f g
        refine n_appendB ttok 3 rfl rfl rfl rfl rfl rfl rfl hR.2.1 (by omega) (by omega) rfl fun b' cs' h1 h2 => ?_
        (repeat' (first|refine at_region ?_|refine ax_then ?_|refine ax_blk ?_|refine atl_nil ?_|refine n_run ttok rfl rfl ?_|(apply s_bin; refine n_bin ?_)|(apply s_store; first|refine n_storeF 5 ttok 0 rfl rfl rfl rfl rfl rfl rfl rfl ?_|refine n_storeF 5 ttok 1 rfl rfl rfl rfl rfl rfl rfl rfl ?_|refine n_storeF 5 ttok 2 rfl rfl rfl rfl rfl rfl rfl rfl ?_|refine n_storeF 6 ttok 0 rfl rfl rfl rfl rfl rfl rfl rfl ?_|refine n_storeF 6 ttok 1 rfl rfl rfl rfl rfl rfl rfl rfl ?_|refine n_storeF 6 ttok 2 rfl rfl rfl rfl rfl rfl rfl rfl ?_|refine n_storeF 9 ttok 0 rfl rfl rfl rfl rfl rfl rfl rfl ?_|refine n_storeF 9 ttok 1 rfl rfl rfl rfl rfl rfl rfl rfl ?_|refine n_storeF 9 ttok 2 rfl rfl rfl rfl rfl rfl rfl rfl ?_|refine n_storeF 10 ttok 0 rfl rfl rfl rfl rfl rfl rfl rfl ?_|refine n_storeF 10 ttok 1 rfl rfl rfl rfl rfl rfl rfl rfl ?_|refine n_storeF 10 ttok 2 rfl rfl rfl rfl rfl rfl rfl rfl ?_|refine n_store ttok 0 rfl rfl rfl rfl rfl rfl rfl ?_|refine n_store ttok 1 rfl rfl rfl rfl rfl rfl rfl ?_|refine n_store ttok 2 rfl rfl rfl rfl rfl rfl rfl ?_|refine n_store ttok 3 rfl rfl rfl rfl rfl rfl rfl ?_|fail)|fail))
        refine ax_roundM (g + 1, db :: dbs, mm', mu', K', some (b', cs')) rfl ⟨by rw [Int.natCast_add]; rfl, trivial⟩ rfl ⟨by dsimp only; omega, hM', hU', ?_⟩ (by dsimp only; omega) (fun σ w h => ?_)
        · rw [Rb_succ, if_pos h0]
          refine ⟨?_, by rw [List.length_append]; exact h2, by omega⟩
          rw [List.length_append, List.map_append, ← hR.1]
          exact h1
        · have h := ASt.perm (L := (b', .box cs' 3) :: (bm, mapB KI mm') :: (bu, mapB KI mu') :: (p, .box [.sc (.slice (some ⟨b', 0, none⟩) ((Rb f g).length + 1) cs'.length)] 328) :: (toks 3 K' (usersOf (prt f) (upTo (g + 1))) (upTo n) ++ (lnM dbs ++ [(db, dfO)]))) h perm_rot
          show ASt B σ (lnE bm bu p n (some (b', cs')) (Rb f (g + 1)) (lnM (db :: dbs)) (mm', mu', K', usersOf (prt f) (upTo (g + 1)))) w
          rw [Rb_succ, if_pos h0]
          unfold lnE
          rw [hst_some, List.length_append]
          exact h
    · have h0 : ¬ (prt f g).length = 0 := by have := of_decide_eq_false h; omega
      (repeat' (first|refine at_region ?_|refine at_skip ?_|refine ax_then ?_|refine ax_blk ?_|refine atl_nil ?_|refine n_run ttok rfl rfl ?_|(apply s_bin; refine n_bin ?_)|fail))
      refine ax_roundM (g + 1, db :: dbs, mm', mu', K', kh) rfl ⟨by rw [Int.natCast_add]; rfl, trivial⟩ rfl ⟨by dsimp only; omega, hM', hU', by rw [Rb_succ, if_neg h0]; exact hR⟩ (by dsimp only; omega) (fun σ w h => ?_)
      show ASt B σ (lnE bm bu p n kh (Rb f (g + 1)) (lnM (db :: dbs)) (mm', mu', K', usersOf (prt f) (upTo (g + 1)))) w
      rw [Rb_succ, if_neg h0]
      refine h.perm (List.Perm.cons _ (List.Perm.cons _ (List.Perm.append_left _ (List.Perm.append_left _ ?_))))
      exact List.perm_append_singleton _ _
  have hgn : g = n := by have := of_decide_eq_false h; omega
  subst hgn
  clear h
  have hst0 : KInv g (prt f) [] (Rb f g) (Mb f g) := by
    have h1 := KInv.start (n := g) (pr := prt f) (M := Mb f g) fun z h0 h1 => by unfold Mb; rw [if_pos ⟨h0, h1⟩]
    have h2 : (upTo g).filter (fun z => decide (Mb f g z = 0)) = Rb f g := by
      unfold Rb
      refine List.filter_congr fun z hz => ?_
      unfold Mb
      rw [if_pos (mem_upTo.1 hz)]
      exact decide_eq_decide.2 (by omega)
    rw [h2] at h1
    exact h1
  have hRl := Rb_len f g
  unfold lnE
  dsimp only
  (repeat' (first|refine at_seq ?_|refine at_region ?_|refine at_exit ?_|refine ax_then ?_|refine ax_then_exit ?_|refine ax_blk_exit ?_|refine ax_loopM_exit ?_|fail))
  refine n_iface (by kernel_rfl) rfl rfl ?_
  (repeat' (first|fail))
  refine n_callA (hst p kh (Rb f g)) _ (heapInit p kh (Rb f g) hR (by omega)) rfl rfl perm_h rfl fun c L1 ⟨kh', R', hL, hR', hpm⟩ => ?_
  subst hL
  refine atl_turn (turn_perm perm_h.symm) ?_
  (repeat' (first|refine at_seq ?_|refine at_region ?_|refine at_block ?_|refine ax_then ?_|refine atl_nil ?_|refine n_run ttok rfl rfl ?_|fail))
  refine at_turn (turn_val (t := 11) (c' := .vec none 1 (ints [])) rfl fun σ v h => vr_nil 1 h) ?_
  refine at_loopK [5, 6, 7] (α := KS) (fun x => [(11, .vec x.kt 1 (ints x.T))]) (fun x => KInv g (prt f) x.T x.R x.M ∧ MNum x.mm x.M ∧ HOk x.kh x.R) (fun x => lnK bm bu p mu (toks 3 K (usersOf (prt f) (upTo g)) (upTo g) ++ lnM dbs) x) (fun x => g - x.T.length) ⟨[], R', Mb f g, mm, kh', none⟩ rfl ⟨rfl, trivial⟩ ⟨hst0.perm hpm, hM, hR'⟩ (fun σ w h => ?_) ?_
  · exact h
  rintro ⟨T, R, M, mm, kh, kt⟩ ⟨hK, hM, hR⟩
  dsimp only at hK hM hR ⊢
  unfold lnK
  dsimp only
  try dsimp only [List.cons_append, List.nil_append, List.map_cons, List.map_nil]
  cases kh with
  | none =>
    have hR0 : R = [] := hR
    subst hR0
    unfold hst hRow hSl
    dsimp only
    (repeat' (first|refine at_seq ?_|refine at_region ?_|refine at_ret ?_|refine at_exit ?_|refine ax_then ?_|refine ax_then_exit ?_|refine ax_blk_exit ?_|refine ax_loop_exit ?_|refine atl_nil ?_|refine n_run ttok rfl rfl ?_|(apply s_load; first|refine n_load ttok 0 rfl rfl rfl rfl rfl ?_|refine n_load ttok 1 rfl rfl rfl rfl rfl ?_|refine n_load ttok 2 rfl rfl rfl rfl rfl ?_|refine n_load ttok 3 rfl rfl rfl rfl rfl ?_|refine n_loadA ttok 0 rfl rfl rfl rfl rfl ?_|refine n_loadA ttok 1 rfl rfl rfl rfl rfl ?_|refine n_loadA ttok 2 rfl rfl rfl rfl rfl ?_|refine n_load ttok 1 rfl rfl rfl (by assumption) rfl ?_|refine n_load ttok 0 rfl rfl rfl (by assumption) rfl ?_|fail)|refine n_condF rfl ?_|fail))
    refine ax_turn (turn_val (t := 4) (c' := .imm 1 (ints T)) rfl fun σ v h => VR.im h) ?_
    refine ax_drop (L' := lnM dbs) (((((List.sublist_append_right _ _).trans (List.sublist_append_right _ _)).trans (List.sublist_append_right _ _)).cons _).cons _) ?_
    exact ax_retM (cs := [.imm 1 (ints T)]) dbs [] rfl (List.Perm.refl _) ⟨rfl, trivial⟩ ⟨T, rfl, hK.fin⟩
  | some kk =>
    obtain ⟨b, cs⟩ := kk
    rw [hst_some]
    have hTR := nodup_le hK.nodup hK.dom
    rw [List.length_append] at hTR
    (repeat' (first|refine at_seq ?_|refine at_region ?_|refine ax_then ?_|refine atl_nil ?_|refine n_run ttok rfl rfl ?_|(apply s_load; first|refine n_load ttok 0 rfl rfl rfl rfl rfl ?_|refine n_load ttok 1 rfl rfl rfl rfl rfl ?_|refine n_load ttok 2 rfl rfl rfl rfl rfl ?_|refine n_load ttok 3 rfl rfl rfl rfl rfl ?_|refine n_loadA ttok 0 rfl rfl rfl rfl rfl ?_|refine n_loadA ttok 1 rfl rfl rfl rfl rfl ?_|refine n_loadA ttok 2 rfl rfl rfl rfl rfl ?_|refine n_load ttok 1 rfl rfl rfl (by assumption) rfl ?_|refine n_load ttok 0 rfl rfl rfl (by assumption) rfl ?_|fail)|fail))
    refine at_cond rfl (fun h => ?_) (fun h => ?_)
    · have h0 : 0 < R.length := by have := of_decide_eq_true h; omega
      clear h
      (repeat' (first|refine at_seq ?_|refine at_region ?_|refine at_block ?_|refine at_skip ?_|refine ax_then ?_|fail))
      refine n_iface (by kernel_rfl) rfl rfl ?_
      (repeat' (first|fail))
      refine n_callA (hst p (some (b, cs)) R) _ (heapPop p b cs R hR h0 (by omega)) rfl rfl perm_h rfl fun c L1 ⟨z, cs', R', hc, hL, hR', hpm⟩ => ?_
      subst hc; subst hL
      refine atl_turn (turn_perm perm_h.symm) ?_
      (repeat' (first|fail))
      refine n_assert (by kernel_rfl) rfl rfl ?_
      (repeat' (first|refine at_seq ?_|refine at_region ?_|refine ax_then ?_|refine atl_nil ?_|refine n_run ttok rfl rfl ?_|refine n_litI ttok ?_|fail))
      have hKm := (hK.perm hpm).pop
      have hz := hKm.dom z (by simp)
      have hTz : z ∉ T := fun hm => by
        have := hKm.nodup
        rw [List.append_assoc, List.nodup_append] at this
        exact this.2.2 z hm z (by simp) rfl
      have hTl := nodup_le (List.nodup_append.1 hKm.nodup).1 (fun y hy => hKm.dom y (List.mem_append_left _ hy))
      rw [List.length_append] at hTl
      have hTi := ints_len T
      have hall : ∀ q : Int, 0 ≤ q → q < g → (usersOf (prt f) (upTo g) z).count q = (prt f q).count z := fun q q0 q1 => by rw [usersOf_count _ _ _ _ (upTo_nodup g), if_pos (mem_upTo.2 ⟨q0, q1⟩)]
      have hUl := users_len hf.prt z (upTo g)
      rw [upTo_len] at hUl
      refine n_append ttok _ rfl rfl rfl rfl (perm_tok (T := tok kt 3 1 (ints T).length) (T' := []) (by rw [List.append_nil])) (by rw [hTi]; show _ + 1 ≤ _; simp at hTl; omega) (by rw [hTi]; show (_ + 1) * 8 ≤ _; simp at hTl; omega) rfl fun k' => ?_
      rw [show ints T ++ [[AV.sc (.int .i64 z)]] = ints (T ++ [z]) from ints_app T [z]]
      refine atl_turn (turn_perm (perm_tok (T := tok k' 3 1 (ints (T ++ [z])).length) (T' := []) (by rw [List.append_nil])).symm) ?_
      (repeat' (first|refine at_seq ?_|refine at_region ?_|refine ax_then ?_|refine atl_nil ?_|refine n_run ttok rfl rfl ?_|fail))
      refine n_lookupA 1 (.slice none 0 0) (.vec (K z) 1 (ints (usersOf (prt f) (upTo g) z))) Tryz.underlying327 Tryz.underlying3 rfl rfl rfl rfl (by kernel_rfl) (hU.at z) rfl ?_
      (repeat' (first|refine at_block ?_|refine ax_then ?_|refine atl_nil ?_|refine n_run ttok rfl rfl ?_|fail))
      have hUi := ints_len (usersOf (prt f) (upTo g) z)
      refine at_loopK [5, 6, 7, 11, 64, 65] (α := Nat × KS) (fun x => [(66, I64 x.1)]) (fun x => x.2.T = T ++ [z] ∧ x.2.kt = k' ∧ x.1 ≤ (usersOf (prt f) (upTo g) z).length ∧ KMid g (prt f) T z ((usersOf (prt f) (upTo g) z).take x.1) x.2.R x.2.M ∧ MNum x.2.mm x.2.M ∧ HOk x.2.kh x.2.R) (fun x => lnK bm bu p mu (toks 3 K (usersOf (prt f) (upTo g)) (upTo g) ++ lnM dbs) x.2) (fun x => (usersOf (prt f) (upTo g) z).length - x.1) (0, ⟨T ++ [z], R', M, mm, some (b, cs'), k'⟩) rfl ⟨rfl, trivial⟩ ⟨rfl, rfl, Nat.zero_le _, hKm, hM, hR'⟩ (fun σ w h => h) ?_
      clear hM hR hK hR' hKm hpm
      rintro ⟨j, ⟨T', R, M, mm, kh, kt'⟩⟩ ⟨hT', hk', hj, hK, hM, hR⟩
      dsimp only at hT' hk' hj hK hM hR ⊢
      subst hT'; subst hk'
      unfold lnK
      dsimp only
      try dsimp only [List.cons_append, List.nil_append, List.map_cons, List.map_nil]
      (repeat' (first|refine at_seq ?_|refine at_region ?_|refine ax_then ?_|refine atl_nil ?_|refine n_run ttok rfl rfl ?_|fail))
      refine at_cond rfl (fun h => ?_) (fun h => ?_)
      · have hjl : j < (usersOf (prt f) (upTo g) z).length := by have := of_decide_eq_true h; rw [hUi] at this; omega
        obtain ⟨u, hu⟩ : ∃ u, (usersOf (prt f) (upTo g) z)[j]? = some u := ⟨_, List.getElem?_eq_getElem hjl⟩
        have hug := ints_get hu
        have hur := mem_upTo.1 (users_mem (List.mem_of_getElem? hu))
        obtain ⟨hpos, hK'⟩ := hK.step hall hTz hu hur.1 hur.2
        have hmu := hK.miss u hur.1 hur.2
        have hml := missN_le (prt f) T u
        have hpl := hf.prt u
        have hRl2 := nodup_le hK.nodup hK.dom
        rw [List.length_append, List.length_append] at hRl2
        clear h
        (repeat' (first|refine at_seq ?_|refine at_region ?_|refine at_block ?_|refine at_skip ?_|refine ax_then ?_|refine atl_nil ?_|refine n_run ttok rfl rfl ?_|(apply s_index; first|refine n_index ttok ?_|refine n_indexP ttok ?_)|fail))
        refine n_lookupA 0 (.int .i64 0) (I64 (M u)) Tryz.underlying326 Tryz.underlying3 rfl rfl rfl rfl (by kernel_rfl) (hM.at u) rfl ?_
        (repeat' (first|(apply s_bin; refine n_bin ?_)|fail))
        refine n_mapUpdate 0 (mput mm (.int .i64 u) (I64 (M u - 1))) Tryz.underlying326 Tryz.underlying3 rfl rfl rfl rfl rfl mput_self (fun q h => mput_other q h) ?_
        (repeat' (first|refine at_seq ?_|refine at_region ?_|refine ax_then ?_|refine atl_nil ?_|refine n_run ttok rfl rfl ?_|fail))
        refine n_lookupA 0 (.int .i64 0) (I64 (M u - 1)) Tryz.underlying326 Tryz.underlying3 rfl rfl rfl rfl (by kernel_rfl) (fun σ v h => ?_) rfl ?_
        · have := (hM.put u (M u - 1)).at u σ v h
          simpa using this
        (repeat' (first|refine ax_then ?_|refine atl_nil ?_|refine n_run ttok rfl rfl ?_|fail))
        refine at_cond rfl (fun h => ?_) (fun h => ?_)
        · have h1 := of_decide_eq_true h
          rw [if_pos h1] at hK'
          (repeat' (first|refine at_region ?_|fail))
          refine n_iface (by kernel_rfl) rfl rfl ?_
          (repeat' (first|refine n_run ttok rfl rfl ?_|fail))
          refine n_iface (by kernel_rfl) rfl rfl ?_
          (repeat' (first|fail))
          refine n_callA (hst p kh R) _ (heapPush p kh R u hR (by omega)) rfl rfl perm_h rfl fun c L1 ⟨b2, cs2, R2, hL, hR2, hpm⟩ => ?_
          subst hL
          refine atl_turn (turn_perm perm_h.symm) ?_
          (repeat' (first|refine at_region ?_|refine ax_then ?_|refine ax_blk ?_|refine atl_nil ?_|refine n_run ttok rfl rfl ?_|(apply s_bin; refine n_bin ?_)|fail))
          exact ax_roundK (j + 1, ⟨T ++ [z], R2, _, _, some (b2, cs2), kt'⟩) rfl ⟨by rw [Int.natCast_add]; rfl, trivial⟩ ⟨rfl, rfl, by dsimp only; omega, hK'.perm hpm, hM.put u (M u - 1), hR2⟩ (by dsimp only; omega) (fun _ _ h => h)
        · have h1 := of_decide_eq_false h
          rw [if_neg h1] at hK'
          (repeat' (first|refine at_region ?_|refine at_skip ?_|refine ax_then ?_|refine ax_blk ?_|refine atl_nil ?_|refine n_run ttok rfl rfl ?_|(apply s_bin; refine n_bin ?_)|fail))
          exact ax_roundK (j + 1, ⟨T ++ [z], R, _, _, kh, kt'⟩) rfl ⟨by rw [Int.natCast_add]; rfl, trivial⟩ ⟨rfl, rfl, by dsimp only; omega, hK', hM.put u (M u - 1), hR⟩ (by dsimp only; omega) (fun _ _ h => h)
      · have hjl : j = (usersOf (prt f) (upTo g) z).length := by have := of_decide_eq_false h; rw [hUi] at this; omega
        subst hjl
        rw [List.take_length] at hK
        (repeat' (first|refine at_exit ?_|refine ax_then_exit ?_|refine ax_blk ?_|refine ax_blk_exit ?_|refine ax_loop_exit ?_|fail))
        exact ax_roundK ⟨T ++ [z], R, M, mm, kh, kt'⟩ rfl ⟨rfl, trivial⟩ ⟨hK.done hall hTz, hM, hR⟩ (by dsimp only; simp at hTl ⊢; omega) (fun _ _ h => h)
    · have hR0 : R = [] := List.eq_nil_of_length_eq_zero (by have := of_decide_eq_false h; omega)
      subst hR0
      (repeat' (first|refine at_seq ?_|refine at_region ?_|refine at_ret ?_|refine at_exit ?_|refine ax_then ?_|refine ax_then_exit ?_|refine ax_blk_exit ?_|refine ax_loop_exit ?_|refine atl_nil ?_|refine n_run ttok rfl rfl ?_|fail))
      refine ax_turn (turn_val (t := 4) (c' := .imm 1 (ints T)) rfl fun σ v h => VR.im h) ?_
      refine ax_drop (L' := lnM dbs) (((((List.sublist_append_right _ _).trans (List.sublist_append_right _ _)).trans (List.sublist_append_right _ _)).cons _).cons _) ?_
      exact ax_retM (cs := [.imm 1 (ints T)]) dbs [] rfl (List.Perm.refl _) ⟨rfl, trivial⟩ ⟨T, rfl, hK.fin⟩
end Go.Proofs.YtpbinloeemebkaaGreat
