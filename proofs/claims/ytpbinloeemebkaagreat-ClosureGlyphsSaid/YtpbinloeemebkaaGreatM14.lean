/-
  Numbers in a line, each behind what it needs.
-/
import Derived.Test.YtpbinloeemebkaaGreatM13
import Derived.Test.YtpbinloeemebkaaGreatM12
namespace Go.Proofs.YtpbinloeemebkaaGreat
def bP (n : Nat) : List Int := (List.range n).map fun (i : Nat) => (i : Int)
theorem d8 {n : Nat} {z : Int} : z ∈ bP n ↔ 0 ≤ z ∧ z < n := by
 simp only [bP, List.mem_map, List.mem_range]
 constructor
 ·rintro ⟨i, hi, rfl⟩; omega
 ·rintro ⟨h0, h1⟩; exact ⟨z.toNat, by omega, by omega⟩
theorem fx (n : Nat) : (bP n).Nodup := by
 unfold bP List.Nodup
 rw [List.pairwise_map]
 exact List.nodup_range.imp fun h e => h (by omega)
theorem d9 (n : Nat) : (bP n).length = n := by simp [bP]
theorem fK {n i : Nat} (h : i < n) : (bP n)[i]? = some (i : Int) := by simp [bP, h]
theorem pd (n : Nat) : bP (n + 1) = bP n ++ [(n : Int)] := by
 unfold bP
 rw [List.range_succ, List.map_append]
 rfl
def bQ (pr : Int → List Int) (gs : List Int) (z : Int) : List Int := gs.flatMap fun g => ((pr g).filter fun p => decide (p = z)).map fun _ => g
theorem jR (pr : Int → List Int) (z g : Int) : ∀ gs : List Int, gs.Nodup → (bQ pr gs z).count g = if g ∈ gs then (pr g).count z else 0
 | [], _ => by simp [bQ]
 | y :: gs, h => by
  have h' := List.nodup_cons.1 h
  have ih := jR pr z g gs h'.2
  unfold bQ at ih ⊢
  rw [List.flatMap_cons, List.count_append, ih]
  by_cases e : y = g
  ·subst e
   rw [if_pos (List.mem_cons_self ..), if_neg h'.1, List.map_const', List.count_replicate_self, Nat.add_zero, List.count_eq_countP, List.countP_eq_length_filter]
   rfl
  ·rw [List.map_const', List.count_replicate, if_neg (by simpa using e), Nat.zero_add]
   by_cases hm : g ∈ gs
   ·rw [if_pos hm, if_pos (List.mem_cons_of_mem _ hm)]
   ·rw [if_neg hm, if_neg (by simp [hm]; exact fun h => e h.symm)]
def jN (pr : Int → List Int) (T : List Int) (g : Int) : Nat := ((pr g).filter fun p => decide (p ∉ T)).length
theorem nD (pr : Int → List Int) {T : List Int} {x : Int} (hx : x ∉ T) (g : Int) : jN pr (T ++ [x]) g + (pr g).count x = jN pr T g := by
 unfold jN
 induction pr g with
 | nil => rfl
 | cons p l ih =>
  rw [List.filter_cons, List.filter_cons, List.count_cons]
  by_cases e : p = x
  ·subst e
   rw [if_neg (by simp), if_pos (decide_eq_true hx)]
   rw [if_pos (by simp), List.length_cons]
   omega
  ·have e1 : decide (p ∉ T ++ [x]) = decide (p ∉ T) := by simp [e]
   rw [e1]
   have e2 : (p == x) = false := by simpa using e
   rw [e2]
   simp only [Bool.false_eq_true, if_false]
   split
   ·simp only [List.length_cons]; omega
   ·omega
theorem nE {pr : Int → List Int} {T : List Int} {g : Int} : jN pr T g = 0 ↔ ∀ p ∈ pr g, p ∈ T := by
 unfold jN
 rw [List.length_eq_zero_iff, List.filter_eq_nil_iff]
 simp
def tN (pr : Int → List Int) (T : List Int) : Prop := ∀ (i : Nat) (x : Int), T[i]? = some x → ∀ p ∈ pr x, p ∈ T.take i
theorem tN.snoc {pr : Int → List Int} {T : List Int} {x : Int} (h : tN pr T) (hx : ∀ p ∈ pr x, p ∈ T) : tN pr (T ++ [x]) := by
 intro i y hy p hp
 by_cases hi : i < T.length
 ·rw [List.getElem?_append_left hi] at hy
  rw [List.take_append_of_le_length (by omega)]
  exact h i y hy p hp
 ·rw [List.getElem?_append_right (by omega)] at hy
  have hil : i - T.length = 0 := by
   rcases Nat.eq_zero_or_pos (i - T.length) with h0 | h0
   ·exact h0
   ·rw [List.getElem?_eq_none (by simp; omega)] at hy; cases hy
  rw [hil] at hy
  simp at hy
  subst hy
  rw [show i = T.length by omega, List.take_left]
  exact hx p hp
structure ln (n : Nat) (pr : Int → List Int) (T R : List Int) (M : Int → Int) : Prop where
 nodup : (T ++ R).Nodup
 dom : ∀ z ∈ T ++ R, 0 ≤ z ∧ z < n
 miss : ∀ g : Int, 0 ≤ g → g < n → M g = jN pr T g
 ready : ∀ g : Int, 0 ≤ g → g < n → (g ∈ T ++ R ↔ M g = 0)
 topo : tN pr T
structure og (n : Nat) (pr : Int → List Int) (T : List Int) (x : Int) (us : List Int) (R : List Int) (M : Int → Int) : Prop where
 nodup : (T ++ [x] ++ R).Nodup
 dom : ∀ z ∈ T ++ [x] ++ R, 0 ≤ z ∧ z < n
 miss : ∀ g : Int, 0 ≤ g → g < n → M g + us.count g = jN pr T g
 ready : ∀ g : Int, 0 ≤ g → g < n → (g ∈ T ++ [x] ++ R ↔ M g = 0)
 topo : tN pr (T ++ [x])
theorem ln.perm {n : Nat} {pr : Int → List Int} {T R R' : List Int} {M : Int → Int} (h : ln n pr T R M) (hp : R'.Perm R) : ln n pr T R' M := by
 have hp' : (T ++ R').Perm (T ++ R) := List.Perm.append_left T hp
 exact ⟨hp'.nodup_iff.2 h.nodup, fun z hz => h.dom z (hp'.mem_iff.1 hz), h.miss, fun g h0 h1 => by rw [hp'.mem_iff]; exact h.ready g h0 h1, h.topo⟩
theorem og.perm {n : Nat} {pr : Int → List Int} {T R R' us : List Int} {x : Int} {M : Int → Int} (h : og n pr T x us R M) (hp : R'.Perm R) : og n pr T x us R' M := by
 have hp' : (T ++ [x] ++ R').Perm (T ++ [x] ++ R) := List.Perm.append_left _ hp
 exact ⟨hp'.nodup_iff.2 h.nodup, fun z hz => h.dom z (hp'.mem_iff.1 hz), h.miss, fun g h0 h1 => by rw [hp'.mem_iff]; exact h.ready g h0 h1, h.topo⟩
theorem ln.pop {n : Nat} {pr : Int → List Int} {T R : List Int} {x : Int} {M : Int → Int} (h : ln n pr T (R ++ [x]) M) : og n pr T x [] R M := by
 have hp : (T ++ [x] ++ R).Perm (T ++ (R ++ [x])) := by
  rw [List.append_assoc]
  exact List.Perm.append_left T List.perm_append_comm
 have hx := h.dom x (by simp)
 refine ⟨hp.nodup_iff.2 h.nodup, fun z hz => h.dom z (hp.mem_iff.1 hz), fun g h0 h1 => by simpa using h.miss g h0 h1, fun g h0 h1 => by rw [hp.mem_iff]; exact h.ready g h0 h1, h.topo.snoc ?_⟩
 have h1 := (h.ready x hx.1 hx.2).1 (by simp)
 rw [h.miss x hx.1 hx.2] at h1
 exact nE.1 (by omega)
theorem iH {all : List Int} {j : Nat} {u : Int} (h : all[j]? = some u) (g : Int) : (all.take (j + 1)).count g = (all.take j).count g + if u = g then 1 else 0 := by
 rw [List.take_add_one, h, Option.toList_some, List.count_append]
 by_cases e : u = g
 ·subst e; simp
 ·rw [if_neg e, List.count_singleton, if_neg (by simpa using e)]
theorem og.step {n : Nat} {pr : Int → List Int} {T R all : List Int} {x u : Int} {j : Nat} {M : Int → Int} (hall : ∀ g : Int, 0 ≤ g → g < n → all.count g = (pr g).count x) (hx : x ∉ T) (h : og n pr T x (all.take j) R M) (hu : all[j]? = some u) (h0 : 0 ≤ u) (h1 : u < n) :
  0 < M u ∧ og n pr T x (all.take (j + 1)) (if M u - 1 = 0 then R ++ [u] else R) (fun g => if g = u then M u - 1 else M g) := by
 have hm := h.miss u h0 h1
 have hlt : (all.take (j + 1)).count u ≤ all.count u := (List.take_sublist _ _).count_le u
 have hsn := nD pr hx u
 rw [iH hu, if_pos rfl, hall u h0 h1] at hlt
 have hpos : 0 < M u := by omega
 have hnot : u ∉ T ++ [x] ++ R := fun hm' => by have := (h.ready u h0 h1).1 hm'; omega
 refine ⟨hpos, ?_⟩
 have hmiss : ∀ g : Int, 0 ≤ g → g < n → (if g = u then M u - 1 else M g) + ((all.take (j + 1)).count g : Int) = jN pr T g := by
  intro g g0 g1
  rw [iH hu]
  by_cases e : g = u
  ·subst e
   rw [if_pos rfl, if_pos rfl]
   have := h.miss g g0 g1
   omega
  ·rw [if_neg e, if_neg (fun q => e q.symm)]
   have := h.miss g g0 g1
   omega
 by_cases hz : M u - 1 = 0
 ·rw [if_pos hz]
  refine ⟨?_, fun z hz' => ?_, hmiss, fun g g0 g1 => ?_, h.topo⟩
  ·rw [← List.append_assoc, List.nodup_append]
   refine ⟨h.nodup, by simp, fun a ha b hb => ?_⟩
   rw [List.mem_singleton.1 hb]
   exact fun e => hnot (e ▸ ha)
  ·rw [← List.append_assoc] at hz'
   rcases List.mem_append.1 hz' with hz' | hz'
   ·exact h.dom z hz'
   ·rw [List.mem_singleton.1 hz']; exact ⟨h0, h1⟩
  ·rw [← List.append_assoc, List.mem_append, List.mem_singleton]
   by_cases e : g = u
   ·subst e; simp [hz]
   ·rw [if_neg e, h.ready g g0 g1]
    simp [e]
 ·rw [if_neg hz]
  refine ⟨h.nodup, h.dom, hmiss, fun g g0 g1 => ?_, h.topo⟩
  by_cases e : g = u
  ·subst e
   rw [if_pos rfl]
   exact ⟨fun q => absurd q hnot, fun q => absurd q hz⟩
  ·rw [if_neg e]
   exact h.ready g g0 g1
theorem og.done {n : Nat} {pr : Int → List Int} {T R all : List Int} {x : Int} {M : Int → Int} (hall : ∀ g : Int, 0 ≤ g → g < n → all.count g = (pr g).count x) (hx : x ∉ T) (h : og n pr T x all R M) : ln n pr (T ++ [x]) R M := by
 refine ⟨h.nodup, h.dom, fun g h0 h1 => ?_, h.ready, h.topo⟩
 have h2 := h.miss g h0 h1
 have h3 := nD pr hx g
 rw [hall g h0 h1] at h2
 omega
structure gC (n : Nat) (pr : Int → List Int) (T : List Int) : Prop where
 nodup : T.Nodup
 dom : ∀ z ∈ T, 0 ≤ z ∧ z < n
 topo : tN pr T
 full : ∀ g : Int, 0 ≤ g → g < n → (∀ p ∈ pr g, p ∈ T) → g ∈ T
theorem ln.fin {n : Nat} {pr : Int → List Int} {T : List Int} {M : Int → Int} (h : ln n pr T [] M) : gC n pr T := by
 have h1 := h.nodup
 have h2 := h.dom
 have h3 := h.ready
 rw [List.append_nil] at h1 h2 h3
 exact ⟨h1, h2, h.topo, fun g h0 h4 hp => (h3 g h0 h4).2 (by rw [h.miss g h0 h4, nE.2 hp]; rfl)⟩
theorem ln.start {n : Nat} {pr : Int → List Int} {M : Int → Int} (hM : ∀ g : Int, 0 ≤ g → g < n → M g = (pr g).length) : ln n pr [] ((bP n).filter fun g => decide (M g = 0)) M := by
 refine ⟨by rw [List.nil_append]; exact (fx n).filter _, fun z hz => ?_, fun g h0 h1 => ?_, fun g h0 h1 => ?_, fun i x h => by simp at h⟩
 ·rw [List.nil_append, List.mem_filter, d8] at hz
  exact hz.1
 ·rw [hM g h0 h1]
  unfold jN
  rw [List.filter_eq_self.2 (by simp)]
 ·rw [List.nil_append, List.mem_filter, d8, decide_eq_true_eq]
  exact ⟨fun h => h.2, fun h => ⟨⟨h0, h1⟩, h⟩⟩
def fF (n : Nat) (pr : Int → List Int) : Prop := ∃ r : Int → Nat, ∀ g : Int, 0 ≤ g → g < n → ∀ p ∈ pr g, r p < r g
theorem gC.all {n : Nat} {pr : Int → List Int} {T : List Int} (h : gC n pr T) (ha : fF n pr) (hp : ∀ g, ∀ p ∈ pr g, 0 ≤ p ∧ p < n) : ∀ g : Int, 0 ≤ g → g < n → g ∈ T := by
 obtain ⟨r, hr⟩ := ha
 have : ∀ (k : Nat) (g : Int), r g < k → 0 ≤ g → g < n → g ∈ T := by
  intro k
  induction k with
  | zero => intro g hk; exact absurd hk (Nat.not_lt_zero _)
  | succ k ih =>
   intro g hk h0 h1
   refine h.full g h0 h1 fun p hpp => ih p ?_ (hp g p hpp).1 (hp g p hpp).2
   have := hr g h0 h1 p hpp
   omega
 intro g h0 h1
 exact this (r g + 1) g (by omega) h0 h1
theorem gC.len {n : Nat} {pr : Int → List Int} {T : List Int} (h : gC n pr T) : T.length ≤ n := eb h.nodup h.dom
theorem iA : ∀ (l T : List Int), l.Nodup → (∀ x ∈ l, x ∈ T) → l.length ≤ T.length
 | [], _, _, _ => Nat.zero_le _
 | x :: l, T, h, hs => by
  have h' := List.nodup_cons.1 h
  have hx := hs x (List.mem_cons_self ..)
  have := iA l (T.erase x) h'.2 fun y hy => (List.mem_erase_of_ne (fun e => h'.1 (by rw [← e]; exact hy))).2 (hs y (List.mem_cons_of_mem _ hy))
  rw [List.length_erase_of_mem hx] at this
  have hpos := List.length_pos_of_mem hx
  rw [List.length_cons]
  omega
theorem gC.len_all {n : Nat} {pr : Int → List Int} {T : List Int} (h : gC n pr T) (ha : ∀ g : Int, 0 ≤ g → g < n → g ∈ T) : T.length = n := by
 refine Nat.le_antisymm h.len ?_
 have := iA (bP n) T (fx n) fun z hz => by
  rw [d8] at hz
  exact ha z hz.1 hz.2
 rwa [d9] at this
theorem gC.all_of_len {n : Nat} {pr : Int → List Int} {T : List Int} (h : gC n pr T) (hl : T.length = n) : ∀ g : Int, 0 ≤ g → g < n → g ∈ T := by
 intro g h0 h1
 apply Classical.byContradiction
 intro hn
 have := eb (l := g :: T) (n := n) (List.nodup_cons.2 ⟨hn, h.nodup⟩) fun z hz => by
  rcases List.mem_cons.1 hz with rfl | hz
  ·exact ⟨h0, h1⟩
  ·exact h.dom z hz
 rw [List.length_cons] at this
 omega
theorem gC.acyc {n : Nat} {pr : Int → List Int} {T : List Int} (h : gC n pr T) (ha : ∀ g : Int, 0 ≤ g → g < n → g ∈ T) : fF n pr := by
 refine ⟨fun g => T.idxOf g, fun g h0 h1 p hp => ?_⟩
 have hg := ha g h0 h1
 have hi := List.idxOf_lt_length_iff.2 hg
 have h2 := h.topo (T.idxOf g) g (by rw [List.getElem?_eq_getElem hi, List.getElem_idxOf]) p hp
 obtain ⟨j, hj⟩ := List.mem_iff_getElem?.1 h2
 rw [List.getElem?_take] at hj
 split at hj
 ·rename_i hlt
  dsimp only
  obtain ⟨hjl, hje⟩ := List.getElem?_eq_some_iff.1 hj
  have : T.idxOf p ≤ j := by
   rw [← hje]
   have := h.nodup.idxOf_getElem j hjl
   omega
  omega
 ·cases hj
end Go.Proofs.YtpbinloeemebkaaGreat

namespace Go.Proofs.YtpbinloeemebkaaGreat
open Go.RowKit Go.MapKept
section
variable {P : Program} {fr : c9} {B : Bs} {L : AL}
theorem AO.as {o : Oper} {a b : AV} (h : AO P o fr B L (fun c L' => c = a ∧ L' = L)) (hv : ∀ σ v, VR σ a v → VR σ b v) : AO P o fr B L (fun c L' => c = b ∧ L' = L) :=
 fun σ ρ w hρ hw => (h σ ρ w hρ hw).mono fun _ _ ⟨τ, c, L', h1, h2, h3, h4, h5⟩ => ⟨τ, b, L', h1, hv τ _ (by rw [← h4]; exact h2), h3, rfl, h5⟩
end
section
variable {P : Program} {tt : TT} {l : List Oper} {fr : c9} {fin : lj} {sk : mx} {acc : c9} {L : AL} {k : Nat} {dd : Option Tmp} {ty t t' : TypeId} {pos : String} {af : Array Edge} {g : Option (Nat × Bool)} {x y z : Operand} {u : AV}
theorem lu (i : Nat) (v0 : Value) (a : AV) {b kt et : Nat} {kd : TypeDesc} {q : Value} {m : Value → Option AV} (ht : P.underlying t = some (.map kt et)) (hkt : P.underlying kt = some kd) (hx : bB (dp l.toArray acc fr af.toList) x = some (.sc (.map (some b)))) (hy : bB (dp l.toArray acc fr af.toList) y = some (.sc q)) (hk : IsKey kd q) (hL : L[i]? = some (b, c6 kd m)) (hz : jn P et v0 = true) (ha : ∀ σ v, VR σ ((m q).getD (.sc v0)) v → VR σ a v) (hg : mp ⟨dd, .lookup t x y false, ty, pos, af, g⟩ acc) (h : DA P l fr fin sk ((k, a) :: acc) L) :
  d6 P l fr fin k .e ⟨dd, .lookup t x y false, ty, pos, af, g⟩ sk acc L :=
 io hg (fun B => (jr i ht hkt hx hy hk hL (eT hz) fun _ => .sc _).as ha) fun c L' ⟨h1, h2⟩ => by subst h1; subst h2; exact h
theorem iW (ok : eW P tt) (L0 : AL) {e sz by_ : Nat} {q : Option (Nat × Nat)} {l1 l2 : List (List AV)} (ht : mj tt t = some (e, sz, by_)) (hx : bB (dp l.toArray acc fr af.toList) x = some (.vec q sz l1)) (hy : bB (dp l.toArray acc fr af.toList) y = some u) (hu : j7 u = some (sz, l2)) (hL : L.Perm (tok q e sz l1.length ++ L0)) (h63 : l1.length + l2.length ≤ 9223372036854775807) (hby : (l1.length + l2.length) * by_ ≤ 140737488355328) (hg : mp ⟨dd, .call ⟨.builtin .append, #[x, y], #[t, t]⟩, ty, pos, af, g⟩ acc)
  (h : ∀ k', DA P l fr fin sk ((k, .vec k' sz (l1 ++ l2)) :: acc) (tok k' e sz (l1 ++ l2).length ++ L0)) :
  d6 P l fr fin k .e ⟨dd, .call ⟨.builtin .append, #[x, y], #[t, t]⟩, ty, pos, af, g⟩ sk acc L :=
 io hg (fun _ => oE L0 (bL ok ht).1 (bL ok ht).2 hx hy (df hu) hL h63 hby) fun c L' ⟨k', h1, h2⟩ => by subst h1; subst h2; exact h k'
end
section
variable {P : Program} {r : Option Nat} {ops : Array Oper} {Q : Exit → Act → World → Prop} {nt : Nat} {D : List Deferred} {fr : c9} {B : Bs} {L : AL} {rest : List Oper} {d : Nat} {ty t : TypeId} {pos : String} {af : Array Edge} {x y z : Operand} {u : AV}
theorem gY (i : Nat) (v0 : Value) (a : AV) {b kt et : Nat} {kd : TypeDesc} {k : Value} {m : Value → Option AV} (ht : P.underlying t = some (.map kt et)) (hkt : P.underlying kt = some kd) (hx : bB fr x = some (.sc (.map (some b)))) (hy : bB fr y = some (.sc k)) (hk : IsKey kd k) (hL : L[i]? = some (b, c6 kd m)) (hz : jn P et v0 = true) (ha : ∀ σ v, VR σ ((m k).getD (.sc v0)) v → VR σ a v) (hd : Nat.ble nt d = false)
  (h : bN P r ops Q nt D rest ((d, a) :: fr) B L) : bN P r ops Q nt D (⟨some d, .lookup t x y false, ty, pos, af, none⟩ :: rest) fr B L :=
 cT hd rfl ((jr i ht hkt hx hy hk hL (eT hz) fun _ => .sc _).as ha) fun c L' ⟨h1, h2⟩ => by subst h1; subst h2; exact h
end
noncomputable def ja (m : Value → Option AV) (k : Value) (c : AV) : Value → Option AV := fun q => open Classical in if q = k then some c else m q
theorem fW {m : Value → Option AV} {k : Value} {c : AV} : ja m k c k = some c := by simp [ja]
theorem fo {m : Value → Option AV} {k : Value} {c : AV} (q : Value) (h : q ≠ k) : ja m k c q = m q := by simp [ja, h]
def lp (m : Value → Option AV) (M : Int → Int) : Prop := ∀ z, m (.int .i64 z) = none ∧ M z = 0 ∨ m (.int .i64 z) = some (.sc (.int .i64 (M z)))
theorem lp.at {m : Value → Option AV} {M : Int → Int} (h : lp m M) (z : Int) : ∀ (σ : ce) (v : Value), VR σ ((m (.int .i64 z)).getD (.sc (.int .i64 0))) v → VR σ (.sc (.int .i64 (M z))) v := by
 intro σ v hv
 rcases h z with ⟨h1, h2⟩ | h1
 ·rw [h1] at hv; rw [h2]; exact hv
 ·rw [h1] at hv; exact hv
theorem lp.put {m : Value → Option AV} {M : Int → Int} (h : lp m M) (z c : Int) : lp (ja m (.int .i64 z) (.sc (.int .i64 c))) fun q => if q = z then c else M q := by
 intro q
 by_cases e : q = z
 ·subst e; simp only [if_true, fW]; exact .inr trivial
 ·simp only [if_neg e]; rw [fo _ (by intro h; injection h with _ h; exact e h)]; exact h q
def iO (m : Value → Option AV) (K : Int → Option (Nat × Nat)) (U : Int → List Int) : Prop := ∀ z, (m (.int .i64 z) = none ∧ U z = [] ∧ K z = none) ∨ m (.int .i64 z) = some (.vec (K z) 1 (aV (U z)))
theorem iO.at {m : Value → Option AV} {K : Int → Option (Nat × Nat)} {U : Int → List Int} (h : iO m K U) (z : Int) : ∀ (σ : ce) (v : Value), VR σ ((m (.int .i64 z)).getD (.sc (.slice none 0 0))) v → VR σ (.vec (K z) 1 (aV (U z))) v := by
 intro σ v hv
 rcases h z with ⟨h1, h2, h3⟩ | h1
 ·rw [h1] at hv; rw [h2, h3]; exact jm 1 hv
 ·rw [h1] at hv; exact hv
theorem iO.put {m : Value → Option AV} {K : Int → Option (Nat × Nat)} {U : Int → List Int} (h : iO m K U) (z : Int) (k : Option (Nat × Nat)) (l : List Int) : iO (ja m (.int .i64 z) (.vec k 1 (aV l))) (fun q => if q = z then k else K q) fun q => if q = z then l else U q := by
 intro q
 by_cases e : q = z
 ·subst e; simp only [if_true, fW]; exact .inr trivial
 ·simp only [if_neg e]
  rw [fo _ (by intro h; injection h with _ h; exact e h)]
  exact h q
def iP (e : TypeId) (K : Int → Option (Nat × Nat)) (U : Int → List Int) (zs : List Int) : AL := zs.flatMap fun z => tok (K z) e 1 (aV (U z)).length
theorem jF {e : TypeId} {K : Int → Option (Nat × Nat)} {U : Int → List Int} : ∀ {zs : List Int} {z : Int}, z ∈ zs → (iP e K U zs).Perm (tok (K z) e 1 (aV (U z)).length ++ iP e K U (zs.erase z))
 | y :: zs, z, h => by
  by_cases hz : y = z
  ·subst hz
   rw [List.erase_cons_head]
   exact List.Perm.refl _
  ·have hm : z ∈ zs := by
    rcases List.mem_cons.1 h with h | h
    ·exact absurd h.symm hz
    ·exact h
   rw [List.erase_cons_tail (by simpa using hz)]
   have ih := jF (e := e) (K := K) (U := U) hm
   unfold iP at ih ⊢
   rw [List.flatMap_cons, List.flatMap_cons]
   refine (List.Perm.append_left _ ih).trans ?_
   rw [← List.append_assoc, ← List.append_assoc]
   exact List.Perm.append_right _ List.perm_append_comm
theorem sK {e : TypeId} {K K' : Int → Option (Nat × Nat)} {U U' : Int → List Int} {zs : List Int} (h : ∀ z ∈ zs, K z = K' z ∧ U z = U' z) : iP e K U zs = iP e K' U' zs := by
 unfold iP
 induction zs with
 | nil => rfl
 | cons z zs ih =>
  rw [List.flatMap_cons, List.flatMap_cons, ih fun y hy => h y (List.mem_cons_of_mem _ hy), (h z (List.mem_cons_self ..)).1, (h z (List.mem_cons_self ..)).2]
theorem rr {e : TypeId} {K : Int → Option (Nat × Nat)} {U : Int → List Int} {zs : List Int} {z : Int} {k : Option (Nat × Nat)} {l : List Int} (hn : zs.Nodup) (h : z ∈ zs) : (tok k e 1 (aV l).length ++ iP e K U (zs.erase z)).Perm (iP e (fun q => if q = z then k else K q) (fun q => if q = z then l else U q) zs) := by
 have h1 := jF (e := e) (K := fun q => if q = z then k else K q) (U := fun q => if q = z then l else U q) h
 simp only [if_true] at h1
 refine List.Perm.trans ?_ h1.symm
 rw [sK (K := K) (U := U) (K' := fun q => if q = z then k else K q) (U' := fun q => if q = z then l else U q) fun y hy => by
  have hne : y ≠ z := fun e => by subst e; exact (List.Nodup.not_mem_erase hn) hy
  simp only [if_neg hne]
  exact ⟨trivial, trivial⟩]
theorem pb (e : TypeId) (U : Int → List Int) (zs : List Int) : iP e (fun _ => none) U zs = [] := by
 unfold iP tok
 induction zs with
 | nil => rfl
 | cons z zs ih => rw [List.flatMap_cons, ih]; rfl
end Go.Proofs.YtpbinloeemebkaaGreat

namespace Go.Proofs.YtpbinloeemebkaaGreat
open Go.RowKit
section
variable {P : Program} {r : Option Nat} {ops : Array Oper} {Q : Exit → Act → World → Prop} {nt : Nat} {D : List Deferred} {fr : c9} {B : Bs} {L : AL} {cd : Code}
def lh (nt : Nat) (B : Bs) {α : Type} (Dx : α → List Deferred) (V : α → c9) (fr0 : c9) (C : α → Prop) (Lx : α → AL) (μ : α → Nat) (x : α) (Q : Exit → Act → World → Prop) : Exit → Act → World → Prop := Exit.then (fun a w => ∃ σ x', gI σ nt (Dx x') (V x' ++ fr0) a ∧ C x' ∧ cK B σ (Lx x') w ∧ μ x' < μ x) Q
theorem qk (ks : List Nat) {α : Type} (Dx : α → List Deferred) (V : α → c9) (C : α → Prop) (Lx : α → AL) (μ : α → Nat) (x0 : α) {fr0 : c9} (hk : fO fr ks = some fr0) (hV : jY (V x0) fr) (hD : D = Dx x0) (hC : C x0) (hL : ∀ σ w, cK B σ L w → cK B σ (Lx x0) w)
  (hb : ∀ x, C x → AT P r cd (lh nt B Dx V fr0 C Lx μ x Q) nt (Dx x) (V x ++ fr0) B (Lx x)) : AT P r (.loop cd) Q nt D fr B L := by
 intro σ a w ha hw
 subst hD
 classical
 let G : Nat → Act → World → Prop := fun m a w => ∃ σ x, gI σ nt (Dx x) (V x ++ fr0) a ∧ C x ∧ cK B σ (Lx x) w ∧ μ x = m
 let M : Act → World → Nat := fun a w => if h : ∃ m, G m a w ∧ ∀ m', G m' a w → m ≤ m' then h.choose else 0
 have least : ∀ a w, (∃ m, G m a w) → G (M a w) a w ∧ ∀ m', G m' a w → M a w ≤ m' := by
  rintro a w ⟨m0, hg0⟩
  have hex : ∃ m, G m a w ∧ ∀ m', G m' a w → m ≤ m' := by
   have : ∀ k, ∀ m, m ≤ k → G m a w → ∃ m, G m a w ∧ ∀ m', G m' a w → m ≤ m' := by
    intro k
    induction k with
    | zero => intro m hm hg; exact ⟨m, hg, fun m' _ => by omega⟩
    | succ k ih =>
     intro m hm hg
     by_cases h : ∃ m', m' < m ∧ G m' a w
     ·obtain ⟨m', hlt, hg'⟩ := h
      exact ih m' (by omega) hg'
     ·exact ⟨m, hg, fun m' hg' => by
       rcases Nat.lt_or_ge m' m with hlt | hge
       ·exact absurd ⟨m', hlt, hg'⟩ h
       ·exact hge⟩
   exact this m0 m0 (Nat.le_refl _) hg0
  have hM : M a w = hex.choose := dif_pos hex
  rw [hM]; exact hex.choose_spec
 refine wpIn_loop (fun a w => ∃ m, G m a w) M ⟨_, σ, x0, ha.weak (kA hV (di ks hk)), hC, hL σ w hw, rfl⟩ ?_
 intro a w hI
 obtain ⟨⟨σ', x, hx, hj, hst, hm⟩, _⟩ := least a w hI
 refine wpIn_mono (hb x hj σ' a w hx hst) ?_
 intro e a' w' hq
 cases e with
 | normal =>
  obtain ⟨τ, x', hx', hj', hst', hlt⟩ := hq
  have hg : G (μ x') a' w' := ⟨τ, x', hx', hj', hst', rfl⟩
  refine ⟨⟨_, hg⟩, ?_⟩
  have := (least a' w' ⟨_, hg⟩).2 (μ x') hg
  omega
 | _ => exact hq
theorem js {α : Type} {Dx : α → List Deferred} {V : α → c9} {fr0 : c9} {C : α → Prop} {Lx : α → AL} {μ : α → Nat} {x : α} (x' : α) (hk : fO fr (fr0.map (·.1)) = some fr0) (hV : jY (V x') fr) (hD : D = Dx x') (hC : C x') (hm : μ x' < μ x) (hL : ∀ σ w, cK B σ L w → cK B σ (Lx x') w) :
  AX P .normal (lh nt B Dx V fr0 C Lx μ x Q) nt D fr B L := fun σ a w ha hw => by
 subst hD
 exact ⟨σ, x', ha.weak (kA hV (di _ hk)), hC, hL _ _ hw, hm⟩
theorem jL {α : Type} {Dx : α → List Deferred} {V : α → c9} {fr0 : c9} {C : α → Prop} {Lx : α → AL} {μ : α → Nat} {x : α} {id : Nat} (h : AX P (.exit id) Q nt D fr B L) : AX P (.exit id) (lh nt B Dx V fr0 C Lx μ x Q) nt D fr B L := fun σ a w ha hw => h σ a w ha hw
end
section
variable {nt : Nat} {D : List Deferred} {B : Bs} {fr : c9} {L : AL}
theorem pc {t b e sz n : Nat} {cs : List AV} {l : List (List AV)} (i : Nat) (hl : bZ fr t = some (.iptr [.sc (.slice (some ⟨b, 0, none⟩) n n)])) (hL : L[i]? = some (b, .box cs e)) (hc : cs = l.flatten) (hs : ∀ q ∈ l, q.length = sz) (hn : l.length = n) (h63 : n ≤ 9223372036854775807) : oh nt D B fr L ((t, .iptr [.imm sz l]) :: fr) ((b, .vec e sz n n) :: L.eraseIdx i) := by
 intro σ a w ha hw0
 have hw := hw0.perm (fh hL)
 obtain ⟨o, ho, vs, rfl, hvs, h1⟩ := hw.here _ (List.mem_cons_self ..)
 have hfree := hw.free _ (List.mem_cons_self ..)
 have hvl : vs.length = n * sz := by rw [← hvs.1, hc, gR l hs, hn]
 have hst : cK B σ ((b, .vec e sz 0 n) :: L.eraseIdx i) w := by
  refine ⟨hw.os, hw.tape, hw.output, hw.size, hw.old, fun p hp => ?_, fun p hp => ?_, by simpa using hw.apart, hw.froz, fun p hp off hm => ?_, hw.grow, hw.same⟩
  ·rcases List.mem_cons.1 hp with rfl | hp'
   ·exact ⟨_, ho, _, rfl, by simp [hvl], Nat.zero_le _, by unfold maxLen; omega⟩
   ·exact hw.here p (List.mem_cons_of_mem _ hp')
  ·rcases List.mem_cons.1 hp with rfl | hp'
   ·exact hw.mine (b, .box cs e) (List.mem_cons_self ..)
   ·exact hw.mine p (List.mem_cons_of_mem _ hp')
  ·rcases List.mem_cons.1 hp with rfl | hp'
   ·exact hfree off trivial
   ·exact hw.free p (List.mem_cons_of_mem _ hp') off hm
 obtain ⟨hst', hle⟩ := hst.freezeHead (n' := n) (xs := vs) (fun j u hj => by rw [da ho]; simpa using hj) hvl (Nat.zero_le _) (Nat.le_refl _)
 refine ⟨_, ?_, hst'⟩
 have hv : VR (σ.add b vs) (.vec (some (b, n)) sz l) (.slice (some ⟨b, 0, none⟩) n n) := by
  have := od (σ := σ.add b vs) (b := b) (cap := n) hs (by rw [← hc]; exact hvs.mono hle) h1 (by omega) (by unfold maxLen; omega) (fun j u hj => ce.add_at hj)
  rwa [hn] at this
 have ha' := ha.mono hle
 refine ⟨ha'.size, ha'.defers, fun t' v' hl' => ?_⟩
 rw [cf] at hl'
 by_cases e : t = t'
 ·subst e
  simp only [if_true, Option.some.injEq] at hl'
  subst hl'
  have hp := ha.look t _ hl
  generalize a.tmps.getD t undef = v0 at hp
  generalize hq : AV.iptr [.sc (.slice (some ⟨b, 0, none⟩) n n)] = q at hp
  cases hp with
  | iptr cs2 b0 off hx h =>
   injection hq with hq
   subst hq
   refine .iptr _ b0 off (fun j hj => ?_) fun j c u hc hu => ?_
   ·obtain ⟨u, hu, h1⟩ := hx j hj
    exact ⟨u, hle _ _ _ hu, h1⟩
   ·have hj : j = 0 := by
     have := (List.getElem?_eq_some_iff.1 hc).1
     simp at this
     exact this
    subst hj
    simp at hc
    subst hc
    obtain ⟨u', hu', _⟩ := hx 0 (by simp)
    have h2 := hle _ _ _ hu'
    rw [hu] at h2
    injection h2 with h2
    subst h2
    rw [(h 0 _ u rfl hu').sc_inv]
    exact hv.im
  | _ => cases hq
 ·rw [if_neg e] at hl'
  exact ha'.look t' v' hl'
end
end Go.Proofs.YtpbinloeemebkaaGreat

namespace Go.Proofs.YtpbinloeemebkaaGreat
open Go.RowKit
attribute [local irreducible] AT bN AX AO Av Kt bi dE DA d6
theorem vd (f : aH) (n : Int) : bo Tryz.prog 281 [bw f, aQ n] (c8 (eG f n)) := by
 refine aU Tryz.func281 rfl Tryz.ntmps281 rfl fun B => ?_
 (repeat' (first|refine ah ?_|refine a6 ?_|refine a8 ?_|refine aa ?_|refine ae a7 rfl rfl ?_|refine b6 ?_|fail))
 refine bv (t := 4) [] (eG f n = true) rfl (fun Q' K => ?_) ?_
 ·(repeat' (first|refine aa ?_|refine ae a7 rfl rfl ?_|refine aw rfl rfl ?_|refine aD rfl rfl rfl rfl ?_|refine aS rfl rfl rfl (fun _ => ?_) (fun _ => ?_)|fail))
  all_goals exact K _ _ rfl rfl (by unfold eG; simp_all <;> omega)
 (repeat' (first|refine au ?_|refine a8 ?_|fail))
 refine aB rfl rfl ?_
 simp
instance (f : aH) (n : Int) : AD Tryz.prog 281 [bw f, aQ n] (c8 (eG f n)) := ⟨vd f n⟩
theorem uK (f : aH) (g : Int) : bo Tryz.prog 268 [bw f, aQ g] (.fn 280 [.iptr (bO f), .iptr [aQ g]]) := by
 refine aU Tryz.func268 rfl Tryz.ntmps268 rfl fun B => ?_
 (repeat' (first|refine ah ?_|refine a6 ?_|refine au ?_|refine a8 ?_|refine aa ?_|refine ae a7 rfl rfl ?_|refine b6 ?_|fail))
 exact aB rfl rfl rfl
instance (f : aH) (g : Int) : AD Tryz.prog 268 [bw f, aQ g] (.fn 280 [.iptr (bO f), .iptr [aQ g]]) := ⟨uK f g⟩
set_option maxHeartbeats 1000000 in
theorem tu {α : Type} {σ0 : ce} {l : Nat} (f : aH) (g : Nat) (gl : be) (hg : f.Glyphs[g]? = some gl) (E : α → AL) (J : Nat → α → Prop)
  (hy : ∀ i x p, J i x → gl.Parts[i]? = some p → eG f p.Glyph = true → AY Tryz.prog σ0 l [.agg (d7 p)] (E x) fun c L => c = c8 true ∧ ∃ x', J (i + 1) x' ∧ L = E x')
  (hs : ∀ i x p, J i x → gl.Parts[i]? = some p → eG f p.Glyph = false → J (i + 1) x) (x0 : α) (h0 : J 0 x0) (hlen : gl.Parts.length ≤ 1000000) :
  vf Tryz.prog σ0 280 [.sc (.func (.yield l) #[] #[]), .iptr (bO f), .iptr [aQ g]] (E x0) fun _ L => ∃ x, J gl.Parts.length x ∧ L = E x := by
 refine jW Tryz.func280 rfl Tryz.ntmps280 rfl fun B hB => ?_
 have hgg := b5 (c := bz) hg
 (repeat' (first|refine ah ?_|refine a6 ?_|refine am ?_|refine a8 ?_|refine aa ?_|refine ae a7 rfl rfl ?_|(apply aP; first|refine aO a7 ?_|refine aI a7 ?_)|fail))
 refine aL [0, 1, 11, 12] (α := Nat × α) (fun y => [(13, aQ y.1)]) (fun y => y.1 ≤ gl.Parts.length ∧ J y.1 y.2) (fun y => E y.2) (fun y => gl.Parts.length - y.1) (0, x0) rfl ⟨rfl, trivial⟩ ⟨Nat.zero_le _, h0⟩ (fun _ _ h => h) ?_
 rintro ⟨i, x⟩ ⟨hi, hj⟩
 dsimp only at hi hj ⊢
 try dsimp only [List.cons_append, List.nil_append, List.map_cons, List.map_nil]
 (repeat' (first|refine ah ?_|refine a6 ?_|refine a8 ?_|refine aa ?_|refine ae a7 rfl rfl ?_|fail))
 refine av rfl (fun h => ?_) (fun h => ?_)
 ·have hil : i < gl.Parts.length := by have := of_decide_eq_true h; simp at this; omega
  obtain ⟨p, hp⟩ : ∃ z, gl.Parts[i]? = some z := ⟨_, List.getElem?_eq_getElem hil⟩
  have hpg := b5 (c := d7) hp
  (repeat' (first|refine ah ?_|refine a6 ?_|refine am ?_|refine ak ?_|refine a8 ?_|refine aa ?_|refine ae a7 rfl rfl ?_|(apply aP; first|refine aO a7 ?_|refine aI a7 ?_)|(apply aT; first|refine ai 5 a7 0 rfl rfl rfl rfl rfl rfl rfl rfl ?_|refine ai 5 a7 1 rfl rfl rfl rfl rfl rfl rfl rfl ?_|refine ai 5 a7 2 rfl rfl rfl rfl rfl rfl rfl rfl ?_|refine aj a7 0 rfl rfl rfl rfl rfl rfl rfl ?_|refine aj a7 1 rfl rfl rfl rfl rfl rfl rfl ?_|refine aj a7 2 rfl rfl rfl rfl rfl rfl rfl ?_|refine aj a7 3 rfl rfl rfl rfl rfl rfl rfl ?_|fail)|refine bb a7 fun _=>?_|(apply ba;refine aY ?_)|fail))
  by_cases hG : eG f p.Glyph = true
  ·rw [hG]
   (repeat' (first|refine ae a7 rfl rfl ?_|refine aw rfl rfl ?_|fail))
   refine iz (E x) [] hB (hy i x p hj hp hG) rfl rfl rfl (by rw [List.append_nil]; exact List.Perm.refl _) rfl rfl fun c L1 ⟨hc, x', hj', hL⟩ => ?_
   subst hc; subst hL
   rw [List.append_nil]
   (repeat' (first|refine a6 ?_|refine ak ?_|refine a8 ?_|refine aJ ?_|refine aa ?_|refine ae a7 rfl rfl ?_|refine aw rfl rfl ?_|(apply aX; refine aW ?_)|refine bV rfl ?_|fail))
   exact aE (i + 1, x') rfl ⟨by rw [Int.natCast_add]; rfl, trivial⟩ ⟨by dsimp only; omega, hj'⟩ (by dsimp only; omega) (fun _ _ h => h)
  ·have hG' : eG f p.Glyph = false := by simpa using hG
   rw [hG']
   (repeat' (first|refine a6 ?_|refine ak ?_|refine a8 ?_|refine aJ ?_|refine aa ?_|refine ae a7 rfl rfl ?_|refine aD rfl rfl rfl rfl ?_|(apply aX; refine aW ?_)|refine bV rfl ?_|fail))
   exact aE (i + 1, x) rfl ⟨by rw [Int.natCast_add]; rfl, trivial⟩ ⟨by dsimp only; omega, hs i x p hj hp hG'⟩ (by dsimp only; omega) (fun _ _ h => h)
 ·have hil : i = gl.Parts.length := by have := of_decide_eq_false h; simp at this; omega
  subst hil
  (repeat' (first|refine aR ?_|refine az ?_|refine aC ?_|refine aA ?_|fail))
  exact cB rfl ⟨x, hj, rfl⟩
end Go.Proofs.YtpbinloeemebkaaGreat

namespace Go.Proofs.YtpbinloeemebkaaGreat
open Go.RowKit
attribute [local irreducible] AT bN AX AO Av Kt bi dE DA d6
open Go.MapKept
attribute [local irreducible] lh
def prt (f : aH) (g : Int) : List Int := match f.Glyphs[g.toNat]? with
 | some gl => (gl.Parts.map bE.Glyph).filter (eG f)
 | none => []
def rx (f : aH) (gl : be) (i : Nat) : List Int := ((gl.Parts.take i).map bE.Glyph).filter (eG f)
theorem tx {f : aH} {gl : be} {i : Nat} {p : bE} (h : gl.Parts[i]? = some p) (hg : eG f p.Glyph = true) : rx f gl (i + 1) = rx f gl i ++ [p.Glyph] := by
 unfold rx
 rw [List.take_add_one, h, Option.toList_some, List.map_append, List.filter_append]
 simp [hg]
theorem wR {f : aH} {gl : be} {i : Nat} {p : bE} (h : gl.Parts[i]? = some p) (hg : eG f p.Glyph = false) : rx f gl (i + 1) = rx f gl i := by
 unfold rx
 rw [List.take_add_one, h, Option.toList_some, List.map_append, List.filter_append]
 simp [hg]
theorem tv {f : aH} {g : Nat} {gl : be} (hg : f.Glyphs[g]? = some gl) : rx f gl gl.Parts.length = prt f g := by
 unfold rx prt
 rw [Int.toNat_natCast, hg, List.take_length]
theorem tw (f : aH) (gl : be) (i : Nat) : (rx f gl i).length ≤ gl.Parts.length := by
 unfold rx
 refine Nat.le_trans (List.length_filter_le _ _) ?_
 rw [List.length_map, List.length_take]
 omega
theorem iw {f : aH} {z : Int} : eG f z = true ↔ 0 ≤ z ∧ z < f.Glyphs.length := by unfold eG; simp
theorem lL {f : aH} {g p : Int} (h : p ∈ prt f g) : 0 ≤ p ∧ p < f.Glyphs.length := by
 unfold prt at h
 split at h
 ·rw [List.mem_filter] at h; exact iw.1 h.2
 ·cases h
structure Few (f : aH) : Prop where
 n : f.Glyphs.length ≤ 1000
 parts : ∀ gl ∈ f.Glyphs, gl.Parts.length ≤ 1000
theorem Few.prt {f : aH} (h : Few f) (g : Int) : (prt f g).length ≤ 1000 := by
 unfold Go.Proofs.YtpbinloeemebkaaGreat.prt
 split
 ·rename_i gl hgl
  refine Nat.le_trans (List.length_filter_le _ _) ?_
  rw [List.length_map]
  exact h.parts gl (List.mem_of_getElem? hgl)
 ·exact Nat.zero_le _
theorem jG {pr : Int → List Int} (h : ∀ g, (pr g).length ≤ 1000) (z : Int) : ∀ gs : List Int, (bQ pr gs z).length ≤ 1000 * gs.length
 | [] => by simp [bQ]
 | g :: gs => by
  have ih := jG h z gs
  unfold bQ at ih ⊢
  rw [List.flatMap_cons, List.length_append, List.length_map, List.length_cons]
  have h1 := List.length_filter_le (fun p => decide (p = z)) (pr g)
  have h2 := h g
  omega
theorem pf {pr : Int → List Int} {gs : List Int} {z g : Int} (h : g ∈ bQ pr gs z) : g ∈ gs := by
 unfold bQ at h
 obtain ⟨y, hy, h1⟩ := List.mem_flatMap.1 h
 obtain ⟨_, _, rfl⟩ := List.mem_map.1 h1
 exact hy
theorem wC (pr : Int → List Int) (T : List Int) (g : Int) : jN pr T g ≤ (pr g).length := List.length_filter_le _ _
def Mi (f : aH) (gl : be) (g i : Nat) : Int → Int := fun z => if z = g then (rx f gl i).length else if 0 ≤ z ∧ z < g then (prt f z).length else 0
def Ui (f : aH) (gl : be) (g i : Nat) : Int → List Int := fun z => bQ (prt f) (bP g) z ++ ((rx f gl i).filter fun p => decide (p = z)).map fun _ => (g : Int)
def Mb (f : aH) (g : Nat) : Int → Int := fun z => if 0 ≤ z ∧ z < g then (prt f z).length else 0
def Rb (f : aH) (g : Nat) : List Int := (bP g).filter fun z => decide ((prt f z).length = 0)
theorem xk (f : aH) (gl : be) (g : Nat) : Mi f gl g 0 = Mb f g := by
 funext z
 unfold Mi Mb rx
 by_cases e : z = g
 ·subst e; rw [if_pos rfl, if_neg (by omega)]; rfl
 ·rw [if_neg e]
theorem mz (f : aH) (gl : be) (g : Nat) : Ui f gl g 0 = bQ (prt f) (bP g) := by
 funext z
 unfold Ui rx
 simp
theorem zj {f : aH} {g : Nat} {gl : be} (hg : f.Glyphs[g]? = some gl) : Mi f gl g gl.Parts.length = Mb f (g + 1) := by
 funext z
 unfold Mi Mb
 rw [tv hg]
 by_cases e : z = g
 ·subst e; rw [if_pos rfl, if_pos (by omega)]
 ·rw [if_neg e]
  by_cases h : 0 ≤ z ∧ z < g
  ·rw [if_pos h, if_pos (by omega)]
  ·rw [if_neg h, if_neg (by omega)]
theorem vk {f : aH} {g : Nat} {gl : be} (hg : f.Glyphs[g]? = some gl) : Ui f gl g gl.Parts.length = bQ (prt f) (bP (g + 1)) := by
 funext z
 unfold Ui
 rw [tv hg, pd]
 unfold bQ
 rw [List.flatMap_append]
 simp
theorem zk {f : aH} {gl : be} {g i : Nat} {p : bE} (h : gl.Parts[i]? = some p) (hg : eG f p.Glyph = true) : (fun q => if q = (g : Int) then Mi f gl g i g + 1 else Mi f gl g i q) = Mi f gl g (i + 1) := by
 funext q
 unfold Mi
 rw [tx h hg]
 by_cases e : q = g
 ·rw [if_pos e, if_pos e, if_pos rfl]; simp
 ·rw [if_neg e, if_neg e, if_neg e]
theorem vm {f : aH} {gl : be} {g i : Nat} {p : bE} (h : gl.Parts[i]? = some p) (hg : eG f p.Glyph = true) : (fun q => if q = p.Glyph then Ui f gl g i p.Glyph ++ [(g : Int)] else Ui f gl g i q) = Ui f gl g (i + 1) := by
 funext q
 unfold Ui
 rw [tx h hg, List.filter_append, List.map_append]
 by_cases e : q = p.Glyph
 ·subst e; rw [if_pos rfl]; simp
 ·have e' : ¬ p.Glyph = q := fun h => e h.symm
  rw [if_neg e]; simp [e']
theorem AH {f : aH} {gl : be} {g i : Nat} {p : bE} (h : gl.Parts[i]? = some p) (hg : eG f p.Glyph = false) : Mi f gl g (i + 1) = Mi f gl g i := by unfold Mi; rw [wR h hg]
theorem yT {f : aH} {gl : be} {g i : Nat} {p : bE} (h : gl.Parts[i]? = some p) (hg : eG f p.Glyph = false) : Ui f gl g (i + 1) = Ui f gl g i := by unfold Ui; rw [wR h hg]
theorem vl {f : aH} (hf : Few f) (gl : be) (hgl : gl ∈ f.Glyphs) {g : Nat} (hg : g ≤ 1000) (i : Nat) (z : Int) : (Ui f gl g i z).length ≤ 1001000 := by
 unfold Ui
 have h1 := jG hf.prt z (bP g)
 have h2 := tw f gl i
 have h3 := List.length_filter_le (fun p => decide (p = z)) (rx f gl i)
 have h4 := hf.parts gl hgl
 rw [d9] at h1
 rw [List.length_append, List.length_map]
 omega
theorem jq (f : aH) (g : Nat) : Rb f (g + 1) = if (prt f g).length = 0 then Rb f g ++ [(g : Int)] else Rb f g := by
 unfold Rb
 rw [pd, List.filter_append]
 by_cases h : (prt f g).length = 0
 ·rw [if_pos h, List.filter_cons_of_pos (by simpa using h)]; rfl
 ·rw [if_neg h, List.filter_cons_of_neg (by simpa using h)]; simp
theorem vj (f : aH) (g : Nat) : (Rb f g).length ≤ g := by
 unfold Rb
 refine Nat.le_trans (List.length_filter_le _ _) ?_
 rw [d9]
 exact Nat.le_refl _
theorem gt {a b : Nat × AB} {T T' t H R : AL} (h : T.Perm (t ++ T')) : (a :: b :: (H ++ (T ++ R))).Perm (t ++ (a :: b :: (H ++ (T' ++ R)))) := by
 have h1 : (a :: b :: (H ++ (T ++ R))).Perm (a :: b :: (H ++ (t ++ (T' ++ R)))) := by
  refine List.Perm.cons _ (List.Perm.cons _ (List.Perm.append_left _ ?_))
  rw [← List.append_assoc]
  exact h.append_right _
 refine h1.trans ?_
 have h2 : (a :: b :: (H ++ (t ++ (T' ++ R)))) = ((a :: b :: H) ++ t) ++ (T' ++ R) := by simp
 have h3 : t ++ (a :: b :: (H ++ (T' ++ R))) = (t ++ (a :: b :: H)) ++ (T' ++ R) := by simp
 rw [h2, h3]
 exact List.Perm.append_right _ List.perm_append_comm
end Go.Proofs.YtpbinloeemebkaaGreat
