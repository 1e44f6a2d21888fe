/-
  Numbers parted into classes by sets: as plain functions.
-/
import Derived.Test.YtamjlkdanllgjaaGreatDoorM05
import Derived.Test.YtamjlkdanllgjaaGreatDoorM04
import Derived.Test.YtamjlkdanllgjaaGreatDoorM08
import Derived.Test.YtamjlkdanllgjaaGreatDoorM12
import Derived.Test.YtamjlkdanllgjaaGreatDoorM15
import Derived.Test.YtamjlkdanllgjaaGreatDoorM11
import Derived.Laws.BytesString
namespace Go.Proofs.YtamjlkdanllgjaaGreatDoor
open Go.RowKit
attribute [local irreducible] AT br AX AO Av Kt aW cZ DA cw
section
variable {α : Type} [BEq α] [LawfulBEq α]
def df (t : List α) (z : α) : List α := if t.contains z = true then t else t ++ [z]
theorem ey {t : List α} {z : α} (h : z ∈ t) : df t z = t := if_pos (List.contains_iff_mem.2 h)
theorem eX {t : List α} {z : α} (h : z ∉ t) : df t z = t ++ [z] := if_neg fun e => h (List.contains_iff_mem.1 e)
theorem j6 (t : List α) (z : α) : z ∈ df t z := by
 by_cases h : z ∈ t
 ·rw [ey h]; exact h
 ·rw [eX h]; simp
theorem so {t : List α} {x : α} (z : α) (h : x ∈ t) : x ∈ df t z := by
 by_cases hz : z ∈ t
 ·rw [ey hz]; exact h
 ·rw [eX hz]; simp [h]
theorem oA {t : List α} {x : α} (z : α) (h : x ∈ t) : (df t z).idxOf x = t.idxOf x := by
 by_cases hz : z ∈ t
 ·rw [ey hz]
 ·rw [eX hz, List.idxOf_append, if_pos h]
theorem l6 {t : List α} {z : α} (h : z ∉ t) : (df t z).idxOf z = t.length := by
 rw [eX h, List.idxOf_append, if_neg h, List.idxOf_cons_self, Nat.zero_add]
theorem BU {t : List α} {z : α} : (df t z)[(df t z).idxOf z]? = some z := by
 have h := List.idxOf_lt_length_of_mem (j6 t z)
 rw [Eg h, List.getElem_idxOf]
theorem l4 {t : List α} {x : α} {i : Nat} (z : α) (h : t[i]? = some x) : (df t z)[i]? = some x := by
 by_cases hz : z ∈ t
 ·rw [ey hz]; exact h
 ·rw [eX hz, List.getElem?_append_left (Hq h).1]; exact h
theorem k9 {t : List α} (z : α) (h : t.Nodup) : (df t z).Nodup := by
 by_cases hz : z ∈ t
 ·rw [ey hz]; exact h
 ·rw [eX hz, List.nodup_append]
  exact ⟨h, by simp, fun a ha b hb => by rw [List.mem_singleton] at hb; subst hb; exact fun e => hz (e ▸ ha)⟩
theorem oB (t : List α) (z : α) : t.length ≤ (df t z).length ∧ (df t z).length ≤ t.length + 1 := by
 by_cases hz : z ∈ t
 ·rw [ey hz]; omega
 ·rw [eX hz, List.length_append, List.length_singleton]; omega
theorem uH {t : List α} {x y : α} (hx : x ∈ t) (hy : y ∈ t) (h : t.idxOf x = t.idxOf y) : x = y := by
 have h1 := List.getElem_idxOf (List.idxOf_lt_length_of_mem hx)
 have h2 := List.getElem_idxOf (List.idxOf_lt_length_of_mem hy)
 rw [← h1, ← h2]
 congr 1
end
def fX (k : Int) (st : List Int × List Int) (g : Int) : List Int × List Int :=
 (st.1.set g.toNat (k + ((df st.2 (st.1.getD g.toNat 0)).idxOf (st.1.getD g.toNat 0) : Nat)), df st.2 (st.1.getD g.toNat 0))
def ii (st : List Int × Int) (s : List Int) : List Int × Int := ((s.foldl (fX st.2) (st.1, [])).1, st.2 + (s.foldl (fX st.2) (st.1, [])).2.length)
def kS (n : Nat) (sets : List (List Int)) : List Int × Int := sets.foldl ii (List.replicate n 0, 1)
structure mK (c0 : List Int) (k : Int) (p : List Int) (st : List Int × List Int) : Prop where
 len : st.1.length = c0.length
 nodup : st.2.Nodup
 few : st.2.length ≤ p.length
 at_ : ∀ (i : Nat) z, c0[i]? = some z → ((i : Int) ∈ p ∧ z ∈ st.2 ∧ st.1[i]? = some (k + (st.2.idxOf z : Nat))) ∨ ((i : Int) ∉ p ∧ st.1[i]? = some z)
theorem qh {c0 : List Int} {k : Int} {p : List Int} {st : List Int × List Int} (h : mK c0 k p st) {g : Int} (h0 : 0 ≤ g) (hl : g < c0.length) (hn : g ∉ p) : mK c0 k (p ++ [g]) (fX k st g) := by
 obtain ⟨z, hz⟩ : ∃ z, c0[g.toNat]? = some z := ⟨_, Eg (by omega)⟩
 have hg0 : ((g.toNat : Nat) : Int) = g := Int.toNat_of_nonneg h0
 have hzs : st.1[g.toNat]? = some z := by
  rcases h.at_ g.toNat z hz with ⟨h1, _⟩ | ⟨_, h2⟩
  ·rw [hg0] at h1; exact absurd h1 hn
  ·exact h2
 have hzd : st.1.getD g.toNat 0 = z := by rw [List.getD_eq_getElem?_getD, hzs]; rfl
 unfold fX
 rw [hzd]
 refine ⟨by rw [List.length_set]; exact h.len, k9 _ h.nodup, ?_, fun i y hy => ?_⟩
 ·have := h.few
  rw [List.length_append, List.length_singleton]
  have h2 := (oB st.2 z).2
  dsimp only
  omega
 ·by_cases hi : i = g.toNat
  ·subst hi
   rw [hz] at hy
   cases hy
   refine Or.inl ⟨by rw [hg0]; simp, j6 _ _, ?_⟩
   dsimp only
   rw [List.getElem?_set_self (by rw [h.len]; omega)]
  ·have hne : g.toNat ≠ i := fun e => hi e.symm
   have hne2 : (i : Int) ≠ g := fun e => hi (by omega)
   dsimp only
   rw [List.getElem?_set_ne hne]
   rcases h.at_ i y hy with ⟨h1, h2, h3⟩ | ⟨h1, h2⟩
   ·exact Or.inl ⟨List.mem_append_left _ h1, so _ h2, by rw [h3, oA _ h2]⟩
   ·exact Or.inr ⟨by simp [h1, hne2], h2⟩
theorem ml {c0 : List Int} {k : Int} : ∀ {s p : List Int} {st : List Int × List Int}, mK c0 k p st → (∀ g ∈ s, 0 ≤ g ∧ g < c0.length) → (p ++ s).Nodup → mK c0 k (p ++ s) (s.foldl (fX k) st)
 | [], p, st, h, _, _ => by rw [List.append_nil]; exact h
 | g :: s, p, st, h, hd, hn => by
  have hg := hd g (by simp)
  have hgp : g ∉ p := fun hp => by
   rw [List.nodup_append] at hn
   exact hn.2.2 g hp g (by simp) rfl
  have := ml (s := s) (qh h hg.1 hg.2 hgp) (fun x hx => hd x (by simp [hx])) (by rw [List.append_assoc]; exact hn)
  rw [List.append_assoc] at this
  exact this
structure kg (n : Nat) (done : List (List Int)) (st : List Int × Int) : Prop where
 len : st.1.length = n
 dom : ∀ z ∈ st.1, 0 ≤ z ∧ z < st.2
 pos : 0 ≤ st.2
 apart : ∀ s ∈ done, ∀ (i j : Nat) z, st.1[i]? = some z → st.1[j]? = some z → ((i : Int) ∈ s ↔ (j : Int) ∈ s)
theorem qx {n : Nat} {done : List (List Int)} {st : List Int × Int} (h : kg n done st) {s : List Int} (hd : ∀ g ∈ s, 0 ≤ g ∧ g < (n : Int)) (hn : s.Nodup) : kg n (done ++ [s]) (ii st s) := by
 have hm := ml (c0 := st.1) (k := st.2) (s := s) (p := []) (st := (st.1, [])) ⟨rfl, by simp, by simp, fun i z hz => Or.inr ⟨by simp, hz⟩⟩ (fun g hg => by rw [h.len]; exact hd g hg) (by simpa using hn)
 rw [Hs] at hm
 unfold ii
 generalize s.foldl (fX st.2) (st.1, []) = r at hm
 have hp := h.pos
 have get : ∀ {i : Nat} {z : Int}, r.1[i]? = some z → ∃ y, st.1[i]? = some y ∧ (0 ≤ y ∧ y < st.2) ∧ (((i : Int) ∈ s ∧ y ∈ r.2 ∧ z = st.2 + (r.2.idxOf y : Nat)) ∨ ((i : Int) ∉ s ∧ z = y)) := by
  intro i z hz
  have hi := (Hq hz).1
  rw [hm.len] at hi
  obtain ⟨y, hy⟩ : ∃ y, st.1[i]? = some y := ⟨_, Eg hi⟩
  refine ⟨y, hy, h.dom y (Hx hy), ?_⟩
  rcases hm.at_ i y hy with ⟨h1, h2, h3⟩ | ⟨h1, h2⟩
  ·rw [hz] at h3
   cases h3
   exact Or.inl ⟨h1, h2, rfl⟩
  ·rw [hz] at h2
   cases h2
   exact Or.inr ⟨h1, rfl⟩
 refine ⟨by rw [← h.len]; exact hm.len, fun z hz => ?_, by dsimp only; omega, fun t ht i j z hi hj => ?_⟩
 ·obtain ⟨i, hi⟩ := List.mem_iff_getElem?.1 hz
  obtain ⟨y, _, ⟨h1, h2⟩, h3⟩ := get hi
  dsimp only
  rcases h3 with ⟨_, h4, h5⟩ | ⟨_, h5⟩
  ·have := List.idxOf_lt_length_of_mem h4
   omega
  ·omega
 ·obtain ⟨y, hy, hy0, hy1⟩ := get hi
  obtain ⟨x, hx, hx0, hx1⟩ := get hj
  have hxy : x = y ∧ ((i : Int) ∈ s ↔ (j : Int) ∈ s) := by
   rcases hy1 with ⟨a1, a2, a3⟩ | ⟨a1, a2⟩ <;> rcases hx1 with ⟨b1, b2, b3⟩ | ⟨b1, b2⟩
   ·exact ⟨uH b2 a2 (by omega), by simp [a1, b1]⟩
   ·omega
   ·omega
   ·exact ⟨by omega, by simp [a1, b1]⟩
  rw [List.mem_append, List.mem_singleton] at ht
  rcases ht with ht | rfl
  ·exact h.apart t ht i j y hy (hxy.1 ▸ hx)
  ·exact hxy.2
theorem mp {n : Nat} : ∀ {sets done : List (List Int)} {st : List Int × Int}, kg n done st → (∀ s ∈ sets, (∀ g ∈ s, 0 ≤ g ∧ g < (n : Int)) ∧ s.Nodup) → kg n (done ++ sets) (sets.foldl ii st)
 | [], done, st, h, _ => by rw [List.append_nil]; exact h
 | s :: sets, done, st, h, hd => by
  have := mp (sets := sets) (qx h (hd s (by simp)).1 (hd s (by simp)).2) fun x hx => hd x (by simp [hx])
  rw [List.append_assoc] at this
  exact this
theorem jZ {n : Nat} {sets : List (List Int)} (h : ∀ s ∈ sets, (∀ g ∈ s, 0 ≤ g ∧ g < (n : Int)) ∧ s.Nodup) : kg n sets (kS n sets) := by
 have := mp (sets := sets) (done := []) (st := (List.replicate n 0, 1)) ⟨by simp, fun z hz => by rw [(List.mem_replicate.1 hz).2]; omega, by dsimp only; omega, fun s hs => by cases hs⟩ h
 rwa [Hs] at this
def gc (l : List Int) : List Int := l.foldl df []
theorem gQ (l : List Int) (z : Int) : gc (l ++ [z]) = df (gc l) z := by simp [gc]
theorem l8 {P : List Int → Prop} (h0 : P []) (h : ∀ l z, P l → P (l ++ [z])) (l : List Int) : P l := by
 have : ∀ (n : Nat) (l : List Int), l.length = n → P l := by
  intro n
  induction n with
  | zero => intro l hl; rw [List.length_eq_zero_iff.1 hl]; exact h0
  | succ n ih =>
   intro l hl
   have hne : l ≠ [] := fun e => by rw [e] at hl; simp at hl
   rw [← List.dropLast_concat_getLast hne]
   exact h _ _ (ih _ (by rw [List.length_dropLast]; omega))
 exact this _ l rfl
theorem l7 (l : List Int) : ∀ z ∈ l, z ∈ gc l := by
 refine l8 (P := fun l => ∀ z ∈ l, z ∈ gc l) (fun z hz => by cases hz) (fun l y ih z hz => ?_) l
 rw [gQ]
 rw [List.mem_append, List.mem_singleton] at hz
 rcases hz with hz | rfl
 ·exact so _ (ih z hz)
 ·exact j6 _ _
theorem tX (l : List Int) : (gc l).Nodup := by
 refine l8 (P := fun l => (gc l).Nodup) (by simp [gc]) (fun l y ih => ?_) l
 rw [gQ]
 exact k9 _ ih
theorem zC (l : List Int) : (gc l).length ≤ l.length := by
 refine l8 (P := fun l => (gc l).length ≤ l.length) (by simp [gc]) (fun l y ih => ?_) l
 rw [gQ, List.length_append, List.length_singleton]
 have := (oB (gc l) y).2
 omega
def eY (l : List Int) : List Int := l.map fun z => ((gc l).idxOf z : Nat)
theorem u1 (l : List Int) (z : Int) : eY (l ++ [z]) = eY l ++ [(((df (gc l) z).idxOf z : Nat) : Int)] := by
 unfold eY
 rw [gQ, List.map_append]
 congr 1
 refine List.map_congr_left fun y hy => ?_
 rw [oA _ (l7 l y hy)]
theorem fq (l : List Int) : (eY l).length = l.length := by simp [eY]
def d9 (n : Nat) (sets : List (List Int)) : List Int := eY (kS n sets).1
def f7 (l : List Int) : Int := l.foldl (fun m z => max m (z + 1)) 0
theorem nV : ∀ {l : List Int} {m : Int}, m ≤ l.foldl (fun m z => max m (z + 1)) m ∧ ∀ z ∈ l, z < l.foldl (fun m z => max m (z + 1)) m
 | [], m => ⟨Int.le_refl _, fun z hz => by cases hz⟩
 | a :: l, m => by
  obtain ⟨h1, h2⟩ := nV (l := l) (m := max m (a + 1))
  rw [List.foldl_cons]
  refine ⟨by omega, fun z hz => ?_⟩
  rw [List.mem_cons] at hz
  rcases hz with rfl | hz
  ·omega
  ·exact h2 z hz
theorem px : ∀ {l : List Int} {m k : Int}, m ≤ k → (∀ z ∈ l, z < k) → l.foldl (fun m z => max m (z + 1)) m ≤ k
 | [], _, _, h, _ => h
 | a :: l, m, k, h, hl => by
  rw [List.foldl_cons]
  exact px (by have := hl a (by simp); omega) fun z hz => hl z (by simp [hz])
theorem pD (n : Nat) (sets : List (List Int)) (h : ∀ s ∈ sets, (∀ g ∈ s, 0 ≤ g ∧ g < (n : Int)) ∧ s.Nodup) : (d9 n sets).length = n := by
 unfold d9
 rw [fq]
 exact (jZ h).len
theorem pC (n : Nat) (sets : List (List Int)) (h : ∀ s ∈ sets, (∀ g ∈ s, 0 ≤ g ∧ g < (n : Int)) ∧ s.Nodup) : ∀ z ∈ d9 n sets, 0 ≤ z ∧ z < n := by
 intro z hz
 have hl := (jZ h).len
 unfold d9 eY at hz
 obtain ⟨y, hy, rfl⟩ := List.mem_map.1 hz
 have h1 := List.idxOf_lt_length_of_mem (l7 _ y hy)
 have h2 := zC (kS n sets).1
 omega
theorem rZ (n : Nat) (sets : List (List Int)) (h : ∀ s ∈ sets, (∀ g ∈ s, 0 ≤ g ∧ g < (n : Int)) ∧ s.Nodup) : qV n (f7 (d9 n sets)).toNat (d9 n sets) sets := by
 refine ⟨pD n sets h, fun z hz => ?_, fun s hs i j z hi hj => ?_⟩
 ·have h1 := (pC n sets h z hz).1
  have h2 := (nV (l := d9 n sets) (m := 0)).2 z hz
  unfold f7
  omega
 ·unfold d9 eY at hi hj
  rw [List.getElem?_map, Option.map_eq_some_iff] at hi hj
  obtain ⟨x, hx, hx1⟩ := hi
  obtain ⟨y, hy, hy1⟩ := hj
  have hxy : x = y := uH (l7 _ x (Hx hx)) (l7 _ y (Hx hy)) (by omega)
  subst hxy
  exact (jZ h).apart s hs i j x hx hy
end Go.Proofs.YtamjlkdanllgjaaGreatDoor
namespace Go.Proofs.YtamjlkdanllgjaaGreatDoor
open Go.RowKit Go.MapKept
section
variable {P : Program} {fr : bJ} {B : Bs} {L : AL} {d : Option Tmp} {ty t : TypeId} {pos : String} {af : Array Edge} {g : Option (Nat × Bool)} {x y z : Operand} {u : AV}
theorem vo (i : Nat) {b kt et : Nat} {kd : TypeDesc} {m : Value → Option AV} {ks : List Value} (ht : P.underlying t = some (.map kt et)) (hx : bh fr x = some (.sc (.map (some b)))) (hL : L[i]? = some (b, bP kd m)) (hn : ks.Pairwise (· ≠ ·)) (hk : ∀ k, (m k).isSome = true ↔ k ∈ ks) :
    AO P ⟨d, .call ⟨.builtin .len, #[x], #[t]⟩, ty, pos, af, g⟩ fr B L (fun c L' => c = .sc (.int .i64 ks.length) ∧ L' = L) := by
  intro σ ρ w hρ hw
  obtain ⟨o, ho, hM⟩ := hw.here _ (Hx hL)
  have hM' : gw kd m σ o := hM
  obtain ⟨es, clock, rfl, h1, h2, h3⟩ := hM'
  have hl : es.size = ks.length := by
    have key : ∀ (es : List MapEntry) (ks : List Value), es.Pairwise (fun x y => x.key ≠ y.key) → ks.Pairwise (· ≠ ·) → (∀ k, (∃ x ∈ es, x.key = k) ↔ k ∈ ks) → es.length = ks.length := by
      intro es
      induction es with
      | nil =>
        intro ks _ _ h
        cases ks with
        | nil => rfl
        | cons k ks => obtain ⟨x, hx, _⟩ := (h k).2 (by simp); cases hx
      | cons e es ih =>
        intro ks he hks h
        obtain ⟨he1, he2⟩ := List.pairwise_cons.1 he
        obtain ⟨a, c, rfl⟩ := List.append_of_mem ((h e.key).1 ⟨e, by simp, rfl⟩)
        obtain ⟨p1, p2, p3⟩ := List.pairwise_append.1 hks
        obtain ⟨p4, p5⟩ := List.pairwise_cons.1 p2
        have := ih (a ++ c) he2 (List.pairwise_append.2 ⟨p1, p5, fun x hx y hy => p3 x hx y (by simp [hy])⟩) fun k => by
          constructor
          · rintro ⟨x, hx, rfl⟩
            have hm := (h x.key).1 ⟨x, by simp [hx], rfl⟩
            rw [List.mem_append, List.mem_cons] at hm
            rw [List.mem_append]
            rcases hm with hm | hm | hm
            · exact .inl hm
            · exact absurd hm.symm (he1 x hx)
            · exact .inr hm
          · intro hk
            obtain ⟨x, hx, hxk⟩ := (h k).2 (by rw [List.mem_append] at hk; rw [List.mem_append, List.mem_cons]; rcases hk with hk | hk; exact .inl hk; exact .inr (.inr hk))
            rcases List.mem_cons.1 hx with rfl | hx
            · exfalso
              rw [List.mem_append] at hk
              rcases hk with hk | hk
              · exact p3 k hk _ (List.mem_cons_self ..) hxk.symm
              · exact p4 k hk hxk
            · exact ⟨x, hx, hxk⟩
        rw [List.length_cons, this, List.length_append, List.length_append, List.length_cons]
        omega
    have := key es.toList ks h2 hn fun k => by
      rw [← hk]
      constructor
      · rintro ⟨x, hx, rfl⟩
        obtain ⟨_, c, hc, _⟩ := h1 x hx
        rw [hc]; rfl
      · intro h
        obtain ⟨c, hc⟩ := Option.isSome_iff_exists.1 h
        exact h3 k c hc
    simpa using this
  unfold fw
  have hg := MapKept.run_getObj_map (P := P) ho
  rw [show (execOp ρ ⟨d, .call ⟨.builtin .len, #[x], #[t]⟩, ty, pos, af, g⟩).run P w = .ok (.value (.int .i64 ks.length)) w by
    simp [execOp, resolve, (hρ x _ hx).sc_inv, invoke, builtin, Builtin.len_, run_underlying ht, hg, goInt, hl, Result.andThen]]
  exact ⟨σ, .sc _, _, bT.le_refl _, .sc _, hw, rfl, rfl⟩
end
section
variable {P : Program} {tt : TT} {r : Option Nat} {ops : Array Oper} {Q : Exit → Act → World → Prop} {nt : Nat} {D : List Deferred} {fr : bJ} {B : Bs} {L : AL} {rest : List Oper} {d : Nat} {ty t t' : TypeId} {pos : String} {af : Array Edge} {x y z : Operand} {u : AV}
theorem yE (i : Nat) (ks : List Value) {b kt et : Nat} {kd : TypeDesc} {m : Value → Option AV} (ht : P.underlying t = some (.map kt et)) (hx : bh fr x = some (.sc (.map (some b)))) (hL : L[i]? = some (b, bP kd m)) (hn : ks.Pairwise (· ≠ ·)) (hk : ∀ k, (m k).isSome = true ↔ k ∈ ks) (hd : Nat.ble nt d = false) (h : br P r ops Q nt D rest ((d, .sc (.int .i64 ks.length)) :: fr) B L) : br P r ops Q nt D (⟨some d, .call ⟨.builtin .len, #[x], #[t]⟩, ty, pos, af, none⟩ :: rest) fr B L :=
  bW hd rfl (vo i ht hx hL hn hk) fun c L' ⟨h1, h2⟩ => by subst h1; subst h2; exact h
end
end Go.Proofs.YtamjlkdanllgjaaGreatDoor
namespace Go.Proofs.YtamjlkdanllgjaaGreatDoor
open Go.RowKit
attribute [local irreducible] AT br AX AO Av Kt aW cZ DA cw
open Go.MapKept
abbrev KJ : TypeDesc := .int .i64
def GO (l : List Int) : Value → Option AV
 | .int .i64 z => if z ∈ l then some (ce true) else none
 | _ => none
def GM (f : aP) (n : Int) : Bool := match f.Glyphs[n.toNat]? with | some g => g.Mark | none => false
end Go.Proofs.YtamjlkdanllgjaaGreatDoor
namespace Go.Proofs.YtamjlkdanllgjaaGreatDoor
open Go.RowKit
attribute [local irreducible] AT br AX AO Av Kt aW cZ DA cw
def jx (l : List Int) : Prop := l.Pairwise (· < ·)
theorem za {l : List Int} (h : jx l) {i : Nat} {x y : Int} (hx : l[i]? = some x) (hy : l[i + 1]? = some y) : x < y := by
 obtain ⟨h1, h2⟩ := Hq hx
 obtain ⟨h3, h4⟩ := Hq hy
 have := List.pairwise_iff_getElem.1 h i (i + 1) h1 h3 (by omega)
 rw [h2, h4] at this
 exact this
theorem fA {l : List Int} (h : jx l) : l.Nodup := h.imp fun hlt => by omega
theorem qF (l : List Int) (h : jx l) : bw Tryz.prog 317 [.imm 1 (aT l)] (ce true) := by
 refine aG Tryz.func317 rfl Tryz.ntmps317 rfl fun B => ?_
 refine cJ 0 rfl rfl fun hlen => ?_
 have hll := bg l
 rw [hll] at hlen
 repeat' (first|refine ae ?_|refine a6 ?_|refine ar ?_|refine a8 ?_|refine aa ?_|refine ah a7 rfl rfl ?_)
 refine aI [0] (α := Nat) (fun i => [(3, aD ((i : Int) + 1))]) (fun i => i ≤ l.length) (fun _ => []) (fun i => l.length - i) 0 rfl ⟨rfl, trivial⟩ (Nat.zero_le _) (fun _ _ h => h) fun i hi => ?_
 try dsimp only [Ht, Hs, Hr, Hn]
 repeat' (first|refine ae ?_|refine a6 ?_|refine a8 ?_|refine aa ?_|refine ah a7 rfl rfl ?_)
 refine ay rfl (fun h1 => ?_) (fun h1 => ?_)
 ·have hil : i + 1 < l.length := by have := Hz h1; omega
  obtain ⟨x, hx⟩ : ∃ z, l[i]? = some z := ⟨_, Eg (by omega)⟩
  obtain ⟨y, hy⟩ : ∃ z, l[i + 1]? = some z := ⟨_, Eg hil⟩
  have hxy := za h hx hy
  have e1 : ((i : Int) + 1).toNat = i + 1 := by omega
  have e2 : ((i : Int) + 1 - 1).toNat = i := by omega
  have hxg : (aT l)[((i : Int) + 1 - 1).toNat]? = some [aD x] := by rw [e2]; exact bU hx
  have hyg : (aT l)[((i : Int) + 1).toNat]? = some [aD y] := by rw [e1]; exact bU hy
  clear h1
  repeat' (first|refine ae ?_|refine ar ?_|refine aq ?_|refine a8 ?_)
  refine bF 9 [(0, .v), (1, .v), (2, .v), (3, .v), (4, .v), (5, .v), (6, .v), (7, .v), (8, .v)] none ?_ trivial rfl (by kernel_rfl) (by kernel_rfl) (by kernel_rfl) mixed (by kernel_rfl) rfl
  repeat' (first|refine aM ?_|refine bD a7 ?_|(apply iM;refine m9 ?_)|(apply dk;refine dT a7 ?_)|fail)
  refine bM [0, 3, 13, 18] rfl rfl ?_
  repeat' (first|refine a8 ?_|refine aa ?_|refine ah a7 rfl rfl ?_)
  refine ay rfl (fun h2 => ?_) (fun _ => ?_)
  ·have := Hz h2
   omega
  repeat' (first|refine a6 ?_|refine aq ?_|refine a8 ?_|refine aR ?_|refine aa ?_|refine ah a7 rfl rfl ?_|(apply b6; refine aZ ?_)|fail)
  exact aF (i + 1) rfl ⟨by rw [Hw]; rfl, trivial⟩ (by omega) (by omega) (fun _ _ h => h)
 ·repeat' (first|refine ae ?_|refine a6 ?_|refine am ?_|refine aL ?_|refine a8 ?_|refine av ?_|refine aA ?_|refine az ?_|refine aa ?_|refine ah a7 rfl rfl ?_)
  exact au rfl rfl rfl
theorem zl (l : List Int) (h : jx l) : bw Tryz.prog 275 [.imm 1 (aT l)] (.imm 1 (aT l)) := by
 refine aG Tryz.func275 rfl Tryz.ntmps275 rfl fun B => ?_
 haveI := AD.mk (qF l h)
 repeat' (first|refine ae ?_|refine a6 ?_|refine am ?_|refine a8 ?_|refine aw ?_|refine aa ?_|refine ah a7 rfl rfl ?_|(apply bc;refine aX ?_)|refine bK rfl ?_)
 exact au rfl rfl rfl
def tM (k : Int) (t : List Int) : Value → Option AV
 | .int .i64 z => if t.contains z = true then some (aD (k + (t.idxOf z : Nat))) else none
 | _ => none
theorem zD (k : Int) : tM k [] = fun _ => none := by
 funext v
 unfold tM
 split <;> rfl
theorem qO {k : Int} {t : List Int} {z : Int} (h : z ∈ t) : tM k t (.int .i64 z) = some (aD (k + (t.idxOf z : Nat))) := if_pos (List.contains_iff_mem.2 h)
theorem va {k : Int} {t : List Int} {z : Int} (h : z ∉ t) : tM k t (.int .i64 z) = none := if_neg fun e => h (List.contains_iff_mem.1 e)
theorem zE {k : Int} {t : List Int} {z : Int} (h : z ∉ t) : tM k (df t z) (.int .i64 z) = some (aD (k + (t.length : Nat))) := by rw [qO (j6 t z), l6 h]
theorem v8 {k : Int} {t : List Int} {z : Int} (h : z ∉ t) : ∀ q, q ≠ .int .i64 z → tM k (df t z) q = tM k t q := by
 intro q hq
 unfold tM
 split
 ·rename_i y
  have hne : y ≠ z := fun e => hq (by rw [e])
  have hm : (df t z).contains y = t.contains y := by
   rw [eX h, Bool.eq_iff_iff, List.contains_iff_mem, List.contains_iff_mem]
   simp [hne]
  rw [hm]
  split
  ·rename_i hc
   rw [oA z (List.contains_iff_mem.1 hc)]
  ·rfl
 ·rfl
theorem BV (k : Int) (t : List Int) : ∀ v, (tM k t v).isSome = true ↔ v ∈ t.map (Value.int .i64) := by
 intro v
 unfold tM
 split
 ·rename_i z
  rw [List.mem_map]
  split
  ·rename_i hc
   exact ⟨fun _ => ⟨z, List.contains_iff_mem.1 hc, rfl⟩, fun _ => rfl⟩
  ·rename_i hc
   refine ⟨fun h => (by cases h), fun ⟨y, hy, he⟩ => ?_⟩
   cases he
   exact absurd (List.contains_iff_mem.2 hy) hc
 ·rename_i hv
  refine ⟨fun h => (by cases h), fun h => ?_⟩
  obtain ⟨y, _, rfl⟩ := List.mem_map.1 h
  exact absurd rfl (hv y)
theorem tq {t : List Int} (h : t.Nodup) : (t.map (Value.int .i64)).Pairwise (· ≠ ·) := List.pairwise_map.2 (h.imp fun hne e => hne (by cases e; rfl))
def cY (l : List Int) : List AV := l.map fun z => aD z
theorem fQ (l : List Int) : (cY l).length = l.length := by simp [cY]
theorem nv {l : List Int} {i : Nat} {z : Int} (h : l[i]? = some z) : (cY l)[0 + ((i : Nat) : Int).toNat * 1]? = some (aD z) := by simp [cY, h]
theorem fR {l : List Int} {i : Nat} {z : Int} : ew (cY l) (0 + ((i : Nat) : Int).toNat * 1) [aD z] = cY (l.set i z) := by
 rw [eT]
 unfold cY
 rw [List.map_set]
 simp
theorem m6 (n : Nat) : (List.replicate n [aD 0]).flatten = cY (List.replicate n 0) := by
 induction n with
 | zero => rfl
 | succ n ih => rw [List.replicate_succ, List.flatten_cons, ih, List.replicate_succ]; rfl
theorem m5 (l : List Int) : cY l = (aT l).flatten := by
 induction l with
 | nil => rfl
 | cons z l ih => simp [cY, aT] at ih ⊢; exact ih
theorem kq {mb cb : Nat} {M : AB} {c c' : List AV} (h : c = c') : [(mb, M), (cb, AB.box c 3)] = [(mb, M), (cb, .box c' 3)] := by rw [h]
theorem B5 {l : List Int} {g : Int} {z : Int} (h : l[g.toNat]? = some z) : l.getD g.toNat 0 = z := by rw [List.getD_eq_getElem?_getD, h]; rfl
theorem wO {l : List Int} {k : Nat} {z : Int} (h : l[k]? = some z) : (eY (l.take k) ++ l.drop k).set k ((df (gc (l.take k)) z).idxOf z : Nat) = eY (l.take (k + 1)) ++ l.drop (k + 1) := by
 have hk := (Hq h).1
 rw [List.set_append, if_neg (by rw [fq, List.length_take]; omega), fq, List.length_take, Nat.min_eq_left (by omega), Nat.sub_self, List.drop_eq_getElem_cons hk, List.set_cons_zero, List.take_add_one, h]
 dsimp only [Option.toList]
 rw [u1, List.append_assoc]
 rfl
theorem BY {l : List Int} {k : Nat} {z : Int} (h : l[k]? = some z) : (eY (l.take k) ++ l.drop k)[k]? = some z := by
 have hk := (Hq h).1
 rw [List.getElem?_append_right (by rw [fq, List.length_take]; omega), fq, List.length_take, Nat.min_eq_left (by omega), Nat.sub_self, List.getElem?_drop]
 exact h
theorem wJ {l : List Int} {k : Nat} {z : Int} (h : l[k]? = some z) : gc (l.take (k + 1)) = df (gc (l.take k)) z := by
 rw [List.take_add_one, h]
 exact gQ _ _
set_option maxHeartbeats 8000000 in
theorem oR (n : Nat) (h0 : 0 < n) (hn : n ≤ 65536) (sets : List (List Int)) (hs : ∀ s ∈ sets, jx s ∧ ∀ g ∈ s, 0 ≤ g ∧ g < (n : Int)) (hsl : sets.length ≤ 1000000) : bw Tryz.prog 218 [aD n, .imm 1 (ba sets)] (.imm 1 (aT (d9 n sets))) := by
 refine aG Tryz.func218 rfl Tryz.ntmps218 rfl fun B => ?_
 have hrl := c8 sets
 repeat' (first|refine ae ?_|refine a6 ?_|refine a8 ?_|refine aa ?_|refine ah a7 rfl rfl ?_)
 refine co [0, 1] False rfl (fun Q' K => ?_) (fun hC => hC.elim) (fun _ => ?_)
 ·repeat' (first|refine aa ?_|refine ah a7 rfl rfl ?_|refine aB rfl rfl ?_|refine aE rfl rfl rfl rfl ?_|refine aU rfl rfl rfl (fun _ => ?_) (fun _ => ?_))
  all_goals exact K _ _ rfl rfl (by simp_all <;> omega)
 repeat' (first|refine ae ?_|refine a6 ?_|refine aq ?_|refine a8 ?_|refine ah a7 rfl rfl ?_)
 refine dv a7 n rfl rfl rfl rfl rfl rfl rfl (by omega) (by omega) rfl fun cb => ?_
 rw [show (List.replicate n (List.map AV.sc [Value.int .i64 0])).flatten = cY (List.replicate n 0) from m6 n]
 repeat' (first|refine ae ?_|refine a6 ?_|refine ar ?_|refine a8 ?_|refine aa ?_|refine ah a7 rfl rfl ?_)
 refine aI [0, 5, 28, 29] (α := Nat × List Int × Int) (fun s => [(30, aD s.1), (6, aD s.2.2)]) (fun s => s.1 ≤ sets.length ∧ (sets.drop s.1).foldl ii (s.2.1, s.2.2) = kS n sets ∧ s.2.1.length = n ∧ 0 ≤ s.2.2 ∧ s.2.2 ≤ 1 + s.1 * 65536) (fun s => [(cb, .box (cY s.2.1) 3)]) (fun s => sets.length - s.1) (0, List.replicate n 0, 1) rfl ⟨rfl, rfl, trivial⟩ ⟨Nat.zero_le _, rfl, by simp, by dsimp only; omega, by dsimp only; omega⟩ (fun _ _ h => h) ?_
 ·rintro ⟨k, cls, k0⟩ ⟨hk, hf, hcl, hk0, hk1⟩
  dsimp only at hk hf hcl hk0 hk1 ⊢
  try dsimp only [Ht, Hs, Hr, Hn]
  repeat' (first|refine ae ?_|refine a6 ?_|refine a8 ?_|refine aa ?_|refine ah a7 rfl rfl ?_)
  refine ay rfl (fun h1 => ?_) (fun h1 => ?_)
  ·have hk2 : k < sets.length := by have := Hz h1; omega
   obtain ⟨s, hsk⟩ : ∃ z, sets[k]? = some z := ⟨_, Eg hk2⟩
   have hsg := gP hsk
   obtain ⟨hri, hdm⟩ := hs s (Hx hsk)
   have hsn : s.length ≤ n := ev (fA hri) hdm
   have hil := bg s
   haveI := AD.mk (zl s hri)
   rw [List.drop_eq_getElem_cons hk2, (Hq hsk).2, List.foldl_cons] at hf
   clear h1
   repeat' (first|refine ae ?_|refine a6 ?_|refine ar ?_|refine aq ?_|refine a8 ?_|refine aa ?_|refine ah a7 rfl rfl ?_|(apply aO; first|refine aN a7 ?_|refine aH a7 ?_)|fail)
   refine dg KJ fun mb => ?_
   rw [← zD k0]
   repeat' (first|refine ae ?_|refine a6 ?_|refine ar ?_|refine a8 ?_|refine aa ?_|refine ah a7 rfl rfl ?_|(apply bc;refine aX ?_)|fail)
   refine aI [0, 5, 9, 28, 29, 30, 36, 37] (α := Nat × List Int × List Int) (fun t => [(38, aD t.1), (6, aD (k0 + (t.2.2.length : Nat)))]) (fun t => t.1 ≤ s.length ∧ (s.drop t.1).foldl (fX k0) (t.2.1, t.2.2) = s.foldl (fX k0) (cls, []) ∧ t.2.1.length = n ∧ t.2.2.length ≤ t.1) (fun t => [(mb, bP KJ (tM k0 t.2.2)), (cb, .box (cY t.2.1) 3)]) (fun t => s.length - t.1) (0, cls, []) rfl ⟨rfl, by simp; rfl, trivial⟩ ⟨Nat.zero_le _, rfl, hcl, Nat.le_refl _⟩ (fun _ _ h => h) ?_
   rintro ⟨j, cl1, ap⟩ ⟨hj, hjf, hjl, hja⟩
   dsimp only at hj hjf hjl hja ⊢
   try dsimp only [Ht, Hs, Hr, Hn]
   repeat' (first|refine ae ?_|refine a6 ?_|refine a8 ?_|refine aa ?_|refine ah a7 rfl rfl ?_)
   refine ay rfl (fun h1 => ?_) (fun h1 => ?_)
   ·have hj2 : j < s.length := by have := Hz h1; omega
    obtain ⟨g, hg⟩ : ∃ z, s[j]? = some z := ⟨_, Eg hj2⟩
    have hgg := bU hg
    obtain ⟨hg0, hgn⟩ := hdm g (Hx hg)
    obtain ⟨z, hz⟩ : ∃ z, cl1[g.toNat]? = some z := ⟨_, Eg (by omega)⟩
    have hgt : ((g.toNat : Nat) : Int) = g := Int.toNat_of_nonneg hg0
    have hzc := nv hz
    rw [hgt] at hzc
    have hcc := fQ cl1
    have hput : ∀ y, ew (cY cl1) (0 + g.toNat * 1) [aD y] = cY (cl1.set g.toNat y) := fun y => by
     have := fR (l := cl1) (i := g.toNat) (z := y)
     rwa [hgt] at this
    rw [List.drop_eq_getElem_cons hj2, (Hq hg).2, List.foldl_cons] at hjf
    have hmk : fX k0 (cl1, ap) g = (cl1.set g.toNat (k0 + ((df ap z).idxOf z : Nat)), df ap z) := by
     unfold fX
     rw [B5 hz]
    rw [hmk] at hjf
    have hal := oB ap z
    clear h1
    repeat' (first|refine ae ?_|refine a6 ?_|refine ar ?_|refine aq ?_|refine a8 ?_|refine aa ?_|refine ah a7 rfl rfl ?_|(apply aO; first|refine aN a7 ?_|refine aH a7 ?_)|fail)
    refine co [0, 5, 6, 9, 11, 28, 29, 30, 36, 37, 38] False rfl (fun Q' K => ?_) (fun hC => hC.elim) (fun _ => ?_)
    ·repeat' (first|refine aa ?_|refine ah a7 rfl rfl ?_|refine aB rfl rfl ?_|refine aE rfl rfl rfl rfl ?_|refine aU rfl rfl rfl (fun _ => ?_) (fun _ => ?_))
     all_goals exact K _ _ rfl rfl (by simp_all <;> omega)
    repeat' (first|refine ae ?_|refine a6 ?_|refine aq ?_|refine a8 ?_|refine aa ?_|refine ah a7 rfl rfl ?_|(apply c9; first|refine aC a7 0 rfl rfl rfl rfl rfl ?_|refine aC a7 1 rfl rfl rfl rfl rfl ?_|refine aC a7 2 rfl rfl rfl rfl rfl ?_|refine aC a7 3 rfl rfl rfl rfl rfl ?_|refine aJ a7 0 rfl rfl rfl rfl rfl ?_|refine aJ a7 1 rfl rfl rfl rfl rfl ?_|refine aJ a7 2 rfl rfl rfl rfl rfl ?_|refine aC a7 1 rfl rfl rfl (by assumption) rfl ?_|refine aC a7 0 rfl rfl rfl (by assumption) rfl ?_|fail)|(apply aO; first|refine aN a7 ?_|refine aH a7 ?_)|fail)
    refine fj 0 (.int .i64 0) Tryz.underlying96 Tryz.underlying3 rfl rfl rfl rfl (by kernel_rfl) rfl ?_
    by_cases hm : z ∈ ap
    ·have hgs := qO (k := k0) hm
     have hta := ey hm
     rw [hta] at hjf
     rw [hgs]
     repeat' (first|refine ae ?_|refine a6 ?_|refine aq ?_|refine a8 ?_|refine aa ?_|refine ah a7 rfl rfl ?_|refine bi rfl ?_)
     refine iW 0 (.int .i64 0) Tryz.underlying96 Tryz.underlying3 rfl rfl rfl rfl (by kernel_rfl) rfl ?_
     rw [hgs]
     repeat' (first|(apply aO; first|refine aN a7 ?_|refine aH a7 ?_)|fail)
     refine aj a7 1 rfl rfl rfl rfl rfl rfl (Nat.ble_eq_true_of_le (by rw [hcc]; simp; omega)) ?_
     refine bq (bj (L' := [(mb, bP KJ (tM k0 ap)), (cb, .box (cY (cl1.set g.toNat (k0 + (ap.idxOf z : Nat)))) 3)]) (List.Perm.of_eq (kq (hput _)))) ?_
     repeat' (first|refine a6 ?_|refine a8 ?_|refine aR ?_|refine aa ?_|refine ah a7 rfl rfl ?_|(apply b6; refine aZ ?_)|fail)
     exact aF (j + 1, _, ap) rfl ⟨by rw [Hw]; rfl, rfl, trivial⟩ ⟨hj2, hjf, by rw [List.length_set]; exact hjl, by dsimp only; omega⟩ (by dsimp only; omega) (fun _ _ h => h)
    ·have hgn2 := va (k := k0) hm
     have hgp := zE (k := k0) hm
     have hnew := l6 hm
     have hnl : (df ap z).length = ap.length + 1 := by rw [eX hm, List.length_append, List.length_singleton]
     rw [hgn2]
     repeat' (first|refine ae ?_|refine a6 ?_|refine a8 ?_|refine aa ?_|refine ah a7 rfl rfl ?_|refine bK rfl ?_)
     refine cH 0 (tM k0 (df ap z)) Tryz.underlying96 Tryz.underlying3 rfl rfl rfl rfl rfl hgp (v8 hm) ?_
     repeat' (first|refine a6 ?_|refine a8 ?_|refine aa ?_|refine ah a7 rfl rfl ?_|(apply b6; refine aZ ?_)|fail)
     refine iW 0 (.int .i64 0) Tryz.underlying96 Tryz.underlying3 rfl rfl rfl rfl (by kernel_rfl) rfl ?_
     rw [hgp]
     repeat' (first|(apply aO; first|refine aN a7 ?_|refine aH a7 ?_)|fail)
     refine aj a7 1 rfl rfl rfl rfl rfl rfl (Nat.ble_eq_true_of_le (by rw [hcc]; simp; omega)) ?_
     refine bq (bj (L' := [(mb, bP KJ (tM k0 (df ap z))), (cb, .box (cY (cl1.set g.toNat (k0 + (ap.length : Nat)))) 3)]) (List.Perm.of_eq (kq (hput _)))) ?_
     repeat' (first|refine a6 ?_|refine a8 ?_|refine aR ?_|refine aa ?_|refine ah a7 rfl rfl ?_|(apply b6; refine aZ ?_)|fail)
     rw [hnew] at hjf
     refine aF (j + 1, _, df ap z) rfl ⟨by rw [Hw]; rfl, ?_, trivial⟩ ⟨hj2, hjf, by rw [List.length_set]; exact hjl, by dsimp only; omega⟩ (by dsimp only; omega) (fun _ _ h => h)
     show some (AV.sc (.int .i64 (k0 + (ap.length : Nat) + 1))) = some (aD (k0 + ((df ap z).length : Nat)))
     rw [hnl, Hw, Int.add_assoc]
     rfl
   ·have hj2 : j = s.length := by have := Hy h1; omega
    subst hj2
    rw [List.drop_length] at hjf
    have hjf2 : (cl1, ap) = s.foldl (fX k0) (cls, []) := hjf
    have hps : ii (cls, k0) s = (cl1, k0 + (ap.length : Nat)) := by
     unfold ii
     dsimp only
     rw [← hjf2]
    rw [hps] at hf
    clear h1
    repeat' (first|refine a6 ?_|refine aL ?_|refine a8 ?_|refine av ?_|refine aR ?_|refine aA ?_|refine az ?_|refine aa ?_|refine ah a7 rfl rfl ?_|(apply b6; refine aZ ?_)|fail)
    exact aF (k + 1, cl1, k0 + (ap.length : Nat)) rfl ⟨by rw [Hw]; rfl, rfl, trivial⟩ ⟨hk2, hf, hjl, by dsimp only; omega, by dsimp only; omega⟩ (by dsimp only; omega) (fun _ _ h => h.sublist (List.sublist_cons_self ..))
  ·have hk2 : k = sets.length := by have := Hy h1; omega
   subst hk2
   rw [List.drop_length] at hf
   have hf2 : (cls, k0) = kS n sets := hf
   have hpv : d9 n sets = eY cls := by unfold d9; rw [← hf2]
   rw [hpv]
   clear h1
   repeat' (first|refine ae ?_|refine a6 ?_|refine aL ?_|refine a8 ?_|refine av ?_|refine aA ?_|refine az ?_)
   refine dg KJ fun tb => ?_
   rw [← zD 0]
   repeat' (first|refine ae ?_|refine a6 ?_|refine ar ?_|refine a8 ?_|refine aa ?_|refine ah a7 rfl rfl ?_)
   refine aI [5, 15, 75, 76] (α := Nat) (fun i => [(77, aD i)]) (fun i => i ≤ cls.length) (fun i => [(tb, bP KJ (tM 0 (gc (cls.take i)))), (cb, .box (cY (eY (cls.take i) ++ cls.drop i)) 3)]) (fun i => cls.length - i) 0 rfl ⟨rfl, trivial⟩ (Nat.zero_le _) (fun _ _ h => h) fun i hi => ?_
   try dsimp only [Ht, Hs, Hr, Hn]
   repeat' (first|refine ae ?_|refine a6 ?_|refine a8 ?_|refine aa ?_|refine ah a7 rfl rfl ?_)
   refine ay rfl (fun h1 => ?_) (fun h1 => ?_)
   ·have hi2 : i < cls.length := by have := Hz h1; omega
    obtain ⟨z, hz⟩ : ∃ z, cls[i]? = some z := ⟨_, Eg hi2⟩
    have hzc := nv (BY hz)
    have hcc := fQ (eY (cls.take i) ++ cls.drop i)
    have hcl2 : (eY (cls.take i) ++ cls.drop i).length = cls.length := by rw [List.length_append, fq, List.length_take, List.length_drop]; omega
    have htc := wO hz
    have htt := wJ hz
    have hnd := tX (cls.take i)
    clear h1
    repeat' (first|refine ae ?_|refine a6 ?_|refine ar ?_|refine aq ?_|refine a8 ?_|refine aa ?_|refine ah a7 rfl rfl ?_|(apply c9; first|refine aC a7 0 rfl rfl rfl rfl rfl ?_|refine aC a7 1 rfl rfl rfl rfl rfl ?_|refine aC a7 2 rfl rfl rfl rfl rfl ?_|refine aC a7 3 rfl rfl rfl rfl rfl ?_|refine aJ a7 0 rfl rfl rfl rfl rfl ?_|refine aJ a7 1 rfl rfl rfl rfl rfl ?_|refine aJ a7 2 rfl rfl rfl rfl rfl ?_|refine aC a7 1 rfl rfl rfl (by assumption) rfl ?_|refine aC a7 0 rfl rfl rfl (by assumption) rfl ?_|fail)|(apply aO; first|refine aN a7 ?_|refine aH a7 ?_)|fail)
    refine fj 0 (.int .i64 0) Tryz.underlying96 Tryz.underlying3 rfl rfl rfl rfl (by kernel_rfl) rfl ?_
    by_cases hm : z ∈ gc (cls.take i)
    ·have hgs := qO (k := 0) hm
     have hta := ey hm
     rw [hta] at htc htt
     rw [hgs]
     repeat' (first|refine ae ?_|refine a6 ?_|refine aq ?_|refine a8 ?_|refine aa ?_|refine ah a7 rfl rfl ?_|refine bi rfl ?_)
     refine iW 0 (.int .i64 0) Tryz.underlying96 Tryz.underlying3 rfl rfl rfl rfl (by kernel_rfl) rfl ?_
     rw [hgs]
     repeat' (first|(apply aO; first|refine aN a7 ?_|refine aH a7 ?_)|fail)
     refine aj a7 1 rfl rfl rfl rfl rfl rfl (Nat.ble_eq_true_of_le (by rw [hcc, hcl2, Int.toNat_natCast]; show 0 + i * 1 + 1 ≤ _; omega)) ?_
     refine bq (bj (L' := [(tb, bP KJ (tM 0 (gc (cls.take i)))), (cb, .box (cY (eY (cls.take (i + 1)) ++ cls.drop (i + 1))) 3)]) (List.Perm.of_eq (kq (by rw [← htc, ← fR, Int.zero_add])))) ?_
     repeat' (first|refine a6 ?_|refine a8 ?_|refine aR ?_|refine aa ?_|refine ah a7 rfl rfl ?_|(apply b6; refine aZ ?_)|fail)
     exact aF (i + 1) rfl ⟨by rw [Hw]; rfl, trivial⟩ (by omega) (by omega) (fun _ _ h => by rw [htt]; exact h)
    ·have hgn2 := va (k := 0) hm
     have hgp := zE (k := 0) hm
     have hnew := l6 hm
     rw [hgn2]
     repeat' (first|refine ae ?_|refine a6 ?_|refine a8 ?_|refine aa ?_|refine ah a7 rfl rfl ?_|refine bK rfl ?_)
     refine yE 0 _ Tryz.underlying96 rfl rfl (tq hnd) (BV 0 _) rfl ?_
     rw [Hv]
     rw [Int.zero_add] at hgp
     repeat' (first|fail)
     refine cH 0 (tM 0 (df (gc (cls.take i)) z)) Tryz.underlying96 Tryz.underlying3 rfl rfl rfl rfl rfl hgp (v8 hm) ?_
     repeat' (first|refine a6 ?_|refine a8 ?_|refine aa ?_|refine ah a7 rfl rfl ?_)
     refine iW 0 (.int .i64 0) Tryz.underlying96 Tryz.underlying3 rfl rfl rfl rfl (by kernel_rfl) rfl ?_
     rw [hgp]
     repeat' (first|(apply aO; first|refine aN a7 ?_|refine aH a7 ?_)|fail)
     refine aj a7 1 rfl rfl rfl rfl rfl rfl (Nat.ble_eq_true_of_le (by rw [hcc, hcl2, Int.toNat_natCast]; show 0 + i * 1 + 1 ≤ _; omega)) ?_
     refine bq (bj (L' := [(tb, bP KJ (tM 0 (df (gc (cls.take i)) z))), (cb, .box (cY (eY (cls.take (i + 1)) ++ cls.drop (i + 1))) 3)]) (List.Perm.of_eq (kq (by rw [← htc, ← fR, hnew])))) ?_
     repeat' (first|refine a6 ?_|refine a8 ?_|refine aR ?_|refine aa ?_|refine ah a7 rfl rfl ?_|(apply b6; refine aZ ?_)|fail)
     exact aF (i + 1) rfl ⟨by rw [Hw]; rfl, trivial⟩ (by omega) (by omega) (fun _ _ h => by rw [htt]; exact h)
   ·have hi2 : i = cls.length := by have := Hy h1; omega
    subst hi2
    rw [List.take_length, List.drop_length, List.append_nil]
    clear h1
    repeat' (first|refine ae ?_|refine a6 ?_|refine am ?_|refine aL ?_|refine a8 ?_|refine av ?_|refine aA ?_|refine az ?_|refine aa ?_|refine ah a7 rfl rfl ?_)
    have htl := fq cls
    have hcc := fQ (eY cls)
    refine bf (cy (t := 4) (sz := 1) (n := n) (cap := n) (l := aT (eY cls)) 1 rfl rfl ?_ (by omega) (fun e he => ?_) (by rw [bg]; omega) (Nat.le_refl _) (by unfold maxLen; omega)) ?_
    ·rw [← m5, Nat.mul_one, List.take_of_length_le (by omega)]
    ·unfold aT at he
     obtain ⟨y, _, rfl⟩ := List.mem_map.1 he
     rfl
    refine cB (List.nil_sublist _) ?_
    exact au rfl rfl rfl
abbrev Pl := Nat × Nat
section
variable {cls : List Int} {rows : List (List (List Int))} {have_ : Nat → Bool} {L : Nat}
theorem pY (hL : ∀ r ∈ rows, r.length ≤ L) {p : Pl} {c : Nat} (h : (bN cls rows p c).2 ≠ 0) : (bN cls rows p c).1 ≤ L ∧ (bN cls rows p c).2 < 2 ^ rows.length ∧ bN cls rows p c = (p.1 + 1, p.2 &&& gH cls rows p.1 c) := by
 unfold bN at h ⊢
 split
 ·rename_i h0
  rw [if_pos h0] at h
  exact absurd rfl h
 ·rename_i h0
  refine ⟨?_, Nat.lt_of_le_of_lt Nat.and_le_right (nl _ _), rfl⟩
  have hn : gH cls rows p.1 c ≠ 0 := fun e => h0 (by rw [e, Nat.and_zero])
  have : ¬ ∀ i, i < rows.length → jE cls rows p.1 c i = false := fun hh => hn (nm.2 hh)
  apply Classical.byContradiction
  intro hlt
  refine this fun i hi => ?_
  unfold jE
  rw [Eg hi]
  dsimp only
  rw [List.getElem?_eq_none (by have := hL _ (List.getElem_mem hi); dsimp only at hlt; omega)]
structure gx (rows : List (List (List Int))) (have_ : Nat → Bool) (L : Nat) (M : List Pl) : Prop where
 first : M[0]? = some (jU rows have_)
 nodup : M.Nodup
 small : ∀ p ∈ M, p.1 ≤ L ∧ p.2 < 2 ^ rows.length
theorem gx.start : gx rows have_ L [jU rows have_] := ⟨rfl, by simp, fun p hp => by
 rw [List.mem_singleton] at hp
 subst hp
 exact ⟨Nat.zero_le _, nl _ _⟩⟩
theorem gx.meet {M : List Pl} (h : gx rows have_ L M) (hL : ∀ r ∈ rows, r.length ≤ L) {p : Pl} {c : Nat} (hne : (bN cls rows p c).2 ≠ 0) : gx rows have_ L (df M (bN cls rows p c)) := by
 refine ⟨l4 _ h.first, k9 _ h.nodup, fun q hq => ?_⟩
 by_cases hm : bN cls rows p c ∈ M
 ·rw [ey hm] at hq; exact h.small q hq
 ·rw [eX hm, List.mem_append, List.mem_singleton] at hq
  rcases hq with hq | rfl
  ·exact h.small q hq
  ·have := pY hL hne
   exact ⟨this.1, this.2.1⟩
theorem gx.few {M : List Pl} (h : gx rows have_ L M) : M.length ≤ (L + 1) * 2 ^ rows.length := by
 have hk : 0 < 2 ^ rows.length := Nat.pow_pos (by omega)
 have hs := h.small
 generalize 2 ^ rows.length = K at hk hs
 have h1 : (M.map fun p : Pl => ((p.1 * K + p.2 : Nat) : Int)).Nodup := by
  refine List.pairwise_map.2 (h.nodup.imp_of_mem fun {a b} ha hb hab => fun e => hab ?_)
  have e' : a.1 * K + a.2 = b.1 * K + b.2 := by omega
  have ha2 := (hs a ha).2
  have hb2 := (hs b hb).2
  have e1 : a.1 = b.1 := by
   have h3 : (a.1 * K + a.2) / K = a.1 := by rw [Nat.mul_comm, Nat.mul_add_div hk, Nat.div_eq_of_lt ha2, Nat.add_zero]
   have h4 : (b.1 * K + b.2) / K = b.1 := by rw [Nat.mul_comm, Nat.mul_add_div hk, Nat.div_eq_of_lt hb2, Nat.add_zero]
   rw [← h3, ← h4, e']
  exact Prod.ext e1 (by rw [e1] at e'; omega)
 have h2 := ev (n := (L + 1) * K) h1 fun z hz => by
  obtain ⟨p, hp, rfl⟩ := List.mem_map.1 hz
  obtain ⟨a1, a2⟩ := hs p hp
  have : p.1 * K + p.2 < (L + 1) * K := by
   have : p.1 * K ≤ L * K := Nat.mul_le_mul_right _ a1
   rw [Nat.add_mul, Nat.one_mul]
   omega
  exact ⟨by omega, by omega⟩
 rwa [Hv] at h2
def gj (cls : List Int) (rows : List (List (List Int))) (M : List Pl) (p : Pl) (c : Nat) (z : Int) : Prop :=
 ((bN cls rows p c).2 = 0 ∧ z = -1) ∨ ((bN cls rows p c).2 ≠ 0 ∧ 0 ≤ z ∧ M[z.toNat]? = some (bN cls rows p c))
theorem gj.more {M : List Pl} {p q : Pl} {c : Nat} {z : Int} (h : gj cls rows M p c z) : gj cls rows (df M q) p c z := by
 rcases h with h | ⟨h1, h2, h3⟩
 ·exact Or.inl h
 ·exact Or.inr ⟨h1, h2, l4 _ h3⟩
theorem gj.new {M : List Pl} {p : Pl} {c : Nat} (h : (bN cls rows p c).2 ≠ 0) : gj cls rows (df M (bN cls rows p c)) p c ((df M (bN cls rows p c)).idxOf (bN cls rows p c) : Nat) :=
 Or.inr ⟨h, by omega, by rw [Int.toNat_natCast]; exact BU⟩
structure f9 (cls : List Int) (rows : List (List (List Int))) (C : Nat) (M : List Pl) (tab : List (List Int)) (ends : List Nat) : Prop where
 len : ends.length = tab.length
 ends : ∀ (i : Nat) p, i < tab.length → M[i]? = some p → ends[i]? = some (gB rows p)
 tab : ∀ (i : Nat) p q, M[i]? = some p → tab[i]? = some q → q.length = C ∧ ∀ (c : Nat) z, q[c]? = some z → gj cls rows M p c z
theorem f9.nil {C : Nat} {M : List Pl} : f9 cls rows C M [] [] := ⟨rfl, fun i p h => by simp at h, fun i p q _ h => by simp at h⟩
theorem f9.more {C : Nat} {M : List Pl} {tab : List (List Int)} {ends : List Nat} (h : f9 cls rows C M tab ends) (hl : tab.length ≤ M.length) (q : Pl) : f9 cls rows C (df M q) tab ends := by
 have hb : ∀ (i : Nat) p, i < tab.length → (df M q)[i]? = some p → M[i]? = some p := fun i p hi hp => by
  obtain ⟨x, hx⟩ : ∃ x, M[i]? = some x := ⟨_, Eg (by omega)⟩
  have := l4 q hx
  rw [hp] at this
  cases this
  exact hx
 refine ⟨h.len, fun i p hi hp => h.ends i p hi (hb i p hi hp), fun i p r hp hr => ?_⟩
 obtain ⟨h1, h2⟩ := h.tab i p r (hb i p (Hq hr).1 hp) hr
 exact ⟨h1, fun c z hz => (h2 c z hz).more⟩
theorem f9.snoc {C : Nat} {M : List Pl} {tab : List (List Int)} {ends : List Nat} (h : f9 cls rows C M tab ends) {p : Pl} {eg : List Int} (hp : M[tab.length]? = some p) (hr : eg.length = C) (hc : ∀ (c : Nat) z, eg[c]? = some z → gj cls rows M p c z) : f9 cls rows C M (tab ++ [eg]) (ends ++ [gB rows p]) := by
 refine ⟨by simp [h.len], fun i q hi hq => ?_, fun i q r hq hr' => ?_⟩
 ·rw [List.length_append, List.length_singleton] at hi
  by_cases hit : i < tab.length
  ·rw [List.getElem?_append_left (by rw [h.len]; exact hit)]
   exact h.ends i q hit hq
  ·have e : i = tab.length := by omega
   subst e
   rw [hp] at hq
   cases hq
   rw [List.getElem?_append_right (by rw [h.len]; exact Nat.le_refl _), h.len, Nat.sub_self]
   rfl
 ·by_cases hit : i < tab.length
  ·rw [List.getElem?_append_left hit] at hr'
   exact h.tab i q r hq hr'
  ·rw [List.getElem?_append_right (by omega)] at hr'
   have hi0 : i - tab.length = 0 := by
    have := (Hq hr').1
    simp at this
    omega
   have e : i = tab.length := by omega
   subst e
   rw [Nat.sub_self] at hr'
   simp at hr'
   subst hr'
   rw [hp] at hq
   cases hq
   exact ⟨hr, hc⟩
theorem f9.done {C : Nat} {M : List Pl} {tab : List (List Int)} {ends : List Nat} (h : f9 cls rows C M tab ends) (hs : gx rows have_ L M) (hl : tab.length = M.length) : oW cls rows have_ C tab ends :=
 ⟨M, hs.first, hl.symm, by rw [h.len, hl], fun i p hp => h.ends i p (by rw [hl]; exact (Hq hp).1) hp, fun i p q hp hq => h.tab i p q hp hq⟩
end
end Go.Proofs.YtamjlkdanllgjaaGreatDoor
namespace Go.Proofs.YtamjlkdanllgjaaGreatDoor
open Go.RowKit
section
variable {P : Program} {fr : bJ} {B : Bs} {L : AL} {d : Option Tmp} {ty t t' : TypeId} {pos : String} {af : Array Edge} {g : Option (Nat × Bool)} {x y z : Operand} {u : AV}
theorem D0 {dd : Option Tmp} {k kk : IntKind} {a b : Int} (i : Nat) (hx : bh fr x = some (.sc (.int k a))) (hy : bh fr y = some (.sc (.int kk b))) (hb : b = (i : Int)) : Av P ⟨dd, .binOp .shl t x y t', ty, pos, af, g⟩ fr (.sc (.int k (k.wrap (a * 2 ^ min i k.bits)))) := by
 intro σ ρ w hρ _
 subst hb
 refine ⟨_, ?_, .sc _⟩
 have h := shift_shl_any k kk a (i : Int) (Int.natCast_nonneg i)
 simp [execOp, (hρ x _ hx).sc_inv, (hρ y _ hy).sc_inv, eqGuard, binOp, h]
theorem x6 {dd : Option Tmp} {n e sz b : Nat} (ha : P.underlying t = some (.array n e)) (hs : (P.info? e).map (·.size) = some sz) (hx : bh fr x = some (.sc (.pointer (some ⟨b, 0, none⟩)))) : Av P ⟨dd, .slice t x none none none, ty, pos, af, g⟩ fr (.sc (.slice (some ⟨b, 0, none⟩) n n)) := by
 intro σ ρ w hρ _
 refine ⟨_, ?_, .sc _⟩
 obtain ⟨i, hi, hi2⟩ : ∃ i, P.info? e = some i ∧ i.size = sz := by
  cases hi : P.info? e with
  | none => rw [hi] at hs; cases hs
  | some i => rw [hi] at hs; exact ⟨i, rfl, by simpa using hs⟩
 simp [execOp, (hρ x _ hx).sc_inv, Instr.sliceAt, Instr.sliceBounds, Instr.sureAddr, run_underlying ha, sizeOf, typeInfo, hi, dY]
theorem vm (i : Nat) {dd : Option Tmp} {e sz by_ b n cap : Nat} {e' : TypeId} (ns : List Int) (hs : ke P t e sz by_) (he : zQ P e .u8) (hd : zR P t') (hx : bh fr x = some (.sc (.slice (some ⟨b, 0, none⟩) n cap))) (hL : L[i]? = some (b, .box (ns.map fun z => .sc (.int .u8 z)) e')) (hn : ns.length = n) :
  AO P ⟨dd, .convert t t' x, ty, pos, af, g⟩ fr B L (fun c L' => c = .sc (.string (ns.foldl (fun r n => r.push (UInt8.ofNat n.toNat)) ByteArray.empty)) ∧ L' = L) := by
 intro σ ρ w hρ hw
 obtain ⟨o, ho, vs, rfl, hvs, h1⟩ := hw.here _ (Hx hL)
 have hvs' : vs = ns.map (Value.int .u8) := by
  have hl := hvs.1
  rw [Hv] at hl
  apply List.ext_getElem?
  intro j
  by_cases hj : j < ns.length
  ·obtain ⟨z, hz⟩ : ∃ z, ns[j]? = some z := ⟨_, Eg hj⟩
   obtain ⟨v, hv⟩ : ∃ v, vs[j]? = some v := ⟨_, Eg (by omega)⟩
   have := hvs.2 j _ v (by rw [List.getElem?_map, hz]; rfl) hv
   rw [hv, List.getElem?_map, hz, this.sc_inv]
   rfl
  ·rw [List.getElem?_eq_none (by omega), List.getElem?_eq_none (by rw [Hv]; omega)]
 have hload : (loadCells ⟨b, 0, none⟩ n).run P w = .ok (ns.map (Value.int .u8)).toArray w := by
  have := run_loadCells_list (P := P) w ⟨b, 0, none⟩ vs fun j v hj => by
   rw [dY, Nat.zero_add, cC ho]
   simpa using hj
  rw [← hvs.1, Hv, hn] at this
  rw [this, hvs']
 have hr := run_bytesToString (P := P) w ⟨b, 0, none⟩ n cap ns hload
 haveI := hs
 unfold fw
 rw [show (execOp ρ ⟨dd, .convert t t' x, ty, pos, af, g⟩).run P w = .ok (.value (.string (ns.foldl (fun r n => r.push (UInt8.ofNat n.toNat)) ByteArray.empty))) w by
  simp [execOp, (hρ x _ hx).sc_inv, run_convert_bytes_string w t t' e _ _ _ hs.under he.under hd.under, hr]]
 exact ⟨σ, .sc _, _, bT.le_refl _, .sc _, hw, rfl, rfl⟩
end
section
variable {P : Program} {tt : TT} {r : Option Nat} {ops : Array Oper} {Q : Exit → Act → World → Prop} {nt : Nat} {D : List Deferred} {fr : bJ} {B : Bs} {L : AL} {rest : List Oper} {d : Nat} {ty t t' : TypeId} {pos : String} {af : Array Edge} {x y z : Operand} {u : AV}
theorem yC (ok : dG P tt) {n e sz b : Nat} (ha : sP tt t = some (n, e, sz)) (hx : bh fr x = some (.sc (.pointer (some ⟨b, 0, none⟩)))) (hd : Nat.ble nt d = false) (h : br P r ops Q nt D rest ((d, .sc (.slice (some ⟨b, 0, none⟩) n n)) :: fr) B L) : br P r ops Q nt D (⟨some d, .slice t x none none none, ty, pos, af, none⟩ :: rest) fr B L :=
 cg (x6 (fK ok ha).1 (fK ok ha).2 hx) hd rfl h
theorem yA (ok : dG P tt) (i : Nat) (ns : List Int) {e sz by_ b n cap : Nat} {e' : TypeId} {ti ti' : TI} (ht : jH tt t = some (e, sz, by_)) (he : cX tt e = some ti) (hk : ti.k = .int .u8) (ht' : cX tt t' = some ti') (hk' : ti'.k = .str) (hx : bh fr x = some (.sc (.slice (some ⟨b, 0, none⟩) n cap))) (hL : L[i]? = some (b, .box (ns.map fun z => .sc (.int .u8 z)) e')) (hn : ns.length = n) (hd : Nat.ble nt d = false) (h : br P r ops Q nt D rest ((d, .sc (.string (ns.foldl (fun r n => r.push (UInt8.ofNat n.toNat)) ByteArray.empty))) :: fr) B L) : br P r ops Q nt D (⟨some d, .convert t t' x, ty, pos, af, none⟩ :: rest) fr B L :=
 bW hd rfl (vm i ns (bz ok ht).1 (ok.int he hk) (ok.str ht' hk') hx hL hn) fun c L' ⟨h1, h2⟩ => by subst h1; subst h2; exact h
end
section
variable {P : Program} {tt : TT} {l : List Oper} {fr : bJ} {fin : lc} {sk : mI} {acc : bJ} {L : AL} {k : Nat} {dd : Option Tmp} {ty t t' : TypeId} {pos : String} {af : Array Edge} {g : Option (Nat × Bool)} {x y : Operand} {u : AV}
theorem t8 (i : Nat) {q q' : IntKind} {a b : Int} (hx : bh (cO l.toArray acc fr af.toList) x = some (.sc (.int q a))) (hy : bh (cO l.toArray acc fr af.toList) y = some (.sc (.int q' b))) (hb : b = (i : Int)) (hg : jL ⟨dd, .binOp .shl t x y t', ty, pos, af, g⟩ acc) (h : DA P l fr fin sk ((k, .sc (.int q (q.wrap (a * 2 ^ min i q.bits)))) :: acc) L) : cw P l fr fin k .v ⟨dd, .binOp .shl t x y t', ty, pos, af, g⟩ sk acc L := gp hg (Fj (D0 i hx hy hb)) h
theorem Aq {q : IntKind} {a b : Int} (hx : bh (cO l.toArray acc fr af.toList) x = some (.sc (.int q a))) (hy : bh (cO l.toArray acc fr af.toList) y = some (.sc (.int q b))) (hg : jL ⟨dd, .binOp .or t x y t', ty, pos, af, g⟩ acc) (h : DA P l fr fin sk ((k, .sc (.int q (bits .or q a b))) :: acc) L) : cw P l fr fin k .v ⟨dd, .binOp .or t x y t', ty, pos, af, g⟩ sk acc L := gp hg (Fj (u9 hx hy)) h
end
end Go.Proofs.YtamjlkdanllgjaaGreatDoor
