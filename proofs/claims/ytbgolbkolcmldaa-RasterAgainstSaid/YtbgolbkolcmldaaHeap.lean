/-
  What is known of the heap: the caller's blocks are as they were (but for those that may be written), and a list of blocks of the call's own.
-/
import Derived.Test.YtbgolbkolcmldaaCore
import Derived.Laws.AppendOwn
import Derived.Laws.IdiomCopy
namespace Go.Proofs.Ytbgolbkolcmldaa
open Go.RowKit

abbrev HL := List (Nat × (Obj → Prop))

/-- a block of just these cells -/
def bx (cs : List Value) (t : TypeId) : Obj → Prop := fun o => o = .cells cs.toArray t (0, 0)

/-- a row with spare room: the first n elements are xs -/
def row (e : TypeId) (sz n cap : Nat) (xs : List Value) : Obj → Prop := fun o =>
  ∃ cur : Array Value, o = .cells cur e (0, 0) ∧ cur.size = cap * sz ∧ cur.toList.take (n * sz) = xs ∧ xs.length = n * sz ∧ n ≤ cap ∧ cap ≤ maxLen

structure St (w0 : World) (X : List Nat) (L : HL) (w : World) : Prop where
  os : w.os = w0.os
  tape : w.tape = w0.tape
  output : w.output = w0.output
  size : w0.heap.size ≤ w.heap.size
  old : ∀ k, k < w0.heap.size → k ∉ X → w.heap[k]? = w0.heap[k]?
  here : ∀ p ∈ L, ∃ o, w.heap[p.1]? = some o ∧ p.2 o
  mine : ∀ p ∈ L, w0.heap.size ≤ p.1 ∨ p.1 ∈ X
  apart : (L.map (·.1)).Nodup

/-- all blocks that there were are as they were -/
abbrev Ext (w w' : World) : Prop := Below w.heap.size w w'

theorem Ext.refl (w : World) : Ext w w := Below.refl _ _
theorem Ext.trans {a b c : World} (h : Ext a b) (k : Ext b c) : Ext a c := Below.trans h (Below.mono k h.size)

theorem St.init (w : World) (X : List Nat) : St w X [] w := ⟨rfl, rfl, rfl, Nat.le_refl _, fun _ _ _ => rfl, by simp, by simp, by simp⟩

theorem St.ext {w0 : World} {X : List Nat} {L : HL} {w w' : World} (h : St w0 X L w) (e : Ext w w') : St w0 X L w' :=
  ⟨e.os.trans h.os, e.tape.trans h.tape, e.output.trans h.output, Nat.le_trans h.size e.size, fun k hk hx => (e.block k (Nat.lt_of_lt_of_le hk h.size)).trans (h.old k hk hx),
   fun p hp => by
    obtain ⟨o, ho, hq⟩ := h.here p hp
    exact ⟨o, (e.block p.1 (Array.getElem?_eq_some_iff.1 ho).1).trans ho, hq⟩, h.mine, h.apart⟩

theorem St.toExt {w0 : World} {L : HL} {w : World} (h : St w0 [] L w) : Ext w0 w := ⟨h.os, h.tape, h.output, h.size, fun k hk => h.old k hk (by simp)⟩

theorem St.drew {w0 : World} {X : List Nat} {L : HL} {w : World} (h : St w0 X L w) (n : Nat) : St w0 X L { w with drawn := n } := ⟨h.os, h.tape, h.output, h.size, h.old, h.here, h.mine, h.apart⟩

theorem St.lt {w0 : World} {X : List Nat} {L : HL} {w : World} (h : St w0 X L w) {p : Nat × (Obj → Prop)} (hp : p ∈ L) : p.1 < w.heap.size := by
  obtain ⟨o, ho, _⟩ := h.here p hp
  exact (Array.getElem?_eq_some_iff.1 ho).1

/-- a new block -/
theorem St.alloc {w0 : World} {X : List Nat} {L : HL} {w : World} (h : St w0 X L w) (o : Obj) {q : Obj → Prop} (hq : q o) : St w0 X ((w.heap.size, q) :: L) (w.alloc o) := by
  have hnew : (w.alloc o).heap[w.heap.size]? = some o := World.alloc_heap_new w o
  refine ⟨h.os, h.tape, h.output, Nat.le_trans h.size (by simp), fun k hk hx => (Below.heap_alloc w o k (Nat.lt_of_lt_of_le hk h.size)).trans (h.old k hk hx), ?_, ?_, ?_⟩
  · intro p hp
    rcases List.mem_cons.1 hp with rfl | hp
    · exact ⟨o, hnew, hq⟩
    · obtain ⟨o', ho, hq⟩ := h.here p hp
      exact ⟨o', (Below.heap_alloc w o p.1 (Array.getElem?_eq_some_iff.1 ho).1).trans ho, hq⟩
  · intro p hp
    rcases List.mem_cons.1 hp with rfl | hp
    · exact .inl h.size
    · exact h.mine p hp
  · simp only [List.map_cons, List.nodup_cons]
    refine ⟨?_, h.apart⟩
    intro hm
    obtain ⟨p, hp, he⟩ := List.mem_map.1 hm
    have := h.lt hp
    omega

/-- fewer blocks, in another order -/
theorem St.sub {w0 : World} {X : List Nat} {L L' : HL} {w : World} (h : St w0 X L w) (hs : ∀ p ∈ L', p ∈ L) (hn : (L'.map (·.1)).Nodup) : St w0 X L' w :=
  ⟨h.os, h.tape, h.output, h.size, h.old, fun p hp => h.here p (hs p hp), fun p hp => h.mine p (hs p hp), hn⟩

theorem St.sublist {w0 : World} {X : List Nat} {L L' : HL} {w : World} (h : St w0 X L w) (hs : L'.Sublist L) : St w0 X L' w :=
  h.sub (fun _ hp => hs.subset hp) (h.apart.sublist (hs.map _))

theorem St.perm {w0 : World} {X : List Nat} {L L' : HL} {w : World} (h : St w0 X L w) (hs : L.Perm L') : St w0 X L' w :=
  h.sub (fun _ hp => hs.mem_iff.2 hp) ((hs.map _).nodup_iff.1 h.apart)

theorem St.imp {w0 : World} {X : List Nat} {L : HL} {b : Nat} {q q' : Obj → Prop} {w : World} (h : St w0 X ((b, q) :: L) w) (hq : ∀ o, q o → q' o) : St w0 X ((b, q') :: L) w :=
  ⟨h.os, h.tape, h.output, h.size, h.old, fun p hp => by
    rcases List.mem_cons.1 hp with rfl | hp
    · obtain ⟨o, ho, hh⟩ := h.here (b, q) (List.mem_cons_self ..)
      exact ⟨o, ho, hq o hh⟩
    · exact h.here p (List.mem_cons_of_mem _ hp), fun p hp => by
    rcases List.mem_cons.1 hp with rfl | hp
    · exact h.mine (b, q) (List.mem_cons_self ..)
    · exact h.mine p (List.mem_cons_of_mem _ hp), h.apart⟩

/-- one block of the list is written -/
theorem St.put {w0 : World} {X : List Nat} {L : HL} {b : Nat} {q q' : Obj → Prop} {w w' : World} (h : St w0 X ((b, q) :: L) w) (hg : w.grownBy w' (some b)) {o' : Obj} (ho : w'.heap[b]? = some o') (hq : q' o') : St w0 X ((b, q') :: L) w' := by
  have hmine := h.mine (b, q) (List.mem_cons_self ..)
  refine ⟨hg.os.trans h.os, hg.tape.trans h.tape, hg.output.trans h.output, Nat.le_trans h.size hg.size, ?_, ?_, ?_, h.apart⟩
  · intro k hk hx
    refine (hg.block k (Nat.lt_of_lt_of_le hk h.size) ?_).trans (h.old k hk hx)
    rintro ⟨⟩
    rcases hmine with hm | hm
    · simp only at hm; omega
    · exact hx hm
  · intro p hp
    rcases List.mem_cons.1 hp with rfl | hp
    · exact ⟨o', ho, hq⟩
    · obtain ⟨o, ho, hq⟩ := h.here p (List.mem_cons_of_mem _ hp)
      refine ⟨o, (hg.block p.1 (Array.getElem?_eq_some_iff.1 ho).1 ?_).trans ho, hq⟩
      intro e
      injection e with e
      have := h.apart
      simp only [List.map_cons, List.nodup_cons] at this
      exact this.1 (List.mem_map.2 ⟨p, hp, e⟩)
  · intro p hp
    rcases List.mem_cons.1 hp with rfl | hp
    · exact hmine
    · exact h.mine p (List.mem_cons_of_mem _ hp)

theorem grownBy_setCell (w : World) (b k : Nat) (v : Value) : w.grownBy (w.setCell ⟨b, k, none⟩ v) (some b) :=
  ⟨rfl, rfl, rfl, by simp [World.setCell], fun i _ hi => Below.heap_setCell w ⟨b, k, none⟩ v i (fun e => hi (by rw [e]))⟩

theorem heap_setCell_same {w : World} {b k : Nat} {v : Value} {cs : Array Value} {t : TypeId} {f : Nat × Nat} (h : w.heap[b]? = some (.cells cs t f)) : (w.setCell ⟨b, k, none⟩ v).heap[b]? = some (.cells (cs.setIfInBounds k v) t f) := by
  simp [World.setCell, Array.getElem?_modify, h]

theorem setCells_heap (b : Nat) : ∀ (vs : List Value) (k : Nat) (w : World) (cs : Array Value) (t : TypeId) (f : Nat × Nat), w.heap[b]? = some (.cells cs t f) →
    w.grownBy (w.setCells b k vs) (some b) ∧ ∃ cs' : Array Value, (w.setCells b k vs).heap[b]? = some (.cells cs' t f) ∧ cs'.size = cs.size ∧ ∀ j, cs'[j]? = if k ≤ j ∧ j < k + vs.length ∧ j < cs.size then vs[j - k]? else cs[j]?
  | [], k, w, cs, t, f, h => ⟨⟨rfl, rfl, rfl, Nat.le_refl _, fun _ _ _ => rfl⟩, cs, h, rfl, fun j => by rw [if_neg]; simp; omega⟩
  | v :: r, k, w, cs, t, f, h => by
    have h1 := heap_setCell_same (k := k) (v := v) h
    obtain ⟨hg, cs', hc, hs, hj⟩ := setCells_heap b r (k + 1) _ _ t f h1
    have g1 := grownBy_setCell w b k v
    refine ⟨⟨hg.os.trans g1.os, hg.tape.trans g1.tape, hg.output.trans g1.output, Nat.le_trans g1.size hg.size, fun i hi hne => (hg.block i (Nat.lt_of_lt_of_le hi g1.size) hne).trans (g1.block i hi hne)⟩, cs', hc, by simpa using hs, ?_⟩
    intro j
    rw [hj j]
    simp only [Array.size_setIfInBounds, List.length_cons]
    by_cases e : j = k
    · subst e
      rw [if_neg (by omega)]
      by_cases hl : j < cs.size
      · rw [if_pos ⟨Nat.le_refl _, by omega, hl⟩]; simp [hl]
      · rw [if_neg (by omega)]
        rw [Array.getElem?_eq_none (by simpa using hl), Array.getElem?_eq_none (by omega)]
    · by_cases hc : k + 1 ≤ j ∧ j < k + 1 + r.length ∧ j < cs.size
      · rw [if_pos hc, if_pos (by omega)]
        rw [show j - k = (j - (k + 1)) + 1 by omega, List.getElem?_cons_succ]
      · rw [if_neg hc, if_neg (by omega), Array.getElem?_setIfInBounds_ne (by omega)]

/-! ### reading -/

theorem St.get {w0 : World} {X : List Nat} {L : HL} {w : World} (h : St w0 X L w) {b : Nat} {cs : List Value} {t : TypeId} (hp : (b, bx cs t) ∈ L) : w.heap[b]? = some (.cells cs.toArray t (0, 0)) := by
  obtain ⟨o, ho, hq⟩ := h.here _ hp
  rw [ho, hq]

theorem cell_of {w : World} {b k : Nat} {cs : Array Value} {t : TypeId} {f : Nat × Nat} (h : w.heap[b]? = some (.cells cs t f)) : w.cell? ⟨b, k, none⟩ = cs[k]? := by simp [World.cell?, h]
theorem frozen_of {w : World} {b k : Nat} {cs : Array Value} {t : TypeId} (h : w.heap[b]? = some (.cells cs t (0, 0))) : w.frozen? ⟨b, k, none⟩ = false := by simp [World.frozen?, h]

theorem St.cell {w0 : World} {X : List Nat} {L : HL} {w : World} (h : St w0 X L w) {b : Nat} {cs : List Value} {t : TypeId} (hp : (b, bx cs t) ∈ L) (k : Nat) : w.cell? ⟨b, k, none⟩ = cs[k]? := by
  rw [cell_of (h.get hp)]; simp

theorem St.rowCell {w0 : World} {X : List Nat} {L : HL} {w : World} (h : St w0 X L w) {b : Nat} {e : TypeId} {sz n cap : Nat} {xs : List Value} (hp : (b, row e sz n cap xs) ∈ L) {k : Nat} {v : Value} (hv : xs[k]? = some v) : w.cell? ⟨b, k, none⟩ = some v := by
  obtain ⟨o, ho, cur, rfl, _, ht, _⟩ := h.here _ hp
  rw [cell_of ho]
  rw [← ht, List.getElem?_take] at hv
  split at hv
  · simpa using hv
  · cases hv

theorem St.oldCell {w0 : World} {X : List Nat} {L : HL} {w : World} (h : St w0 X L w) {a : Addr} (hlt : a.block < w0.heap.size) (hx : a.block ∉ X) : w.cell? a = w0.cell? a :=
  World.cell?_of_block (h.old a.block hlt hx)

/-- a slice that came in: its cells -/
def Rd (w : World) (sz : Nat) (v : Value) (xs : List Value) : Prop :=
  ∃ A n cap, v = .slice A n cap ∧ xs.length = n * sz ∧ n ≤ cap ∧ cap ≤ maxLen ∧ (0 < n → ∃ b off, A = some ⟨b, off, none⟩ ∧ b < w.heap.size ∧ ∀ j u, xs[j]? = some u → w.cell? ⟨b, off + j, none⟩ = some u)

theorem Rd.ext {w w' : World} {sz : Nat} {v : Value} {xs : List Value} (h : Rd w sz v xs) (e : Ext w w') : Rd w' sz v xs := by
  obtain ⟨A, n, cap, hv, hl, hc, hm, hr⟩ := h
  refine ⟨A, n, cap, hv, hl, hc, hm, fun hn => ?_⟩
  obtain ⟨b, off, ha, hb, hu⟩ := hr hn
  exact ⟨b, off, ha, Nat.lt_of_lt_of_le hb e.size, fun j u hj => (e.cell (p := ⟨b, off + j, none⟩) hb).trans (hu j u hj)⟩

end Go.Proofs.Ytbgolbkolcmldaa
