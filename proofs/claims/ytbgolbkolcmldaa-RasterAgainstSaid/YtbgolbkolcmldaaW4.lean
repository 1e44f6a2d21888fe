/-
  Lines as they came in; the edges of lines, one by one.
-/
import Derived.Test.YtbgolbkolcmldaaW3
import Derived.Test.YtbgolbkolcmldaaRange
namespace Go.Proofs.Ytbgolbkolcmldaa
open Go.RowKit
attribute [local irreducible] T TL Xt O Op1 Kt DV ObsB DE

abbrev Pts := List (Int × Int)
def ptCells (l : Pts) : List Value := l.flatMap fun p => [.int .i64 p.1, .int .i64 p.2]

theorem ptCells_length (l : Pts) : (ptCells l).length = l.length * 2 := by
  induction l with
  | nil => rfl
  | cons p l ih => simp [ptCells] at ih ⊢; omega
theorem ptCells_get (l : Pts) (k : Nat) (p : Int × Int) (h : l[k]? = some p) : (ptCells l)[k * 2]? = some (.int .i64 p.1) ∧ (ptCells l)[k * 2 + 1]? = some (.int .i64 p.2) := by
  induction l generalizing k with
  | nil => simp at h
  | cons q l ih =>
    cases k with
    | zero => simp at h; subst h; simp [ptCells]
    | succ k =>
      have := ih k (by simpa using h)
      rw [show (k + 1) * 2 = k * 2 + 2 by omega, show k * 2 + 2 + 1 = (k * 2 + 1) + 2 by omega]
      simpa [ptCells] using this

/-- a row of points in memory -/
abbrev Row (w : World) (v : Value) (l : Pts) : Prop := Rd w 2 v (ptCells l)
/-- rows of points in memory -/
def Lines (w : World) (v : Value) (ls : List Pts) : Prop :=
  ∃ rows : List Value, Rd w 1 v rows ∧ rows.length = ls.length ∧ ∀ (i : Nat) (r : Value) (l : Pts), rows[i]? = some r → ls[i]? = some l → Row w r l

/-- the edges of a row, from its i-th point on: so many points more -/
abbrev Edg := Int × Int × Int × Int × Int
def edgeAt (l : Pts) (i : Nat) : List Edg := match l[i]?, l[(i + 1) % l.length]? with
  | some p, some q => if (edgeV p.1 p.2 q.1 q.2).2.1 < (edgeV p.1 p.2 q.1 q.2).2.2.2.1 then [edgeV p.1 p.2 q.1 q.2] else []
  | _, _ => []
def edgesTo (l : Pts) (k : Nat) : List Edg := (List.range k).flatMap (edgeAt l)
def edgesOf (l : Pts) : List Edg := edgesTo l l.length
def edgesAll (ls : List Pts) : List Edg := ls.flatMap edgesOf

def encE (e : Edg) : List Value := [edg e.1 e.2.1 e.2.2.1 e.2.2.2.1 e.2.2.2.2]

theorem edgesTo_succ (l : Pts) (k : Nat) : edgesTo l (k + 1) = edgesTo l k ++ edgeAt l k := by
  simp [edgesTo, List.range_succ]

theorem flatMap_take_succ {α β : Type} (f : α → List β) (ls : List α) (i : Nat) (l : α) (h : ls[i]? = some l) : (ls.take (i + 1)).flatMap f = (ls.take i).flatMap f ++ f l := by
  rw [List.take_add_one, h]; simp

theorem row_at {w : World} {l : Pts} {A : Option Addr} {n cap k : Nat} {p : Int × Int} (h : Row w (.slice A n cap) l) (hp : l[k]? = some p) : ∃ b off, A = some ⟨b, off, none⟩ ∧ b < w.heap.size ∧ n = l.length ∧ ∀ j v, [Value.int .i64 p.1, .int .i64 p.2][j]? = some v → w.cell? ⟨b, off + k * 2 + j, none⟩ = some v := by
  obtain ⟨A', n', cap', he, hl, _, _, hr⟩ := h
  cases he
  rw [ptCells_length] at hl
  have hk : k < l.length := (List.getElem?_eq_some_iff.1 hp).1
  obtain ⟨b, off, rfl, hb, hc⟩ := hr (by omega)
  refine ⟨b, off, rfl, hb, by omega, fun j v hj => ?_⟩
  obtain ⟨g1, g2⟩ := ptCells_get l k p hp
  match j, hj with
  | 0, hj => simp at hj; subst hj; have := hc _ _ g1; simpa using this
  | 1, hj => simp at hj; subst hj; have := hc _ _ g2; rwa [← Nat.add_assoc] at this
  | j + 2, hj => simp at hj

theorem row_len {w : World} {l : Pts} {A : Option Addr} {n cap : Nat} (h : Row w (.slice A n cap) l) : n = l.length := by
  obtain ⟨A', n', cap', he, hl, _⟩ := h
  cases he
  rw [ptCells_length] at hl
  omega

theorem row_le {w : World} {l : Pts} {A : Option Addr} {n cap : Nat} (h : Row w (.slice A n cap) l) : n ≤ 9223372036854775807 := by
  obtain ⟨A', n', cap', he, _, h1, h2, _⟩ := h
  cases he
  unfold maxLen at h2
  omega
theorem lines_le {w : World} {ls : List Pts} {A : Option Addr} {n cap : Nat} (h : Lines w (.slice A n cap) ls) : n ≤ 9223372036854775807 := by
  obtain ⟨rows, ⟨A', n', cap', he, _, h1, h2, _⟩, _⟩ := h
  cases he
  unfold maxLen at h2
  omega

theorem lines_len {w : World} {ls : List Pts} {A : Option Addr} {n cap : Nat} (h : Lines w (.slice A n cap) ls) : n = ls.length := by
  obtain ⟨rows, ⟨A', n', cap', he, hl, _⟩, hlen, _⟩ := h
  cases he
  omega

theorem lines_at {w : World} {ls : List Pts} {A : Option Addr} {n cap i : Nat} {l : Pts} (h : Lines w (.slice A n cap) ls) (hl : ls[i]? = some l) : ∃ b off A' n' cap', A = some ⟨b, off, none⟩ ∧ b < w.heap.size ∧ w.cell? ⟨b, off + i * 1, none⟩ = some (.slice A' n' cap') ∧ Row w (.slice A' n' cap') l := by
  obtain ⟨rows, ⟨A1, n1, cap1, he, hlr, _, _, hr⟩, hlen, hrow⟩ := h
  cases he
  have hi : i < ls.length := (List.getElem?_eq_some_iff.1 hl).1
  obtain ⟨b, off, rfl, hb, hc⟩ := hr (by omega)
  obtain ⟨rv, hrv⟩ : ∃ rv, rows[i]? = some rv := ⟨_, List.getElem?_eq_getElem (by omega)⟩
  have hR := hrow i rv l hrv hl
  obtain ⟨A', n', cap', rfl, _⟩ := id hR
  exact ⟨b, off, A', n', cap', rfl, hb, by rw [Nat.mul_one]; exact hc i _ hrv, hR⟩

/-- the memory that an iterator reads is as it was -/
structure Keeps (w0 : World) (w : World) : Prop where
  size : w0.heap.size ≤ w.heap.size
  block : ∀ k, k < w0.heap.size → w.heap[k]? = w0.heap[k]?
theorem Keeps.cell {w0 w : World} (h : Keeps w0 w) {a : Addr} (hb : a.block < w0.heap.size) {v : Value} (hc : w0.cell? a = some v) : w.cell? a = some v := by
  rw [World.cell?_of_block (h.block a.block hb)]; exact hc

theorem edges_prefix {ls : List Pts} {i k : Nat} {row : Pts} (h : ls[i]? = some row) (hk : k ≤ row.length) : ((ls.take i).flatMap edgesOf ++ edgesTo row k) <+: edgesAll ls := by
  have h1 : edgesTo row k <+: edgesOf row := by
    refine ⟨((List.range' k (row.length - k)).flatMap (edgeAt row)), ?_⟩
    unfold edgesOf edgesTo
    rw [← List.flatMap_append, List.range_eq_range', List.range_eq_range']
    congr 1
    have := List.range'_append (s := 0) (m := k) (n := row.length - k) (step := 1)
    simp at this
    rw [this]; congr 1; omega
  have h2 : (ls.take i).flatMap edgesOf ++ edgesOf row <+: edgesAll ls := by
    rw [← flatMap_take_succ edgesOf ls i row h]
    refine ⟨(ls.drop (i + 1)).flatMap edgesOf, ?_⟩
    rw [← List.flatMap_append, List.take_append_drop]; rfl
  exact ((List.prefix_append_right_inj _).2 h1).trans h2
theorem prefix_mid {α : Type} {a b c e : List α} {x : α} (h : a ++ b ++ [x] ++ c = e) : (a ++ b ++ [x]) <+: e := ⟨c, h⟩

theorem edges_iter (w0 : World) (bl : Nat) (A : Option Addr) (n cap : Nat) (ls : List Pts) (hL : Lines w0 (.slice A n cap) ls) :
    Iter Try.prog 72 [.pointer (some ⟨bl, 0, none⟩)] encE (edgesAll ls) (fun w => Keeps w0 w ∧ bl < w.heap.size ∧ w.cell? ⟨bl, 0, none⟩ = some (.slice A n cap)) := by
  intro l B J W hB hloc hdata hY h0
  obtain ⟨hk0, hbl, hcl⟩ := hdata [] W h0
  have hnl := lines_len hL
  have hn := lines_le hL
  refine calls_S Try.func72 rfl Try.ntmps72 rfl ?_
  (repeat' (first
    | refine t_seq ?_
    | refine t_region ?_
    | refine xt_then ?_
    | refine tl_nil ?_
    | refine t_block ?_
    | refine t_skip ?_
    | refine t_ret ?_
    | refine t_exit ?_
    | refine xt_blk ?_
    | refine xt_blk_exit ?_
    | refine xt_then_ret ?_
    | refine xt_then_exit ?_
    | refine xt_blk_ret ?_
    | refine xt_blk_other rfl ?_
    | refine xt_round_exit ?_
    | refine xt_round_ret ?_
    | refine tl_run tab rfl rfl ?_
    | refine tl_guard_yes rfl rfl ?_
    | refine tl_guard_no rfl rfl rfl rfl ?_
    | refine tl_guard_undef rfl rfl rfl ?_
    | refine tl_load (by first | exact o_loadB 0 rfl rfl rfl | exact o_loadB 1 rfl rfl rfl | exact o_loadB 2 rfl rfl rfl | exact o_loadB 3 rfl rfl rfl | exact o_loadB 4 rfl rfl rfl | exact o_loadBA 0 rfl rfl rfl | exact o_loadBA 1 rfl rfl rfl | exact o_loadBA 2 rfl rfl rfl | exact o_loadBA 3 rfl rfl rfl) rfl ?_
    | refine tl_pick (by first | exact o_pick_t rfl rfl | exact o_pick_f rfl rfl) rfl ?_
    | refine tl_bin (by first | exact o_add64 rfl rfl (by omega) | exact o_sub64 rfl rfl (by omega) | exact o_mul64 rfl rfl (by first | assumption | omega)) rfl ?_
    | refine tl_store (by first | exact o_storeB 0 rfl rfl rfl rfl rfl | exact o_storeB 1 rfl rfl rfl rfl rfl | exact o_storeB 2 rfl rfl rfl rfl rfl | exact o_storeBA 0 rfl rfl rfl rfl rfl rfl | exact o_storeBA 1 rfl rfl rfl rfl rfl rfl | exact o_storeBA 2 rfl rfl rfl rfl rfl rfl) ?_
    | refine tl_box (o_box rfl rfl) rfl (fun _ => ?_)
    | refine tl_alloc rfl (fun _ => ?_)))
  refine tl_load (o_loadO rfl hbl hcl) rfl ?_
  (repeat' (first
    | refine t_seq ?_
    | refine t_region ?_
    | refine xt_then ?_
    | refine tl_nil ?_
    | refine t_block ?_
    | refine t_skip ?_
    | refine t_ret ?_
    | refine t_exit ?_
    | refine xt_blk ?_
    | refine xt_blk_exit ?_
    | refine xt_then_ret ?_
    | refine xt_then_exit ?_
    | refine xt_blk_ret ?_
    | refine xt_blk_other rfl ?_
    | refine xt_round_exit ?_
    | refine xt_round_ret ?_
    | refine tl_run tab rfl rfl ?_
    | refine tl_guard_yes rfl rfl ?_
    | refine tl_guard_no rfl rfl rfl rfl ?_
    | refine tl_guard_undef rfl rfl rfl ?_
    | refine tl_load (by first | exact o_loadB 0 rfl rfl rfl | exact o_loadB 1 rfl rfl rfl | exact o_loadB 2 rfl rfl rfl | exact o_loadB 3 rfl rfl rfl | exact o_loadB 4 rfl rfl rfl | exact o_loadBA 0 rfl rfl rfl | exact o_loadBA 1 rfl rfl rfl | exact o_loadBA 2 rfl rfl rfl | exact o_loadBA 3 rfl rfl rfl) rfl ?_
    | refine tl_pick (by first | exact o_pick_t rfl rfl | exact o_pick_f rfl rfl) rfl ?_
    | refine tl_bin (by first | exact o_add64 rfl rfl (by omega) | exact o_sub64 rfl rfl (by omega) | exact o_mul64 rfl rfl (by first | assumption | omega)) rfl ?_
    | refine tl_store (by first | exact o_storeB 0 rfl rfl rfl rfl rfl | exact o_storeB 1 rfl rfl rfl rfl rfl | exact o_storeB 2 rfl rfl rfl rfl rfl | exact o_storeBA 0 rfl rfl rfl rfl rfl rfl | exact o_storeBA 1 rfl rfl rfl rfl rfl rfl | exact o_storeBA 2 rfl rfl rfl rfl rfl rfl) ?_
    | refine tl_box (o_box rfl rfl) rfl (fun _ => ?_)
    | refine tl_alloc rfl (fun _ => ?_)))
  refine t_loopC (α := Nat × World) (fun x => [(0, .func (.yield l) #[] #[]), (10, .slice A n cap), (11, .int .i64 n), (12, .int .i64 x.1)]) (fun x => x.1 ≤ ls.length ∧ x.2.heap.size = B ∧ J ((ls.take x.1).flatMap edgesOf) x.2) (fun x => St x.2 [] []) (fun x => ls.length - x.1) (0, W) ⟨by simp, hB, by simpa using h0⟩ ⟨rfl, rfl, rfl, rfl, trivial⟩ (fun _ h => h) ?_
  rintro ⟨i, w1⟩ ⟨hi, hs1, hJ1⟩
  simp only at hi hs1 hJ1
  (repeat' (first
    | refine t_seq ?_
    | refine t_region ?_
    | refine xt_then ?_
    | refine tl_nil ?_
    | refine t_block ?_
    | refine t_skip ?_
    | refine t_ret ?_
    | refine t_exit ?_
    | refine xt_blk ?_
    | refine xt_blk_exit ?_
    | refine xt_then_ret ?_
    | refine xt_then_exit ?_
    | refine xt_blk_ret ?_
    | refine xt_blk_other rfl ?_
    | refine xt_round_exit ?_
    | refine xt_round_ret ?_
    | refine tl_run tab rfl rfl ?_
    | refine tl_guard_yes rfl rfl ?_
    | refine tl_guard_no rfl rfl rfl rfl ?_
    | refine tl_guard_undef rfl rfl rfl ?_
    | refine tl_load (by first | exact o_loadB 0 rfl rfl rfl | exact o_loadB 1 rfl rfl rfl | exact o_loadB 2 rfl rfl rfl | exact o_loadB 3 rfl rfl rfl | exact o_loadB 4 rfl rfl rfl | exact o_loadBA 0 rfl rfl rfl | exact o_loadBA 1 rfl rfl rfl | exact o_loadBA 2 rfl rfl rfl | exact o_loadBA 3 rfl rfl rfl) rfl ?_
    | refine tl_pick (by first | exact o_pick_t rfl rfl | exact o_pick_f rfl rfl) rfl ?_
    | refine tl_bin (by first | exact o_add64 rfl rfl (by omega) | exact o_sub64 rfl rfl (by omega) | exact o_mul64 rfl rfl (by first | assumption | omega)) rfl ?_
    | refine tl_store (by first | exact o_storeB 0 rfl rfl rfl rfl rfl | exact o_storeB 1 rfl rfl rfl rfl rfl | exact o_storeB 2 rfl rfl rfl rfl rfl | exact o_storeBA 0 rfl rfl rfl rfl rfl rfl | exact o_storeBA 1 rfl rfl rfl rfl rfl rfl | exact o_storeBA 2 rfl rfl rfl rfl rfl rfl) ?_
    | refine tl_box (o_box rfl rfl) rfl (fun _ => ?_)
    | refine tl_alloc rfl (fun _ => ?_)))
  refine t_cond rfl (fun h => ?_) (fun h => ?_)
  · have hin : i < ls.length := by have := of_decide_eq_true h; omega
    obtain ⟨row, hrow⟩ : ∃ row, ls[i]? = some row := ⟨_, List.getElem?_eq_getElem hin⟩
    obtain ⟨b, off, A', n', cap', rfl, hb, hc, hR⟩ := lines_at hL hrow
    have hk1 := (hdata _ _ hJ1).1
    (repeat' (first
      | refine t_seq ?_
      | refine t_region ?_
      | refine xt_then ?_
      | refine tl_nil ?_
      | refine t_block ?_
      | refine t_skip ?_
      | refine t_ret ?_
      | refine t_exit ?_
      | refine xt_blk ?_
      | refine xt_blk_exit ?_
      | refine xt_then_ret ?_
      | refine xt_then_exit ?_
      | refine xt_blk_ret ?_
      | refine xt_blk_other rfl ?_
      | refine xt_round_exit ?_
      | refine xt_round_ret ?_
      | refine tl_run tab rfl rfl ?_
      | refine tl_guard_yes rfl rfl ?_
      | refine tl_guard_no rfl rfl rfl rfl ?_
      | refine tl_guard_undef rfl rfl rfl ?_
      | refine tl_load (by first | exact o_loadB 0 rfl rfl rfl | exact o_loadB 1 rfl rfl rfl | exact o_loadB 2 rfl rfl rfl | exact o_loadB 3 rfl rfl rfl | exact o_loadB 4 rfl rfl rfl | exact o_loadBA 0 rfl rfl rfl | exact o_loadBA 1 rfl rfl rfl | exact o_loadBA 2 rfl rfl rfl | exact o_loadBA 3 rfl rfl rfl) rfl ?_
      | refine tl_pick (by first | exact o_pick_t rfl rfl | exact o_pick_f rfl rfl) rfl ?_
      | refine tl_bin (by first | exact o_add64 rfl rfl (by omega) | exact o_sub64 rfl rfl (by omega) | exact o_mul64 rfl rfl (by first | assumption | omega)) rfl ?_
      | refine tl_store (by first | exact o_storeB 0 rfl rfl rfl rfl rfl | exact o_storeB 1 rfl rfl rfl rfl rfl | exact o_storeB 2 rfl rfl rfl rfl rfl | exact o_storeBA 0 rfl rfl rfl rfl rfl rfl | exact o_storeBA 1 rfl rfl rfl rfl rfl rfl | exact o_storeBA 2 rfl rfl rfl rfl rfl rfl) ?_
      | refine tl_box (o_box rfl rfl) rfl (fun _ => ?_)
      | refine tl_alloc rfl (fun _ => ?_)))
    refine tl_indexAddr (o_indexAddr rfl rfl (by omega)) rfl ?_
    refine tl_load (o_loadO rfl (Nat.lt_of_lt_of_le hb hk1.size) (hk1.cell (a := ⟨b, off + i * 1, none⟩) hb hc)) rfl ?_
    have hnr := row_len hR
    have hn' := row_le hR
    (repeat' (first
      | refine t_seq ?_
      | refine t_region ?_
      | refine xt_then ?_
      | refine tl_nil ?_
      | refine t_block ?_
      | refine t_skip ?_
      | refine t_ret ?_
      | refine t_exit ?_
      | refine xt_blk ?_
      | refine xt_blk_exit ?_
      | refine xt_then_ret ?_
      | refine xt_then_exit ?_
      | refine xt_blk_ret ?_
      | refine xt_blk_other rfl ?_
      | refine xt_round_exit ?_
      | refine xt_round_ret ?_
      | refine tl_run tab rfl rfl ?_
      | refine tl_guard_yes rfl rfl ?_
      | refine tl_guard_no rfl rfl rfl rfl ?_
      | refine tl_guard_undef rfl rfl rfl ?_
      | refine tl_load (by first | exact o_loadB 0 rfl rfl rfl | exact o_loadB 1 rfl rfl rfl | exact o_loadB 2 rfl rfl rfl | exact o_loadB 3 rfl rfl rfl | exact o_loadB 4 rfl rfl rfl | exact o_loadBA 0 rfl rfl rfl | exact o_loadBA 1 rfl rfl rfl | exact o_loadBA 2 rfl rfl rfl | exact o_loadBA 3 rfl rfl rfl) rfl ?_
      | refine tl_pick (by first | exact o_pick_t rfl rfl | exact o_pick_f rfl rfl) rfl ?_
      | refine tl_bin (by first | exact o_add64 rfl rfl (by omega) | exact o_sub64 rfl rfl (by omega) | exact o_mul64 rfl rfl (by first | assumption | omega)) rfl ?_
      | refine tl_store (by first | exact o_storeB 0 rfl rfl rfl rfl rfl | exact o_storeB 1 rfl rfl rfl rfl rfl | exact o_storeB 2 rfl rfl rfl rfl rfl | exact o_storeBA 0 rfl rfl rfl rfl rfl rfl | exact o_storeBA 1 rfl rfl rfl rfl rfl rfl | exact o_storeBA 2 rfl rfl rfl rfl rfl rfl) ?_
      | refine tl_box (o_box rfl rfl) rfl (fun _ => ?_)
      | refine tl_alloc rfl (fun _ => ?_)))
    refine t_loopC (α := Nat × World) (fun x => [(0, .func (.yield l) #[] #[]), (10, .slice (some ⟨b, off, none⟩) n cap), (11, .int .i64 n), (12, .int .i64 i), (4, .slice A' n' cap'), (16, .slice A' n' cap'), (17, .int .i64 n'), (18, .int .i64 x.1)]) (fun x => x.1 ≤ row.length ∧ x.2.heap.size = B ∧ J ((ls.take i).flatMap edgesOf ++ edgesTo row x.1) x.2) (fun x => St x.2 [] []) (fun x => row.length - x.1) (0, w1) ⟨by simp, hs1, by simpa [edgesTo] using hJ1⟩ ⟨rfl, rfl, rfl, rfl, rfl, rfl, rfl, rfl, trivial⟩ (fun _ h => h) ?_
    rintro ⟨k, w2⟩ ⟨hk, hs2, hJ2⟩
    simp only at hk hs2 hJ2
    have hk2 := (hdata _ _ hJ2).1
    (repeat' (first
      | refine t_seq ?_
      | refine t_region ?_
      | refine xt_then ?_
      | refine tl_nil ?_
      | refine t_block ?_
      | refine t_skip ?_
      | refine t_ret ?_
      | refine t_exit ?_
      | refine xt_blk ?_
      | refine xt_blk_exit ?_
      | refine xt_then_ret ?_
      | refine xt_then_exit ?_
      | refine xt_blk_ret ?_
      | refine xt_blk_other rfl ?_
      | refine xt_round_exit ?_
      | refine xt_round_ret ?_
      | refine tl_run tab rfl rfl ?_
      | refine tl_guard_yes rfl rfl ?_
      | refine tl_guard_no rfl rfl rfl rfl ?_
      | refine tl_guard_undef rfl rfl rfl ?_
      | refine tl_load (by first | exact o_loadB 0 rfl rfl rfl | exact o_loadB 1 rfl rfl rfl | exact o_loadB 2 rfl rfl rfl | exact o_loadB 3 rfl rfl rfl | exact o_loadB 4 rfl rfl rfl | exact o_loadBA 0 rfl rfl rfl | exact o_loadBA 1 rfl rfl rfl | exact o_loadBA 2 rfl rfl rfl | exact o_loadBA 3 rfl rfl rfl) rfl ?_
      | refine tl_pick (by first | exact o_pick_t rfl rfl | exact o_pick_f rfl rfl) rfl ?_
      | refine tl_bin (by first | exact o_add64 rfl rfl (by omega) | exact o_sub64 rfl rfl (by omega) | exact o_mul64 rfl rfl (by first | assumption | omega)) rfl ?_
      | refine tl_store (by first | exact o_storeB 0 rfl rfl rfl rfl rfl | exact o_storeB 1 rfl rfl rfl rfl rfl | exact o_storeB 2 rfl rfl rfl rfl rfl | exact o_storeBA 0 rfl rfl rfl rfl rfl rfl | exact o_storeBA 1 rfl rfl rfl rfl rfl rfl | exact o_storeBA 2 rfl rfl rfl rfl rfl rfl) ?_
      | refine tl_box (o_box rfl rfl) rfl (fun _ => ?_)
      | refine tl_alloc rfl (fun _ => ?_)))
    refine t_cond rfl (fun h => ?_) (fun h => ?_)
    · have hkn : k < row.length := by have := of_decide_eq_true h; omega
      obtain ⟨p, hp⟩ : ∃ p, row[k]? = some p := ⟨_, List.getElem?_eq_getElem hkn⟩
      have hmod : (k + 1) % row.length < row.length := Nat.mod_lt _ (by omega)
      obtain ⟨q, hq⟩ : ∃ q, row[(k + 1) % row.length]? = some q := ⟨_, List.getElem?_eq_getElem hmod⟩
      obtain ⟨b', off', rfl, hb', _, hcp⟩ := row_at hR hp
      obtain ⟨b'', off'', he, _, _, hcq⟩ := row_at hR hq
      cases he
      (repeat' (first
        | refine t_seq ?_
        | refine t_region ?_
        | refine xt_then ?_
        | refine tl_nil ?_
        | refine t_block ?_
        | refine t_skip ?_
        | refine t_ret ?_
        | refine t_exit ?_
        | refine xt_blk ?_
        | refine xt_blk_exit ?_
        | refine xt_then_ret ?_
        | refine xt_then_exit ?_
        | refine xt_blk_ret ?_
        | refine xt_blk_other rfl ?_
        | refine xt_round_exit ?_
        | refine xt_round_ret ?_
        | refine tl_run tab rfl rfl ?_
        | refine tl_guard_yes rfl rfl ?_
        | refine tl_guard_no rfl rfl rfl rfl ?_
        | refine tl_guard_undef rfl rfl rfl ?_
        | refine tl_load (by first | exact o_loadB 0 rfl rfl rfl | exact o_loadB 1 rfl rfl rfl | exact o_loadB 2 rfl rfl rfl | exact o_loadB 3 rfl rfl rfl | exact o_loadB 4 rfl rfl rfl | exact o_loadBA 0 rfl rfl rfl | exact o_loadBA 1 rfl rfl rfl | exact o_loadBA 2 rfl rfl rfl | exact o_loadBA 3 rfl rfl rfl) rfl ?_
        | refine tl_pick (by first | exact o_pick_t rfl rfl | exact o_pick_f rfl rfl) rfl ?_
        | refine tl_bin (by first | exact o_add64 rfl rfl (by omega) | exact o_sub64 rfl rfl (by omega) | exact o_mul64 rfl rfl (by first | assumption | omega)) rfl ?_
        | refine tl_store (by first | exact o_storeB 0 rfl rfl rfl rfl rfl | exact o_storeB 1 rfl rfl rfl rfl rfl | exact o_storeB 2 rfl rfl rfl rfl rfl | exact o_storeBA 0 rfl rfl rfl rfl rfl rfl | exact o_storeBA 1 rfl rfl rfl rfl rfl rfl | exact o_storeBA 2 rfl rfl rfl rfl rfl rfl) ?_
        | refine tl_box (o_box rfl rfl) rfl (fun _ => ?_)
        | refine tl_alloc rfl (fun _ => ?_)))
      refine tl_indexAddr (o_indexAddr rfl rfl (by omega)) rfl ?_
      refine tl_load (o_loadOA (cs := [.int .i64 p.1, .int .i64 p.2]) rfl rfl (Nat.lt_of_lt_of_le hb' hk2.size) (fun j v hj => hk2.cell (a := ⟨b', off' + k * 2 + j, none⟩) hb' (hcp j v hj))) rfl ?_
      (repeat' (first
        | refine t_seq ?_
        | refine t_region ?_
        | refine xt_then ?_
        | refine tl_nil ?_
        | refine t_block ?_
        | refine t_skip ?_
        | refine t_ret ?_
        | refine t_exit ?_
        | refine xt_blk ?_
        | refine xt_blk_exit ?_
        | refine xt_then_ret ?_
        | refine xt_then_exit ?_
        | refine xt_blk_ret ?_
        | refine xt_blk_other rfl ?_
        | refine xt_round_exit ?_
        | refine xt_round_ret ?_
        | refine tl_run tab rfl rfl ?_
        | refine tl_guard_yes rfl rfl ?_
        | refine tl_guard_no rfl rfl rfl rfl ?_
        | refine tl_guard_undef rfl rfl rfl ?_
        | refine tl_load (by first | exact o_loadB 0 rfl rfl rfl | exact o_loadB 1 rfl rfl rfl | exact o_loadB 2 rfl rfl rfl | exact o_loadB 3 rfl rfl rfl | exact o_loadB 4 rfl rfl rfl | exact o_loadBA 0 rfl rfl rfl | exact o_loadBA 1 rfl rfl rfl | exact o_loadBA 2 rfl rfl rfl | exact o_loadBA 3 rfl rfl rfl) rfl ?_
        | refine tl_pick (by first | exact o_pick_t rfl rfl | exact o_pick_f rfl rfl) rfl ?_
        | refine tl_bin (by first | exact o_add64 rfl rfl (by omega) | exact o_sub64 rfl rfl (by omega) | exact o_mul64 rfl rfl (by first | assumption | omega)) rfl ?_
        | refine tl_store (by first | exact o_storeB 0 rfl rfl rfl rfl rfl | exact o_storeB 1 rfl rfl rfl rfl rfl | exact o_storeB 2 rfl rfl rfl rfl rfl | exact o_storeBA 0 rfl rfl rfl rfl rfl rfl | exact o_storeBA 1 rfl rfl rfl rfl rfl rfl | exact o_storeBA 2 rfl rfl rfl rfl rfl rfl) ?_
        | refine tl_box (o_box rfl rfl) rfl (fun _ => ?_)
        | refine tl_alloc rfl (fun _ => ?_)))
      rename_i b6
      refine tl_bin (o_rem rfl rfl (by omega)) rfl ?_
      have hrem : ((k : Int) + 1).tmod (n' : Int) = (((k + 1) % row.length : Nat) : Int) := by
        rw [hnr, Int.tmod_eq_emod_of_nonneg (by omega)]; simp
      rw [hrem]
      refine tl_indexAddr (o_indexAddr rfl rfl (by omega)) rfl ?_
      refine tl_load (o_loadOA (cs := [.int .i64 q.1, .int .i64 q.2]) rfl rfl (Nat.lt_of_lt_of_le hb' hk2.size) (fun j v hj => hk2.cell (a := ⟨b', off' + (k + 1) % row.length * 2 + j, none⟩) hb' (hcq j v hj))) rfl ?_
      (repeat' (first
        | refine t_seq ?_
        | refine t_region ?_
        | refine xt_then ?_
        | refine tl_nil ?_
        | refine t_block ?_
        | refine t_skip ?_
        | refine t_ret ?_
        | refine t_exit ?_
        | refine xt_blk ?_
        | refine xt_blk_exit ?_
        | refine xt_then_ret ?_
        | refine xt_then_exit ?_
        | refine xt_blk_ret ?_
        | refine xt_blk_other rfl ?_
        | refine xt_round_exit ?_
        | refine xt_round_ret ?_
        | refine tl_run tab rfl rfl ?_
        | refine tl_guard_yes rfl rfl ?_
        | refine tl_guard_no rfl rfl rfl rfl ?_
        | refine tl_guard_undef rfl rfl rfl ?_
        | refine tl_load (by first | exact o_loadB 0 rfl rfl rfl | exact o_loadB 1 rfl rfl rfl | exact o_loadB 2 rfl rfl rfl | exact o_loadB 3 rfl rfl rfl | exact o_loadB 4 rfl rfl rfl | exact o_loadBA 0 rfl rfl rfl | exact o_loadBA 1 rfl rfl rfl | exact o_loadBA 2 rfl rfl rfl | exact o_loadBA 3 rfl rfl rfl) rfl ?_
        | refine tl_pick (by first | exact o_pick_t rfl rfl | exact o_pick_f rfl rfl) rfl ?_
        | refine tl_bin (by first | exact o_add64 rfl rfl (by omega) | exact o_sub64 rfl rfl (by omega) | exact o_mul64 rfl rfl (by first | assumption | omega)) rfl ?_
        | refine tl_store (by first | exact o_storeB 0 rfl rfl rfl rfl rfl | exact o_storeB 1 rfl rfl rfl rfl rfl | exact o_storeB 2 rfl rfl rfl rfl rfl | exact o_storeBA 0 rfl rfl rfl rfl rfl rfl | exact o_storeBA 1 rfl rfl rfl rfl rfl rfl | exact o_storeBA 2 rfl rfl rfl rfl rfl rfl) ?_
        | refine tl_box (o_box rfl rfl) rfl (fun _ => ?_)
        | refine tl_alloc rfl (fun _ => ?_)))
      have hpre := edges_prefix hrow (k := k + 1) (by omega)
      rw [edgesTo_succ] at hpre
      refine tl_call (o_det (edgeOf_det p.1 p.2 q.1 q.2) rfl) rfl ?_
      (repeat' (first
        | refine t_seq ?_
        | refine t_region ?_
        | refine xt_then ?_
        | refine tl_nil ?_
        | refine t_block ?_
        | refine t_skip ?_
        | refine t_ret ?_
        | refine t_exit ?_
        | refine xt_blk ?_
        | refine xt_blk_exit ?_
        | refine xt_then_ret ?_
        | refine xt_then_exit ?_
        | refine xt_blk_ret ?_
        | refine xt_blk_other rfl ?_
        | refine xt_round_exit ?_
        | refine xt_round_ret ?_
        | refine tl_run tab rfl rfl ?_
        | refine tl_guard_yes rfl rfl ?_
        | refine tl_guard_no rfl rfl rfl rfl ?_
        | refine tl_guard_undef rfl rfl rfl ?_
        | refine tl_load (by first | exact o_loadB 0 rfl rfl rfl | exact o_loadB 1 rfl rfl rfl | exact o_loadB 2 rfl rfl rfl | exact o_loadB 3 rfl rfl rfl | exact o_loadB 4 rfl rfl rfl | exact o_loadBA 0 rfl rfl rfl | exact o_loadBA 1 rfl rfl rfl | exact o_loadBA 2 rfl rfl rfl | exact o_loadBA 3 rfl rfl rfl) rfl ?_
        | refine tl_pick (by first | exact o_pick_t rfl rfl | exact o_pick_f rfl rfl) rfl ?_
        | refine tl_bin (by first | exact o_add64 rfl rfl (by omega) | exact o_sub64 rfl rfl (by omega) | exact o_mul64 rfl rfl (by first | assumption | omega)) rfl ?_
        | refine tl_store (by first | exact o_storeB 0 rfl rfl rfl rfl rfl | exact o_storeB 1 rfl rfl rfl rfl rfl | exact o_storeB 2 rfl rfl rfl rfl rfl | exact o_storeBA 0 rfl rfl rfl rfl rfl rfl | exact o_storeBA 1 rfl rfl rfl rfl rfl rfl | exact o_storeBA 2 rfl rfl rfl rfl rfl rfl) ?_
        | refine tl_box (o_box rfl rfl) rfl (fun _ => ?_)
        | refine tl_alloc rfl (fun _ => ?_)))
      refine tl_guard rfl rfl rfl (fun h1 => ?_) (fun h1 => ?_)
      · have h1' := of_decide_eq_true h1
        have hat : edgeAt row k = [edgeV p.1 p.2 q.1 q.2] := by simp only [edgeAt, hp, hq, if_pos h1']
        rw [hat, ← List.append_assoc] at hpre
        (repeat' (first
          | refine t_seq ?_
          | refine t_region ?_
          | refine xt_then ?_
          | refine tl_nil ?_
          | refine t_block ?_
          | refine t_skip ?_
          | refine t_ret ?_
          | refine t_exit ?_
          | refine xt_blk ?_
          | refine xt_blk_exit ?_
          | refine xt_then_ret ?_
          | refine xt_then_exit ?_
          | refine xt_blk_ret ?_
          | refine xt_blk_other rfl ?_
          | refine xt_round_exit ?_
          | refine xt_round_ret ?_
          | refine tl_run tab rfl rfl ?_
          | refine tl_guard_yes rfl rfl ?_
          | refine tl_guard_no rfl rfl rfl rfl ?_
          | refine tl_guard_undef rfl rfl rfl ?_
          | refine tl_load (by first | exact o_loadB 0 rfl rfl rfl | exact o_loadB 1 rfl rfl rfl | exact o_loadB 2 rfl rfl rfl | exact o_loadB 3 rfl rfl rfl | exact o_loadB 4 rfl rfl rfl | exact o_loadBA 0 rfl rfl rfl | exact o_loadBA 1 rfl rfl rfl | exact o_loadBA 2 rfl rfl rfl | exact o_loadBA 3 rfl rfl rfl) rfl ?_
          | refine tl_pick (by first | exact o_pick_t rfl rfl | exact o_pick_f rfl rfl) rfl ?_
          | refine tl_bin (by first | exact o_add64 rfl rfl (by omega) | exact o_sub64 rfl rfl (by omega) | exact o_mul64 rfl rfl (by first | assumption | omega)) rfl ?_
          | refine tl_store (by first | exact o_storeB 0 rfl rfl rfl rfl rfl | exact o_storeB 1 rfl rfl rfl rfl rfl | exact o_storeB 2 rfl rfl rfl rfl rfl | exact o_storeBA 0 rfl rfl rfl rfl rfl rfl | exact o_storeBA 1 rfl rfl rfl rfl rfl rfl | exact o_storeBA 2 rfl rfl rfl rfl rfl rfl) ?_
          | refine tl_box (o_box rfl rfl) rfl (fun _ => ?_)
          | refine tl_alloc rfl (fun _ => ?_)))
        refine tl_call (I' := fun w => J ((ls.take i).flatMap edgesOf ++ edgesTo row k ++ [edgeV p.1 p.2 q.1 q.2]) w ∧ St (trunc B w) [] [] w ∧ B ≤ w.heap.size) (o_yield (encE (edgeV p.1 p.2 q.1 q.2)) rfl rfl (fun w3 hw3 => ?_)) rfl ?_
        · have hsame := hw3.same
          rw [hs2] at hsame
          refine (hY _ _ w3 hpre (hloc _ _ _ hJ2 hsame) (by have : w2.heap.size ≤ w3.heap.size := hw3.size; omega)).mono ?_
          rintro w4 ⟨hJ4, ho4⟩
          have hs4 := (hw3.sublist (List.nil_sublist _)).retrunc (by rw [hs2]; exact ho4)
          rw [hs2] at hs4
          exact ⟨hJ4, hs4, by have : w2.heap.size ≤ w3.heap.size := hw3.size; have := ho4.size; omega⟩
        (repeat' (first
          | refine t_seq ?_
          | refine t_region ?_
          | refine xt_then ?_
          | refine tl_nil ?_
          | refine t_block ?_
          | refine t_skip ?_
          | refine t_ret ?_
          | refine t_exit ?_
          | refine xt_blk ?_
          | refine xt_blk_exit ?_
          | refine xt_then_ret ?_
          | refine xt_then_exit ?_
          | refine xt_blk_ret ?_
          | refine xt_blk_other rfl ?_
          | refine xt_round_exit ?_
          | refine xt_round_ret ?_
          | refine tl_run tab rfl rfl ?_
          | refine tl_guard_yes rfl rfl ?_
          | refine tl_guard_no rfl rfl rfl rfl ?_
          | refine tl_guard_undef rfl rfl rfl ?_
          | refine tl_load (by first | exact o_loadB 0 rfl rfl rfl | exact o_loadB 1 rfl rfl rfl | exact o_loadB 2 rfl rfl rfl | exact o_loadB 3 rfl rfl rfl | exact o_loadB 4 rfl rfl rfl | exact o_loadBA 0 rfl rfl rfl | exact o_loadBA 1 rfl rfl rfl | exact o_loadBA 2 rfl rfl rfl | exact o_loadBA 3 rfl rfl rfl) rfl ?_
          | refine tl_pick (by first | exact o_pick_t rfl rfl | exact o_pick_f rfl rfl) rfl ?_
          | refine tl_bin (by first | exact o_add64 rfl rfl (by omega) | exact o_sub64 rfl rfl (by omega) | exact o_mul64 rfl rfl (by first | assumption | omega)) rfl ?_
          | refine tl_store (by first | exact o_storeB 0 rfl rfl rfl rfl rfl | exact o_storeB 1 rfl rfl rfl rfl rfl | exact o_storeB 2 rfl rfl rfl rfl rfl | exact o_storeBA 0 rfl rfl rfl rfl rfl rfl | exact o_storeBA 1 rfl rfl rfl rfl rfl rfl | exact o_storeBA 2 rfl rfl rfl rfl rfl rfl) ?_
          | refine tl_box (o_box rfl rfl) rfl (fun _ => ?_)
          | refine tl_alloc rfl (fun _ => ?_)))
        refine t_cond rfl (fun h => by cases h) (fun _ => ?_)
        (repeat' (first
          | refine t_seq ?_
          | refine t_region ?_
          | refine xt_then ?_
          | refine tl_nil ?_
          | refine t_block ?_
          | refine t_skip ?_
          | refine t_ret ?_
          | refine t_exit ?_
          | refine xt_blk ?_
          | refine xt_blk_exit ?_
          | refine xt_then_ret ?_
          | refine xt_then_exit ?_
          | refine xt_blk_ret ?_
          | refine xt_blk_other rfl ?_
          | refine xt_round_exit ?_
          | refine xt_round_ret ?_
          | refine tl_run tab rfl rfl ?_
          | refine tl_guard_yes rfl rfl ?_
          | refine tl_guard_no rfl rfl rfl rfl ?_
          | refine tl_guard_undef rfl rfl rfl ?_
          | refine tl_load (by first | exact o_loadB 0 rfl rfl rfl | exact o_loadB 1 rfl rfl rfl | exact o_loadB 2 rfl rfl rfl | exact o_loadB 3 rfl rfl rfl | exact o_loadB 4 rfl rfl rfl | exact o_loadBA 0 rfl rfl rfl | exact o_loadBA 1 rfl rfl rfl | exact o_loadBA 2 rfl rfl rfl | exact o_loadBA 3 rfl rfl rfl) rfl ?_
          | refine tl_pick (by first | exact o_pick_t rfl rfl | exact o_pick_f rfl rfl) rfl ?_
          | refine tl_bin (by first | exact o_add64 rfl rfl (by omega) | exact o_sub64 rfl rfl (by omega) | exact o_mul64 rfl rfl (by first | assumption | omega)) rfl ?_
          | refine tl_store (by first | exact o_storeB 0 rfl rfl rfl rfl rfl | exact o_storeB 1 rfl rfl rfl rfl rfl | exact o_storeB 2 rfl rfl rfl rfl rfl | exact o_storeBA 0 rfl rfl rfl rfl rfl rfl | exact o_storeBA 1 rfl rfl rfl rfl rfl rfl | exact o_storeBA 2 rfl rfl rfl rfl rfl rfl) ?_
          | refine tl_box (o_box rfl rfl) rfl (fun _ => ?_)
          | refine tl_alloc rfl (fun _ => ?_)))
        refine xt_roundW fun w4 hw4 => ⟨(k + 1, trunc B w4), ⟨rfl, rfl, rfl, rfl, rfl, rfl, rfl, rfl, trivial⟩, ⟨⟨by omega, trunc_size hw4.2.2, ?_⟩, hw4.2.1⟩, by simp only; omega⟩
        simp only [edgesTo_succ, hat, ← List.append_assoc]
        exact hloc _ _ _ hw4.1 (trunc_same hw4.2.2)
      · have h1' : ¬ (edgeV p.1 p.2 q.1 q.2).2.1 < (edgeV p.1 p.2 q.1 q.2).2.2.2.1 := of_decide_eq_false h1
        have hat : edgeAt row k = [] := by simp only [edgeAt, hp, hq, if_neg h1']
        (repeat' (first
          | refine t_seq ?_
          | refine t_region ?_
          | refine xt_then ?_
          | refine tl_nil ?_
          | refine t_block ?_
          | refine t_skip ?_
          | refine t_ret ?_
          | refine t_exit ?_
          | refine xt_blk ?_
          | refine xt_blk_exit ?_
          | refine xt_then_ret ?_
          | refine xt_then_exit ?_
          | refine xt_blk_ret ?_
          | refine xt_blk_other rfl ?_
          | refine xt_round_exit ?_
          | refine xt_round_ret ?_
          | refine tl_run tab rfl rfl ?_
          | refine tl_guard_yes rfl rfl ?_
          | refine tl_guard_no rfl rfl rfl rfl ?_
          | refine tl_guard_undef rfl rfl rfl ?_
          | refine tl_load (by first | exact o_loadB 0 rfl rfl rfl | exact o_loadB 1 rfl rfl rfl | exact o_loadB 2 rfl rfl rfl | exact o_loadB 3 rfl rfl rfl | exact o_loadB 4 rfl rfl rfl | exact o_loadBA 0 rfl rfl rfl | exact o_loadBA 1 rfl rfl rfl | exact o_loadBA 2 rfl rfl rfl | exact o_loadBA 3 rfl rfl rfl) rfl ?_
          | refine tl_pick (by first | exact o_pick_t rfl rfl | exact o_pick_f rfl rfl) rfl ?_
          | refine tl_bin (by first | exact o_add64 rfl rfl (by omega) | exact o_sub64 rfl rfl (by omega) | exact o_mul64 rfl rfl (by first | assumption | omega)) rfl ?_
          | refine tl_store (by first | exact o_storeB 0 rfl rfl rfl rfl rfl | exact o_storeB 1 rfl rfl rfl rfl rfl | exact o_storeB 2 rfl rfl rfl rfl rfl | exact o_storeBA 0 rfl rfl rfl rfl rfl rfl | exact o_storeBA 1 rfl rfl rfl rfl rfl rfl | exact o_storeBA 2 rfl rfl rfl rfl rfl rfl) ?_
          | refine tl_box (o_box rfl rfl) rfl (fun _ => ?_)
          | refine tl_alloc rfl (fun _ => ?_)))
        refine t_cond rfl (fun h => by cases h) (fun _ => ?_)
        (repeat' (first
          | refine t_seq ?_
          | refine t_region ?_
          | refine xt_then ?_
          | refine tl_nil ?_
          | refine t_block ?_
          | refine t_skip ?_
          | refine t_ret ?_
          | refine t_exit ?_
          | refine xt_blk ?_
          | refine xt_blk_exit ?_
          | refine xt_then_ret ?_
          | refine xt_then_exit ?_
          | refine xt_blk_ret ?_
          | refine xt_blk_other rfl ?_
          | refine xt_round_exit ?_
          | refine xt_round_ret ?_
          | refine tl_run tab rfl rfl ?_
          | refine tl_guard_yes rfl rfl ?_
          | refine tl_guard_no rfl rfl rfl rfl ?_
          | refine tl_guard_undef rfl rfl rfl ?_
          | refine tl_load (by first | exact o_loadB 0 rfl rfl rfl | exact o_loadB 1 rfl rfl rfl | exact o_loadB 2 rfl rfl rfl | exact o_loadB 3 rfl rfl rfl | exact o_loadB 4 rfl rfl rfl | exact o_loadBA 0 rfl rfl rfl | exact o_loadBA 1 rfl rfl rfl | exact o_loadBA 2 rfl rfl rfl | exact o_loadBA 3 rfl rfl rfl) rfl ?_
          | refine tl_pick (by first | exact o_pick_t rfl rfl | exact o_pick_f rfl rfl) rfl ?_
          | refine tl_bin (by first | exact o_add64 rfl rfl (by omega) | exact o_sub64 rfl rfl (by omega) | exact o_mul64 rfl rfl (by first | assumption | omega)) rfl ?_
          | refine tl_store (by first | exact o_storeB 0 rfl rfl rfl rfl rfl | exact o_storeB 1 rfl rfl rfl rfl rfl | exact o_storeB 2 rfl rfl rfl rfl rfl | exact o_storeBA 0 rfl rfl rfl rfl rfl rfl | exact o_storeBA 1 rfl rfl rfl rfl rfl rfl | exact o_storeBA 2 rfl rfl rfl rfl rfl rfl) ?_
          | refine tl_box (o_box rfl rfl) rfl (fun _ => ?_)
          | refine tl_alloc rfl (fun _ => ?_)))
        refine xt_roundC (k + 1, w2) ⟨rfl, rfl, rfl, rfl, rfl, rfl, rfl, rfl, trivial⟩ ⟨by omega, hs2, ?_⟩ (fun w h => h.sublist (List.nil_sublist _)) (by simp only; omega)
        simp only [edgesTo_succ, hat, List.append_nil]
        exact hJ2
    · (repeat' (first
        | refine t_seq ?_
        | refine t_region ?_
        | refine xt_then ?_
        | refine tl_nil ?_
        | refine t_block ?_
        | refine t_skip ?_
        | refine t_ret ?_
        | refine t_exit ?_
        | refine xt_blk ?_
        | refine xt_blk_exit ?_
        | refine xt_then_ret ?_
        | refine xt_then_exit ?_
        | refine xt_blk_ret ?_
        | refine xt_blk_other rfl ?_
        | refine xt_round_exit ?_
        | refine xt_round_ret ?_
        | refine tl_run tab rfl rfl ?_
        | refine tl_guard_yes rfl rfl ?_
        | refine tl_guard_no rfl rfl rfl rfl ?_
        | refine tl_guard_undef rfl rfl rfl ?_
        | refine tl_load (by first | exact o_loadB 0 rfl rfl rfl | exact o_loadB 1 rfl rfl rfl | exact o_loadB 2 rfl rfl rfl | exact o_loadB 3 rfl rfl rfl | exact o_loadB 4 rfl rfl rfl | exact o_loadBA 0 rfl rfl rfl | exact o_loadBA 1 rfl rfl rfl | exact o_loadBA 2 rfl rfl rfl | exact o_loadBA 3 rfl rfl rfl) rfl ?_
        | refine tl_pick (by first | exact o_pick_t rfl rfl | exact o_pick_f rfl rfl) rfl ?_
        | refine tl_bin (by first | exact o_add64 rfl rfl (by omega) | exact o_sub64 rfl rfl (by omega) | exact o_mul64 rfl rfl (by first | assumption | omega)) rfl ?_
        | refine tl_store (by first | exact o_storeB 0 rfl rfl rfl rfl rfl | exact o_storeB 1 rfl rfl rfl rfl rfl | exact o_storeB 2 rfl rfl rfl rfl rfl | exact o_storeBA 0 rfl rfl rfl rfl rfl rfl | exact o_storeBA 1 rfl rfl rfl rfl rfl rfl | exact o_storeBA 2 rfl rfl rfl rfl rfl rfl) ?_
        | refine tl_box (o_box rfl rfl) rfl (fun _ => ?_)
        | refine tl_alloc rfl (fun _ => ?_)))
      have hkk : k = row.length := by have := of_decide_eq_false h; omega
      subst hkk
      refine xt_roundC (i + 1, w2) ⟨rfl, rfl, rfl, rfl, trivial⟩ ⟨by omega, hs2, ?_⟩ (fun _ h => h) (by simp only; omega)
      simp only [flatMap_take_succ edgesOf ls i row hrow]
      exact hJ2
  · (repeat' (first
      | refine t_seq ?_
      | refine t_region ?_
      | refine xt_then ?_
      | refine tl_nil ?_
      | refine t_block ?_
      | refine t_skip ?_
      | refine t_ret ?_
      | refine t_exit ?_
      | refine xt_blk ?_
      | refine xt_blk_exit ?_
      | refine xt_then_ret ?_
      | refine xt_then_exit ?_
      | refine xt_blk_ret ?_
      | refine xt_blk_other rfl ?_
      | refine xt_round_exit ?_
      | refine xt_round_ret ?_
      | refine tl_run tab rfl rfl ?_
      | refine tl_guard_yes rfl rfl ?_
      | refine tl_guard_no rfl rfl rfl rfl ?_
      | refine tl_guard_undef rfl rfl rfl ?_
      | refine tl_load (by first | exact o_loadB 0 rfl rfl rfl | exact o_loadB 1 rfl rfl rfl | exact o_loadB 2 rfl rfl rfl | exact o_loadB 3 rfl rfl rfl | exact o_loadB 4 rfl rfl rfl | exact o_loadBA 0 rfl rfl rfl | exact o_loadBA 1 rfl rfl rfl | exact o_loadBA 2 rfl rfl rfl | exact o_loadBA 3 rfl rfl rfl) rfl ?_
      | refine tl_pick (by first | exact o_pick_t rfl rfl | exact o_pick_f rfl rfl) rfl ?_
      | refine tl_bin (by first | exact o_add64 rfl rfl (by omega) | exact o_sub64 rfl rfl (by omega) | exact o_mul64 rfl rfl (by first | assumption | omega)) rfl ?_
      | refine tl_store (by first | exact o_storeB 0 rfl rfl rfl rfl rfl | exact o_storeB 1 rfl rfl rfl rfl rfl | exact o_storeB 2 rfl rfl rfl rfl rfl | exact o_storeBA 0 rfl rfl rfl rfl rfl rfl | exact o_storeBA 1 rfl rfl rfl rfl rfl rfl | exact o_storeBA 2 rfl rfl rfl rfl rfl rfl) ?_
      | refine tl_box (o_box rfl rfl) rfl (fun _ => ?_)
      | refine tl_alloc rfl (fun _ => ?_)))
    have hii : i = ls.length := by have := of_decide_eq_false h; omega
    subst hii
    refine xt_end0 rfl fun w' hw' => ⟨⟨_, rfl⟩, ?_⟩
    have hsame := hw'.same
    rw [hs1] at hsame
    rw [List.take_length] at hJ1
    exact hloc _ _ _ hJ1 hsame

end Go.Proofs.Ytbgolbkolcmldaa
