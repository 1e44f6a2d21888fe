/-
  Which pixels lines have.
-/
import Derived.Test.YtbgolbkolcmldaaGG

namespace Go.Proofs.Ytbgolbkolcmldaa
open Go.RowKit
attribute [local irreducible] T TL Xt O Op1 Kt DV ObsB DE DW DW1 LoopQ LoopJ

theorem stretches_calls (v : Value) (h1 : v.cells = #[v]) (w : World) : Calls Try.prog 38 #[v] w (Ret w (Closure1 66 64 v w)) := by
  refine calls_S (vs := [v]) Try.func38 rfl Try.ntmps38 rfl ?_
  (repeat' (first|refine Za ?_|refine Zb ?_|refine Zc ?_|refine Zd ?_|refine Zu tab rfl rfl ?_|(apply Yg; first|refine Yh fun _=>?_|refine Yi (Yj rfl rfl) rfl fun _=>?_)|fail))
  rename_i b
  refine tl_val (o_makeFunc [.pointer (some ⟨b, 0, none⟩)] rfl) rfl rfl ?_
  (repeat' (first|refine Zc ?_|refine Zd ?_|refine Zg ?_|refine Zu tab rfl rfl ?_|fail))
  refine xt_ret1 rfl rfl fun w' hw => ⟨_, rfl, hw.toExt, b, rfl, ?_, ?_⟩
  · have := hw.mine (b, _) (List.mem_cons_self ..)
    simpa using this
  · have := hw.get (List.mem_cons_self ..)
    rw [this]; simp [h1]

/-- a function over three boxes -/
def Closure3 (f : FuncId) (low high : Int) (v : Value) (w : World) (u : Value) (w' : World) : Prop := ∃ b1 b2 b3, u = .func (.func f) #[] #[.pointer (some ⟨b1, 0, none⟩), .pointer (some ⟨b2, 0, none⟩), .pointer (some ⟨b3, 0, none⟩)] ∧ St w [] [(b1, bx [.int .i64 low] 3), (b2, bx [.int .i64 high] 3), (b3, bx [v] 22)] w'
theorem rows_calls (low high : Int) (A : Option Addr) (n cap : Nat) (w : World) : Calls Try.prog 36 #[.slice A n cap, .int .i64 low, .int .i64 high] w (Ret w (Closure3 59 low high (.slice A n cap) w)) := by
  refine calls_S (vs := [.slice A n cap, .int .i64 low, .int .i64 high]) Try.func36 rfl Try.ntmps36 rfl ?_
  (repeat' (first|refine Za ?_|refine Zb ?_|refine Zc ?_|refine Zd ?_|refine Zu tab rfl rfl ?_|(apply Yg; first|refine Yh fun _=>?_|refine Yi (Yj rfl rfl) rfl fun _=>?_)|fail))
  rename_i b3 b1 b2
  refine tl_val (o_makeFunc [.pointer (some ⟨b1, 0, none⟩), .pointer (some ⟨b2, 0, none⟩), .pointer (some ⟨b3, 0, none⟩)] rfl) rfl rfl ?_
  (repeat' (first|refine Zc ?_|refine Zd ?_|refine Zg ?_|refine Zu tab rfl rfl ?_|fail))
  exact xt_ret1 rfl rfl fun w' hw => ⟨_, rfl, hw.toExt, b1, b2, b3, rfl, hw.pick [1, 0, 2] (by decide) rfl⟩

/-- the pixels of a stretch -/
def inS (x : Place × Place) (k : Int) : Bool := decide ((fillV x.1.1 x.1.2 x.2.1 x.2.2).1 ≤ k) && decide (k < (fillV x.1.1 x.1.2 x.2.1 x.2.2).2)
def pxOf (left : Int) (sts : List (Place × Place)) (j : Nat) : Bool := sts.any fun x => inS x (left + j)
def rowSp (left : Int) (wid : Nat) (r : Int × List Cr) : List Sp :=
  if firstIdx (rowB wid (pxOf left (strs r.2 0 (0, 0)))) 35 < 0 then [] else [⟨left + firstIdx (rowB wid (pxOf left (strs r.2 0 (0, 0)))) 35, r.1, trim (rowB wid (pxOf left (strs r.2 0 (0, 0))))⟩]
noncomputable def fillS (ls : List Pts) (q : Int × Int × Int × Int × Bool) : List Sp := (rowsX (rowOf q.2.1) (rowOf q.2.2.2.1 - rowOf q.2.1).toNat (edgesAll ls)).flatMap (rowSp (q.1 / 64) (q.2.2.1 / 64 - q.1 / 64 + 1).toNat)
noncomputable def fillB (ls : List Pts) : Bm := if (boxP ls).2.2.2.2 = false ∨ (boxP ls).2.2.1 - (boxP ls).1 > 65536 ∨ (boxP ls).2.2.2.1 - (boxP ls).2.1 > 65536 then Bm.nil else bmOf (fillS ls (boxP ls))

/-! ### the box holds all -/
def BoxOk (q : Int × Int × Int × Int × Bool) : Prop := q.2.2.2.2 = true → q.1 ≤ q.2.2.1 ∧ q.2.1 ≤ q.2.2.2.1 ∧ -268435456 ≤ q.1 ∧ -268435456 ≤ q.2.1 ∧ q.2.2.1 ≤ 268435456 ∧ q.2.2.2.1 ≤ 268435456
def InBox (q : Int × Int × Int × Int × Bool) (p : Int × Int) : Prop := q.2.2.2.2 = true ∧ q.1 ≤ cut p.1 ∧ cut p.1 ≤ q.2.2.1 ∧ q.2.1 ≤ cut p.2 ∧ cut p.2 ≤ q.2.2.2.1
theorem bxS_ok {q : Int × Int × Int × Int × Bool} {p : Int × Int} (h : BoxOk q) : BoxOk (bxS q p) := by
  intro _
  have h1 := cut_bd p.1
  have h2 := cut_bd p.2
  unfold bxS
  cases hq : q.2.2.2.2
  · simp only [Bool.false_eq_true, if_false]; omega
  · have := h hq
    simp only [if_true]; omega
theorem bxS_in {q : Int × Int × Int × Int × Bool} {p p' : Int × Int} (h : InBox q p') : InBox (bxS q p) p' := by
  unfold InBox at *
  unfold bxS
  rw [h.1]
  simp only [if_true]
  refine ⟨trivial, ?_⟩
  omega
theorem bxS_self (q : Int × Int × Int × Int × Bool) (p : Int × Int) : InBox (bxS q p) p := by
  unfold InBox bxS
  cases hq : q.2.2.2.2
  · simp
  · simp only [if_true]
    refine ⟨trivial, ?_⟩
    omega
theorem fold_ok : ∀ (l : Pts) {q : Int × Int × Int × Int × Bool}, BoxOk q → BoxOk (l.foldl bxS q)
  | [], _, h => h
  | _ :: l, _, h => fold_ok l (bxS_ok h)
theorem fold_in : ∀ (l : Pts) {q : Int × Int × Int × Int × Bool} {p : Int × Int}, InBox q p → InBox (l.foldl bxS q) p
  | [], _, _, h => h
  | _ :: l, _, _, h => fold_in l (bxS_in h)
theorem fold_mem : ∀ (l : Pts) {q : Int × Int × Int × Int × Bool} {p : Int × Int}, p ∈ l → InBox (l.foldl bxS q) p
  | a :: l, q, p, h => by
    rcases List.mem_cons.1 h with rfl | h
    · exact fold_in l (bxS_self q p)
    · exact fold_mem l h
theorem box_ok (ls : List Pts) : BoxOk (boxP ls) := fold_ok _ (fun h => by cases h)
theorem box_in {ls : List Pts} {l : Pts} {p : Int × Int} (hl : l ∈ ls) (hp : p ∈ l) : InBox (boxP ls) p := fold_mem _ (List.mem_flatten.2 ⟨l, hl, hp⟩)
theorem edge_in {ls : List Pts} {e : Edg} (h : e ∈ edgesAll ls) : (boxP ls).1 ≤ e.1 ∧ e.1 ≤ (boxP ls).2.2.1 ∧ (boxP ls).1 ≤ e.2.2.1 ∧ e.2.2.1 ≤ (boxP ls).2.2.1 ∧ (boxP ls).2.1 ≤ e.2.1 ∧ e.2.2.2.1 ≤ (boxP ls).2.2.2.1 := by
  unfold edgesAll edgesOf edgesTo at h
  simp only [List.mem_flatMap] at h
  obtain ⟨l, hl, i, _, he⟩ := h
  unfold edgeAt at he
  split at he
  · rename_i p q hp hq
    have h1 := box_in hl (List.mem_of_getElem? hp)
    have h2 := box_in hl (List.mem_of_getElem? hq)
    unfold InBox at h1 h2
    split at he
    · simp only [List.mem_singleton] at he
      subst he
      unfold edgeV
      split <;> simp only <;> omega
    · simp at he
  · simp at he

/-! ### stretches lie between the sides -/
structure PlIn (lx hx : Int) (p : Place) : Prop where
  ok : PlOk p.1 p.2
  lo : lx * p.2 ≤ p.1
  hi : p.1 ≤ hx * p.2
theorem takeRun_sub (c : Cr) : ∀ (l : List Cr) (t : Int), ∀ a ∈ (takeRun c l t).2, a ∈ l
  | [], t, a, h => by simp [takeRun] at h
  | b :: r, t, a, h => by
    unfold takeRun at h
    split at h
    · exact List.mem_cons_of_mem _ (takeRun_sub c r _ a h)
    · exact h
theorem strs_mem {S : Place → Prop} : ∀ (k : Nat) (cs : List Cr) (t : Int) (f : Place), cs.length ≤ k → (t = 0 ∨ S f) → (∀ c ∈ cs, S c.p) → ∀ x ∈ strs cs t f, S x.1 ∧ S x.2
  | 0, cs, t, f, hk, _, _, x, hx => by
    obtain rfl : cs = [] := List.length_eq_zero_iff.1 (by omega)
    simp [strs] at hx
  | k + 1, [], t, f, hk, _, _, x, hx => by simp [strs] at hx
  | k + 1, c :: r, t, f, hk, hf, hS, x, hx => by
    rw [strs, List.mem_append] at hx
    have hc := hS c (List.mem_cons_self ..)
    have hf' : (takeRun c r (t + c.t)).1 = 0 ∨ S (if t = 0 ∧ (takeRun c r (t + c.t)).1 ≠ 0 then c.p else f) := by
      by_cases h1 : (takeRun c r (t + c.t)).1 = 0
      · exact .inl h1
      · right
        by_cases h2 : t = 0
        · rw [if_pos ⟨h2, h1⟩]; exact hc
        · rw [if_neg (fun h => h2 h.1)]
          rcases hf with h | h
          · exact absurd h h2
          · exact h
    rcases hx with hx | hx
    · split at hx
      · rename_i h
        simp only [List.mem_singleton] at hx
        subst hx
        refine ⟨?_, hc⟩
        simp only
        rw [if_neg (fun h' => h.1 h'.1)]
        rcases hf with h' | h'
        · exact absurd h' h.1
        · exact h'
      · simp at hx
    · have := takeRun_len c r (t + c.t)
      simp only [List.length_cons] at hk
      exact strs_mem k _ _ _ (by omega) hf' (fun a ha => hS a (List.mem_cons_of_mem _ (takeRun_sub c r _ a ha))) x hx

theorem div_scale (a e : Int) (k : Int) (he : 0 < e) : (a * e) / (k * e) = a / k := Int.mul_ediv_mul_of_pos_left a k he
theorem cf_ge {lx n e : Int} (he : 0 < e) (h : lx * e ≤ n) : lx / 64 ≤ cf n e := by
  unfold cf
  have h1 : (32 * e - n) / (64 * e) ≤ ((32 - lx) * e) / (64 * e) := Int.ediv_le_ediv (by omega) (by rw [Int.sub_mul]; omega)
  rw [div_scale _ _ _ he] at h1
  omega
theorem cf_le {hx n e : Int} (he : 0 < e) (h : n ≤ hx * e) : cf n e ≤ hx / 64 + 1 := by
  unfold cf
  have h1 : ((32 - hx) * e) / (64 * e) ≤ (32 * e - n) / (64 * e) := Int.ediv_le_ediv (by omega) (by rw [Int.sub_mul]; omega)
  rw [div_scale _ _ _ he] at h1
  omega
theorem md_in {lx hx n e m f : Int} (h1 : PlIn lx hx (n, e)) (h2 : PlIn lx hx (m, f)) : lx / 64 ≤ md n e m f ∧ md n e m f ≤ hx / 64 := by
  have he := h1.ok.e.1
  have hf := h2.ok.e.1
  have a1 := h1.lo; have a2 := h1.hi; have b1 := h2.lo; have b2 := h2.hi
  simp only at he hf a1 a2 b1 b2
  have hef : 0 < e * f := Int.mul_pos he hf
  have c1 : lx * e * f ≤ n * f := Int.mul_le_mul_of_nonneg_right a1 (by omega)
  have c2 : n * f ≤ hx * e * f := Int.mul_le_mul_of_nonneg_right a2 (by omega)
  have d1 : lx * f * e ≤ m * e := Int.mul_le_mul_of_nonneg_right b1 (by omega)
  have d2 : m * e ≤ hx * f * e := Int.mul_le_mul_of_nonneg_right b2 (by omega)
  have e1 : lx * e * f = lx * (e * f) := Int.mul_assoc ..
  have e2 : lx * f * e = lx * (e * f) := by rw [Int.mul_assoc, Int.mul_comm f e]
  have e3 : hx * e * f = hx * (e * f) := Int.mul_assoc ..
  have e4 : hx * f * e = hx * (e * f) := by rw [Int.mul_assoc, Int.mul_comm f e]
  unfold md
  rw [Int.mul_assoc]
  have g1 : (2 * lx) * (e * f) / (128 * (e * f)) ≤ (n * f + m * e) / (128 * (e * f)) := Int.ediv_le_ediv (by omega) (by rw [Int.mul_assoc]; omega)
  have g2 : (n * f + m * e) / (128 * (e * f)) ≤ (2 * hx) * (e * f) / (128 * (e * f)) := Int.ediv_le_ediv (by omega) (by rw [Int.mul_assoc]; omega)
  rw [div_scale _ _ _ hef] at g1 g2
  omega
theorem fill_in {lx hx : Int} {x : Place × Place} (h1 : PlIn lx hx x.1) (h2 : PlIn lx hx x.2) : lx / 64 ≤ (fillV x.1.1 x.1.2 x.2.1 x.2.2).1 ∧ (fillV x.1.1 x.1.2 x.2.1 x.2.2).2 ≤ hx / 64 + 1 := by
  have hm := md_in h1 h2
  have ha := cf_ge h1.ok.e.1 h1.lo
  have hb := cf_le h2.ok.e.1 h2.hi
  unfold fillV
  by_cases h : cf x.1.1 x.1.2 = cf x.2.1 x.2.2
  · rw [if_pos h]; exact ⟨hm.1, Int.add_le_add_right hm.2 1⟩
  · rw [if_neg h]; exact ⟨ha, hb⟩
theorem crOf_in {lx hx y : Int} {e : Edg} (hok : EdgeOk e) (hc : crB y e = true) (hd : e.2.2.2.1 - e.2.1 ≤ 65536) (h0 : lx ≤ e.1 ∧ e.1 ≤ hx) (h1 : lx ≤ e.2.2.1 ∧ e.2.2.1 ≤ hx) : PlIn lx hx (crOf y e).p := by
  refine ⟨(crOf_ok hok hc hd).p, ?_, ?_⟩
  all_goals
    simp only [crB, Bool.and_eq_true] at hc
    have h3 := of_decide_eq_true hc.1
    have h4 := of_decide_eq_true hc.2
    show _ ≤ _
    simp only [crOf, Cr.p]
    have e1 : atN e y = e.1 * (e.2.2.2.1 - y) + e.2.2.1 * (y - e.2.1) := by
      unfold atN
      simp only [Int.mul_sub, Int.sub_mul]
      omega
    have e2 : atD e = (e.2.2.2.1 - y) + (y - e.2.1) := by unfold atD; omega
    rw [e1, e2, Int.mul_add]
  · exact Int.add_le_add (Int.mul_le_mul_of_nonneg_right h0.1 (by omega)) (Int.mul_le_mul_of_nonneg_right h1.1 (by omega))
  · exact Int.add_le_add (Int.mul_le_mul_of_nonneg_right h0.2 (by omega)) (Int.mul_le_mul_of_nonneg_right h1.2 (by omega))

/-- what the rows of lines hold -/
theorem rowsX_ok {ls : List Pts} {N : Nat} {r : Int × List Cr} (h2 : (boxP ls).2.2.2.1 - (boxP ls).2.1 ≤ 65536) (hr : r ∈ rowsX (rowOf (boxP ls).2.1) N (edgesAll ls)) : (∀ c ∈ r.2, CrOk c ∧ PlIn (boxP ls).1 (boxP ls).2.2.1 c.p) ∧ ∃ i : Nat, i < N ∧ r.1 = rowOf (boxP ls).2.1 + i ∧ r.2.length ≤ N * (edgesAll ls).length := by
  obtain ⟨i, hi, rfl⟩ := List.mem_map.1 hr
  have hi := List.mem_range.1 hi
  have hall : ∀ c ∈ (actE (rowOf (boxP ls).2.1) (edgesAll ls) (i + 1)).map (crOf (rowY (rowOf (boxP ls).2.1) i)), CrOk c ∧ PlIn (boxP ls).1 (boxP ls).2.2.1 c.p := fun c hc => by
    obtain ⟨e, he, rfl⟩ := List.mem_map.1 hc
    have hm := actE_mem he
    have hin := edge_in hm
    exact ⟨crOf_ok (edgesAll_ok hm) (actE_cross he) (by omega), crOf_in (edgesAll_ok hm) (actE_cross he) (by omega) (by omega) (by omega)⟩
  have hp := (sortCr_spec fun c hc => (hall c hc).1).1
  refine ⟨fun c hc => hall c (hp.mem_iff.1 hc), i, hi, rfl, ?_⟩
  show (sortCr _).length ≤ _
  rw [hp.length_eq, List.length_map]
  exact Nat.le_trans (actE_le _ _ _) (Nat.mul_le_mul_right _ hi)

end Go.Proofs.Ytbgolbkolcmldaa

/-
  Which pixels lines have: the walk.
-/
namespace Go.Proofs.Ytbgolbkolcmldaa
open Go.RowKit
theorem St.addSt {w0 w1 w2 : World} {X : List Nat} {L L2 : HL} (h : St w0 X L w1) (h2 : St w1 [] L2 w2) : St w0 X (L2 ++ L) w2 := by
  have hge : ∀ p ∈ L2, w1.heap.size ≤ p.1 := fun p hp => by
    rcases h2.mine p hp with h' | h'
    · exact h'
    · simp at h'
  refine ⟨h2.os.trans h.os, h2.tape.trans h.tape, h2.output.trans h.output, Nat.le_trans h.size h2.size, fun k hk hx => (h2.old k (Nat.lt_of_lt_of_le hk h.size) (by simp)).trans (h.old k hk hx), fun p hp => ?_, fun p hp => ?_, ?_⟩
  · rcases List.mem_append.1 hp with hp | hp
    · exact h2.here p hp
    · obtain ⟨o, ho, hq⟩ := h.here p hp
      exact ⟨o, (h2.old p.1 (h.lt hp) (by simp)).trans ho, hq⟩
  · rcases List.mem_append.1 hp with hp | hp
    · exact .inl (Nat.le_trans h.size (hge p hp))
    · exact h.mine p hp
  · rw [List.map_append, List.nodup_append]
    refine ⟨h2.apart, h.apart, fun a ha b hb hab => ?_⟩
    obtain ⟨p, hp, rfl⟩ := List.mem_map.1 ha
    obtain ⟨q, hq, rfl⟩ := List.mem_map.1 hb
    have := hge p hp
    have := h.lt hq
    omega
section
variable {P : Program} {nt : Nat} {fr : Fr} {w0 : World} {X : List Nat} {L : HL}
theorem xt_retMA (i : Nat) {fn : Func} {w : World} {Post : Value → World → Prop} {t : Tmp} {e e' : TypeId} {b k db : Nat} {cs : List Value} [CAg P e k] (hr : fn.results = #[.cell t e]) (hv : flook fr t = some (.pointer (some ⟨b, 0, none⟩))) (hL : L[i]? = some (b, bx cs e')) (hl : cs.length = k) (h : ∀ w', St w [] L w' → Post (.agg cs.toArray) w') :
    Xt P .ret (bodyPostM Fence.wide 0 P fn (Ret w Post)) nt [{ target := .collected db, args := #[] }] fr (St w [] (L ++ [(db, defO)])) := by
  intro a w' ha hw
  obtain ⟨o, ho, hq⟩ := hw.here (db, defO) (by simp)
  rw [hq] at ho
  have hL' : St w [] L (w'.putObj db (.deferred none)) := (hw.turn (q' := fun _ => True) trivial).sublist (List.sublist_append_left ..)
  show LeavesInM _ _ _ _ _ _ a.defers _ _
  rw [ha.defers]
  refine ⟨by simp, .inl ⟨_, _, rfl, run_takeDeferred ho, ?_⟩⟩
  exact ⟨_, results_cell hr (ha.look t _ hv) hl (fun j v hj => by rw [hL'.cell (List.mem_of_getElem? hL), Nat.zero_add, hj]), _, rfl, hL'.toExt, h _ hL'⟩
theorem xt_perm {e : Exit} {Q : Exit → Act → World → Prop} {D : List Deferred} {L' : HL} (hL : ∀ w, St w0 X L w → St w0 X L' w) (h : Xt P e Q nt D fr (St w0 X L')) : Xt P e Q nt D fr (St w0 X L) := fun a w ha hw => h a w ha (hL w hw)
theorem xt_retMA0 (i : Nat) {fn : Func} {w : World} {Post : Value → World → Prop} {t : Tmp} {e e' : TypeId} {b k : Nat} {cs : List Value} [CAg P e k] (hr : fn.results = #[.cell t e]) (hv : flook fr t = some (.pointer (some ⟨b, 0, none⟩))) (hL : L[i]? = some (b, bx cs e')) (hl : cs.length = k) (h : ∀ w', St w [] L w' → Post (.agg cs.toArray) w') :
    Xt P .ret (bodyPostM Fence.wide 0 P fn (Ret w Post)) nt [] fr (St w [] L) := by
  intro a w' ha hw
  show LeavesInM _ _ _ _ _ _ a.defers _ _
  rw [ha.defers]
  exact ⟨_, results_cell hr (ha.look t _ hv) hl (fun j v hj => by rw [hw.cell (List.mem_of_getElem? hL), Nat.zero_add, hj]), _, rfl, hw.toExt, h _ hw⟩
end
end Go.Proofs.Ytbgolbkolcmldaa
namespace Go.Proofs.Ytbgolbkolcmldaa
open Go.RowKit
attribute [local irreducible] T TL Xt O Op1 Kt DV ObsB DE DW DW1 LoopQ LoopJ

theorem rowB_size (W : Nat) (p : Nat → Bool) : (rowB W p).size = W := by simp [rowB, ByteArray.size]
theorem rowSp_le (left : Int) (wid : Nat) (r : Int × List Cr) : (rowSp left wid r).length ≤ 1 := by
  unfold rowSp
  split <;> simp
theorem rowSps_le (left : Int) (wid : Nat) : ∀ l : List (Int × List Cr), (l.flatMap (rowSp left wid)).length ≤ l.length
  | [] => by simp
  | r :: l => by
    have h1 := rowSp_le left wid r
    have h2 := rowSps_le left wid l
    rw [List.flatMap_cons, List.length_append, List.length_cons]
    omega
theorem rowSp_ok {left : Int} {wid : Nat} {r : Int × List Cr} (h1 : -8388608 ≤ left ∧ left ≤ 8388608) (h2 : wid ≤ 1026) (h3 : -8388608 ≤ r.1 ∧ r.1 ≤ 8388608) : ∀ s ∈ rowSp left wid r, SpOk s := by
  intro s hs
  unfold rowSp at hs
  split at hs
  · simp at hs
  · rename_i h
    simp only [List.mem_singleton] at hs
    subst hs
    have := firstIdx_trim h
    rw [rowB_size] at this
    unfold SpOk
    dsimp only
    omega
theorem St.headImp {w0 w : World} {X : List Nat} {L : HL} {b : Nat} {q q' : Obj → Prop} (h : St w0 X ((b, q) :: L) w) (hi : ∀ o, q o → q' o) : St w0 X ((b, q') :: L) w := by
  refine ⟨h.os, h.tape, h.output, h.size, h.old, fun p hp => ?_, fun p hp => ?_, h.apart⟩
  · rcases List.mem_cons.1 hp with rfl | hp
    · obtain ⟨o, ho, hq⟩ := h.here (b, q) (List.mem_cons_self ..)
      exact ⟨o, ho, hi o hq⟩
    · exact h.here p (List.mem_cons_of_mem _ hp)
  · rcases List.mem_cons.1 hp with rfl | hp
    · exact h.mine (b, q) (List.mem_cons_self ..)
    · exact h.mine p (List.mem_cons_of_mem _ hp)
theorem perm_last {Pf A T1 T2 : HL} : (Pf ++ (A ++ T1 ++ T2)).Perm ((Pf ++ (T1 ++ T2)) ++ A) := by
  rw [List.append_assoc Pf]
  refine List.Perm.append_left Pf ?_
  rw [List.append_assoc]
  exact List.perm_append_comm
theorem perm3 {α : Type} {a b c : α} {L : List α} : (a :: b :: c :: L).Perm (c :: b :: a :: L) := (List.Perm.swap b a (c :: L)).trans ((List.Perm.cons b (.swap c a L)).trans (.swap c b (a :: L)))
theorem crs_rd {W w : World} {X : List Nat} {L : HL} {bc : Nat} {cs : List Cr} (hs : St W X L w) (hX : bc ∉ X) (hb : W.heap[bc]? = some (.cells (cs.flatMap crCells).toArray 108 (0, 0))) (hl : cs.length ≤ 1000000000) : Rd w 3 (.slice (some ⟨bc, 0, none⟩) cs.length cs.length) (cs.flatMap crCells) := by
  have hlt := (Array.getElem?_eq_some_iff.1 hb).1
  have hw := (hs.old bc hlt hX).trans hb
  refine ⟨_, _, _, rfl, cr_len cs, Nat.le_refl _, by unfold maxLen; omega, fun _ => ⟨bc, 0, rfl, Nat.lt_of_lt_of_le hlt hs.size, fun j v hj => ?_⟩⟩
  rw [Nat.zero_add, cell_of hw]
  simpa using hj
theorem pxOf_snoc (left : Int) (pre : List (Place × Place)) (x : Place × Place) (j : Nat) : pxOf left (pre ++ [x]) j = (pxOf left pre j || inS x (left + j)) := by
  simp [pxOf, List.any_append]
theorem Lines.to {w w' : World} {v : Value} {ls : List Pts} (h : Lines w v ls) (he : Ext w w') : Lines w' v ls := by
  obtain ⟨rows, h1, h2, h3⟩ := h
  exact ⟨rows, h1.ext he, h2, fun i r l hr hl => (h3 i r l hr hl).ext he⟩

set_option maxHeartbeats 4000000 in
theorem fill_calls (w : World) (A : Option Addr) (n cap : Nat) (ls : List Pts) (hL : Lines w (.slice A n cap) ls) (hes : (edgesAll ls).length ≤ 100000) : Calls Try.prog 17 #[.slice A n cap] w (Ret w fun v w' => BmI w w' v (fillB ls)) := by
  refine calls_M (vs := [.slice A n cap]) Try.func17 rfl Try.ntmps17 rfl ?_
  (repeat' (first|refine Za ?_|refine Zb ?_|refine Zc ?_|refine Zd ?_|refine Zu tab rfl rfl ?_|refine Yk rfl fun _=>?_|fail))
  rename_i b2
  refine tl_callV (u := boxV (boxP ls)) (fun w1 hw1 => box_calls w1 A n cap ls (hL.to hw1.toExt)) rfl rfl ?_
  have hbo := box_ok ls
  unfold fillB
  obtain ⟨⟨lx, ly, hx, hy, ok⟩, hq⟩ : ∃ q, q = boxP ls := ⟨_, rfl⟩
  rw [← hq] at hbo ⊢
  unfold boxV
  dsimp only
  have hnl : (edgesAll ls).length = (edgesAll ls).length := rfl
  unfold BoxOk at hbo
  dsimp only at hbo
  cases ok with
  | false =>
    rw [if_pos (.inl rfl)]
    (repeat' (first|refine Za ?_|refine Zb ?_|refine Zc ?_|refine Zd ?_|refine Zg ?_|refine Zk ?_|refine Zu tab rfl rfl ?_|refine Zw rfl rfl rfl rfl ?_|(apply Ya;refine Yb ?_)|(apply Ye;refine Yf ?_)|refine Yk rfl fun _=>?_|(apply Yl;refine Ym ?_)|refine Yx rfl ?_|fail))
    refine xt_retMA0 2 rfl rfl rfl rfl fun w1 hw1 => bmI_nil w w1
  | true =>
  have hbo := hbo rfl
  (repeat' (first|refine Za ?_|refine Zb ?_|refine Zc ?_|refine Zd ?_|refine Zu tab rfl rfl ?_|refine Zv rfl rfl ?_|(apply Zy;refine Zz ?_)|(apply Ya;refine Yb ?_)|(apply Yc;refine Yd ?_)|(apply Ye;refine Yf ?_)|refine Yk rfl fun _=>?_|fail))
  refine tl_if [0, 2, 3, 4] (hx - lx > 65536 ∨ hy - ly > 65536) rfl (fun Q' K => ?_) (fun hC => ?_) (fun hC => ?_)
  · (repeat' (first|refine Zd ?_|refine Zu tab rfl rfl ?_|refine Zv rfl rfl ?_|refine Zw rfl rfl rfl rfl ?_|(apply Zy;refine Zz ?_)|(apply Ya;refine Yb ?_)|(apply Yc;refine Yd ?_)|refine tl_guard rfl rfl rfl (fun _ => ?_) (fun _ => ?_)|fail))
    all_goals exact K _ _ rfl rfl (by simp_all <;> omega)
  · rw [if_pos (.inr hC)]
    (repeat' (first|refine Za ?_|refine Zb ?_|refine Zc ?_|refine Zd ?_|refine Zg ?_|refine Zk ?_|(apply Ye;refine Yf ?_)|(apply Yl;refine Ym ?_)|fail))
    exact xt_retMA0 2 rfl rfl rfl rfl fun w1 hw1 => bmI_nil w w1
  rw [if_neg (by simp only [Bool.true_eq_false, false_or]; exact hC)]
  have hC' : hx - lx ≤ 65536 ∧ hy - ly ≤ 65536 := by omega
  have i1 : CDet Try.prog 35 [.int .i64 lx, .int .i64 64] (.int .i64 (lx / 64)) := ⟨down_det lx 64 (by omega) (by omega)⟩
  have i2 : CDet Try.prog 35 [.int .i64 hx, .int .i64 64] (.int .i64 (hx / 64)) := ⟨down_det hx 64 (by omega) (by omega)⟩
  (repeat' (first|refine Za ?_|refine Zb ?_|refine Zc ?_|refine Zd ?_|refine Zf ?_|refine Zu tab rfl rfl ?_|(apply Zy;refine Zz ?_)|(apply Ye;refine Yf ?_)|refine Yk rfl fun _=>?_|(apply Yt;refine Yu ?_)|fail))
  refine t_drawW 7 [(0, .v), (1, .v), (3, .v), (2, .e), (4, .v), (5, .v), (6, .a)] ?_ rfl (by kernel_rfl) (by kernel_rfl) rfl (by kernel_rfl) mixed (by kernel_rfl) rfl
  (repeat' (first|refine Yz rfl ?_|refine Vd tab ?_|refine Ve fun _=>?_|(apply Vf;refine Vg ?_)|(apply Vj;refine Vk ?_)|(apply Vp;refine Vq ?_)|fail))
  refine dw_end [0, 2, 3, 4, 6, 7, 52] (rest := []) rfl ?_
  (repeat' (first|refine Za ?_|refine Zb ?_|refine Zc ?_|refine Zd ?_|refine Zu tab rfl rfl ?_|(apply Zy;refine Zz ?_)|(apply Ye;refine Yf ?_)|refine Yk rfl fun _=>?_|fail))
  rename_i b3 b4 b6 b7 b8
  refine tl_ret (β := Nat × Nat × Nat) (fun c => .func (.func 59) #[] #[.pointer (some ⟨c.1, 0, none⟩), .pointer (some ⟨c.2.1, 0, none⟩), .pointer (some ⟨c.2.2, 0, none⟩)]) (fun c => [(c.1, bx [.int .i64 ly] 3), (c.2.1, bx [.int .i64 hy] 3), (c.2.2, bx [.slice A n cap] 22)]) (fun w1 _ => rows_calls ly hy A n cap w1) rfl (fun w1 v w2 hs he ⟨c1, c2, c3, hv, hst⟩ => ⟨(c1, c2, c3), hv, hs.addSt hst⟩) rfl ?_
  rintro ⟨c1, c2, c3⟩
  dsimp only
  obtain ⟨wd, hwd⟩ : ∃ wd : Nat, hx / 64 - lx / 64 + 1 = wd := ⟨(hx / 64 - lx / 64 + 1).toNat, by omega⟩
  obtain ⟨N, hN⟩ : ∃ N : Nat, (N : Int) = rowOf hy - rowOf ly := ⟨(rowOf hy - rowOf ly).toNat, by have := rowOf_mono hbo.2.1; omega⟩
  have hwd1 : 1 ≤ wd ∧ wd ≤ 1026 := by omega
  have hN1 : N ≤ 1025 := by unfold rowOf at hN; omega
  have hqi : (boxP ls).1 = lx ∧ (boxP ls).2.1 = ly ∧ (boxP ls).2.2.1 = hx ∧ (boxP ls).2.2.2.1 = hy := by rw [← hq]; exact ⟨rfl, rfl, rfl, rfl⟩
  have hein : ∀ e ∈ edgesAll ls, ly ≤ e.2.1 ∧ e.2.2.2.1 ≤ hy := fun e he => by have := edge_in he; omega
  have hfs : fillS ls (lx, ly, hx, hy, true) = (rowsX (rowOf ly) N (edgesAll ls)).flatMap (rowSp (lx / 64) wd) := by
    unfold fillS
    dsimp only
    rw [← hN, hwd, Int.toNat_natCast, Int.toNat_natCast]
  rw [hwd, hfs]
  (repeat' (first|refine Zc ?_|refine Zd ?_|refine Ze ?_|fail))
  refine t_range2 (rows_iter w c1 c2 c3 ly hy A n cap N ls hL (by omega) (by omega) (by omega) (by omega) hN hes hein) rfl (fun pre L => ∃ v Lv, OwnsV v 75 3 (pre.flatMap (rowSp (lx / 64) wd)).length ((pre.flatMap (rowSp (lx / 64) wd)).flatMap spCells) Lv ∧ L = (b8, bx [v] 60) :: (b7, bx [.int .i64 wd] 2) :: (b6, bx [.int .i64 (lx / 64)] 2) :: (b2, bx [.int .i64 0, .int .i64 0, .int .i64 0, .int .i64 0, .slice none 0 0] 30) :: (c1, bx [.int .i64 ly] 3) :: (c2, bx [.int .i64 hy] 3) :: (c3, bx [.slice A n cap] 22) :: Lv) ⟨_, [], OwnsV.nil, rfl⟩ (fun w' hw' => hw'.pick [3, 4, 5, 8, 0, 1, 2] (by decide) rfl) ?_ ?_ rfl ?_ ?_
  · rintro pre L w' ⟨v, Lv, _, rfl⟩ hw'
    exact ⟨⟨hw'.size, fun k hk => hw'.old k hk (by simp)⟩, ⟨hw'.lt (p := (c1, bx [.int .i64 ly] 3)) (by simp), hw'.cell (b := c1) (cs := [.int .i64 ly]) (t := 3) (by simp) 0⟩, ⟨hw'.lt (p := (c2, bx [.int .i64 hy] 3)) (by simp), hw'.cell (b := c2) (cs := [.int .i64 hy]) (t := 3) (by simp) 0⟩, ⟨hw'.lt (p := (c3, bx [.slice A n cap] 22)) (by simp), hw'.cell (b := c3) (cs := [.slice A n cap]) (t := 22) (by simp) 0⟩⟩
  · rintro _ _ _ e vs ⟨b, rfl, _⟩
    rfl
  · rintro l db rec pre r L W1 vs B1 ids hpre ⟨v, Lv, hown, rfl⟩ hst ⟨bc, rfl, hbB, hbi, hbh⟩ hkB
    have hmem : r ∈ rowsX (rowOf ly) N (edgesAll ls) := hpre.subset (by simp)
    have hrk := rowsX_ok (ls := ls) (N := N) (r := r) (by omega) (by rw [hqi.2.1]; exact hmem)
    rw [hqi.1, hqi.2.1, hqi.2.2.1] at hrk
    obtain ⟨hcs, i, hiN, hr1, hrl⟩ := hrk
    have hbcX : bc ∉ l :: (((b8, bx [v] 60) :: (b7, bx [.int .i64 wd] 2) :: (b6, bx [.int .i64 (lx / 64)] 2) :: (b2, bx [.int .i64 0, .int .i64 0, .int .i64 0, .int .i64 0, .slice none 0 0] 30) :: (c1, bx [.int .i64 ly] 3) :: (c2, bx [.int .i64 hy] 3) :: (c3, bx [.slice A n cap] 22) :: Lv) ++ [(db, defO)]).map (·.1) := fun h => by
      rcases hkB bc h with h | h
      · omega
      · exact hbi h
    clear hst hkB
    generalize hX : (l :: (((b8, bx [v] 60) :: (b7, bx [.int .i64 wd] 2) :: (b6, bx [.int .i64 (lx / 64)] 2) :: (b2, bx [.int .i64 0, .int .i64 0, .int .i64 0, .int .i64 0, .slice none 0 0] 30) :: (c1, bx [.int .i64 ly] 3) :: (c2, bx [.int .i64 hy] 3) :: (c3, bx [.slice A n cap] 22) :: Lv) ++ [(db, defO)]).map (·.1)) = X at hbcX ⊢
    try dsimp only [List.cons_append, List.nil_append, List.map_cons, List.map_nil]
    (repeat' (first|refine Za ?_|refine Zb ?_|refine Zc ?_|refine Zd ?_|refine Zu tab rfl rfl ?_|fail))
    refine xt_beginK [6, 7, 8, 9, 10] ((b8, bx [v] 60) :: (b7, bx [.int .i64 wd] 2) :: (b6, bx [.int .i64 (lx / 64)] 2) :: (b2, bx [.int .i64 0, .int .i64 0, .int .i64 0, .int .i64 0, .slice none 0 0] 30) :: (c1, bx [.int .i64 ly] 3) :: (c2, bx [.int .i64 hy] 3) :: (c3, bx [.slice A n cap] 22) :: (Lv ++ [(db, defO)])) rfl ?_
    try dsimp only [List.cons_append, List.nil_append, List.map_cons, List.map_nil]
    (repeat' (first|refine Za ?_|refine Zb ?_|refine Ze ?_|(apply Zy;refine Zz ?_)|fail))
    refine tl_ret (fun b => rowSl wd b) (fun b => [(b, px 5 wd fun _ => false)]) (fun w' _ => blank_calls wd (by omega) w') rfl (fun w1 v w2 hs he ⟨b, o, hv, hb, hh, hq⟩ => ⟨b, hv, hs.addNew he hb hh (px_blank hq)⟩) rfl fun pb => ?_
    unfold rowSl
    (repeat' (first|refine Za ?_|refine Zb ?_|refine Zc ?_|refine Zd ?_|refine Zu tab rfl rfl ?_|(apply Ye;refine Yf ?_)|refine Yk rfl fun _=>?_|fail))
    rename_i b11
    refine tl_ret (fun bl => .func (.func 66) #[] #[.pointer (some ⟨bl, 0, none⟩)]) (fun bl => [(bl, bx [.slice (some ⟨bc, 0, none⟩) r.2.length r.2.length] 64)]) (fun w _ => stretches_calls (.slice (some ⟨bc, 0, none⟩) r.2.length r.2.length) rfl w) rfl (fun w1 v w2 hs he ⟨bl, hv, hb, hh⟩ => ⟨bl, hv, hs.addNew he hb hh rfl⟩) rfl fun bs => ?_
    (repeat' (first|refine Zc ?_|refine Zd ?_|refine Ze ?_|fail))
    have hle : N * (edgesAll ls).length ≤ 1025 * 100000 := Nat.mul_le_mul hN1 hes
    refine t_rangeIn2 (stretches_iter bs (some ⟨bc, 0, none⟩) r.2.length r.2.length r.2 (fun c hc => (hcs c hc).1) (by omega)) (l₀ := l) (rec₀ := rec) (st₀ := .busy) (by simp) rfl (fun pre2 L => L = (pb, px 5 wd (pxOf (lx / 64) pre2)) :: (b11, bx [.slice (some ⟨pb, 0, none⟩) wd wd] 65) :: (bs, bx [.slice (some ⟨bc, 0, none⟩) r.2.length r.2.length] 64) :: (b8, bx [v] 60) :: (b7, bx [.int .i64 wd] 2) :: (b6, bx [.int .i64 (lx / 64)] 2) :: (b2, bx [.int .i64 0, .int .i64 0, .int .i64 0, .int .i64 0, .slice none 0 0] 30) :: (c1, bx [.int .i64 ly] 3) :: (c2, bx [.int .i64 hy] 3) :: (c3, bx [.slice A n cap] 22) :: (Lv ++ [(db, defO)] ++ [(l, recO rec .busy)])) rfl (fun w' hw' => hw'.perm perm3) ?_ ?_ rfl ?_ ?_
    · rintro pre2 L w' rfl hw'
      refine ⟨?_, ⟨hw'.lt (p := (bs, bx [.slice (some ⟨bc, 0, none⟩) r.2.length r.2.length] 64)) (by simp), hw'.cell (b := bs) (cs := [.slice (some ⟨bc, 0, none⟩) r.2.length r.2.length]) (t := 64) (by simp) 0⟩⟩
      exact crs_rd hw' hbcX hbh (by omega)
    · rintro _ _ _ e vs rfl
      rfl
    · rintro l2 rec2 pre2 x L W2 vs B2 ids2 hpre2 rfl hst2 rfl hkB2
      clear hst2 hkB2
      generalize (l2 :: List.map (fun x : Nat × (Obj → Prop) => x.1) _) = X2
      try dsimp only [List.cons_append, List.nil_append, List.map_cons, List.map_nil]
      (repeat' (first|refine Za ?_|refine Zb ?_|refine Zc ?_|refine Zd ?_|(apply Ye;refine Yf ?_)|refine Yk rfl fun _=>?_|fail))
      rename_i b12 b13
      have hxm : x ∈ strs r.2 0 (0, 0) := hpre2.subset (by simp)
      obtain ⟨hp1, hp2⟩ := strs_mem (S := PlIn lx hx) _ r.2 0 (0, 0) (Nat.le_refl _) (.inl rfl) (fun c hc => (hcs c hc).2) x hxm
      obtain ⟨hf1, hf2⟩ := fill_in hp1 hp2
      have hi : CDet Try.prog 39 [pl x.1.1 x.1.2, pl x.2.1 x.2.2] _ := ⟨filled_det x.1.1 x.1.2 x.2.1 x.2.2 hp1.ok hp2.ok⟩
      have hfb : ∀ k, pxOf (lx / 64) (pre2 ++ [x]) k = (pxOf (lx / 64) pre2 k || inS x (lx / 64 + k)) := pxOf_snoc _ _ _
      unfold inS at hfb
      generalize hfv : fillV x.1.1 x.1.2 x.2.1 x.2.2 = fv at hi hf1 hf2 hfb
      obtain ⟨ff, fb⟩ := fv
      dsimp only at hi hf1 hf2 hfb
      refine xt_beginK [6, 11, 12, 13] ((b13, bx [.int .i64 x.2.1, .int .i64 x.2.2] 71) :: (b12, bx [.int .i64 x.1.1, .int .i64 x.1.2] 71) :: (pb, px 5 wd (pxOf (lx / 64) pre2)) :: (b11, bx [.slice (some ⟨pb, 0, none⟩) wd wd] 65) :: (bs, bx [.slice (some ⟨bc, 0, none⟩) r.2.length r.2.length] 64) :: (b8, bx [v] 60) :: (b7, bx [.int .i64 wd] 2) :: (b6, bx [.int .i64 (lx / 64)] 2) :: (b2, bx [.int .i64 0, .int .i64 0, .int .i64 0, .int .i64 0, .slice none 0 0] 30) :: (c1, bx [.int .i64 ly] 3) :: (c2, bx [.int .i64 hy] 3) :: (c3, bx [.slice A n cap] 22) :: (Lv ++ [(db, defO)] ++ [(l, recO rec .busy)])) rfl ?_
      try dsimp only [List.cons_append, List.nil_append, List.map_cons, List.map_nil]
      (repeat' (first|refine Za ?_|refine Zb ?_|refine Zc ?_|refine Zd ?_|refine Ze ?_|refine Zu tab rfl rfl ?_|(apply Zy;refine Zz ?_)|(apply Yt;refine Yu ?_)|fail))
      refine t_loopK [6, 11, 15] (α := Int) (fun i => [(16, .int .i64 i)]) (fun i => ff ≤ i ∧ (i ≤ fb ∨ i = ff)) (fun i => (pb, px 5 wd (fun k => pxOf (lx / 64) pre2 k || (decide (ff ≤ lx / 64 + k) && decide (lx / 64 + k < i)))) :: (b11, bx [.slice (some ⟨pb, 0, none⟩) wd wd] 65) :: (bs, bx [.slice (some ⟨bc, 0, none⟩) r.2.length r.2.length] 64) :: (b8, bx [v] 60) :: (b7, bx [.int .i64 wd] 2) :: (b6, bx [.int .i64 (lx / 64)] 2) :: (b2, bx [.int .i64 0, .int .i64 0, .int .i64 0, .int .i64 0, .slice none 0 0] 30) :: (c1, bx [.int .i64 ly] 3) :: (c2, bx [.int .i64 hy] 3) :: (c3, bx [.slice A n cap] 22) :: (Lv ++ [(db, defO)] ++ [(l, recO rec .busy)] ++ [(l2, recO rec2 .busy)])) (fun i => (fb - i).toNat) ff rfl ⟨rfl, trivial⟩ ⟨Int.le_refl _, .inr rfl⟩ (fun w' hw' => ?_) ?_
      · refine St.headImp (hw'.sublist (.cons _ (.cons _ (List.Sublist.refl _)))) fun o ho => px_congr ho fun k hk => ?_
        by_cases h1 : ff ≤ lx / 64 + k
        · rw [decide_eq_false (show ¬ lx / 64 + (k : Int) < ff by omega), Bool.and_false, Bool.or_false]
        · rw [decide_eq_false h1, Bool.false_and, Bool.or_false]
      rintro i ⟨hi1, hi2⟩
      try dsimp only [List.cons_append, List.nil_append, List.map_cons, List.map_nil]
      (repeat' (first|refine Za ?_|refine Zb ?_|refine Zc ?_|refine Zd ?_|refine Zu tab rfl rfl ?_|fail))
      refine t_cond rfl (fun h => ?_) (fun h => ?_)
      · have hlt := of_decide_eq_true h
        (repeat' (first|refine Za ?_|refine Zb ?_|refine Zc ?_|refine Ze ?_|refine Zf ?_|refine Zu tab rfl rfl ?_|(apply Zy;refine Zz ?_)|(apply Yc;refine Yd ?_)|(apply Yn;refine Yo ?_)|fail))
        refine tl_store (o_storePx 0 rfl rfl rfl (by omega)) ?_
        (repeat' (first|refine Zb ?_|refine Zc ?_|refine Zd ?_|refine Zi ?_|refine Zu tab rfl rfl ?_|(apply Yc;refine Yd ?_)|fail))
        refine xt_roundK (i + 1) rfl ⟨rfl, trivial⟩ ⟨by omega, .inl (by omega)⟩ (by omega) fun w' hw' => ?_
        refine St.headImp hw' fun o ho => px_congr ho fun k hk => ?_
        rw [Bool.or_assoc]
        congr 1
        by_cases h1 : ff ≤ lx / 64 + k
        · rw [decide_eq_true h1, Bool.true_and, Bool.true_and, ← Bool.decide_or]
          exact decide_eq_decide.2 (by omega)
        · rw [decide_eq_false h1, Bool.false_and, Bool.false_and, Bool.false_or]
          exact decide_eq_false (by omega)
      · have hge := of_decide_eq_false h
        (repeat' (first|refine Zh ?_|refine Zi ?_|refine Zj ?_|refine Zl ?_|refine Zq ?_|fail))
        refine xt_roundEnd2 _ rfl fun w' hw' => ?_
        refine St.headImp hw' fun o ho => px_congr ho fun k hk => ?_
        rw [hfb]
        congr 1
        by_cases h1 : ff ≤ lx / 64 + k
        · rw [decide_eq_true h1, Bool.true_and, Bool.true_and]
          exact decide_eq_decide.2 (by omega)
        · rw [decide_eq_false h1, Bool.false_and, Bool.false_and]
    · rintro L rfl
      (repeat' (first|refine Za ?_|refine Zb ?_|refine Zc ?_|refine Zi ?_|refine Zu tab rfl rfl ?_|(apply Zy;refine Zz ?_)|fail))
      refine tl_val (o_convPx (p := pxOf (lx / 64) (strs r.2 0 (0, 0))) rfl fun w' hw' => hw'.here _ (List.mem_cons_self ..)) rfl rfl ?_
      have hi : CDet Try.prog 40 [.int .i64 (lx / 64), .int .i64 r.1, .string (rowB wd (pxOf (lx / 64) (strs r.2 0 (0, 0))))] (trimV (lx / 64) r.1 (rowB wd (pxOf (lx / 64) (strs r.2 0 (0, 0))))) := ⟨trimmed_det _ _ _ (by simp [rowB, ByteArray.size]; omega) (by omega)⟩
      unfold trimV at hi
      have hsn : (pre ++ [r]).flatMap (rowSp (lx / 64) wd) = pre.flatMap (rowSp (lx / 64) wd) ++ rowSp (lx / 64) wd r := by simp
      by_cases hfi : firstIdx (rowB wd (pxOf (lx / 64) (strs r.2 0 (0, 0)))) 35 < 0
      · rw [if_pos hfi] at hi
        rw [rowSp, if_pos hfi, List.append_nil] at hsn
        (repeat' (first|refine Za ?_|refine Zb ?_|refine Zc ?_|refine Zd ?_|refine Zf ?_|refine Zi ?_|refine Zu tab rfl rfl ?_|(apply Ye;refine Yf ?_)|refine Yk rfl fun _=>?_|(apply Yt;refine Yu ?_)|refine Yy rfl ?_|fail))
        exact xt_roundEnd2 ((b8, bx [v] 60) :: (b7, bx [.int .i64 wd] 2) :: (b6, bx [.int .i64 (lx / 64)] 2) :: (b2, bx [.int .i64 0, .int .i64 0, .int .i64 0, .int .i64 0, .slice none 0 0] 30) :: (c1, bx [.int .i64 ly] 3) :: (c2, bx [.int .i64 hy] 3) :: (c3, bx [.slice A n cap] 22) ::  Lv ++ [(db, defO)]) ⟨_, rfl, v, Lv, by rw [hsn]; exact hown, rfl⟩ fun w' hw' => hw'.sublist (.cons _ (.cons _ (.cons _ (.cons _ (List.Sublist.refl _)))))
      · rw [if_neg hfi] at hi
        rw [rowSp, if_neg hfi] at hsn
        have hsl : (pre.flatMap (rowSp (lx / 64) wd)).length ≤ 1000000 := by
          have h1 := rowSps_le (lx / 64) wd pre
          have h2 := hpre.length_le
          simp only [rowsX, List.length_append, List.length_map, List.length_range, List.length_singleton] at h2
          omega
        generalize hrb : rowB wd (pxOf (lx / 64) (strs r.2 0 (0, 0))) = rb at hi hsn
        (repeat' (first|refine Za ?_|refine Zb ?_|refine Zc ?_|refine Zd ?_|refine Zu tab rfl rfl ?_|(apply Zy;refine Zz ?_)|(apply Ye;refine Yf ?_)|refine Yk rfl fun _=>?_|(apply Yt;refine Yu ?_)|(apply Yv;refine Yw fun _=>?_)|refine Yx rfl ?_|fail))
        rename_i b17 b95
        refine tl_imp (fun w' hw' => hw'.perm (perm_last (Pf := [_, _, _, _, _, _, _, _, _, _, _, _]))) ?_
        refine tl_app ((b17, bx [.int .i64 (lx / 64 + firstIdx rb 35), .int .i64 r.1, .string (trim rb)] 75) :: (pb, px 5 wd (pxOf (lx / 64) (strs r.2 0 (0, 0)))) :: (b11, bx [.slice (some ⟨pb, 0, none⟩) wd wd] 65) :: (bs, bx [.slice (some ⟨bc, 0, none⟩) r.2.length r.2.length] 64) :: (b8, bx [v] 60) :: (b7, bx [.int .i64 wd] 2) :: (b6, bx [.int .i64 (lx / 64)] 2) :: (b2, bx [.int .i64 0, .int .i64 0, .int .i64 0, .int .i64 0, .slice none 0 0] 30) :: (c1, bx [.int .i64 ly] 3) :: (c2, bx [.int .i64 hy] 3) :: (c3, bx [.slice A n cap] 22) ::  ([(db, defO)] ++ [(l, recO rec .busy)])) rfl rfl hown rfl rfl rfl rfl rfl rfl (by omega) (by omega) fun bz cz => ?_
        (repeat' (first|refine Zd ?_|refine Zi ?_|(apply Ye;refine Yf ?_)|fail))
        refine xt_roundEnd2 ((b8, bx [.slice (some ⟨bz, 0, none⟩) ((pre.flatMap (rowSp (lx / 64) wd)).length + 1) cz] 60) :: (b7, bx [.int .i64 wd] 2) :: (b6, bx [.int .i64 (lx / 64)] 2) :: (b2, bx [.int .i64 0, .int .i64 0, .int .i64 0, .int .i64 0, .slice none 0 0] 30) :: (c1, bx [.int .i64 ly] 3) :: (c2, bx [.int .i64 hy] 3) :: (c3, bx [.slice A n cap] 22) ::  [(bz, row 75 3 ((pre.flatMap (rowSp (lx / 64) wd)).length + 1) cz ((pre.flatMap (rowSp (lx / 64) wd)).flatMap spCells ++ [.int .i64 (lx / 64 + firstIdx rb 35), .int .i64 r.1, .string (trim rb)]))] ++ [(db, defO)]) ⟨_, rfl, _, _, ?_, rfl⟩ fun w' hw' => ?_
        · rw [hsn, spCells_flat_snoc, List.length_append]
          exact OwnsV.at_
        · exact hw'.pick [4, 5, 6, 7, 8, 9, 10, 13, 11, 12] (by decide) rfl
  · rintro db L ⟨v, Lv, hown, rfl⟩
    (repeat' (first|refine Za ?_|refine Zb ?_|refine Zc ?_|refine Zi ?_|(apply Zy;refine Zz ?_)|fail))
    obtain ⟨A3, c3', rfl⟩ := hown.shape
    refine tl_callR (Post := fun w1 v w2 => BmI w1 w2 v (bmOf ((rowsX (rowOf ly) N (edgesAll ls)).flatMap (rowSp (lx / 64) wd)))) (fun w1 hw1 => ?_) rfl rfl ?_
    · refine bitmap_calls _ (fun s hs => ?_) _ w1 (hown.rdI hw1 (fun p hp => by simp [hp])).rd
      obtain ⟨r, hr, hs⟩ := List.mem_flatMap.1 hs
      have hrk := rowsX_ok (ls := ls) (N := N) (r := r) (by omega) (by rw [hqi.2.1]; exact hr)
      rw [hqi.2.1] at hrk
      obtain ⟨_, i, hiN, hr1, _⟩ := hrk
      have hb1 := rowOf_bd (y := ly) (by omega)
      exact rowSp_ok (by omega) (by omega) (by omega) s hs
    rintro w1 w2 v hw1 he ⟨rv, rfl, hr⟩
    obtain ⟨A4, n4, c4, rfl, _⟩ := id hr
    (repeat' (first|refine Zc ?_|refine Zd ?_|refine Zg ?_|(apply Ye;refine Yf ?_)|fail))
    generalize bmOf ((rowsX (rowOf ly) N (edgesAll ls)).flatMap (rowSp (lx / 64) wd)) = Bf at hr ⊢
    refine xt_perm (L' := ((b2, bx [.int .i64 Bf.X, .int .i64 Bf.Y, .int .i64 Bf.W, .int .i64 Bf.H, .slice A4 n4 c4] 30) :: seg w1 w2) ++ [(db, defO)]) (fun w' hw' => ?_) ?_
    · have hw2 : St w [] ((b2, bx [.int .i64 Bf.X, .int .i64 Bf.Y, .int .i64 Bf.W, .int .i64 Bf.H, .slice A4 n4 c4] 30) :: ([(db, defO)] ++ seg w1 w2)) w' := hw'.sublist (.cons _ (.cons _ (.cons _ (.cons_cons _ (.cons _ (.cons _ (.cons _ ((List.sublist_append_right _ _).append_right _))))))))
      exact hw2.perm (.cons _ List.perm_append_comm)
    · refine xt_retMA 0 rfl rfl rfl rfl fun w3 hw3 => ⟨_, rfl, ?_⟩
      exact (hr.move (hw3.sg (fun p hp => by simp [hp]))).top hw1.size

end Go.Proofs.Ytbgolbkolcmldaa

/-
  The document's answer: its winding.
-/
namespace Go.Proofs.Ytbgolbkolcmldaa
open Go.RowKit
attribute [local irreducible] T TL Xt O Op1 Kt DV ObsB DE DW DW1 LoopQ LoopJ

/-- ways through a part of the code meet behind it -/
theorem t_mid {P : Program} {r : Option Nat} {Q : Exit → Act → World → Prop} {nt : Nat} {D : List Deferred} {fr : Fr} {I : World → Prop} {w0 : World} {X : List Nat} {cd B : Code} {β : Type} (ks : List Nat) {fr0 : Fr} (st' : β → Fr) (C' : β → Prop) (J' : β → HL) (hks : keep fr ks = some fr0)
    (h : ∀ Q', (∀ fr' y I', C' y → fle (st' y) fr' → keep fr' ks = some fr0 → (∀ w, I' w → St w0 X (J' y) w) → Xt P .normal Q' nt D fr' I') → T P r cd Q' nt D fr I) (h2 : ∀ y, C' y → T P r B Q nt D (st' y ++ fr0) (St w0 X (J' y))) : T P r cd (Kt P r B Q) nt D fr I :=
  h _ fun fr' y I' hC hf hk hI => xt_then (t_weak (fle_append _ _ _ hf (keep_fle _ _ hk)) hI (h2 y hC))

theorem rcut_det (n : Int) : Det Try.prog 51 [.int .i64 n] (.int .i64 (cut n)) := by
  intro w
  refine calls_S Try.func51 rfl Try.ntmps51 rfl ?_
  (repeat' (first|refine Za ?_|refine Zb ?_|refine Zc ?_|refine Zd ?_|refine Zg ?_|refine Zu tab rfl rfl ?_|fail))
  refine xt_ret1S rfl rfl fun _ _ => ?_
  congr 1
  unfold cut
  omega
instance (n : Int) : CDet Try.prog 51 [.int .i64 n] (.int .i64 (cut n)) := ⟨rcut_det n⟩

/-- a place: whole, rest, of -/
def plr (x n d : Int) : Value := .agg #[.int .i64 x, .int .i64 n, .int .i64 d]
def lessP (x n d x' n' d' : Int) : Bool := if x ≠ x' then decide (x < x') else decide (n * d' < n' * d)
theorem less_det (x n d x' n' d' : Int) (h1 : fit (n * d')) (h2 : fit (n' * d)) : Det Try.prog 49 [plr x n d, plr x' n' d'] (.bool (lessP x n d x' n' d')) := by
  intro w
  refine calls_S Try.func49 rfl Try.ntmps49 rfl ?_
  (repeat' (first|refine Za ?_|refine Zb ?_|refine Zc ?_|refine Zd ?_|refine Zu tab rfl rfl ?_|(apply Zy;refine Zz ?_)|(apply Yg; first|refine Yh fun _=>?_|refine Yi (Yj rfl rfl) rfl fun _=>?_)|fail))
  refine t_cond rfl (fun h => ?_) (fun h => ?_)
  · (repeat' (first|refine Za ?_|refine Zb ?_|refine Zc ?_|refine Zd ?_|refine Zg ?_|refine Zk ?_|refine Zu tab rfl rfl ?_|(apply Zy;refine Zz ?_)|fail))
    refine xt_ret1S rfl rfl fun _ _ => ?_
    rw [lessP, if_pos (by simpa using h)]
  · (repeat' (first|refine Za ?_|refine Zb ?_|refine Zc ?_|refine Zd ?_|refine Zf ?_|refine Zg ?_|refine Zu tab rfl rfl ?_|(apply Zy;refine Zz ?_)|(apply Yc;refine Yd ?_)|fail))
    refine xt_ret1S rfl rfl fun _ _ => ?_
    rw [lessP, if_neg (by simpa using h)]

theorem floor_det (a b : Int) (hb : 0 < b) (ha : -1000000000000000000 ≤ a ∧ a ≤ 1000000000000000000) : Det Try.prog 53 [.int .i64 a, .int .i64 b] (.int .i64 (a / b)) := by
  intro w
  have hbd := tdiv_bound a b hb 1000000000000000000 ha
  have hd := down_eq a b hb
  have hm := Int.tmod_add_tdiv_mul a b
  have hmb : -1000000000000000000 ≤ a.tdiv b * b ∧ a.tdiv b * b ≤ 1000000000000000000 := by
    rcases Int.le_total 0 a with h | h
    · have h1 := Int.tmod_nonneg (b := b) h
      have h2 : 0 ≤ a.tdiv b * b := Int.mul_nonneg (Int.tdiv_nonneg h (by omega)) (by omega)
      omega
    · have h1 : a.tmod b ≤ 0 := by
        have := Int.tmod_nonneg (a := -a) (b := b) (by omega)
        rw [Int.neg_tmod] at this; omega
      have h2 : 0 ≤ (-a).tdiv b * b := Int.mul_nonneg (Int.tdiv_nonneg (by omega) (by omega)) (by omega)
      rw [Int.neg_tdiv, Int.neg_mul] at h2
      omega
  refine calls_S Try.func53 rfl Try.ntmps53 rfl ?_
  (repeat' (first|refine Za ?_|refine Zb ?_|refine Zc ?_|refine Zd ?_|refine Zu tab rfl rfl ?_|fail))
  refine tl_bin (o_quo64 rfl rfl hb (by omega)) rfl ?_
  (repeat' (first|refine Za ?_|refine Zb ?_|refine Zc ?_|refine Zd ?_|refine Zu tab rfl rfl ?_|(apply Yc;refine Yd ?_)|fail))
  refine t_cond rfl (fun h => ?_) (fun h => ?_)
  · have h' := of_decide_eq_true h
    rw [if_pos (by omega)] at hd
    (repeat' (first|refine Za ?_|refine Zb ?_|refine Zc ?_|refine Zd ?_|refine Zg ?_|refine Zu tab rfl rfl ?_|(apply Yc;refine Yd ?_)|fail))
    exact xt_ret1S rfl rfl fun _ _ => by rw [hd]
  · have h' := of_decide_eq_false h
    rw [if_neg (by omega)] at hd
    (repeat' (first|refine Za ?_|refine Zb ?_|refine Zc ?_|refine Zd ?_|refine Zf ?_|refine Zg ?_|refine Zu tab rfl rfl ?_|fail))
    exact xt_ret1S rfl rfl fun _ _ => by rw [hd]

theorem next_calls (w : World) (A : Option Addr) (n cap : Nat) (l : Pts) (hR : Row w (.slice A n cap) l) (i : Nat) (hi : i < l.length) (q : Int × Int) (hq : l[(i + 1) % l.length]? = some q) : Calls Try.prog 48 #[.slice A n cap, .int .i64 i] w (Ret w fun v _ => v = pt q.1 q.2) := by
  have hn := row_len hR
  have hn' := row_le hR
  obtain ⟨b, off, rfl, hc⟩ := row_cl hR hq
  refine calls_S (vs := [.slice (some ⟨b, off, none⟩) n cap, .int .i64 i]) Try.func48 rfl Try.ntmps48 rfl ?_
  (repeat' (first|refine Za ?_|refine Zb ?_|refine Zc ?_|refine Zd ?_|refine Zu tab rfl rfl ?_|(apply Yc;refine Yd ?_)|refine Yk rfl fun _=>?_|fail))
  refine t_cond rfl (fun h => ?_) (fun h => ?_)
  · have h' := of_decide_eq_true h
    have hm : (i + 1) % l.length = i + 1 := Nat.mod_eq_of_lt (by omega)
    rw [hm] at hc
    (repeat' (first|refine Za ?_|refine Zb ?_|refine Zc ?_|refine Zd ?_|refine Zg ?_|refine Zk ?_|refine Zu tab rfl rfl ?_|(apply Zy;refine Zz ?_)|(apply Yc;refine Yd ?_)|(apply Ye;refine Yf ?_)|(apply Yn;refine Yo ?_)|fail))
    exact xt_retAS 0 rfl rfl rfl rfl fun _ _ => rfl
  · have h' := of_decide_eq_false h
    have hm : (i + 1) % l.length = 0 := by rw [show i + 1 = l.length by omega]; exact Nat.mod_self _
    rw [hm] at hc
    (repeat' (first|refine Za ?_|refine Zb ?_|refine Zc ?_|refine Zd ?_|refine Zf ?_|refine Zg ?_|refine Zu tab rfl rfl ?_|(apply Zy;refine Zz ?_)|(apply Ye;refine Yf ?_)|(apply Yn;refine Yo ?_)|fail))
    exact xt_retAS 0 rfl rfl rfl rfl fun _ _ => rfl

/-- where a line crosses a height, and which way -/
def crossV (px py qx qy y : Int) : Int × Int × Int × Int :=
  if (edgeV px py qx qy).2.1 > y ∨ y ≥ (edgeV px py qx qy).2.2.2.1 then (0, 0, 0, 0) else
  ((edgeV px py qx qy).1 + ((y - (edgeV px py qx qy).2.1) * ((edgeV px py qx qy).2.2.1 - (edgeV px py qx qy).1)) / ((edgeV px py qx qy).2.2.2.1 - (edgeV px py qx qy).2.1),
   ((y - (edgeV px py qx qy).2.1) * ((edgeV px py qx qy).2.2.1 - (edgeV px py qx qy).1)) % ((edgeV px py qx qy).2.2.2.1 - (edgeV px py qx qy).2.1),
   (edgeV px py qx qy).2.2.2.1 - (edgeV px py qx qy).2.1, (edgeV px py qx qy).2.2.2.2)

def EdgeOk' (px py qx qy : Int) : Prop := (-268435456 ≤ (edgeV px py qx qy).1 ∧ (edgeV px py qx qy).1 ≤ 268435456) ∧ (-268435456 ≤ (edgeV px py qx qy).2.1 ∧ (edgeV px py qx qy).2.1 ≤ 268435456) ∧ (-268435456 ≤ (edgeV px py qx qy).2.2.1 ∧ (edgeV px py qx qy).2.2.1 ≤ 268435456) ∧ (-268435456 ≤ (edgeV px py qx qy).2.2.2.1 ∧ (edgeV px py qx qy).2.2.2.1 ≤ 268435456) ∧ (edgeV px py qx qy).2.1 ≤ (edgeV px py qx qy).2.2.2.1 ∧ ((edgeV px py qx qy).2.2.2.2 = 1 ∨ (edgeV px py qx qy).2.2.2.2 = -1)
theorem edgeV_bd (px py qx qy : Int) : EdgeOk' px py qx qy := by
  have h1 := cut_bd px; have h2 := cut_bd py; have h3 := cut_bd qx; have h4 := cut_bd qy
  unfold EdgeOk' edgeV
  by_cases h : cut qy < cut py
  · rw [if_pos h]; exact ⟨h3, h4, h1, h2, Int.le_of_lt h, .inr rfl⟩
  · rw [if_neg h]; exact ⟨h1, h2, h3, h4, Int.not_lt.1 h, .inl rfl⟩
theorem cross_det (px py qx qy y : Int) (hy : -268435456 ≤ y ∧ y ≤ 268435456) : Det Try.prog 47 [pt px py, pt qx qy, .int .i64 y] (.tuple #[plr (crossV px py qx qy y).1 (crossV px py qx qy y).2.1 (crossV px py qx qy y).2.2.1, .int .i64 (crossV px py qx qy y).2.2.2]) := by
  intro w
  have h1 := cut_bd px; have h2 := cut_bd py; have h3 := cut_bd qx; have h4 := cut_bd qy
  refine calls_S Try.func47 rfl Try.ntmps47 rfl ?_
  (repeat' (first|refine Za ?_|refine Zb ?_|refine Zc ?_|refine Zd ?_|refine Zu tab rfl rfl ?_|(apply Yg; first|refine Yh fun _=>?_|refine Yi (Yj rfl rfl) rfl fun _=>?_)|refine Yk rfl fun _=>?_|fail))
  refine t_drawW 8 [(0, .v), (1, .v), (3, .v), (4, .v), (2, .e), (5, .e), (6, .v), (7, .a)] ?_ rfl (by kernel_rfl) (by kernel_rfl) rfl (by kernel_rfl) mixed (by kernel_rfl) rfl
  (repeat' (first|refine Yz rfl ?_|refine Vd tab ?_|refine Ve fun _=>?_|(apply Vf;refine Vg ?_)|(apply Vn;refine Vo ?_)|(apply Vp;refine Vq ?_)|fail))
  refine dw_end [2, 4, 6, 8, 9, 21] (rest := []) rfl ?_
  (repeat' (first|refine Za ?_|refine Zc ?_|refine Zd ?_|(apply Ye;refine Yf ?_)|fail))
  refine t_drawW 8 [(0, .v), (1, .v), (3, .v), (4, .v), (2, .e), (5, .e), (6, .v), (7, .a)] ?_ rfl (by kernel_rfl) (by kernel_rfl) rfl (by kernel_rfl) mixed (by kernel_rfl) rfl
  (repeat' (first|refine Yz rfl ?_|refine Vd tab ?_|refine Ve fun _=>?_|(apply Vf;refine Vg ?_)|(apply Vn;refine Vo ?_)|(apply Vp;refine Vq ?_)|fail))
  refine dw_end [2, 6, 8, 9, 10, 28] (rest := []) rfl ?_
  (repeat' (first|refine Za ?_|refine Zb ?_|refine Zc ?_|refine Zd ?_|refine Zu tab rfl rfl ?_|(apply Zy;refine Zz ?_)|(apply Ye;refine Yf ?_)|fail))
  rename_i b3 b4 b6 b9 b10
  have hev : EdgeOk' px py qx qy := edgeV_bd px py qx qy
  refine t_mid (w0 := w) (X := []) [2, 6, 9, 10] (β := Unit) (fun _ => [(8, .int .i64 (edgeV px py qx qy).2.2.2.2)]) (fun _ => True) (fun _ => [(b10, bx [.int .i64 (edgeV px py qx qy).2.2.1, .int .i64 (edgeV px py qx qy).2.2.2.1] 24), (b9, bx [.int .i64 (edgeV px py qx qy).1, .int .i64 (edgeV px py qx qy).2.1] 24), (b6, bx [.int .i64 0, .int .i64 0, .int .i64 0] 89)]) rfl (fun Q' K => ?_) (fun _ _ => ?_)
  · refine t_cond rfl (fun h => ?_) (fun h => ?_)
    · have h' := of_decide_eq_true h
      unfold edgeV at K
      rw [if_pos h'] at K
      (repeat' (first|refine Za ?_|refine Zb ?_|refine Zc ?_|refine Zd ?_|refine Zu tab rfl rfl ?_|(apply Zy;refine Zz ?_)|(apply Ye;refine Yf ?_)|refine Yk rfl fun _=>?_|fail))
      exact K _ () _ trivial ⟨rfl, trivial⟩ rfl (fun w hw => hw.pick [1, 2, 3] (by decide) rfl)
    · have h' := of_decide_eq_false h
      unfold edgeV at K
      rw [if_neg h'] at K
      (repeat' (first|refine Zf ?_|fail))
      exact K _ () _ trivial ⟨rfl, trivial⟩ rfl (fun w hw => hw.pick [0, 1, 2] (by decide) rfl)
  unfold crossV
  unfold EdgeOk' at hev
  generalize edgeV px py qx qy = e at hev ⊢
  obtain ⟨ax, ay, bx', by', way⟩ := e
  dsimp only at hev ⊢
  try dsimp only [List.cons_append, List.nil_append, List.map_cons, List.map_nil]
  (repeat' (first|refine Za ?_|refine Zb ?_|refine Zu tab rfl rfl ?_|(apply Zy;refine Zz ?_)|fail))
  refine tl_if [2, 6, 8, 9, 10] (ay > y ∨ y ≥ by') rfl (fun Q' K => ?_) (fun hC => ?_) (fun hC => ?_)
  · (repeat' (first|refine Zd ?_|refine Zu tab rfl rfl ?_|refine Zv rfl rfl ?_|refine Zw rfl rfl rfl rfl ?_|(apply Zy;refine Zz ?_)|(apply Ya;refine Yb ?_)|refine tl_guard rfl rfl rfl (fun _ => ?_) (fun _ => ?_)|fail))
    all_goals exact K _ _ rfl rfl (by simp_all <;> omega)
  · rw [if_pos hC]
    (repeat' (first|refine Za ?_|refine Zb ?_|refine Zc ?_|refine Zd ?_|refine Zg ?_|refine Zk ?_|refine Zu tab rfl rfl ?_|(apply Ye;refine Yf ?_)|(apply Yl;refine Ym ?_)|fail))
    exact xt_retCT 2 rfl rfl rfl rfl rfl fun _ _ => rfl
  rw [if_neg hC]
  have hm := mul_bd (a := y - ay) (b := bx' - ax) (A := 536870912) (B := 536870912) (by omega) (by omega)
  have hf : CDet Try.prog 53 [.int .i64 ((y - ay) * (bx' - ax)), .int .i64 (by' - ay)] (.int .i64 (((y - ay) * (bx' - ax)) / (by' - ay))) := ⟨floor_det _ _ (by omega) (by omega)⟩
  have hdm := Int.emod_add_mul_ediv ((y - ay) * (bx' - ax)) (by' - ay)
  have hmn := Int.emod_nonneg ((y - ay) * (bx' - ax)) (b := by' - ay) (by omega)
  have hml := Int.emod_lt_of_pos ((y - ay) * (bx' - ax)) (b := by' - ay) (by omega)
  have hq1 : ((y - ay) * (bx' - ax)) / (by' - ay) ≤ 288230376151711744 := Int.ediv_le_of_le_mul (by omega) (by omega)
  have hq2 : -288230376151711744 ≤ ((y - ay) * (bx' - ax)) / (by' - ay) := Int.le_ediv_of_mul_le (by omega) (by omega)
  have hqd : ((y - ay) * (bx' - ax)) / (by' - ay) * (by' - ay) = (y - ay) * (bx' - ax) - ((y - ay) * (bx' - ax)) % (by' - ay) := by rw [Int.mul_comm (((y - ay) * (bx' - ax)) / (by' - ay))]; omega
  have hsub : (y - ay) * (bx' - ax) - ((y - ay) * (bx' - ax)) / (by' - ay) * (by' - ay) = ((y - ay) * (bx' - ax)) % (by' - ay) := by omega
  (repeat' (first|refine Za ?_|refine Zb ?_|refine Zc ?_|refine Zd ?_|refine Zf ?_|refine Zg ?_|refine Zu tab rfl rfl ?_|(apply Zy;refine Zz ?_)|(apply Yc;refine Yd ?_)|(apply Ye;refine Yf ?_)|(apply Yl;refine Ym ?_)|(apply Yt;refine Yu ?_)|fail))
  rw [hsub]
  (repeat' (first|fail))
  exact xt_retCT 2 rfl rfl rfl rfl rfl fun _ _ => rfl

end Go.Proofs.Ytbgolbkolcmldaa

/-
  The document's answer: how often lines go around a place.
-/
namespace Go.Proofs.Ytbgolbkolcmldaa
open Go.RowKit
attribute [local irreducible] T TL Xt O Op1 Kt DV ObsB DE DW DW1 LoopQ LoopJ

/-- one line's part -/
def rwOne (x y : Int) (p q : Int × Int) : Int :=
  if (crossV p.1 p.2 q.1 q.2 y).2.2.2 ≠ 0 ∧ lessP x 0 1 (crossV p.1 p.2 q.1 q.2 y).1 (crossV p.1 p.2 q.1 q.2 y).2.1 (crossV p.1 p.2 q.1 q.2 y).2.2.1 = false then (crossV p.1 p.2 q.1 q.2 y).2.2.2 else 0
def rwAt (x y : Int) (l : Pts) (k : Nat) : Int := match l[k]?, l[(k + 1) % l.length]? with
  | some p, some q => rwOne x y p q
  | _, _ => 0
def rwTo (x y : Int) (l : Pts) : Nat → Int
  | 0 => 0
  | k + 1 => rwTo x y l k + rwAt x y l k
def rwAll (x y : Int) : List Pts → Int
  | [] => 0
  | l :: ls => rwTo x y l l.length + rwAll x y ls

theorem rwAll_snoc (x y : Int) : ∀ (ls : List Pts) (l : Pts), rwAll x y (ls ++ [l]) = rwAll x y ls + rwTo x y l l.length
  | [], l => by simp [rwAll]
  | a :: ls, l => by rw [List.cons_append, rwAll, rwAll, rwAll_snoc x y ls l]; omega
theorem crossV_way (px py qx qy y : Int) : (crossV px py qx qy y).2.2.2 = 0 ∨ (crossV px py qx qy y).2.2.2 = 1 ∨ (crossV px py qx qy y).2.2.2 = -1 := by
  have h := (edgeV_bd px py qx qy).2.2.2.2.2
  unfold crossV
  split
  · exact .inl rfl
  · exact .inr h
theorem rwOne_bd (x y : Int) (p q : Int × Int) : -1 ≤ rwOne x y p q ∧ rwOne x y p q ≤ 1 := by
  have := crossV_way p.1 p.2 q.1 q.2 y
  unfold rwOne
  split <;> omega
theorem rwAt_bd (x y : Int) (l : Pts) (k : Nat) : -1 ≤ rwAt x y l k ∧ rwAt x y l k ≤ 1 := by
  unfold rwAt
  split
  · exact rwOne_bd ..
  · omega
theorem rwTo_bd (x y : Int) (l : Pts) : ∀ k : Nat, -(k : Int) ≤ rwTo x y l k ∧ rwTo x y l k ≤ k
  | 0 => by simp [rwTo]
  | k + 1 => by
    have h1 := rwTo_bd x y l k
    have h2 := rwAt_bd x y l k
    rw [rwTo]
    omega
theorem rwAll_bd (x y : Int) : ∀ ls : List Pts, -(ls.flatten.length : Int) ≤ rwAll x y ls ∧ rwAll x y ls ≤ ls.flatten.length
  | [] => by simp [rwAll]
  | l :: ls => by
    have h1 := rwTo_bd x y l l.length
    have h2 := rwAll_bd x y ls
    rw [rwAll, List.flatten_cons, List.length_append]
    omega
theorem crossV_bd (px py qx qy y : Int) : (-1000000000000000000 ≤ (crossV px py qx qy y).2.1 ∧ (crossV px py qx qy y).2.1 ≤ 536870912) ∧ 0 ≤ (crossV px py qx qy y).2.1 ∧ 0 ≤ (crossV px py qx qy y).2.2.1 ∧ (crossV px py qx qy y).2.2.1 ≤ 536870912 := by
  have h := edgeV_bd px py qx qy
  unfold EdgeOk' at h
  unfold crossV
  generalize edgeV px py qx qy = e at h ⊢
  obtain ⟨ax, ay, bx', by', way⟩ := e
  dsimp only at h ⊢
  split
  · dsimp only; omega
  · rename_i hC
    have hmn := Int.emod_nonneg ((y - ay) * (bx' - ax)) (b := by' - ay) (by omega)
    have hml := Int.emod_lt_of_pos ((y - ay) * (bx' - ax)) (b := by' - ay) (by omega)
    dsimp only
    omega

set_option maxHeartbeats 2000000 in
theorem rwind_calls (w : World) (A : Option Addr) (n cap : Nat) (ls : List Pts) (hL : Lines w (.slice A n cap) ls) (x y : Int) (hcount : ls.flatten.length ≤ 1000000000000) :
    Calls Try.prog 24 #[.slice A n cap, pt x y] w (Ret w fun v _ => v = .int .i64 (rwAll (cut x) (cut y) ls)) := by
  have hnl := lines_len hL
  have hn := lines_le hL
  refine calls_S (vs := [.slice A n cap, pt x y]) Try.func24 rfl Try.ntmps24 rfl ?_
  (repeat' (first|refine Za ?_|refine Zb ?_|refine Zc ?_|refine Zd ?_|refine Ze ?_|refine Zu tab rfl rfl ?_|(apply Zy;refine Zz ?_)|(apply Ye;refine Yf ?_)|(apply Yg; first|refine Yh fun _=>?_|refine Yi (Yj rfl rfl) rfl fun _=>?_)|refine Yk rfl fun _=>?_|(apply Yl;refine Ym ?_)|(apply Yt;refine Yu ?_)|fail))
  rename_i b3 b6
  refine t_loopK [0, 3, 6] (α := Nat) (fun i => [(5, .int .i64 (rwAll (cut x) (cut y) (ls.take i))), (7, .int .i64 i)]) (fun i => i ≤ ls.length) (fun _ => [(b6, bx [.int .i64 (cut x), .int .i64 0, .int .i64 1] 89), (b3, bx [.int .i64 x, .int .i64 y] 24)]) (fun i => ls.length - i) 0 rfl ⟨rfl, rfl, trivial⟩ (Nat.zero_le _) (fun _ h => h) ?_
  intro i hi
  try dsimp only [List.cons_append, List.nil_append, List.map_cons, List.map_nil]
  (repeat' (first|refine Za ?_|refine Zb ?_|refine Zc ?_|refine Zd ?_|refine Zu tab rfl rfl ?_|fail))
  refine t_cond rfl (fun h => ?_) (fun h => ?_)
  · have hin : i < ls.length := by have := of_decide_eq_true h; omega
    obtain ⟨row, hrow⟩ : ∃ row, ls[i]? = some row := ⟨_, List.getElem?_eq_getElem hin⟩
    obtain ⟨b, off, A', n', cap', rfl, hc, hR⟩ := lines_cl hL hrow
    have hnr := row_len hR
    have hn' := row_le hR
    have hbd := rwAll_bd (cut x) (cut y) (ls.take i)
    have htl : (ls.take i).flatten.length + row.length ≤ ls.flatten.length := by
      have h1 : ls.flatten = (ls.take i).flatten ++ (ls.drop i).flatten := by rw [← List.flatten_append, List.take_append_drop]
      have h2 : ls.drop i = row :: ls.drop (i + 1) := by rw [List.drop_eq_getElem_cons hin, (List.getElem?_eq_some_iff.1 hrow).2]
      rw [h1, h2, List.length_append, List.flatten_cons, List.length_append]
      omega
    have htk : rwAll (cut x) (cut y) (ls.take (i + 1)) = rwAll (cut x) (cut y) (ls.take i) + rwTo (cut x) (cut y) row row.length := by
      rw [List.take_add_one, hrow]
      exact rwAll_snoc ..
    (repeat' (first|refine Za ?_|refine Zb ?_|refine Zc ?_|refine Zd ?_|refine Ze ?_|refine Zf ?_|refine Zu tab rfl rfl ?_|fail))
    refine t_loopK [0, 3, 6, 7] (α := Nat) (fun k => [(5, .int .i64 (rwAll (cut x) (cut y) (ls.take i) + rwTo (cut x) (cut y) row k)), (8, .int .i64 k)]) (fun k => k ≤ row.length) (fun _ => [(b6, bx [.int .i64 (cut x), .int .i64 0, .int .i64 1] 89), (b3, bx [.int .i64 x, .int .i64 y] 24)]) (fun k => row.length - k) 0 rfl ⟨by rw [rwTo, Int.add_zero]; rfl, rfl, trivial⟩ (Nat.zero_le _) (fun _ h => h) ?_
    intro k hk
    try dsimp only [List.cons_append, List.nil_append, List.map_cons, List.map_nil]
    (repeat' (first|refine Za ?_|refine Zb ?_|refine Zc ?_|refine Zd ?_|refine Zu tab rfl rfl ?_|(apply Zy;refine Zz ?_)|(apply Yn;refine Yo ?_)|fail))
    refine t_cond rfl (fun h => ?_) (fun h => ?_)
    · have hkn : k < row.length := by have := of_decide_eq_true h; omega
      obtain ⟨p, hp⟩ : ∃ p, row[k]? = some p := ⟨_, List.getElem?_eq_getElem hkn⟩
      have hmod : (k + 1) % row.length < row.length := Nat.mod_lt _ (by omega)
      obtain ⟨q, hq⟩ : ∃ q, row[(k + 1) % row.length]? = some q := ⟨_, List.getElem?_eq_getElem hmod⟩
      obtain ⟨b', off', rfl, hcp⟩ := row_cl hR hp
      have hcr : CDet Try.prog 47 [pt p.1 p.2, pt q.1 q.2, .int .i64 (cut y)] _ := ⟨cross_det p.1 p.2 q.1 q.2 (cut y) (cut_bd y)⟩
      have hat : rwAt (cut x) (cut y) row k = rwOne (cut x) (cut y) p q := by simp only [rwAt, hp, hq]
      have hto : rwTo (cut x) (cut y) row (k + 1) = rwTo (cut x) (cut y) row k + rwAt (cut x) (cut y) row k := rfl
      have htb := rwTo_bd (cut x) (cut y) row k
      have hcb := crossV_bd p.1 p.2 q.1 q.2 (cut y)
      have hcw := crossV_way p.1 p.2 q.1 q.2 (cut y)
      unfold rwOne at hat
      generalize crossV p.1 p.2 q.1 q.2 (cut y) = cv at hcr hat hcb hcw
      obtain ⟨cx, cn, cd, way⟩ := cv
      dsimp only at hcr hat hcb hcw
      have hls : CDet Try.prog 49 [.agg #[.int .i64 (cut x), .int .i64 0, .int .i64 1], .agg #[.int .i64 cx, .int .i64 cn, .int .i64 cd]] (.bool (lessP (cut x) 0 1 cx cn cd)) := ⟨less_det (cut x) 0 1 cx cn cd (by omega) (by omega)⟩
      (repeat' (first|refine Za ?_|refine Zc ?_|refine Ze ?_|refine Zf ?_|fail))
      refine t_drawW 22 [(0, .v), (1, .v), (2, .v), (3, .v), (4, .v), (5, .v), (6, .v), (7, .v), (8, .v), (9, .v), (10, .v), (11, .v), (13, .v), (14, .v), (12, .e), (15, .e), (16, .e), (17, .v), (18, .v), (19, .v), (20, .a), (21, .h)] ?_ rfl (by kernel_rfl) (by kernel_rfl) rfl (by kernel_rfl) mixed (by kernel_rfl) rfl
      (repeat' (first|refine Yz rfl ?_|refine Vd tab ?_|(apply Vf;refine Vg ?_)|(apply Vl;refine Vm ?_)|fail))
      refine dw_callV (u := pt q.1 q.2) (fun L' w1 hw1 => next_calls w1 _ _ _ row (hR.ext hw1.toExt) k hkn q hq) rfl trivial rfl rfl ?_
      (repeat' (first|refine Yz rfl ?_|refine Vd tab ?_|refine Ve fun _=>?_|(apply Vp;refine Vq ?_)|(apply Vr;refine Vs ?_)|fail))
      refine dw_end [0, 3, 5, 6, 7, 8, 9, 49] (rest := []) rfl ?_
      (repeat' (first|refine Za ?_|refine Zb ?_|refine Zc ?_|refine Zd ?_|refine Zu tab rfl rfl ?_|fail))
      refine tl_if [0, 3, 5, 6, 7, 8, 10] (way ≠ 0 ∧ lessP (cut x) 0 1 cx cn cd = false) rfl (fun Q' K => ?_) (fun hC => ?_) (fun hC => ?_)
      · (repeat' (first|refine Zd ?_|refine Zu tab rfl rfl ?_|refine Zv rfl rfl ?_|refine Zw rfl rfl rfl rfl ?_|(apply Zy;refine Zz ?_)|(apply Ya;refine Yb ?_)|(apply Yt;refine Yu ?_)|refine tl_guard rfl rfl rfl (fun _ => ?_) (fun _ => ?_)|fail))
        all_goals exact K _ _ rfl rfl (by simp_all)
      · rw [if_pos hC] at hat
        (repeat' (first|refine Zb ?_|refine Zc ?_|refine Zd ?_|refine Zi ?_|refine Zu tab rfl rfl ?_|(apply Yc;refine Yd ?_)|fail))
        exact xt_roundK (k + 1) rfl ⟨by rw [hto, hat, ← Int.add_assoc]; rfl, rfl, trivial⟩ (by omega) (by omega) (fun _ h => h.sublist (.cons _ (List.Sublist.refl _)))
      · rw [if_neg hC] at hat
        (repeat' (first|refine Zb ?_|refine Zc ?_|refine Zd ?_|refine Zf ?_|refine Zi ?_|refine Zu tab rfl rfl ?_|(apply Yc;refine Yd ?_)|fail))
        exact xt_roundK (k + 1) rfl ⟨by rw [hto, hat, Int.add_zero]; rfl, rfl, trivial⟩ (by omega) (by omega) (fun _ h => h.sublist (.cons _ (List.Sublist.refl _)))
    · have hkk : k = row.length := by have := of_decide_eq_false h; omega
      subst hkk
      (repeat' (first|refine Zb ?_|refine Zc ?_|refine Zd ?_|refine Zh ?_|refine Zi ?_|refine Zj ?_|refine Zl ?_|refine Zq ?_|refine Zu tab rfl rfl ?_|(apply Yc;refine Yd ?_)|fail))
      exact xt_roundK (i + 1) rfl ⟨by rw [htk]; rfl, rfl, trivial⟩ (by omega) (by omega) (fun _ h => h)
  · have hii : i = ls.length := by have := of_decide_eq_false h; omega
    subst hii
    (repeat' (first|refine Za ?_|refine Zb ?_|refine Zc ?_|refine Zd ?_|refine Zg ?_|refine Zh ?_|refine Zj ?_|refine Zl ?_|refine Zq ?_|refine Zu tab rfl rfl ?_|fail))
    exact xt_ret1S rfl rfl fun _ _ => by rw [List.take_length]

end Go.Proofs.Ytbgolbkolcmldaa

/-
  Plain law: how often lines go around a place, edge by edge, is the document's answer.
-/
namespace Go.Proofs.Ytbgolbkolcmldaa

theorem cmpI_le (a b : Int) : cmpI a b ≤ 0 ↔ a ≤ b := by
  unfold cmpI
  split
  · omega
  · split <;> omega
theorem mul_lt_of {a b d : Int} (hd : 0 < d) (h : a < b) : a * d + d ≤ b * d := by
  have := Int.mul_le_mul_of_nonneg_right (show a + 1 ≤ b by omega) (Int.le_of_lt hd)
  rw [Int.add_mul, Int.one_mul] at this
  exact this
theorem less_at {x X n D : Int} (hD : 0 < D) (h0 : 0 ≤ n) (h1 : n < D) : (X * D + n ≤ x * D) ↔ lessP x 0 1 X n D = false := by
  unfold lessP
  by_cases h : x = X
  · subst h
    simp only [ne_eq, not_true_eq_false, if_false, decide_eq_false_iff_not, Int.mul_one, Int.zero_mul]
    omega
  · rw [if_pos h]
    simp only [decide_eq_false_iff_not]
    constructor
    · intro h2 h3
      have := mul_lt_of hD h3
      omega
    · intro h2
      have := mul_lt_of hD (show X < x by omega)
      omega
theorem one_eq (x y : Int) (p q : Int × Int) : windE x y (if (edgeV p.1 p.2 q.1 q.2).2.1 < (edgeV p.1 p.2 q.1 q.2).2.2.2.1 then [edgeV p.1 p.2 q.1 q.2] else []) = rwOne x y p q := by
  have hb := edgeV_bd p.1 p.2 q.1 q.2
  unfold EdgeOk' at hb
  unfold rwOne crossV
  generalize edgeV p.1 p.2 q.1 q.2 = e at hb ⊢
  obtain ⟨ax, ay, bx', by', way⟩ := e
  dsimp only at hb ⊢
  by_cases hin : ay ≤ y ∧ y < by'
  · rw [if_pos (show ay < by' by omega), if_neg (show ¬(ay > y ∨ y ≥ by') by omega)]
    have hD : 0 < by' - ay := by omega
    have h0 := Int.emod_nonneg ((y - ay) * (bx' - ax)) (b := by' - ay) (by omega)
    have h1 := Int.emod_lt_of_pos ((y - ay) * (bx' - ax)) (b := by' - ay) (by omega)
    have h2 := Int.mul_ediv_add_emod ((y - ay) * (bx' - ax)) (by' - ay)
    have key := less_at (x := x) (X := ax + (y - ay) * (bx' - ax) / (by' - ay)) hD h0 h1
    have hN : atN (ax, ay, bx', by', way) y * 1 = (ax + (y - ay) * (bx' - ax) / (by' - ay)) * (by' - ay) + (y - ay) * (bx' - ax) % (by' - ay) := by
      simp only [atN, Int.mul_one, Int.add_mul]
      rw [Int.mul_comm (bx' - ax), Int.mul_comm (_ / _), Int.add_assoc, h2]
    simp only [windE, List.map_cons, List.map_nil, List.sum_cons, List.sum_nil, Int.add_zero, windOne, cmpI_le]
    rw [hN]
    have hw : way ≠ 0 := by omega
    by_cases hk : lessP x 0 1 (ax + (y - ay) * (bx' - ax) / (by' - ay)) ((y - ay) * (bx' - ax) % (by' - ay)) (by' - ay) = false
    · rw [if_pos ⟨by simp [hin.1, hin.2], key.2 hk⟩, if_pos ⟨hw, hk⟩]
    · rw [if_neg fun h => hk (key.1 h.2), if_neg fun h => hk h.2]
  · rw [if_pos (show (ay > y ∨ y ≥ by') by omega)]
    simp only [ne_eq, not_true_eq_false, false_and, if_false]
    split
    · simp only [windE, List.map_cons, List.map_nil, List.sum_cons, List.sum_nil, Int.add_zero, windOne]
      rw [if_neg]
      simp only [Bool.and_eq_true, decide_eq_true_eq]
      exact fun h => hin h.1
    · rfl
theorem windE_append (x y : Int) (a b : List Edg) : windE x y (a ++ b) = windE x y a + windE x y b := by
  simp [windE, List.sum_append]
theorem at_eq (x y : Int) (l : Pts) (k : Nat) : windE x y (edgeAt l k) = rwAt x y l k := by
  unfold edgeAt rwAt
  split
  · rename_i p q h1 h2
    rw [h1, h2]
    exact one_eq x y p q
  · rename_i h
    split
    · rename_i p q h1 h2
      exact absurd h2 (h p q h1)
    · rfl
theorem to_eq (x y : Int) (l : Pts) : ∀ k, windE x y (edgesTo l k) = rwTo x y l k
  | 0 => rfl
  | k + 1 => by rw [edgesTo_succ, windE_append, to_eq x y l k, at_eq, rwTo]
theorem all_eq (x y : Int) : ∀ ls : List Pts, windE x y (edgesAll ls) = rwAll x y ls
  | [] => rfl
  | l :: ls => by
    rw [edgesAll, List.flatMap_cons, windE_append, rwAll]
    rw [show windE x y (edgesOf l) = rwTo x y l l.length from to_eq x y l l.length]
    rw [show windE x y (ls.flatMap edgesOf) = rwAll x y ls from all_eq x y ls]
/-- the winding is the document's -/
theorem wind_eq (ls : List Pts) (x y : Int) : wind ls x y = rwAll (cut x) (cut y) ls := all_eq _ _ ls

end Go.Proofs.Ytbgolbkolcmldaa
