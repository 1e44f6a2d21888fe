/-
  Contracts, loops with a pure part, arrays.
-/
import Derived.Test.YtbgolbkolcmldaaGA

namespace Go.Proofs.Ytbgolbkolcmldaa
open Go.RowKit

variable {P : Program} {r : Option Nat} {Q : Exit → Act → World → Prop} {nt : Nat} {D : List Deferred} {fr : Fr} {I : World → Prop}
variable {d : Option Tmp} {ty t t' : TypeId} {pos : String} {af : Array Edge} {g : Option (Nat × Bool)} {x y : Operand} {w0 : World} {X : List Nat} {L : HL}

/-- it returns, nothing that was there has turned, and so much is known of the result -/
def Ret (w : World) (Post : Value → World → Prop) : Ending → World → Prop := fun e w' => ∃ v, e = .returned v ∧ Ext w w' ∧ Post v w'

/-- it returns this value, whatever the memory is -/
def Det (P : Program) (f : FuncId) (vs : List Value) (u : Value) : Prop := ∀ w, Calls P f vs.toArray w (Ret w fun v _ => v = u)

theorem calls_S {f : FuncId} {fn : Func} {c : Code} {vs : List Value} {w : World} {R : Ending → World → Prop} (hf : P.funcs[f]? = some fn) (hb : fn.body = some c) (hn : fn.ntmps = nt) (hs : Nat.ble vs.length nt = true)
    (h : T P none c (bodyPost P fn R) nt [] (fargs 0 vs) (St w [] [])) : Calls P f vs.toArray w R :=
  calls_T hf hb hn hs fun a w' ha hw => by subst hw; exact h a _ ha (St.init _ _)

theorem o_det {f : FuncId} {args : Array Operand} {ts : Array TypeId} {vs : List Value} {u : Value} [CFn P f] (hd : Det P f vs u) (hv : fevs fr args.toList = some vs) : O P ⟨d, .call ⟨.value (.func f), args, ts⟩, ty, pos, af, g⟩ fr (St w0 X L) (fun v w => v = u ∧ St w0 X L w) :=
  o_call vs hv fun w hw => (hd w).mono fun e w' ⟨v, he, hx, hv⟩ => ⟨v, he, hv, hw.ext hx⟩

/-- a call that makes memory: what is known of the result is added -/
theorem o_ret {f : FuncId} {args : Array Operand} {ts : Array TypeId} {vs : List Value} {Post : World → Value → World → Prop} [CFn P f] (hv : fevs fr args.toList = some vs) (hc : ∀ w, St w0 X L w → Calls P f vs.toArray w (Ret w (Post w))) :
    O P ⟨d, .call ⟨.value (.func f), args, ts⟩, ty, pos, af, g⟩ fr (St w0 X L) (fun v w' => ∃ w, St w0 X L w ∧ Ext w w' ∧ Post w v w') :=
  o_call vs hv fun w hw => (hc w hw).mono fun e w' ⟨v, he, hx, hv⟩ => ⟨v, he, w, hw, hx, hv⟩

theorem t_loopC {α : Type} {c : Code} (Inv : α → Fr) (C : α → Prop) (J : α → World → Prop) (μ : α → Nat) (x0 : α) (hC : C x0) (hf : fle (Inv x0) fr) (hJ : ∀ w, I w → J x0 w)
    (hb : ∀ x, C x → T P r c (Exit.then (fun a w => ∃ x', Ag nt D (Inv x') a ∧ (C x' ∧ J x' w) ∧ μ x' < μ x) Q) nt D (Inv x) (J x)) : T P r (.loop c) Q nt D fr I :=
  t_loop Inv (fun x w => C x ∧ J x w) μ x0 hf (fun w hw => ⟨hC, hJ w hw⟩) fun x a w ha hw => hb x hw.1 a w ha hw.2

theorem xt_roundC {α : Type} {Inv : α → Fr} {C : α → Prop} {J : α → World → Prop} {μ : α → Nat} {x : α} (x' : α) (hf : fle (Inv x') fr) (hC : C x') (hJ : ∀ w, I w → J x' w) (hm : μ x' < μ x) :
    Xt P .normal (Exit.then (fun a w => ∃ x', Ag nt D (Inv x') a ∧ (C x' ∧ J x' w) ∧ μ x' < μ x) Q) nt D fr I :=
  fun _ _ ha hw => ⟨x', ha.weak hf, ⟨hC, hJ _ hw⟩, hm⟩

/-- a loop all of whose rounds go on the same way: two ways meet -/
theorem t_cut {c : Code} (fr' : Fr) (I' : World → Prop) (hf : fle fr' fr) (hI : ∀ w, I w → I' w) (h : T P r c Q nt D fr' I') : T P r c Q nt D fr I := t_weak hf hI h

class CAr (P : Program) (t : TypeId) (n : outParam Nat) : Prop where
  under : ∃ e, P.underlying t = some (.array n e) ∧ (∀ w, (isAgg e).run P w = .ok false w) ∧ (P.info? e).map (·.size) = some 1

theorem o_indexArr {cs : List Value} {n : Nat} {k : IntKind} {i : Int} {u : Value} [h : CAr P t n] (hx : fev fr x = some (.agg cs.toArray)) (hy : fev fr y = some (.int k i)) (h0 : 0 ≤ i ∧ i < n) (hu : cs[i.toNat]? = some u) : Pv P ⟨d, .index t x y, ty, pos, af, g⟩ fr I u :=
  pv_of fun ρ w hρ _ => by
    obtain ⟨e, hun, hag, hone⟩ := h.under
    have hsz : (sizeOf e).run P w = .ok 1 w := by
      cases hq : P.info? e with
      | none => rw [hq] at hone; cases hone
      | some i =>
        rw [hq] at hone
        simp only [Option.map_some, Option.some.injEq] at hone
        simp [sizeOf, typeInfo, hq, hone]
    simp [execOp, hρ _ _ hx, hρ _ _ hy, Instr.index, asIntOf, run_underlying hun, h0.1, h0.2, hsz, part, hag, hu]

theorem xt_ret1S {fn : Func} {t : Tmp} {v : Value} {w : World} {Post : Value → World → Prop} {L : HL} (hr : fn.results = #[.tmp t]) (hv : flook fr t = some v) (h : ∀ w', St w [] L w' → Post v w') : Xt P .ret (bodyPost P fn (Ret w Post)) nt [] fr (St w [] L) :=
  xt_ret1 hr hv fun w' hw => ⟨v, rfl, hw.toExt, h w' hw⟩
theorem xt_ret2S {fn : Func} {t u : Tmp} {v x : Value} {w : World} {Post : Value → World → Prop} {L : HL} (hr : fn.results = #[.tmp t, .tmp u]) (hv : flook fr t = some v) (hx : flook fr u = some x) (h : ∀ w', St w [] L w' → Post (.tuple #[v, x]) w') : Xt P .ret (bodyPost P fn (Ret w Post)) nt [] fr (St w [] L) :=
  xt_ret2 hr hv hx fun w' hw => ⟨_, rfl, hw.toExt, h w' hw⟩

abbrev fit (n : Int) : Prop := -9223372036854775808 ≤ n ∧ n ≤ 9223372036854775807

theorem tdiv_bound (a b : Int) (hb : 0 < b) (c : Int) (h : -c ≤ a ∧ a ≤ c) : -c ≤ a.tdiv b ∧ a.tdiv b ≤ c := by
  have h1 : a.tdiv b = if 0 ≤ a then a / b else -((-a) / b) := by
    split
    · rw [Int.tdiv_eq_ediv_of_nonneg (by assumption)]
    · rename_i h
      have : a = -(-a) := by omega
      rw [this, Int.neg_tdiv, Int.tdiv_eq_ediv_of_nonneg (by omega)]
      simp
  rw [h1]
  split
  · have := Int.ediv_le_self b (a := a) (by assumption)
    have := Int.ediv_nonneg (a := a) (b := b) (by assumption) (by omega)
    omega
  · have := Int.ediv_le_self b (a := -a) (by omega)
    have := Int.ediv_nonneg (a := -a) (b := b) (by omega) (by omega)
    omega

theorem o_quo64 {a b : Int} (hx : fev fr x = some (.int .i64 a)) (hy : fev fr y = some (.int .i64 b)) (hb : 0 < b) (ha : -9223372036854775807 ≤ a ∧ a ≤ 9223372036854775807) : Pv P ⟨d, .binOp .quo t x y t', ty, pos, af, g⟩ fr I (.int .i64 (a.tdiv b)) := by
  have := o_quo (P := P) (I := I) (d := d) (ty := ty) (t := t) (t' := t') (pos := pos) (af := af) (g := g) hx hy (by omega)
  rwa [fits64 (by have := tdiv_bound a b hb 9223372036854775807 ha; omega)] at this
theorem o_neg64 {a : Int} (hx : fev fr x = some (.int .i64 a)) (ha : -9223372036854775807 ≤ a ∧ a ≤ 9223372036854775807) : Pv P ⟨d, .unOp .neg t x, ty, pos, af, g⟩ fr I (.int .i64 (-a)) := by
  have := o_neg (P := P) (I := I) (d := d) (ty := ty) (t := t) (pos := pos) (af := af) (g := g) hx
  rwa [fits64 (by omega), show (0 : Int) - a = -a by omega] at this

theorem results_cell {fn : Func} {t : Tmp} {e : TypeId} {b k : Nat} {cs : List Value} {tmps : Array Value} {w : World} [CAg P e k] (h : fn.results = #[.cell t e]) (ht : tmps.getD t undef = .pointer (some ⟨b, 0, none⟩)) (hl : cs.length = k) (hc : ∀ j v, cs[j]? = some v → w.cell? ⟨b, 0 + j, none⟩ = some v) :
    (results fn tmps).run P w = .ok (.agg cs.toArray) w := by
  rw [Array.getD_eq_getD_getElem?] at ht
  simp [results, h, ht, asAddr, run_loadVar_ag hl hc]

/-- a struct for a result -/
theorem xt_retA (i : Nat) {fn : Func} {R : Ending → World → Prop} {t : Tmp} {e e' : TypeId} {b k : Nat} {cs : List Value} [CAg P e k] (hr : fn.results = #[.cell t e]) (hv : flook fr t = some (.pointer (some ⟨b, 0, none⟩))) (hL : L[i]? = some (b, bx cs e')) (hl : cs.length = k) (h : ∀ w, St w0 X L w → R (.returned (.agg cs.toArray)) w) :
    Xt P .ret (bodyPost P fn R) nt [] fr (St w0 X L) :=
  xt_ret_any fun a w ha hw => ⟨_, results_cell hr (ha.look t _ hv) hl (fun j v hj => by rw [hw.cell (List.mem_of_getElem? hL), Nat.zero_add, hj]), h w hw⟩
theorem xt_retAS (i : Nat) {fn : Func} {t : Tmp} {e e' : TypeId} {b k : Nat} {cs : List Value} {w : World} {Post : Value → World → Prop} [CAg P e k] (hr : fn.results = #[.cell t e]) (hv : flook fr t = some (.pointer (some ⟨b, 0, none⟩))) (hL : L[i]? = some (b, bx cs e')) (hl : cs.length = k) (h : ∀ w', St w [] L w' → Post (.agg cs.toArray) w') :
    Xt P .ret (bodyPost P fn (Ret w Post)) nt [] fr (St w [] L) := xt_retA i hr hv hL hl fun w' hw => ⟨_, rfl, hw.toExt, h w' hw⟩

theorem tl_store {ops : Array Oper} {rest : List Oper} {I' : World → Prop} (ho : O P ⟨none, .store t x y, ty, pos, af, none⟩ fr I (fun _ w => I' w)) (h : TL P r ops Q nt D rest fr I') : TL P r ops Q nt D (⟨none, .store t x y, ty, pos, af, none⟩ :: rest) fr I := tl_unit ho rfl h

theorem tl_call {ops : Array Oper} {rest : List Oper} {d : Nat} {c : Call} {u : Value} {I' : World → Prop} (ho : O P ⟨some d, .call c, ty, pos, af, none⟩ fr I (fun v w => v = u ∧ I' w)) (hd : Nat.ble nt d = false) (h : TL P r ops Q nt D rest ((d, u) :: fr) I') : TL P r ops Q nt D (⟨some d, .call c, ty, pos, af, none⟩ :: rest) fr I := tl_val ho hd rfl h

end Go.Proofs.Ytbgolbkolcmldaa

/-
  A region whose order Go leaves open: values that are known; new boxes and what is stored into them; boxes of old that are stored into.
-/
namespace Go.Proofs.Ytbgolbkolcmldaa
open Go.RowKit

variable {P : Program} {r : Option Nat} {Q : Exit → Act → World → Prop} {nt : Nat} {D : List Deferred} {fr : Fr} {w0 : World} {X : List Nat} {L : HL}

inductive Kd where
  | val (u : Value)
  | box (t : TypeId) (z cs : List Value) (st : Nat)
  | put (al : Nat)
  | putE (b : Nat) (t : TypeId) (old new : List Value)
  | mks (e : TypeId) (cs : List Value) (n : Nat)

/-- a block of the known list is overwritten as a whole, or in its one cell -/
def Stores (P : Program) (t : TypeId) (v : Value) (cs : List Value) : Prop :=
  ∀ (w : World) (b : Nat) (e : TypeId) (old : List Value), w.heap[b]? = some (.cells old.toArray e (0, 0)) → old.length = cs.length →
    ∃ w', (storeVar t ⟨b, 0, none⟩ v).run P w = .ok () w' ∧ w.grownBy w' (some b) ∧ w'.heap[b]? = some (.cells cs.toArray e (0, 0))

theorem stores_sc {t : TypeId} {v : Value} [CSc P t] (h1 : v.oneCell' = true) : Stores P t v [v] := by
  intro w b e old hb hl
  refine ⟨w.setCell ⟨b, 0, none⟩ v, run_storeVar_sc h1 (by rw [cell_of hb]; simp at hl ⊢; omega) (frozen_of hb), grownBy_setCell w b 0 v, ?_⟩
  rw [heap_setCell_same hb]
  match old, hl with
  | [u], _ => rfl
theorem stores_ag {t : TypeId} {n : Nat} {vs : List Value} [CAg P t n] (hl : vs.length = n) (h1 : vs.all (·.oneCell') = true) : Stores P t (.agg vs.toArray) vs := by
  intro w b e old hg hlo
  have := run_storeVar_ag (P := P) (t := t) (w := w) (b := b) (k := 0) hl (fun v hv => List.all_eq_true.1 h1 v hv) (fun j hj => by rw [cell_of hg]; simp; omega) (fun j _ => frozen_of hg)
  obtain ⟨hgr, cs', hh, hs, hj⟩ := setCells_heap b vs 0 w _ e (0, 0) hg
  refine ⟨_, this, hgr, ?_⟩
  have : cs' = vs.toArray := by
    apply Array.ext_getElem?
    intro j
    rw [hj j]
    simp only [List.size_toArray, Nat.zero_le, true_and, Nat.zero_add, Nat.sub_zero, List.getElem?_toArray]
    by_cases hlt : j < vs.length
    · rw [if_pos (by omega)]
    · rw [if_neg (by omega), List.getElem?_eq_none (by omega), List.getElem?_eq_none (by omega)]
  rw [hh, this]

def actB (ks : List Kd) (S : Nat → Bool) (i : Nat) : Option (List Value × TypeId) := match ks[i]? with
  | some (.box t z cs st) => if S i then some (if S st then cs else z, t) else none
  | some (.putE _ t old new) => some (if S i then new else old, t)
  | some (.mks e cs _) => if S i then some (cs, e) else none
  | _ => none
def blkB (ks : List Kd) (bs : Nat → Nat) (i : Nat) : Nat := match ks[i]? with
  | some (.putE b _ _ _) => b
  | _ => bs i
def entB (ks : List Kd) (S : Nat → Bool) (bs : Nat → Nat) (i : Nat) : Option (Nat × (Obj → Prop)) := (actB ks S i).map fun p => (blkB ks bs i, bx p.1 p.2)
def isE (ks : List Kd) (i : Nat) : Bool := match ks[i]? with | some (.putE ..) => true | _ => false
def isPut (ks : List Kd) (i : Nat) : Bool := match ks[i]? with | some (.putE ..) => true | some (.put _) => true | _ => false
/-- the blocks of old first -/
def idxB (ks : List Kd) : List Nat := (List.range ks.length).filter (isE ks) ++ (List.range ks.length).filter (fun i => !isE ks i)
def touB (ks : List Kd) (S : Nat → Bool) (bs : Nat → Nat) : HL := (idxB ks).filterMap (entB ks S bs)
/-- the blocks of old, as they were -/
def oldB : List Kd → HL
  | [] => []
  | .putE b t old _ :: r => (b, bx old t) :: oldB r
  | _ :: r => oldB r
/-- what there is behind the region -/
def newB (bs : Nat → Nat) : Nat → List Kd → HL
  | _, [] => []
  | k, .putE b t _ new :: r => (b, bx new t) :: newB bs (k + 1) r
  | k, .box t _ cs _ :: r => (bs k, bx cs t) :: newB bs (k + 1) r
  | k, .mks e cs _ :: r => (bs k, bx cs e) :: newB bs (k + 1) r
  | k, _ :: r => newB bs (k + 1) r

structure JB (w0 : World) (X : List Nat) (L : HL) (ks : List Kd) (bs : Nat → Nat) (S : Nat → Bool) (ε : Nat → Value) (w : World) : Prop where
  st : St w0 X L w
  vals : ∀ i u, ks[i]? = some (.val u) → S i = true → ε i = u
  ptrs : ∀ i t z cs s, ks[i]? = some (.box t z cs s) → S i = true → ε i = .pointer (some ⟨bs i, 0, none⟩)
  sls : ∀ i e cs n, ks[i]? = some (.mks e cs n) → S i = true → ε i = .slice (some ⟨bs i, 0, none⟩) n n
  facts : ∀ i cs t, actB ks S i = some (cs, t) → w.heap[blkB ks bs i]? = some (.cells cs.toArray t (0, 0)) ∧ (w0.heap.size ≤ blkB ks bs i ∨ blkB ks bs i ∈ X) ∧ blkB ks bs i ∉ L.map (·.1)
  apart : ∀ i j, (actB ks S i).isSome = true → (actB ks S j).isSome = true → i ≠ j → blkB ks bs i ≠ blkB ks bs j

theorem St.addAll {L' : HL} {w : World} (h : St w0 X L w) (hf : ∀ p ∈ L', (∃ o, w.heap[p.1]? = some o ∧ p.2 o) ∧ (w0.heap.size ≤ p.1 ∨ p.1 ∈ X) ∧ p.1 ∉ L.map (·.1)) (hn : (L'.map (·.1)).Nodup) : St w0 X (L ++ L') w := by
  refine ⟨h.os, h.tape, h.output, h.size, h.old, ?_, ?_, ?_⟩
  · intro p hp
    rcases List.mem_append.1 hp with hp | hp
    · exact h.here p hp
    · exact (hf p hp).1
  · intro p hp
    rcases List.mem_append.1 hp with hp | hp
    · exact h.mine p hp
    · exact (hf p hp).2.1
  · rw [List.map_append, List.nodup_append]
    refine ⟨h.apart, hn, ?_⟩
    intro a ha b hb e
    subst e
    obtain ⟨p, hp, rfl⟩ := List.mem_map.1 hb
    exact (hf p hp).2.2 ha

theorem idxB_nodup (ks : List Kd) : (idxB ks).Nodup := by
  unfold idxB
  rw [List.nodup_append]
  refine ⟨List.nodup_range.sublist List.filter_sublist, List.nodup_range.sublist List.filter_sublist, ?_⟩
  intro a ha b hb e
  subst e
  simp [List.mem_filter] at ha hb
  rw [ha.2] at hb
  simp at hb

theorem mem_idxB {ks : List Kd} {i : Nat} (h : i < ks.length) : i ∈ idxB ks := by
  unfold idxB
  simp only [List.mem_append, List.mem_filter, List.mem_range]
  cases hi : isE ks i <;> simp [h]

theorem nodup_filterMap {α β : Type} {l : List α} {f : α → Option β} (hn : l.Nodup) (hf : ∀ a ∈ l, ∀ a' ∈ l, ∀ b, f a = some b → f a' = some b → a = a') : (l.filterMap f).Nodup := by
  induction l with
  | nil => simp
  | cons a l ih =>
    simp only [List.nodup_cons] at hn
    have ih' := ih hn.2 (fun x hx y hy => hf x (List.mem_cons_of_mem _ hx) y (List.mem_cons_of_mem _ hy))
    cases ha : f a with
    | none => simpa [List.filterMap_cons, ha] using ih'
    | some b =>
      simp only [List.filterMap_cons, ha, List.nodup_cons]
      refine ⟨fun hm => ?_, ih'⟩
      obtain ⟨a', ha', hb⟩ := List.mem_filterMap.1 hm
      have := hf a (List.mem_cons_self ..) a' (List.mem_cons_of_mem _ ha') b ha hb
      subst this
      exact hn.1 ha'

theorem JB.full {ks : List Kd} {bs : Nat → Nat} {S : Nat → Bool} {ε : Nat → Value} {w : World} (h : JB w0 X L ks bs S ε w) : St w0 X (L ++ touB ks S bs) w := by
  refine h.st.addAll ?_ ?_
  · intro p hp
    obtain ⟨i, _, he⟩ := List.mem_filterMap.1 hp
    simp only [entB, Option.map_eq_some_iff] at he
    obtain ⟨⟨cs, t⟩, ha, rfl⟩ := he
    obtain ⟨h1, h2, h3⟩ := h.facts i cs t ha
    exact ⟨⟨_, h1, rfl⟩, h2, h3⟩
  · have : (touB ks S bs).map (·.1) = (idxB ks).filterMap (fun i => (actB ks S i).map fun _ => blkB ks bs i) := by
      unfold touB
      rw [List.map_filterMap]
      congr 1
      funext i
      simp [entB, Function.comp_def]
    rw [this]
    refine nodup_filterMap (idxB_nodup ks) ?_
    intro i _ j _ b hi hj
    simp only [Option.map_eq_some_iff] at hi hj
    obtain ⟨p, hp, rfl⟩ := hi
    obtain ⟨q, hq, he⟩ := hj
    rcases Nat.decEq i j with hne | he'
    · exact absurd he.symm (h.apart i j (by simp [hp]) (by simp [hq]) hne)
    · exact he'

theorem JB.keep {ks : List Kd} {bs : Nat → Nat} {S : Nat → Bool} {ε : Nat → Value} {w w' : World} (h : JB w0 X L ks bs S ε w) (h' : St w0 X (L ++ touB ks S bs) w') : JB w0 X L ks bs S ε w' := by
  refine ⟨h'.sublist (List.sublist_append_left ..), h.vals, h.ptrs, h.sls, fun i cs t ha => ?_, h.apart⟩
  obtain ⟨_, h2, h3⟩ := h.facts i cs t ha
  refine ⟨h'.get (List.mem_append_right _ (List.mem_filterMap.2 ⟨i, mem_idxB ?_, by simp [entB, ha]⟩)), h2, h3⟩
  unfold actB at ha
  cases hk : ks[i]? with
  | none => rw [hk] at ha; cases ha
  | some _ => exact (List.getElem?_eq_some_iff.1 hk).1

def evk (ks : List Kd) (β : Nat → Value) (i : Nat) : Value := match ks[i]? with
  | some (.val u) => u
  | _ => β i
def evp (ks : List Kd) (bs : Nat → Nat) (i : Nat) : Value := match ks[i]? with
  | some (.val u) => u
  | some (.box ..) => .pointer (some ⟨bs i, 0, none⟩)
  | some (.mks _ _ n) => .slice (some ⟨bs i, 0, none⟩) n n
  | _ => undef

theorem evk_eq {ks : List Kd} {ops : Array Oper} {ε : Nat → Value} {fr : Fr} (es : List Edge) (h : ∀ e ∈ es, Region.binds .any e = true → ∀ v, ks[e.on]? = some (.val v) → ε e.on = v) : frk ops ε fr es = frk ops (evk ks ε) fr es :=
  frk_congr es fun e he hb => by
    unfold evk
    split
    · rename_i v hv; exact h e he hb v hv
    · rfl

/-- what is asked of an operation, by its kind -/
def ObB (P : Program) (l : List Oper) (fr : Fr) (w0 : World) (X : List Nat) (L : HL) (ks : List Kd) (k : Nat) (o : Oper) : Kd → Prop
  | .val u => (∀ β, (∀ L', O P o (frk l.toArray (evk ks β) fr o.after.toList) (St w0 X (L ++ L')) (fun v w => v = u ∧ St w0 X (L ++ L') w)) ∨
       ((∀ s b t old new, ks[s]? = some (.putE b t old new) → reachIn l.toArray 4 s k = true) ∧ ∀ L', O P o (frk l.toArray (evk ks β) fr o.after.toList) (St w0 X (L ++ (oldB ks ++ L'))) (fun v w => v = u ∧ St w0 X (L ++ (oldB ks ++ L')) w))) ∧ o.guard = none
  | .box t z cs s => o.op = .alloc t ∧ o.guard = none ∧ CZ P t z ∧ reachIn l.toArray 4 s k = true ∧ ks[s]? = some (.put k) ∧ z.length = cs.length
  | .put al => ∃ t z cs d t' y v, ks[al]? = some (.box t z cs k) ∧ dstOf l.toArray al = some d ∧ o.op = .store t' (.tmp d) y ∧ o.guard = none ∧ edgeTo o al = true ∧
      (∀ β, fev (frk l.toArray (evk ks β) fr o.after.toList) (.tmp d) = some (β al) ∧ fev (frk l.toArray (evk ks β) fr o.after.toList) y = some v) ∧ Stores P t' v cs
  | .putE b _ old new => ∃ t' x y v, o.op = .store t' x y ∧ o.guard = none ∧ old.length = new.length ∧
      (∀ β, fev (frk l.toArray (evk ks β) fr o.after.toList) x = some (.pointer (some ⟨b, 0, none⟩)) ∧ fev (frk l.toArray (evk ks β) fr o.after.toList) y = some v) ∧ Stores P t' v new
  | .mks e cs n => o.guard = none ∧ ∀ β ρ w, (∀ x v, fev (frk l.toArray (evk ks β) fr o.after.toList) x = some v → ρ x = v) → (execOp ρ o).run P w = .ok (.value (.slice (some ⟨w.heap.size, 0, none⟩) n n)) (w.alloc (.cells cs.toArray e))

def ObsB (P : Program) (l : List Oper) (fr : Fr) (w0 : World) (X : List Nat) (L : HL) (ks : List Kd) : Nat → List Oper → List Kd → Prop
  | _, [], [] => True
  | k, o :: rest, kd :: r => ObB P l fr w0 X L ks k o kd ∧ ObsB P l fr w0 X L ks (k + 1) rest r
  | _, _, _ => False

theorem obsB_spec {l : List Oper} {ks : List Kd} : ∀ (rest : List Oper) (kr : List Kd) (k : Nat), ObsB P l fr w0 X L ks k rest kr → rest.length = kr.length ∧ ∀ (j : Nat) (o : Oper), rest[j]? = some o → ∃ kd, kr[j]? = some kd ∧ ObB P l fr w0 X L ks (k + j) o kd
  | [], [], _, _ => ⟨rfl, fun j o h => by simp at h⟩
  | [], _ :: _, _, h => h.elim
  | _ :: _, [], _, h => h.elim
  | p :: rest, kd :: r, k, h => by
    obtain ⟨h1, h2⟩ := obsB_spec rest r (k + 1) h.2
    refine ⟨by simp [h1], fun j o ho => ?_⟩
    cases j with
    | zero => simp at ho; subst ho; exact ⟨kd, rfl, h.1⟩
    | succ j =>
      obtain ⟨kd', h3, h4⟩ := h2 j o (by simpa using ho)
      exact ⟨kd', by simpa using h3, by rwa [show k + 1 + j = k + (j + 1) by omega] at h4⟩

theorem oldB_eq {S : Nat → Bool} {bs : Nat → Nat} {all : List Kd} : ∀ (ks : List Kd) (k : Nat), (∀ i, ks[i]? = all[k + i]?) → (∀ i b t old new, ks[i]? = some (.putE b t old new) → S (k + i) = false) →
    oldB ks = ((List.range' k ks.length).filter (isE all)).filterMap (entB all S bs)
  | [], _, _, _ => by simp [oldB]
  | kd :: r, k, hk, hS => by
    have h0 : all[k]? = some kd := by simpa using (hk 0).symm
    have ih := oldB_eq (bs := bs) r (k + 1) (fun i => by have := hk (i + 1); simpa [Nat.add_assoc, Nat.add_comm 1 i] using this) (fun i b t old new hi => by
      have := hS (i + 1) b t old new (by simpa using hi); rwa [show k + (i + 1) = k + 1 + i by omega] at this)
    simp only [List.length_cons, List.range'_succ]
    cases kd with
    | putE b t old new =>
      have hE : isE all k = true := by simp [isE, h0]
      have hs := hS 0 b t old new rfl
      simp only [Nat.add_zero] at hs
      simp [oldB, ih, hE, entB, actB, blkB, h0, hs]
    | val u => simp [oldB, ih, isE, h0]
    | box t z cs s => simp [oldB, ih, isE, h0]
    | put al => simp [oldB, ih, isE, h0]
    | mks e cs n => simp [oldB, ih, isE, h0]

theorem newB_eq {bs : Nat → Nat} {all : List Kd} (hs : ∀ (i : Nat) (t : TypeId) (z cs : List Value) (s : Nat), all[i]? = some (Kd.box t z cs s) → s < all.length) : ∀ (ks : List Kd) (k : Nat), (∀ i, ks[i]? = all[k + i]?) → newB bs k ks = (List.range' k ks.length).filterMap (entB all (fun i => decide (i < all.length)) bs)
  | [], _, _ => by simp [newB]
  | kd :: r, k, hk => by
    have h0 : all[k]? = some kd := by simpa using (hk 0).symm
    have hkl : k < all.length := (List.getElem?_eq_some_iff.1 h0).1
    have ih := newB_eq (bs := bs) hs r (k + 1) (fun i => by have := hk (i + 1); simpa [Nat.add_assoc, Nat.add_comm 1 i] using this)
    simp only [List.length_cons, List.range'_succ, List.filterMap_cons]
    cases kd with
    | val u => simp only [newB, ih, entB, actB, h0, Option.map_none]
    | put al => simp only [newB, ih, entB, actB, h0, Option.map_none]
    | mks e cs n =>
      have : entB all (fun i => decide (i < all.length)) bs k = some (bs k, bx cs e) := by
        simp only [entB, actB, blkB, h0]; simp only [hkl, decide_true, if_true, Option.map_some]
      simp only [newB, ih, this]
    | putE b t old new =>
      have : entB all (fun i => decide (i < all.length)) bs k = some (b, bx new t) := by
        simp only [entB, actB, blkB, h0]; simp only [hkl, decide_true, if_true, Option.map_some]
      simp only [newB, ih, this]
    | box t z cs s =>
      have hsl := hs k t z cs s h0
      have : entB all (fun i => decide (i < all.length)) bs k = some (bs k, bx cs t) := by
        simp only [entB, actB, blkB, h0]; simp only [hkl, hsl, decide_true, if_true, Option.map_some]
      simp only [newB, ih, this]

theorem JB.done {ks : List Kd} {bs : Nat → Nat} {ε : Nat → Value} {w : World} (hs : ∀ (i : Nat) (t : TypeId) (z cs : List Value) (s : Nat), ks[i]? = some (Kd.box t z cs s) → s < ks.length) (h : JB w0 X L ks bs (fun i => decide (i < ks.length)) ε w) : St w0 X (newB bs 0 ks ++ L) w := by
  have e := newB_eq (bs := bs) (all := ks) hs ks 0 (fun i => by simp)
  rw [e]
  refine (h.st.addAll (L' := (List.range' 0 ks.length).filterMap (entB ks (fun i => decide (i < ks.length)) bs)) ?_ ?_).perm List.perm_append_comm
  · intro p hp
    obtain ⟨i, _, he⟩ := List.mem_filterMap.1 hp
    simp only [entB, Option.map_eq_some_iff] at he
    obtain ⟨⟨cs, t⟩, ha, rfl⟩ := he
    obtain ⟨h1, h2, h3⟩ := h.facts i cs t ha
    exact ⟨⟨_, h1, rfl⟩, h2, h3⟩
  · have : ((List.range' 0 ks.length).filterMap (entB ks (fun i => decide (i < ks.length)) bs)).map (·.1) = (List.range' 0 ks.length).filterMap (fun i => (actB ks (fun i => decide (i < ks.length)) i).map fun _ => blkB ks bs i) := by
      rw [List.map_filterMap]
      congr 1
      funext i
      simp [entB, Function.comp_def]
    rw [this]
    refine nodup_filterMap List.nodup_range' ?_
    intro i _ j _ b hi hj
    simp only [Option.map_eq_some_iff] at hi hj
    obtain ⟨p, hp, rfl⟩ := hi
    obtain ⟨q, hq, he⟩ := hj
    rcases Nat.decEq i j with hne | he'
    · exact absurd he.symm (h.apart i j (by simp [hp]) (by simp [hq]) hne)
    · exact he'

/-- a block of its own is overwritten: the known blocks elsewhere are as they were -/
theorem St.away {w w' : World} {b : Nat} (h : St w0 X L w) (hg : w.grownBy w' (some b)) (hb : w0.heap.size ≤ b ∨ b ∈ X) (hL : b ∉ L.map (·.1)) : St w0 X L w' := by
  refine ⟨hg.os.trans h.os, hg.tape.trans h.tape, hg.output.trans h.output, Nat.le_trans h.size hg.size, ?_, ?_, h.mine, h.apart⟩
  · intro k hk hx
    refine (hg.block k (Nat.lt_of_lt_of_le hk h.size) ?_).trans (h.old k hk hx)
    rintro ⟨⟩
    rcases hb with hb | hb
    · omega
    · exact hx hb
  · intro p hp
    obtain ⟨o, ho, hq⟩ := h.here p hp
    refine ⟨o, (hg.block p.1 (Array.getElem?_eq_some_iff.1 ho).1 ?_).trans ho, hq⟩
    intro e
    injection e with e
    exact hL (List.mem_map.2 ⟨p, hp, e⟩)

theorem oneStore {o : Oper} {t' : TypeId} {x y : Operand} {ρ : Operand → Value} {w w' : World} {b : Nat} {v : Value} {K : Value → World → Prop} (ho : o.op = .store t' x y) (hx : ρ x = .pointer (some ⟨b, 0, none⟩)) (hy : ρ y = v) (hr : (storeVar t' ⟨b, 0, none⟩ v).run P w = .ok () w') (hk : K undef w') : Op1 P o ρ w K := by
  unfold Op1
  have : (execOp ρ o).run P w = .ok .skip w' := by
    simp [execOp, ho, Instr.storeAt, Instr.sureAddr, hx, hy, hr]
  rw [this]
  exact hk

theorem actB_same {ks : List Kd} {S : Nat → Bool} {k i : Nat} (h1 : i ≠ k) (h2 : ∀ t z cs s, ks[i]? = some (Kd.box t z cs s) → s ≠ k) : actB ks (mark S k) i = actB ks S i := by
  unfold actB
  cases hk : ks[i]? with
  | none => rfl
  | some kd =>
    cases kd with
    | val u => rfl
    | put al => rfl
    | mks e cs n => simp [mark, h1]
    | putE b t old new => simp [mark, h1]
    | box t z cs s => simp [mark, h1, h2 t z cs s hk]

theorem t_drawBT {id : Nat} {l : List Oper} (n0 : Nat) (ks : List Kd) (hob : ObsB P l fr w0 X L ks 0 (l.take n0) ks) (hn0 : Nat.ble n0 l.length = true) (ht : tailOk l n0 = true) (hm : P.follows .mixedOrders = true) (ok : regionOk l = true) (hs : okSlots nt l = true)
    (fin : ∀ bs, TL P r l.toArray Q nt D (l.drop n0) (frAll l.toArray (evp ks bs) fr n0) (St w0 X (newB bs 0 ks ++ L))) : T P r (.region id l.toArray true) Q nt D fr (St w0 X (oldB ks ++ L)) := by
  have hn0' : n0 ≤ l.length := by simpa [Nat.ble_eq] using hn0
  obtain ⟨hlen0, hall0⟩ := obsB_spec (l.take n0) ks 0 hob
  have hlen : n0 = ks.length := by rw [← hlen0]; simp; omega
  have hall : ∀ (j : Nat) (o : Oper), j < n0 → l[j]? = some o → ∃ kd, ks[j]? = some kd ∧ ObB P l fr w0 X L ks (0 + j) o kd := fun j o hj ho => hall0 j o (by rw [List.getElem?_take, if_pos hj]; exact ho)
  have hkl : ∀ i kd, ks[i]? = some kd → i < n0 := fun i kd h => by rw [hlen]; exact (List.getElem?_eq_some_iff.1 h).1
  have hat : ∀ i kd, ks[i]? = some kd → ∃ o, l[i]? = some o ∧ ObB P l fr w0 X L ks i o kd := fun i kd h => by
    have hi0 := hkl i kd h
    have hi : i < l.length := by omega
    obtain ⟨kd', h1, h2⟩ := hall i l[i] hi0 (List.getElem?_eq_getElem hi)
    rw [h] at h1; cases h1
    rw [Nat.zero_add] at h2
    exact ⟨l[i], List.getElem?_eq_getElem hi, h2⟩
  have hbs : ∀ i t z cs s, ks[i]? = some (Kd.box t z cs s) → s < ks.length := fun i t z cs s h => by
    obtain ⟨o, _, _, _, _, _, h5, _⟩ := hat i _ h
    exact (List.getElem?_eq_some_iff.1 h5).1
  refine t_drawG n0 (J := fun S ε w => ∃ bs, JB w0 X L ks bs S ε w ∧ ∀ i, isPut ks i = true → S i = true → ε i = undef) hn0' ht hm ok hs ?_ ?_ ?_
  · -- the start
    intro w n hw
    refine ⟨fun _ => 0, ?_, (fun _ _ h => by cases h)⟩
    have hw' := hw.drew n
    have hold := oldB_eq (S := fun _ => false) (bs := fun _ => 0) (all := ks) ks 0 (fun i => by simp) (fun _ _ _ _ _ _ => rfl)
    have hmem : ∀ i cs t, actB ks (fun _ => false) i = some (cs, t) → (blkB ks (fun _ => 0) i, bx cs t) ∈ oldB ks := by
      intro i cs t ha
      rw [hold]
      refine List.mem_filterMap.2 ⟨i, ?_, by simp [entB, ha]⟩
      have hE : isE ks i = true ∧ i < ks.length := by
        unfold actB at ha
        cases hk : ks[i]? with
        | none => rw [hk] at ha; cases ha
        | some kd =>
          rw [hk] at ha
          cases kd with
          | putE b t old new => exact ⟨by simp [isE, hk], (List.getElem?_eq_some_iff.1 hk).1⟩
          | box t z cs s => simp at ha
          | val u => cases ha
          | put al => cases ha
          | mks e cs n => simp at ha
      exact List.mem_filter.2 ⟨by simp [List.mem_range'_1, hE.2], hE.1⟩
    refine ⟨hw'.sublist (List.sublist_append_right ..), (fun _ _ _ h => by cases h), (fun _ _ _ _ _ _ h => by cases h), (fun _ _ _ _ _ h => by cases h), ?_, ?_⟩
    · intro i cs t ha
      have hm := hmem i cs t ha
      refine ⟨hw'.get (List.mem_append_left _ hm), hw'.mine _ (List.mem_append_left _ hm), ?_⟩
      have := hw'.apart
      rw [List.map_append, List.nodup_append] at this
      intro hx
      exact this.2.2 _ (List.mem_map.2 ⟨_, hm, rfl⟩) _ hx rfl
    · intro i j hi hj hne e
      obtain ⟨⟨ci, ti⟩, hi⟩ := Option.isSome_iff_exists.1 hi
      obtain ⟨⟨cj, tj⟩, hj⟩ := Option.isSome_iff_exists.1 hj
      have h1 := hmem i ci ti hi
      have h2 := hmem j cj tj hj
      -- two places of one list with one block
      have hnd : ((oldB ks).map (·.1)).Nodup := by
        have := hw'.apart
        rw [List.map_append, List.nodup_append] at this
        exact this.1
      rw [hold] at hnd
      have hnd2 : (((List.range' 0 ks.length).filter (isE ks)).filterMap (fun i => (actB ks (fun _ => false) i).map fun _ => blkB ks (fun _ => 0) i)).Nodup := by
        have e : (((List.range' 0 ks.length).filter (isE ks)).filterMap (entB ks (fun _ => false) (fun _ => 0))).map (·.1) = ((List.range' 0 ks.length).filter (isE ks)).filterMap (fun i => (actB ks (fun _ => false) i).map fun _ => blkB ks (fun _ => 0) i) := by
          rw [List.map_filterMap]
          congr 1
          funext i
          simp [entB, Function.comp_def]
        rw [← e]; exact hnd
      have key : ∀ (q : List Nat), (q.filterMap (fun i => (actB ks (fun _ => false) i).map fun _ => blkB ks (fun _ => 0) i)).Nodup → i ∈ q → j ∈ q → False := by
        intro q
        induction q with
        | nil => intro _ h; cases h
        | cons a q ih =>
          intro hn hi' hj'
          have tail : (q.filterMap (fun i => (actB ks (fun _ => false) i).map fun _ => blkB ks (fun _ => 0) i)).Nodup := hn.sublist ((List.sublist_cons_self a q).filterMap _)
          rcases List.mem_cons.1 hi' with ea | hi2
          · subst ea
            rcases List.mem_cons.1 hj' with eb | hj2
            · exact hne eb.symm
            · simp only [List.filterMap_cons, hi, Option.map_some, List.nodup_cons] at hn
              exact hn.1 (List.mem_filterMap.2 ⟨j, hj2, by simp [hj, e]⟩)
          · rcases List.mem_cons.1 hj' with eb | hj2
            · subst eb
              simp only [List.filterMap_cons, hj, Option.map_some, List.nodup_cons] at hn
              exact hn.1 (List.mem_filterMap.2 ⟨i, hi2, by simp [hi, e]⟩)
            · exact ih tail hi2 hj2
      have inE : ∀ i cs t, actB ks (fun _ => false) i = some (cs, t) → i ∈ (List.range' 0 ks.length).filter (isE ks) := by
        intro i cs t ha
        unfold actB at ha
        cases hk : ks[i]? with
        | none => rw [hk] at ha; cases ha
        | some kd =>
          rw [hk] at ha
          cases kd with
          | putE b t old new => exact List.mem_filter.2 ⟨by simp [List.mem_range'_1, (List.getElem?_eq_some_iff.1 hk).1], by simp [isE, hk]⟩
          | box t z cs s => simp at ha
          | val u => cases ha
          | put al => cases ha
          | mks e cs n => simp at ha
      exact key _ hnd2 (inE i ci ti hi) (inE j cj tj hj)
  · -- one operation
    intro k o hkn hk S ε hc hSk hdeps
    obtain ⟨kd, hkd, hob'⟩ := hall k o hkn hk
    rw [Nat.zero_add] at hob'
    have hstore : ∀ i t z cs s, ks[i]? = some (Kd.box t z cs s) → ks[s]? = some (.put i) := fun i t z cs s h => by
      obtain ⟨o, _, _, _, _, _, h5, _⟩ := hat i _ h
      exact h5
    have hfrk : ∀ {bs w}, JB w0 X L ks bs S ε w → frk l.toArray ε fr o.after.toList = frk l.toArray (evk ks ε) fr o.after.toList := fun hJ =>
      evk_eq _ fun e he hb v hv => hJ.vals e.on v hv (hdeps e (by simpa using he) hb)
    cases kd with
    | val u =>
      obtain ⟨hO, hg⟩ := hob'
      rw [hg]
      intro ρ w hρ hJ
      obtain ⟨bs, hJ, hp⟩ := hJ
      rw [hfrk hJ] at hρ
      have hact : ∀ i, actB ks (mark S k) i = actB ks S i := fun i => by
        by_cases e : i = k
        · subst e; simp [actB, hkd]
        · exact actB_same e fun t z cs s h es => by subst es; rw [hstore i t z cs _ h] at hkd; cases hkd
      have fin' : ∀ w', St w0 X (L ++ touB ks S bs) w' → ∃ bs, JB w0 X L ks bs (mark S k) (upd ε k u) w' ∧ ∀ i, isPut ks i = true → mark S k i = true → upd ε k u i = undef := fun w' h' => by
        have hJ' := hJ.keep h'
        refine ⟨bs, ⟨hJ'.st, ?_, ?_, ?_, ?_, ?_⟩, ?_⟩
        · intro i v hv hm
          by_cases e : i = k
          · subst e; rw [hkd] at hv; cases hv; simp [upd]
          · simp only [upd, if_neg e]; exact hJ'.vals i v hv (by simpa [mark, e] using hm)
        · intro i t z cs s hb hm
          have e : i ≠ k := by intro e; subst e; rw [hkd] at hb; cases hb
          simp only [upd, if_neg e]; exact hJ'.ptrs i t z cs s hb (by simpa [mark, e] using hm)
        · intro i e1 cs n hb hm
          have e : i ≠ k := by intro e; subst e; rw [hkd] at hb; cases hb
          simp only [upd, if_neg e]; exact hJ'.sls i e1 cs n hb (by simpa [mark, e] using hm)
        · intro i cs t ha; rw [hact] at ha; exact hJ'.facts i cs t ha
        · intro i j; rw [hact, hact]; exact hJ'.apart i j
        · intro i hi hm
          have e : i ≠ k := by intro e; subst e; simp [isPut, hkd] at hi
          simp only [upd, if_neg e]; exact hp i hi (by simpa [mark, e] using hm)
      rcases hO ε with hO | ⟨hpre, hO⟩
      · refine (hO (touB ks S bs) ρ w hρ hJ.full).mono ?_
        rintro v w' ⟨rfl, h'⟩
        exact fin' w' h'
      · have hold := oldB_eq (S := S) (bs := bs) (all := ks) ks 0 (fun i => by simp) (fun i b t old new hi => by
          rw [Nat.zero_add]
          rcases Bool.eq_false_or_eq_true (S i) with h | h
          · have := reach_spec hc 4 i k (hpre i b t old new hi) h
            rw [hSk] at this; cases this
          · exact h)
        have hsplit : touB ks S bs = oldB ks ++ ((List.range ks.length).filter (fun i => !isE ks i)).filterMap (entB ks S bs) := by
          unfold touB idxB
          rw [List.filterMap_append, hold, List.range_eq_range']
        have hfull := hJ.full
        rw [hsplit] at hfull
        refine (hO _ ρ w hρ hfull).mono ?_
        rintro v w' ⟨rfl, h'⟩
        rw [← hsplit] at h'
        exact fin' w' h'
    | box t z cs s =>
      obtain ⟨hop, hg, hz, hreach, hput, hlz⟩ := hob'
      rw [hg]
      have hSs : S s = false := by
        rcases Bool.eq_false_or_eq_true (S s) with h | h
        · have := reach_spec hc 4 s k hreach h
          rw [hSk] at this; cases this
        · exact h
      have hsk : s ≠ k := by intro e; subst e; rw [hkd] at hput; cases hput
      intro ρ w hρ hJ
      obtain ⟨bs, hJ, hp⟩ := hJ
      obtain ⟨zv, hzc, hzr⟩ := hz.run
      have hrun : (execOp ρ o).run P w = .ok (.value (.pointer (some ⟨w.heap.size, 0, none⟩))) (w.alloc (.cells z.toArray t)) := by
        simp [execOp, hop, Instr.alloc, hzr, newVar, newRow, hzc]
      unfold Op1
      rw [hrun]
      have hne : ∀ i, i ≠ k → blkB ks (fun i => if i = k then w.heap.size else bs i) i = blkB ks bs i := fun i e => by
        unfold blkB; split <;> simp [e]
      have hkb : blkB ks (fun i => if i = k then w.heap.size else bs i) k = w.heap.size := by simp [blkB, hkd]
      have hact : ∀ i, i ≠ k → actB ks (mark S k) i = actB ks S i := fun i e => actB_same e fun t z cs s h es => by subst es; rw [hstore i t z cs _ h] at hkd; cases hkd
      have hactk : actB ks (mark S k) k = some (z, t) := by simp [actB, hkd, mark, hsk, hSs]
      have hlt : ∀ i cs t, actB ks S i = some (cs, t) → blkB ks bs i < w.heap.size := fun i cs t ha => (Array.getElem?_eq_some_iff.1 (hJ.facts i cs t ha).1).1
      refine ⟨fun i => if i = k then w.heap.size else bs i, ⟨(hJ.st.alloc _ (q := fun _ => True) trivial).sublist (List.sublist_cons_self ..), ?_, ?_, ?_, ?_, ?_⟩, ?_⟩
      · intro i v hv hm
        have e : i ≠ k := by intro e; subst e; rw [hkd] at hv; cases hv
        simp only [upd, if_neg e]; exact hJ.vals i v hv (by simpa [mark, e] using hm)
      · intro i t' z' cs' s' hb hm
        by_cases e : i = k
        · subst e; simp [upd]
        · simp only [upd, if_neg e]; exact hJ.ptrs i t' z' cs' s' hb (by simpa [mark, e] using hm)
      · intro i e1 cs1 n1 hb hm
        have e : i ≠ k := by intro e; subst e; rw [hkd] at hb; cases hb
        simp only [upd, if_neg e]; exact hJ.sls i e1 cs1 n1 hb (by simpa [mark, e] using hm)
      · intro i cs' t' ha
        by_cases e : i = k
        · subst e
          rw [hactk] at ha; cases ha
          rw [hkb]
          refine ⟨World.alloc_heap_new w _, .inl hJ.st.size, fun hm => ?_⟩
          obtain ⟨p, hp', he⟩ := List.mem_map.1 hm
          have := hJ.st.lt hp'
          omega
        · rw [hact i e] at ha
          rw [hne i e]
          obtain ⟨h1, h2, h3⟩ := hJ.facts i cs' t' ha
          exact ⟨(Below.heap_alloc w _ _ (hlt i cs' t' ha)).trans h1, h2, h3⟩
      · intro i j hi hj hij
        by_cases ei : i = k
        · subst ei
          rw [hact j (Ne.symm hij)] at hj
          obtain ⟨⟨cj, tj⟩, hj⟩ := Option.isSome_iff_exists.1 hj
          rw [hkb, hne j (Ne.symm hij)]
          have := hlt j cj tj hj
          omega
        · rw [hact i ei] at hi
          by_cases ej : j = k
          · subst ej
            obtain ⟨⟨ci, ti⟩, hi⟩ := Option.isSome_iff_exists.1 hi
            rw [hkb, hne i ei]
            have := hlt i ci ti hi
            omega
          · rw [hact j ej] at hj
            rw [hne i ei, hne j ej]
            exact hJ.apart i j hi hj hij
      · intro i hi hm
        have e : i ≠ k := by intro e; subst e; simp [isPut, hkd] at hi
        simp only [upd, if_neg e]; exact hp i hi (by simpa [mark, e] using hm)
    | mks et cs nn =>
      obtain ⟨hg, hrun⟩ := hob'
      rw [hg]
      intro ρ w hρ hJ
      obtain ⟨bs, hJ, hp⟩ := hJ
      rw [hfrk hJ] at hρ
      unfold Op1
      rw [hrun ε ρ w hρ]
      have hne : ∀ i, i ≠ k → blkB ks (fun i => if i = k then w.heap.size else bs i) i = blkB ks bs i := fun i e => by
        unfold blkB; split <;> simp [e]
      have hkb : blkB ks (fun i => if i = k then w.heap.size else bs i) k = w.heap.size := by simp [blkB, hkd]
      have hact : ∀ i, i ≠ k → actB ks (mark S k) i = actB ks S i := fun i e => actB_same e fun t z cs s h es => by subst es; rw [hstore i t z cs _ h] at hkd; cases hkd
      have hactk : actB ks (mark S k) k = some (cs, et) := by simp [actB, hkd, mark]
      have hlt : ∀ i cs t, actB ks S i = some (cs, t) → blkB ks bs i < w.heap.size := fun i cs t ha => (Array.getElem?_eq_some_iff.1 (hJ.facts i cs t ha).1).1
      refine ⟨fun i => if i = k then w.heap.size else bs i, ⟨(hJ.st.alloc _ (q := fun _ => True) trivial).sublist (List.sublist_cons_self ..), ?_, ?_, ?_, ?_, ?_⟩, ?_⟩
      · intro i v hv hm
        have e : i ≠ k := by intro e; subst e; rw [hkd] at hv; cases hv
        simp only [upd, if_neg e]; exact hJ.vals i v hv (by simpa [mark, e] using hm)
      · intro i t' z' cs' s' hb hm
        have e : i ≠ k := by intro e; subst e; rw [hkd] at hb; cases hb
        simp only [upd, if_neg e]; exact hJ.ptrs i t' z' cs' s' hb (by simpa [mark, e] using hm)
      · intro i e1 cs1 n1 hb hm
        by_cases e : i = k
        · subst e; rw [hkd] at hb; cases hb; simp [upd]
        · simp only [upd, if_neg e]; exact hJ.sls i e1 cs1 n1 hb (by simpa [mark, e] using hm)
      · intro i cs' t' ha
        by_cases e : i = k
        · subst e
          rw [hactk] at ha; cases ha
          rw [hkb]
          refine ⟨World.alloc_heap_new w _, .inl hJ.st.size, fun hm => ?_⟩
          obtain ⟨p, hp', he⟩ := List.mem_map.1 hm
          have := hJ.st.lt hp'
          omega
        · rw [hact i e] at ha
          rw [hne i e]
          obtain ⟨h1, h2, h3⟩ := hJ.facts i cs' t' ha
          exact ⟨(Below.heap_alloc w _ _ (hlt i cs' t' ha)).trans h1, h2, h3⟩
      · intro i j hi hj hij
        by_cases ei : i = k
        · subst ei
          rw [hact j (Ne.symm hij)] at hj
          obtain ⟨⟨cj, tj⟩, hj⟩ := Option.isSome_iff_exists.1 hj
          rw [hkb, hne j (Ne.symm hij)]
          have := hlt j cj tj hj
          omega
        · rw [hact i ei] at hi
          by_cases ej : j = k
          · subst ej
            obtain ⟨⟨ci, ti⟩, hi⟩ := Option.isSome_iff_exists.1 hi
            rw [hkb, hne i ei]
            have := hlt i ci ti hi
            omega
          · rw [hact j ej] at hj
            rw [hne i ei, hne j ej]
            exact hJ.apart i j hi hj hij
      · intro i hi hm
        have e : i ≠ k := by intro e; subst e; simp [isPut, hkd] at hi
        simp only [upd, if_neg e]; exact hp i hi (by simpa [mark, e] using hm)
    | put al =>
      obtain ⟨t, z, cs, d, t', y, v, hbox, hd, hop, hg, hedge, hev, hst⟩ := hob'
      rw [hg]
      obtain ⟨e0, he0, hb0, hei0⟩ := edgeTo_iff.1 hedge
      have hSal : S al = true := by have := hdeps e0 he0 hb0; rwa [hei0] at this
      obtain ⟨oal, _, _, _, _, _, _, hlz⟩ := hat al _ hbox
      have hak : al ≠ k := by intro e; subst e; rw [hkd] at hbox; cases hbox
      intro ρ w hρ hJ
      obtain ⟨bs, hJ, hp⟩ := hJ
      rw [hfrk hJ] at hρ
      obtain ⟨hx, hy⟩ := hev ε
      have hptr := hJ.ptrs al t z cs k hbox hSal
      have hacta : actB ks S al = some (z, t) := by simp [actB, hbox, hSal, hSk]
      obtain ⟨f1, f2, f3⟩ := hJ.facts al z t hacta
      have hba : blkB ks bs al = bs al := by simp [blkB, hbox]
      rw [hba] at f1 f2 f3
      obtain ⟨w', hr, hgw, hh⟩ := hst w (bs al) t z f1 hlz
      refine oneStore hop ((hρ _ _ hx).trans hptr) (hρ _ _ hy) hr ?_
      have hact : ∀ i, i ≠ al → actB ks (mark S k) i = actB ks S i := fun i e => by
        by_cases ek : i = k
        · subst ek; simp [actB, hkd]
        · exact actB_same ek fun t z cs s h es => by
            subst es
            have := hstore i t z cs _ h
            rw [hkd] at this
            injection this with this; injection this with this
            exact e this.symm
      have hactal : actB ks (mark S k) al = some (cs, t) := by simp [actB, hbox, mark, hSal]
      refine ⟨bs, ⟨hJ.st.away hgw f2 f3, ?_, ?_, ?_, ?_, ?_⟩, ?_⟩
      · intro i u hv hm
        have e : i ≠ k := by intro e; subst e; rw [hkd] at hv; cases hv
        simp only [upd, if_neg e]; exact hJ.vals i u hv (by simpa [mark, e] using hm)
      · intro i t1 z1 cs1 s1 hb hm
        have e : i ≠ k := by intro e; subst e; rw [hkd] at hb; cases hb
        simp only [upd, if_neg e]; exact hJ.ptrs i t1 z1 cs1 s1 hb (by simpa [mark, e] using hm)
      · intro i e1 cs1 n1 hb hm
        have e : i ≠ k := by intro e; subst e; rw [hkd] at hb; cases hb
        simp only [upd, if_neg e]; exact hJ.sls i e1 cs1 n1 hb (by simpa [mark, e] using hm)
      · intro i cs1 t1 ha
        by_cases e : i = al
        · subst e
          rw [hactal] at ha; cases ha
          rw [hba]; exact ⟨hh, f2, f3⟩
        · rw [hact i e] at ha
          obtain ⟨g1, g2, g3⟩ := hJ.facts i cs1 t1 ha
          refine ⟨(hgw.block _ (Array.getElem?_eq_some_iff.1 g1).1 ?_).trans g1, g2, g3⟩
          intro e1
          injection e1 with e1
          exact hJ.apart i al (by simp [ha]) (by simp [hacta]) e (by rw [hba]; exact e1)
      · intro i j hi hj hij
        refine hJ.apart i j ?_ ?_ hij
        · by_cases e : i = al
          · subst e; simp [hacta]
          · rwa [hact i e] at hi
        · by_cases e : j = al
          · subst e; simp [hacta]
          · rwa [hact j e] at hj
      · intro i hi hm
        by_cases e : i = k
        · subst e; simp [upd]
        · simp only [upd, if_neg e]; exact hp i hi (by simpa [mark, e] using hm)
    | putE b t old new =>
      obtain ⟨t', x, y, v, hop, hg, hlen', hev, hst⟩ := hob'
      rw [hg]
      intro ρ w hρ hJ
      obtain ⟨bs, hJ, hp⟩ := hJ
      rw [hfrk hJ] at hρ
      obtain ⟨hx, hy⟩ := hev ε
      have hacta : actB ks S k = some (old, t) := by simp [actB, hkd, hSk]
      obtain ⟨f1, f2, f3⟩ := hJ.facts k old t hacta
      have hba : blkB ks bs k = b := by simp [blkB, hkd]
      rw [hba] at f1 f2 f3
      obtain ⟨w', hr, hgw, hh⟩ := hst w b t old f1 hlen'
      refine oneStore hop (hρ _ _ hx) (hρ _ _ hy) hr ?_
      have hact : ∀ i, i ≠ k → actB ks (mark S k) i = actB ks S i := fun i e => actB_same e fun t z cs s h es => by
        subst es
        have := hstore i t z cs _ h
        rw [hkd] at this; cases this
      have hactk : actB ks (mark S k) k = some (new, t) := by simp [actB, hkd, mark]
      refine ⟨bs, ⟨hJ.st.away hgw f2 f3, ?_, ?_, ?_, ?_, ?_⟩, ?_⟩
      · intro i u hv hm
        have e : i ≠ k := by intro e; subst e; rw [hkd] at hv; cases hv
        simp only [upd, if_neg e]; exact hJ.vals i u hv (by simpa [mark, e] using hm)
      · intro i t1 z1 cs1 s1 hb hm
        have e : i ≠ k := by intro e; subst e; rw [hkd] at hb; cases hb
        simp only [upd, if_neg e]; exact hJ.ptrs i t1 z1 cs1 s1 hb (by simpa [mark, e] using hm)
      · intro i e1 cs1 n1 hb hm
        have e : i ≠ k := by intro e; subst e; rw [hkd] at hb; cases hb
        simp only [upd, if_neg e]; exact hJ.sls i e1 cs1 n1 hb (by simpa [mark, e] using hm)
      · intro i cs1 t1 ha
        by_cases e : i = k
        · subst e
          rw [hactk] at ha; cases ha
          rw [hba]; exact ⟨hh, f2, f3⟩
        · rw [hact i e] at ha
          obtain ⟨g1, g2, g3⟩ := hJ.facts i cs1 t1 ha
          refine ⟨(hgw.block _ (Array.getElem?_eq_some_iff.1 g1).1 ?_).trans g1, g2, g3⟩
          intro e1
          injection e1 with e1
          exact hJ.apart i k (by simp [ha]) (by simp [hacta]) e (by rw [hba]; exact e1)
      · intro i j hi hj hij
        refine hJ.apart i j ?_ ?_ hij
        · by_cases e : i = k
          · subst e; simp [hacta]
          · rwa [hact i e] at hi
        · by_cases e : j = k
          · subst e; simp [hacta]
          · rwa [hact j e] at hj
      · intro i hi hm
        by_cases e : i = k
        · subst e; simp [upd]
        · simp only [upd, if_neg e]; exact hp i hi (by simpa [mark, e] using hm)
  · -- the end
    intro ε a w ha hJ
    obtain ⟨bs, hJ, hp⟩ := hJ
    have he : frAll l.toArray ε fr n0 = frAll l.toArray (evp ks bs) fr n0 := frAll_congr _ fun i hi => by
      have hik : i < ks.length := by omega
      unfold evp
      cases hk : ks[i]? with
      | none => rw [List.getElem?_eq_none_iff] at hk; omega
      | some kd =>
        cases kd with
        | val u => exact hJ.vals i u hk (by simpa using hi)
        | box t z cs s => exact hJ.ptrs i t z cs s hk (by simpa using hi)
        | mks e cs n => exact hJ.sls i e cs n hk (by simpa using hi)
        | put al => exact hp i (by simp [isPut, hk]) (by simpa using hi)
        | putE b t old new => exact hp i (by simp [isPut, hk]) (by simpa using hi)
    rw [he] at ha
    rw [show (fun i => decide (i < n0)) = (fun i => decide (i < ks.length)) by rw [hlen]] at hJ
    exact fin bs a w ha (hJ.done hbs)

theorem t_drawB {id : Nat} {l : List Oper} (ks : List Kd) (hob : ObsB P l fr w0 X L ks 0 l ks) (hm : P.follows .mixedOrders = true) (ok : regionOk l = true) (hs : okSlots nt l = true)
    (fin : ∀ bs, Xt P .normal Q nt D (frAll l.toArray (evp ks bs) fr l.length) (St w0 X (newB bs 0 ks ++ L))) : T P r (.region id l.toArray true) Q nt D fr (St w0 X (oldB ks ++ L)) :=
  t_drawBT l.length ks (by rw [List.take_length]; exact hob) (by simp) (tailOk_all l) hm ok hs fun bs a w ha hw => by
    rw [List.drop_length]
    exact fin bs a w ha hw
theorem t_drawB0 {id : Nat} {l : List Oper} (ks : List Kd) (h0 : oldB ks = []) (hob : ObsB P l fr w0 X L ks 0 l ks) (hm : P.follows .mixedOrders = true) (ok : regionOk l = true) (hs : okSlots nt l = true)
    (fin : ∀ bs, Xt P .normal Q nt D (frAll l.toArray (evp ks bs) fr l.length) (St w0 X (newB bs 0 ks ++ L))) : T P r (.region id l.toArray true) Q nt D fr (St w0 X L) := by
  have := t_drawB (P := P) (r := r) (Q := Q) (nt := nt) (D := D) (fr := fr) (w0 := w0) (X := X) (L := L) (id := id) ks hob hm ok hs fin
  rw [h0] at this
  exact this
theorem t_drawBE {id : Nat} {l : List Oper} (ks : List Kd) (L' : HL) (hL : ∀ w, St w0 X L w → St w0 X (oldB ks ++ L') w) (hob : ObsB P l fr w0 X L' ks 0 l ks) (hm : P.follows .mixedOrders = true) (ok : regionOk l = true) (hs : okSlots nt l = true)
    (fin : ∀ bs, Xt P .normal Q nt D (frAll l.toArray (evp ks bs) fr l.length) (St w0 X (newB bs 0 ks ++ L'))) : T P r (.region id l.toArray true) Q nt D fr (St w0 X L) :=
  fun a w ha hw => t_drawB (P := P) (r := r) (Q := Q) (nt := nt) (D := D) (fr := fr) (w0 := w0) (X := X) (L := L') (id := id) ks hob hm ok hs fin a w ha (hL w hw)
/-- with a tail that comes in the text's order -/
theorem t_drawBT0 {id : Nat} {l : List Oper} (n0 : Nat) (ks : List Kd) (h0 : oldB ks = []) (hob : ObsB P l fr w0 X L ks 0 (l.take n0) ks) (hn0 : Nat.ble n0 l.length = true) (ht : tailOk l n0 = true) (hm : P.follows .mixedOrders = true) (ok : regionOk l = true) (hs : okSlots nt l = true)
    (fin : ∀ bs, TL P r l.toArray Q nt D (l.drop n0) (frAll l.toArray (evp ks bs) fr n0) (St w0 X (newB bs 0 ks ++ L))) : T P r (.region id l.toArray true) Q nt D fr (St w0 X L) := by
  have := t_drawBT (P := P) (r := r) (Q := Q) (nt := nt) (D := D) (fr := fr) (w0 := w0) (X := X) (L := L) (id := id) n0 ks hob hn0 ht hm ok hs fin
  rw [h0] at this
  exact this

section
variable {l rest : List Oper} {ks kr : List Kd} {k : Nat} {d : Option Tmp} {op : Op} {ty : TypeId} {pos : String} {af : Array Edge} {u : Value}
theorem ob_v (h : ∀ β L', O P ⟨d, op, ty, pos, af, none⟩ (frk l.toArray (evk ks β) fr af.toList) (St w0 X (L ++ L')) (fun v w => v = u ∧ St w0 X (L ++ L') w)) (hr : ObsB P l fr w0 X L ks (k + 1) rest kr) : ObsB P l fr w0 X L ks k (⟨d, op, ty, pos, af, none⟩ :: rest) (.val u :: kr) :=
  ⟨⟨fun β => .inl fun L' => by simpa using h β L', rfl⟩, hr⟩
theorem ob_pre (hpre : ∀ s b t old new, ks[s]? = some (.putE b t old new) → reachIn l.toArray 4 s k = true) (h : ∀ β L', O P ⟨d, op, ty, pos, af, none⟩ (frk l.toArray (evk ks β) fr af.toList) (St w0 X (L ++ (oldB ks ++ L'))) (fun v w => v = u ∧ St w0 X (L ++ (oldB ks ++ L')) w)) (hr : ObsB P l fr w0 X L ks (k + 1) rest kr) : ObsB P l fr w0 X L ks k (⟨d, op, ty, pos, af, none⟩ :: rest) (.val u :: kr) :=
  ⟨⟨fun β => .inr ⟨hpre, fun L' => by simpa using h β L'⟩, rfl⟩, hr⟩
theorem ob_box {t : TypeId} {z cs : List Value} {s : Nat} [hz : CZ P t z] (hreach : reachIn l.toArray 4 s k = true) (hput : ks[s]? = some (.put k)) (hlen : z.length = cs.length) (hr : ObsB P l fr w0 X L ks (k + 1) rest kr) : ObsB P l fr w0 X L ks k (⟨d, .alloc t, ty, pos, af, none⟩ :: rest) (.box t z cs s :: kr) :=
  ⟨⟨rfl, rfl, hz, hreach, hput, hlen⟩, hr⟩
theorem ob_put {al dd : Nat} {t t' : TypeId} {z cs : List Value} {y : Operand} {v : Value} (hbox : ks[al]? = some (.box t z cs k)) (hd : dstOf l.toArray al = some dd) (hedge : edgeTo ⟨d, .store t' (.tmp dd) y, ty, pos, af, none⟩ al = true)
    (hx : ∀ β, fev (frk l.toArray (evk ks β) fr af.toList) (.tmp dd) = some (β al)) (hy : ∀ β, fev (frk l.toArray (evk ks β) fr af.toList) y = some v) (hst : Stores P t' v cs) (hr : ObsB P l fr w0 X L ks (k + 1) rest kr) : ObsB P l fr w0 X L ks k (⟨d, .store t' (.tmp dd) y, ty, pos, af, none⟩ :: rest) (.put al :: kr) :=
  ⟨⟨t, z, cs, dd, t', y, v, hbox, hd, rfl, rfl, hedge, fun β => ⟨by simpa using hx β, by simpa using hy β⟩, hst⟩, hr⟩
theorem ob_putE {b : Nat} {t t' : TypeId} {old new : List Value} {x y : Operand} {v : Value} (hlen : old.length = new.length) (hx : ∀ β, fev (frk l.toArray (evk ks β) fr af.toList) x = some (.pointer (some ⟨b, 0, none⟩))) (hy : ∀ β, fev (frk l.toArray (evk ks β) fr af.toList) y = some v) (hst : Stores P t' v new) (hr : ObsB P l fr w0 X L ks (k + 1) rest kr) : ObsB P l fr w0 X L ks k (⟨d, .store t' x y, ty, pos, af, none⟩ :: rest) (.putE b t old new :: kr) :=
  ⟨⟨t', x, y, v, rfl, rfl, hlen, fun β => ⟨by simpa using hx β, by simpa using hy β⟩, hst⟩, hr⟩
theorem ob_mks {e : TypeId} {cs vs : List Value} {n : Nat} {t : TypeId} {parts : Array (Nat × Operand)} (hv : ∀ β, fevs (frk l.toArray (evk ks β) fr af.toList) (parts.toList.map (·.2)) = some vs) (hrun : ∀ w, (Instr.buildSlice t n ((parts.toList.map (·.1)).zip vs).toArray).run P w = .ok (.slice (some ⟨w.heap.size, 0, none⟩) n n) (w.alloc (.cells cs.toArray e))) (hr : ObsB P l fr w0 X L ks (k + 1) rest kr) : ObsB P l fr w0 X L ks k (⟨d, .buildSlice t n parts, ty, pos, af, none⟩ :: rest) (.mks e cs n :: kr) := by
  refine ⟨⟨rfl, fun β ρ w hρ => ?_⟩, hr⟩
  have key : ∀ (l' : List (Nat × Operand)) (vs : List Value), fevs (frk l.toArray (evk ks β) fr af.toList) (l'.map (·.2)) = some vs → l'.map (fun p => (p.1, ρ p.2)) = (l'.map (·.1)).zip vs := by
    intro l'
    induction l' with
    | nil => intro vs h; simp
    | cons p l' ih =>
      intro vs h
      simp only [List.map_cons, fevs] at h
      split at h
      · cases h
      · rename_i v hv
        split at h
        · cases h
        · rename_i vs' hvs
          cases h
          simp [ih _ hvs, hρ _ _ hv]
  have e1 : parts.map (fun p => (p.1, ρ p.2)) = ((parts.toList.map (·.1)).zip vs).toArray := by
    apply Array.toList_inj.1
    simp [key parts.toList vs (hv β)]
  simp only [execOp]
  rw [e1]
  simp [hrun w]
theorem ob_nil : ObsB P l fr w0 X L ks k [] [] := trivial
end

/-! ### results in cells and slots -/
theorem run_cell {e e' : TypeId} {b k : Nat} {cs : List Value} {w : World} [CAg P e k] (hl : cs.length = k) (hc : w.heap[b]? = some (.cells cs.toArray e' (0, 0))) : (loadVar e ⟨b, 0, none⟩).run P w = .ok (.agg cs.toArray) w :=
  run_loadVar_ag hl (fun j v hj => by rw [Nat.zero_add, cell_of hc]; simpa using hj)

theorem xt_retCT (i : Nat) {fn : Func} {w : World} {Post : Value → World → Prop} {t t2 : Tmp} {e e' : TypeId} {b k : Nat} {cs : List Value} {v : Value} [CAg P e k] (hr : fn.results = #[.cell t e, .tmp t2]) (hv : flook fr t = some (.pointer (some ⟨b, 0, none⟩))) (hv2 : flook fr t2 = some v) (hL : L[i]? = some (b, bx cs e')) (hl : cs.length = k) (h : ∀ w', St w [] L w' → Post (.tuple #[.agg cs.toArray, v]) w') :
    Xt P .ret (bodyPost P fn (Ret w Post)) nt [] fr (St w [] L) :=
  xt_ret_any fun a w' ha hw => by
    have hc := run_cell (P := P) (e := e) hl (hw.get (List.mem_of_getElem? hL))
    have hp := ha.look t _ hv
    have h2 := ha.look t2 _ hv2
    refine ⟨_, ?_, _, rfl, hw.toExt, h w' hw⟩
    simp only [Array.getD_eq_getD_getElem?] at hp h2
    simp [results, hr, h2, hp, asAddr, hc]

theorem xt_retCCT (i j : Nat) {fn : Func} {w : World} {Post : Value → World → Prop} {t t' t2 : Tmp} {e e' e2 e2' : TypeId} {b k b2 k2 : Nat} {cs cs2 : List Value} {v : Value} [CAg P e k] [CAg P e2 k2] (hr : fn.results = #[.cell t e, .cell t' e2, .tmp t2]) (hv : flook fr t = some (.pointer (some ⟨b, 0, none⟩))) (hv' : flook fr t' = some (.pointer (some ⟨b2, 0, none⟩))) (hv2 : flook fr t2 = some v) (hL : L[i]? = some (b, bx cs e')) (hL2 : L[j]? = some (b2, bx cs2 e2')) (hl : cs.length = k) (hl2 : cs2.length = k2)
    (h : ∀ w', St w [] L w' → Post (.tuple #[.agg cs.toArray, .agg cs2.toArray, v]) w') : Xt P .ret (bodyPost P fn (Ret w Post)) nt [] fr (St w [] L) :=
  xt_ret_any fun a w' ha hw => by
    have hc := run_cell (P := P) (e := e) hl (hw.get (List.mem_of_getElem? hL))
    have hp := ha.look t _ hv
    have hc2 := run_cell (P := P) (e := e2) hl2 (hw.get (List.mem_of_getElem? hL2))
    have hp2 := ha.look t' _ hv'
    have h2 := ha.look t2 _ hv2
    refine ⟨_, ?_, _, rfl, hw.toExt, h w' hw⟩
    simp only [Array.getD_eq_getD_getElem?] at hp hp2 h2
    simp [results, hr, h2, hp, hp2, asAddr, hc, hc2]

end Go.Proofs.Ytbgolbkolcmldaa

/-
  Runs of operations that compute with the frame alone: reckoned in one step.
-/
namespace Go.Proofs.Ytbgolbkolcmldaa
open Go.RowKit

/-- tables of a program: a field's place, a type's kind (1: a slice, 2: a string) -/
structure Tab (P : Program) (off : Nat → Nat → Option Nat) (kd : Nat → Nat) : Prop where
  field : ∀ s f n, off s f = some n → CFd P s f n
  slice : ∀ t, kd t = 1 → ∃ e, P.underlying t = some (.slice e)
  str : ∀ t, kd t = 2 → P.underlying t = some .string

def cmpP (op : BinOp) (a b : Int) : Option Value := match op with
  | .lss => some (.bool (decide (a < b)))
  | .leq => some (.bool (decide (a ≤ b)))
  | .gtr => some (.bool (decide (b < a)))
  | .geq => some (.bool (decide (b ≤ a)))
  | .eql => some (.bool (decide (a = b)))
  | .neq => some (.bool (decide (a ≠ b)))
  | _ => none

def stepP (off : Nat → Nat → Option Nat) (kd : Nat → Nat) (fr : Fr) : Op → Option Value
  | .move x => fev fr x
  | .assign x => fev fr x
  | .fieldAddr s x f => match fev fr x with
    | some (.pointer (some ⟨b, k, none⟩)) => match off s f with
      | some n => some (.pointer (some ⟨b, k + n, none⟩))
      | none => none
    | _ => none
  | .extract x i => match fev fr x with
    | some (.tuple vs) => vs.toList[i]?
    | _ => none
  | .unOp .not _ x => match fev fr x with
    | some (.bool b) => some (.bool (!b))
    | _ => none
  | .binOp op _ x y _ => match op with
    | .lss | .leq | .gtr | .geq | .eql | .neq => match fev fr x with
      | some (.int k a) => match fev fr y with
        | some (.int k' b) => if k = k' then cmpP op a b else none
        | _ => none
      | _ => none
    | _ => none
  | .call ⟨.builtin b, args, ts⟩ => match b with
    | .len => match args.toList, ts.toList with
      | [x], [t] => match kd t with
        | 1 => match fev fr x with
          | some (.slice _ n _) => some (.int .i64 n)
          | _ => none
        | 2 => match fev fr x with
          | some (.string s) => some (.int .i64 s.size)
          | _ => none
        | _ => none
      | _, _ => none
    | .min => match args.toList with
      | [x, y] => match fev fr x with
        | some (.int k a) => match fev fr y with
          | some (.int k' b) => if k = k' then some (.int k (min a b)) else none
          | _ => none
        | _ => none
      | _ => none
    | .max => match args.toList with
      | [x, y] => match fev fr x with
        | some (.int k a) => match fev fr y with
          | some (.int k' b) => if k = k' then some (.int k (max a b)) else none
          | _ => none
        | _ => none
      | _ => none
    | _ => none
  | _ => none

variable {P : Program} {r : Option Nat} {Q : Exit → Act → World → Prop} {nt : Nat} {D : List Deferred} {fr : Fr} {I : World → Prop}
variable {off : Nat → Nat → Option Nat} {kd : Nat → Nat}

theorem cmpP_spec {op : BinOp} {a b : Int} {u : Value} (h : cmpP op a b = some u) {k : IntKind} {d : Option Tmp} {ty t t' : TypeId} {pos : String} {af : Array Edge} {g : Option (Nat × Bool)} {x y : Operand} (hx : fev fr x = some (.int k a)) (hy : fev fr y = some (.int k b)) : Pv P ⟨d, .binOp op t x y t', ty, pos, af, g⟩ fr I u := by
  cases op <;> simp only [cmpP, Option.some.injEq] at h <;> first | (subst h; first | exact o_lss hx hy | exact o_leq hx hy | exact o_gtr hx hy | exact o_geq hx hy | exact o_eql hx hy | exact o_neq hx hy) | cases h

section
variable {d : Option Tmp} {ty t t' : TypeId} {pos : String} {af : Array Edge} {g : Option (Nat × Bool)} {x y : Operand}
theorem o_minL {k : IntKind} {a b : Int} {args : Array Operand} {ts : Array TypeId} (ha : args.toList = [x, y]) (hx : fev fr x = some (.int k a)) (hy : fev fr y = some (.int k b)) : Pv P ⟨d, .call ⟨.builtin .min, args, ts⟩, ty, pos, af, g⟩ fr I (.int k (min a b)) := by
  obtain rfl : args = #[x, y] := Array.toList_inj.1 (by simpa using ha)
  exact o_min hx hy
theorem o_maxL {k : IntKind} {a b : Int} {args : Array Operand} {ts : Array TypeId} (ha : args.toList = [x, y]) (hx : fev fr x = some (.int k a)) (hy : fev fr y = some (.int k b)) : Pv P ⟨d, .call ⟨.builtin .max, args, ts⟩, ty, pos, af, g⟩ fr I (.int k (max a b)) := by
  obtain rfl : args = #[x, y] := Array.toList_inj.1 (by simpa using ha)
  exact o_max hx hy
theorem o_lenL (ht : Tab P off kd) {A : Option Addr} {n c : Nat} {args : Array Operand} {ts : Array TypeId} (ha : args.toList = [x]) (hts : ts.toList = [t]) (hk : kd t = 1) (hx : fev fr x = some (.slice A n c)) : Pv P ⟨d, .call ⟨.builtin .len, args, ts⟩, ty, pos, af, g⟩ fr I (.int .i64 n) := by
  obtain rfl : args = #[x] := Array.toList_inj.1 (by simpa using ha)
  obtain rfl : ts = #[t] := Array.toList_inj.1 (by simpa using hts)
  obtain ⟨e, he⟩ := ht.slice _ hk
  refine o_builtin [.slice A n c] (by simp [fevs, hx]) fun w c _ => ?_
  simp [builtin, Builtin.len_, run_underlying he, goInt]
theorem o_lensL (ht : Tab P off kd) {s : ByteArray} {args : Array Operand} {ts : Array TypeId} (ha : args.toList = [x]) (hts : ts.toList = [t]) (hk : kd t = 2) (hx : fev fr x = some (.string s)) : Pv P ⟨d, .call ⟨.builtin .len, args, ts⟩, ty, pos, af, g⟩ fr I (.int .i64 s.size) := by
  obtain rfl : args = #[x] := Array.toList_inj.1 (by simpa using ha)
  obtain rfl : ts = #[t] := Array.toList_inj.1 (by simpa using hts)
  refine o_builtin [.string s] (by simp [fevs, hx]) fun w c _ => ?_
  simp [builtin, Builtin.len_, run_underlying (ht.str _ hk), goInt]
end

theorem stepP_spec (ht : Tab P off kd) {op : Op} {u : Value} (h : stepP off kd fr op = some u) {d : Option Tmp} {ty : TypeId} {pos : String} {af : Array Edge} {g : Option (Nat × Bool)} : Pv P ⟨d, op, ty, pos, af, g⟩ fr I u := by
  unfold stepP at h
  split at h
  · exact o_move h
  · exact o_assign h
  · split at h
    · split at h
      · rename_i hx _ _ hn
        cases h
        exact @o_fieldAddr _ _ _ _ _ _ _ _ _ _ _ _ _ _ (ht.field _ _ _ hn) hx
      · cases h
    · cases h
  · split at h
    · rename_i hx
      exact o_extract hx (by simpa using h)
    · cases h
  · split at h
    · rename_i hx; cases h; exact o_not hx
    · cases h
  · split at h
    all_goals first
      | (split at h
         · split at h
           · split at h
             · rename_i hx _ _ _ hy hk
               subst hk
               exact cmpP_spec h hx hy
             · cases h
           · cases h
         · cases h)
      | cases h
  · split at h
    · split at h
      · split at h
        · split at h
          · cases h
            rename_i ha hts _ hk _ _ _ _ hx
            first | exact o_lenL ht (by assumption) (by assumption) (by assumption) (by assumption)
          · cases h
        · split at h
          · cases h
            rename_i ha hts _ hk _ _ hx
            first | exact o_lensL ht (by assumption) (by assumption) (by assumption) (by assumption)
          · cases h
        · cases h
      · cases h
    · split at h
      · split at h
        · split at h
          · split at h
            · rename_i ha _ _ _ hx _ _ _ hy hk
              subst hk
              cases h
              exact o_minL ha hx hy
            · cases h
          · cases h
        · cases h
      · cases h
    · split at h
      · split at h
        · split at h
          · split at h
            · rename_i ha _ _ _ hx _ _ _ hy hk
              subst hk
              cases h
              exact o_maxL ha hx hy
            · cases h
          · cases h
        · cases h
      · cases h
    · cases h
  · cases h

/-- as far as it goes -/
def runP (off : Nat → Nat → Option Nat) (kd : Nat → Nat) (nt : Nat) : List Oper → Fr → List Oper × Fr
  | [], fr => ([], fr)
  | o :: rest, fr => match o.guard with
    | some _ => (o :: rest, fr)
    | none => match o.dst with
      | none => (o :: rest, fr)
      | some d => match stepP off kd fr o.op with
        | none => (o :: rest, fr)
        | some u => bif Nat.ble nt d then (o :: rest, fr) else runP off kd nt rest ((d, u) :: fr)

theorem runP_spec {ops : Array Oper} (ht : Tab P off kd) : ∀ (l : List Oper) (fr : Fr) {rest' : List Oper} {fr' : Fr}, runP off kd nt l fr = (rest', fr') → TL P r ops Q nt D rest' fr' I → TL P r ops Q nt D l fr I
  | [], fr, _, _, h, hn => by cases h; exact hn
  | o :: rest, fr, rest', fr', h, hn => by
    obtain ⟨dst, op, ty, pos, af, g⟩ := o
    simp only [runP] at h
    cases g with
    | some _ => cases h; exact hn
    | none =>
      cases dst with
      | none => cases h; exact hn
      | some d =>
        simp only at h
        cases hs : stepP off kd fr op with
        | none => rw [hs] at h; cases h; exact hn
        | some u =>
          rw [hs] at h
          cases hb : Nat.ble nt d with
          | true => rw [hb] at h; cases h; exact hn
          | false =>
            rw [hb] at h
            have hnd : Oper.noDefer ⟨some d, op, ty, pos, af, none⟩ = true := by
              unfold stepP at hs
              cases op <;> first | rfl | cases hs
            exact tl_val (stepP_spec ht hs) hb hnd (runP_spec ht rest _ h hn)

theorem tl_run {ops : Array Oper} {d : Nat} {op : Op} {ty : TypeId} {pos : String} {af : Array Edge} {u : Value} {rest rest' : List Oper} {fr' : Fr} (ht : Tab P off kd) (_h1 : stepP off kd fr op = some u) (h : runP off kd nt (⟨some d, op, ty, pos, af, none⟩ :: rest) fr = (rest', fr')) (hn : TL P r ops Q nt D rest' fr' I) :
    TL P r ops Q nt D (⟨some d, op, ty, pos, af, none⟩ :: rest) fr I := runP_spec ht _ _ h hn

/-! ### steps by the kind of the operation -/
section
variable {ops : Array Oper} {d : Nat} {ty t t' : TypeId} {pos : String} {af : Array Edge} {x y c : Operand} {rest : List Oper} {u : Value} {I' : World → Prop} {w0 : World} {X : List Nat} {L : HL} {q : Obj → Prop} {op : BinOp}
theorem tl_load (ho : O P ⟨some d, .load t x, ty, pos, af, none⟩ fr I (fun v w => v = u ∧ I' w)) (hd : Nat.ble nt d = false) (h : TL P r ops Q nt D rest ((d, u) :: fr) I') : TL P r ops Q nt D (⟨some d, .load t x, ty, pos, af, none⟩ :: rest) fr I := tl_val ho hd rfl h
theorem tl_pick (ho : O P ⟨some d, .pick c x y, ty, pos, af, none⟩ fr I (fun v w => v = u ∧ I' w)) (hd : Nat.ble nt d = false) (h : TL P r ops Q nt D rest ((d, u) :: fr) I') : TL P r ops Q nt D (⟨some d, .pick c x y, ty, pos, af, none⟩ :: rest) fr I := tl_val ho hd rfl h
theorem tl_bin (ho : O P ⟨some d, .binOp op t x y t', ty, pos, af, none⟩ fr I (fun v w => v = u ∧ I' w)) (hd : Nat.ble nt d = false) (h : TL P r ops Q nt D rest ((d, u) :: fr) I') : TL P r ops Q nt D (⟨some d, .binOp op t x y t', ty, pos, af, none⟩ :: rest) fr I := tl_val ho hd rfl h
theorem tl_box (ho : O P ⟨some d, .box t x, ty, pos, af, none⟩ fr I (PtrTo w0 X L q)) (hd : Nat.ble nt d = false) (h : ∀ b, TL P r ops Q nt D rest ((d, .pointer (some ⟨b, 0, none⟩)) :: fr) (St w0 X ((b, q) :: L))) : TL P r ops Q nt D (⟨some d, .box t x, ty, pos, af, none⟩ :: rest) fr I := tl_new ho hd rfl h
theorem tl_alloc {z : List Value} [CZ P t z] (hd : Nat.ble nt d = false) (h : ∀ b, TL P r ops Q nt D rest ((d, .pointer (some ⟨b, 0, none⟩)) :: fr) (St w0 X ((b, bx z t) :: L))) : TL P r ops Q nt D (⟨some d, .alloc t, ty, pos, af, none⟩ :: rest) fr (St w0 X L) := tl_new o_alloc hd rfl h
end

section
variable {l rest : List Oper} {ks kr : List Kd} {k : Nat} {d : Option Tmp} {op : Op} {ty : TypeId} {pos : String} {af : Array Edge} {u : Value} {w0 : World} {X : List Nat} {L : HL} {fin : Fr → Prop} {acc : Fr}
theorem ob_p (ht : Tab P off kd) (h : ∀ β, stepP off kd (frk l.toArray (evk ks β) fr af.toList) op = some u) (hr : ObsB P l fr w0 X L ks (k + 1) rest kr) : ObsB P l fr w0 X L ks k (⟨d, op, ty, pos, af, none⟩ :: rest) (.val u :: kr) :=
  ob_v (fun β _ => stepP_spec ht (h β)) hr
theorem dv_p (ht : Tab P off kd) (h : stepP off kd (frk l.toArray (lv acc) fr af.toList) op = some u) (hr : DV P l fr I fin (k + 1) rest ((k, u) :: acc)) : DV P l fr I fin k (⟨d, op, ty, pos, af, none⟩ :: rest) acc := dv_op (stepP_spec ht h) hr
theorem de_p {Bf Af : World → Prop} {k0 : Nat} (ht : Tab P off kd) (hk : Nat.beq k k0 = false) (h : stepP off kd (frk l.toArray (lv acc) fr af.toList) op = some u) (hr : DE P l fr Bf Af k0 fin (k + 1) rest ((k, u) :: acc)) : DE P l fr Bf Af k0 fin k (⟨d, op, ty, pos, af, none⟩ :: rest) acc := de_v hk (fun _ _ => stepP_spec ht h) hr
theorem dv_py (ht : Tab P off kd) {j : Nat} {want : Bool} (hj : lv acc j = .bool want) (h : stepP off kd (frk l.toArray (lv acc) fr af.toList) op = some u) (hr : DV P l fr I fin (k + 1) rest ((k, u) :: acc)) : DV P l fr I fin k (⟨d, op, ty, pos, af, some (j, want)⟩ :: rest) acc := dv_yes hj (stepP_spec ht h) hr
end

/-! ### tables, checked by the kernel -/

def offOf (L : List (List Nat)) (s f : Nat) : Option Nat := match L[s]? with
  | some q => q[f]?
  | none => none
def kdOf (L : List Nat) (t : Nat) : Nat := match L[t]? with
  | some k => k
  | none => 0

def fieldOk (P : Program) (s f n : Nat) : Bool := match P.underlying s with
  | some (.struct fields) => match fields[f]? with
    | some fl => fl.offset == n && (match P.info? fl.type with | some i => i.size != 0 | none => false)
    | none => false
  | _ => false
def kindOk (P : Program) (t k : Nat) : Bool := match P.underlying t with
  | some (.slice _) => k != 2
  | some .string => k != 1
  | _ => k != 1 && k != 2
def tabOk (P : Program) (L : List (List Nat)) (K : List Nat) : Bool :=
  ((List.range L.length).all fun s => match L[s]? with | some q => (List.range q.length).all fun f => (match q[f]? with | some n => fieldOk P s f n | none => true) | none => true) &&
  ((List.range K.length).all fun t => match K[t]? with | some k => kindOk P t k | none => true)

theorem cfd_of {s f n : Nat} (h : fieldOk P s f n = true) : CFd P s f n := by
  unfold fieldOk at h
  split at h
  · rename_i fields hu
    split at h
    · rename_i fl hf
      simp only [Bool.and_eq_true, beq_iff_eq] at h
      obtain ⟨ho, hs⟩ := h
      split at hs
      · rename_i i hi
        have hne : ¬ i.size = 0 := by simpa using hs
        refine ⟨fun a w => ?_⟩
        simp [Instr.fieldAt, run_underlying hu, hf, Instr.sureAddr, fieldPlace, sizeOf, typeInfo, hi, hne, ho]
      · cases hs
    · cases h
  · cases h

theorem tab_of {L : List (List Nat)} {K : List Nat} (h : tabOk P L K = true) : Tab P (offOf L) (kdOf K) := by
  simp only [tabOk, Bool.and_eq_true, List.all_eq_true, List.mem_range] at h
  obtain ⟨h1, h2⟩ := h
  refine ⟨fun s f n hn => ?_, fun t hk => ?_, fun t hk => ?_⟩
  · unfold offOf at hn
    cases hq : L[s]? with
    | none => rw [hq] at hn; cases hn
    | some q =>
      rw [hq] at hn
      have a1 := h1 s (List.getElem?_eq_some_iff.1 hq).1
      rw [hq] at a1
      simp only [List.all_eq_true, List.mem_range] at a1
      have a2 := a1 f (List.getElem?_eq_some_iff.1 hn).1
      simp only [hn] at a2
      exact cfd_of a2
  · unfold kdOf at hk
    cases hq : K[t]? with
    | none => rw [hq] at hk; cases hk
    | some k =>
      rw [hq] at hk; subst hk
      have a1 := h2 t (List.getElem?_eq_some_iff.1 hq).1
      rw [hq] at a1
      simp only [kindOk] at a1
      split at a1 <;> first | (rename_i e he; exact ⟨e, he⟩) | simp at a1
  · unfold kdOf at hk
    cases hq : K[t]? with
    | none => rw [hq] at hk; cases hk
    | some k =>
      rw [hq] at hk; subst hk
      have a1 := h2 t (List.getElem?_eq_some_iff.1 hq).1
      rw [hq] at a1
      simp only [kindOk] at a1
      split at a1 <;> first | assumption | simp at a1

end Go.Proofs.Ytbgolbkolcmldaa
