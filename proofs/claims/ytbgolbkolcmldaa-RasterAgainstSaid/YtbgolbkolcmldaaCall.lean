/-
  Contracts, loops with a pure part, arrays.
-/
import Derived.Test.YtbgolbkolcmldaaDrawV
namespace Go.Proofs.Ytbgolbkolcmldaa
open Go.RowKit

variable {P : Program} {r : Option Nat} {Q : Exit → Act → World → Prop} {nt : Nat} {D : List Deferred} {fr : Fr} {I : World → Prop}
variable {d : Option Tmp} {ty t t' : TypeId} {pos : String} {af : Array Edge} {g : Option (Nat × Bool)} {x y : Operand} {w0 : World} {X : List Nat} {L : HL}

/-- it returns, nothing that was there has turned, and so much is known of the result -/
def Ret (w : World) (Post : Value → World → Prop) : Ending → World → Prop := fun e w' => ∃ v, e = .returned v ∧ Ext w w' ∧ Post v w'

/-- it returns this value, whatever the memory is -/
def Det (P : Program) (f : FuncId) (vs : List Value) (u : Value) : Prop := ∀ w, Calls P f vs.toArray w (Ret w fun v _ => v = u)

theorem calls_S {f : FuncId} {fn : Func} {c : Code} {vs : List Value} {w : World} {R : Ending → World → Prop} (hf : P.funcs[f]? = some fn) (hb : fn.body = some c) (hn : fn.ntmps = nt) (hs : Nat.ble vs.length nt = true)
    (h : T P none c (bodyPost P fn R) nt [] (fargs 0 vs) (St w [] [])) : Calls P f vs.toArray w R :=
  calls_T hf hb hn hs fun a w' ha hw => by subst hw; exact h a _ ha (St.init _ _)

theorem o_det {f : FuncId} {args : Array Operand} {ts : Array TypeId} {vs : List Value} {u : Value} [CFn P f] (hd : Det P f vs u) (hv : fevs fr args.toList = some vs) : O P ⟨d, .call ⟨.value (.func f), args, ts⟩, ty, pos, af, g⟩ fr (St w0 X L) (fun v w => v = u ∧ St w0 X L w) :=
  o_call vs hv fun w hw => (hd w).mono fun e w' ⟨v, he, hx, hv⟩ => ⟨v, he, hv, hw.ext hx⟩

/-- a call that makes memory: what is known of the result is added -/
theorem o_ret {f : FuncId} {args : Array Operand} {ts : Array TypeId} {vs : List Value} {Post : World → Value → World → Prop} [CFn P f] (hv : fevs fr args.toList = some vs) (hc : ∀ w, St w0 X L w → Calls P f vs.toArray w (Ret w (Post w))) :
    O P ⟨d, .call ⟨.value (.func f), args, ts⟩, ty, pos, af, g⟩ fr (St w0 X L) (fun v w' => ∃ w, St w0 X L w ∧ Ext w w' ∧ Post w v w') :=
  o_call vs hv fun w hw => (hc w hw).mono fun e w' ⟨v, he, hx, hv⟩ => ⟨v, he, w, hw, hx, hv⟩

theorem t_loopC {α : Type} {c : Code} (Inv : α → Fr) (C : α → Prop) (J : α → World → Prop) (μ : α → Nat) (x0 : α) (hC : C x0) (hf : fle (Inv x0) fr) (hJ : ∀ w, I w → J x0 w)
    (hb : ∀ x, C x → T P r c (Exit.then (fun a w => ∃ x', Ag nt D (Inv x') a ∧ (C x' ∧ J x' w) ∧ μ x' < μ x) Q) nt D (Inv x) (J x)) : T P r (.loop c) Q nt D fr I :=
  t_loop Inv (fun x w => C x ∧ J x w) μ x0 hf (fun w hw => ⟨hC, hJ w hw⟩) fun x a w ha hw => hb x hw.1 a w ha hw.2

theorem xt_roundC {α : Type} {Inv : α → Fr} {C : α → Prop} {J : α → World → Prop} {μ : α → Nat} {x : α} (x' : α) (hf : fle (Inv x') fr) (hC : C x') (hJ : ∀ w, I w → J x' w) (hm : μ x' < μ x) :
    Xt P .normal (Exit.then (fun a w => ∃ x', Ag nt D (Inv x') a ∧ (C x' ∧ J x' w) ∧ μ x' < μ x) Q) nt D fr I :=
  fun _ _ ha hw => ⟨x', ha.weak hf, ⟨hC, hJ _ hw⟩, hm⟩

/-- a loop all of whose rounds go on the same way: two ways meet -/
theorem t_cut {c : Code} (fr' : Fr) (I' : World → Prop) (hf : fle fr' fr) (hI : ∀ w, I w → I' w) (h : T P r c Q nt D fr' I') : T P r c Q nt D fr I := t_weak hf hI h

class CAr (P : Program) (t : TypeId) (n : outParam Nat) : Prop where
  under : ∃ e, P.underlying t = some (.array n e) ∧ (∀ w, (isAgg e).run P w = .ok false w) ∧ (P.info? e).map (·.size) = some 1

theorem o_indexArr {cs : List Value} {n : Nat} {k : IntKind} {i : Int} {u : Value} [h : CAr P t n] (hx : fev fr x = some (.agg cs.toArray)) (hy : fev fr y = some (.int k i)) (h0 : 0 ≤ i ∧ i < n) (hu : cs[i.toNat]? = some u) : Pv P ⟨d, .index t x y, ty, pos, af, g⟩ fr I u :=
  pv_of fun ρ w hρ _ => by
    obtain ⟨e, hun, hag, hone⟩ := h.under
    have hsz : (sizeOf e).run P w = .ok 1 w := by
      cases hq : P.info? e with
      | none => rw [hq] at hone; cases hone
      | some i =>
        rw [hq] at hone
        simp only [Option.map_some, Option.some.injEq] at hone
        simp [sizeOf, typeInfo, hq, hone]
    simp [execOp, hρ _ _ hx, hρ _ _ hy, Instr.index, asIntOf, run_underlying hun, h0.1, h0.2, hsz, part, hag, hu]

theorem xt_ret1S {fn : Func} {t : Tmp} {v : Value} {w : World} {Post : Value → World → Prop} {L : HL} (hr : fn.results = #[.tmp t]) (hv : flook fr t = some v) (h : ∀ w', St w [] L w' → Post v w') : Xt P .ret (bodyPost P fn (Ret w Post)) nt [] fr (St w [] L) :=
  xt_ret1 hr hv fun w' hw => ⟨v, rfl, hw.toExt, h w' hw⟩
theorem xt_ret2S {fn : Func} {t u : Tmp} {v x : Value} {w : World} {Post : Value → World → Prop} {L : HL} (hr : fn.results = #[.tmp t, .tmp u]) (hv : flook fr t = some v) (hx : flook fr u = some x) (h : ∀ w', St w [] L w' → Post (.tuple #[v, x]) w') : Xt P .ret (bodyPost P fn (Ret w Post)) nt [] fr (St w [] L) :=
  xt_ret2 hr hv hx fun w' hw => ⟨_, rfl, hw.toExt, h w' hw⟩

abbrev fit (n : Int) : Prop := -9223372036854775808 ≤ n ∧ n ≤ 9223372036854775807

theorem tdiv_bound (a b : Int) (hb : 0 < b) (c : Int) (h : -c ≤ a ∧ a ≤ c) : -c ≤ a.tdiv b ∧ a.tdiv b ≤ c := by
  have h1 : a.tdiv b = if 0 ≤ a then a / b else -((-a) / b) := by
    split
    · rw [Int.tdiv_eq_ediv_of_nonneg (by assumption)]
    · rename_i h
      have : a = -(-a) := by omega
      rw [this, Int.neg_tdiv, Int.tdiv_eq_ediv_of_nonneg (by omega)]
      simp
  rw [h1]
  split
  · have := Int.ediv_le_self b (a := a) (by assumption)
    have := Int.ediv_nonneg (a := a) (b := b) (by assumption) (by omega)
    omega
  · have := Int.ediv_le_self b (a := -a) (by omega)
    have := Int.ediv_nonneg (a := -a) (b := b) (by omega) (by omega)
    omega

theorem o_quo64 {a b : Int} (hx : fev fr x = some (.int .i64 a)) (hy : fev fr y = some (.int .i64 b)) (hb : 0 < b) (ha : -9223372036854775807 ≤ a ∧ a ≤ 9223372036854775807) : Pv P ⟨d, .binOp .quo t x y t', ty, pos, af, g⟩ fr I (.int .i64 (a.tdiv b)) := by
  have := o_quo (P := P) (I := I) (d := d) (ty := ty) (t := t) (t' := t') (pos := pos) (af := af) (g := g) hx hy (by omega)
  rwa [fits64 (by have := tdiv_bound a b hb 9223372036854775807 ha; omega)] at this
theorem o_neg64 {a : Int} (hx : fev fr x = some (.int .i64 a)) (ha : -9223372036854775807 ≤ a ∧ a ≤ 9223372036854775807) : Pv P ⟨d, .unOp .neg t x, ty, pos, af, g⟩ fr I (.int .i64 (-a)) := by
  have := o_neg (P := P) (I := I) (d := d) (ty := ty) (t := t) (pos := pos) (af := af) (g := g) hx
  rwa [fits64 (by omega), show (0 : Int) - a = -a by omega] at this

theorem results_cell {fn : Func} {t : Tmp} {e : TypeId} {b k : Nat} {cs : List Value} {tmps : Array Value} {w : World} [CAg P e k] (h : fn.results = #[.cell t e]) (ht : tmps.getD t undef = .pointer (some ⟨b, 0, none⟩)) (hl : cs.length = k) (hc : ∀ j v, cs[j]? = some v → w.cell? ⟨b, 0 + j, none⟩ = some v) :
    (results fn tmps).run P w = .ok (.agg cs.toArray) w := by
  rw [Array.getD_eq_getD_getElem?] at ht
  simp [results, h, ht, asAddr, run_loadVar_ag hl hc]

/-- a struct for a result -/
theorem xt_retA (i : Nat) {fn : Func} {R : Ending → World → Prop} {t : Tmp} {e e' : TypeId} {b k : Nat} {cs : List Value} [CAg P e k] (hr : fn.results = #[.cell t e]) (hv : flook fr t = some (.pointer (some ⟨b, 0, none⟩))) (hL : L[i]? = some (b, bx cs e')) (hl : cs.length = k) (h : ∀ w, St w0 X L w → R (.returned (.agg cs.toArray)) w) :
    Xt P .ret (bodyPost P fn R) nt [] fr (St w0 X L) :=
  xt_ret_any fun a w ha hw => ⟨_, results_cell hr (ha.look t _ hv) hl (fun j v hj => by rw [hw.cell (List.mem_of_getElem? hL), Nat.zero_add, hj]), h w hw⟩
theorem xt_retAS (i : Nat) {fn : Func} {t : Tmp} {e e' : TypeId} {b k : Nat} {cs : List Value} {w : World} {Post : Value → World → Prop} [CAg P e k] (hr : fn.results = #[.cell t e]) (hv : flook fr t = some (.pointer (some ⟨b, 0, none⟩))) (hL : L[i]? = some (b, bx cs e')) (hl : cs.length = k) (h : ∀ w', St w [] L w' → Post (.agg cs.toArray) w') :
    Xt P .ret (bodyPost P fn (Ret w Post)) nt [] fr (St w [] L) := xt_retA i hr hv hL hl fun w' hw => ⟨_, rfl, hw.toExt, h w' hw⟩

theorem tl_store {ops : Array Oper} {rest : List Oper} {I' : World → Prop} (ho : O P ⟨none, .store t x y, ty, pos, af, none⟩ fr I (fun _ w => I' w)) (h : TL P r ops Q nt D rest fr I') : TL P r ops Q nt D (⟨none, .store t x y, ty, pos, af, none⟩ :: rest) fr I := tl_unit ho rfl h

theorem tl_call {ops : Array Oper} {rest : List Oper} {d : Nat} {c : Call} {u : Value} {I' : World → Prop} (ho : O P ⟨some d, .call c, ty, pos, af, none⟩ fr I (fun v w => v = u ∧ I' w)) (hd : Nat.ble nt d = false) (h : TL P r ops Q nt D rest ((d, u) :: fr) I') : TL P r ops Q nt D (⟨some d, .call c, ty, pos, af, none⟩ :: rest) fr I := tl_val ho hd rfl h

end Go.Proofs.Ytbgolbkolcmldaa
