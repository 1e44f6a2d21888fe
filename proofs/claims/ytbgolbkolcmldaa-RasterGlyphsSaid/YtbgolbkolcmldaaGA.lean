/-
  A small logic of triples over the kit's 'wpIn' at the wide fence: a frame is a list of known slots, a world is known by a predicate.
-/
import Derived.RangeFuncNested
import Derived.RangeFuncBound
import Derived.RangeFuncCalls
import Derived.RangeFuncLeaves
import Derived.WalkKit
import Derived.OrdersIn
import Derived.KernelRfl
import Derived.Laws.AppendOwn
import Derived.Laws.IdiomCopy
import Derived.Deep.MidRow

namespace Go.Proofs.Ytbgolbkolcmldaa
open Go.RowKit

/-- the wide fence, in a round or not -/
abbrev Wd (r : Option Nat) : Fence := { Fence.wide with round := r }

abbrev Fr := List (Nat × Value)

def flook : Fr → Nat → Option Value
  | [], _ => none
  | (i, v) :: r, t => bif Nat.beq i t then some v else flook r t

def fev (fr : Fr) : Operand → Option Value
  | .tmp t => flook fr t
  | .const v => some v
  | .global g => some (.pointer (some ⟨g, 0, none⟩))
  | .func f => some (.func (.func f) #[] #[])

def fevs (fr : Fr) : List Operand → Option (List Value)
  | [] => some []
  | x :: xs => match fev fr x with
    | none => none
    | some v => match fevs fr xs with
      | none => none
      | some vs => some (v :: vs)

structure Ag (nt : Nat) (D : List Deferred) (fr : Fr) (a : Act) : Prop where
  size : a.tmps.size = nt
  defers : a.defers = D
  look : ∀ t v, flook fr t = some v → a.tmps.getD t undef = v

theorem flook_cons (i : Nat) (v : Value) (fr : Fr) (t : Nat) : flook ((i, v) :: fr) t = if i = t then some v else flook fr t := by
  simp only [flook]
  by_cases h : i = t
  · subst h; simp
  · have : Nat.beq i t = false := by
      rw [← Bool.not_eq_true, Nat.beq_eq]; exact h
    simp [h, this]

theorem Ag.put {nt : Nat} {D : List Deferred} {fr : Fr} {a : Act} {d : Nat} (h : Ag nt D fr a) (hd : d < nt) (v : Value) : Ag nt D ((d, v) :: fr) (a.put (some d) v) := by
  refine ⟨by simp [Act.put, h.size], by simp [Act.put, h.defers], fun t u hu => ?_⟩
  rw [flook_cons] at hu
  have hs := h.size
  by_cases e : d = t
  · subst e
    simp only [if_true, Option.some.injEq] at hu
    subst hu
    simp [Act.put, hs, hd]
  · rw [if_neg e] at hu
    have := h.look t u hu
    simp only [Act.put]
    rw [← this]
    simp [Array.getElem?_setIfInBounds_ne, e]

theorem Ag.putNone {nt : Nat} {D : List Deferred} {fr : Fr} {a : Act} (h : Ag nt D fr a) (v : Value) : Ag nt D fr (a.put none v) := h

theorem Ag.eval {nt : Nat} {D : List Deferred} {fr : Fr} {a : Act} (h : Ag nt D fr a) {x : Operand} {v : Value} (hx : fev fr x = some v) : a.eval x = v := by
  cases x with
  | tmp t => exact h.look t v hx
  | const u => simpa [fev, Act.eval] using hx
  | global g => simpa [fev, Act.eval] using hx
  | func f => simpa [fev, Act.eval] using hx

/-- all that one list knows, another one knows -/
def fle : Fr → Fr → Prop
  | [], _ => True
  | (t, v) :: r, fr => flook fr t = some v ∧ fle r fr

theorem fle_spec {fr' fr : Fr} (h : fle fr' fr) {t : Nat} {v : Value} (hl : flook fr' t = some v) : flook fr t = some v := by
  induction fr' with
  | nil => simp [flook] at hl
  | cons p r ih =>
    obtain ⟨i, u⟩ := p
    rw [flook_cons] at hl
    by_cases e : i = t
    · subst e; simp only [if_true, Option.some.injEq] at hl; subst hl; exact h.1
    · rw [if_neg e] at hl; exact ih h.2 hl

theorem Ag.weak {nt : Nat} {D : List Deferred} {fr fr' : Fr} {a : Act} (h : Ag nt D fr a) (hf : fle fr' fr) : Ag nt D fr' a :=
  ⟨h.size, h.defers, fun t v hl => h.look t v (fle_spec hf hl)⟩

/-! ### one operation -/

def Op1 (P : Program) (o : Oper) (ρ : Operand → Value) (w : World) (K : Value → World → Prop) : Prop :=
  match (execOp ρ o).run P w with
  | .ok (.value v) w' => K v w'
  | .ok .skip w' => K undef w'
  | .ok (.enter f args) w' => Calls P f args w' fun e w'' => ∃ v, e = .returned v ∧ K v w''
  | .ok (.round l f tmps assign body) w' => RoundIn Fence.wide 0 P l f tmps assign body w' fun e w'' => ∃ v, e = .returned v ∧ K v w''
  | _ => False

def Oper.noDefer (o : Oper) : Bool := match o.op with | .defer _ => false | .select .. => false | _ => true

theorem noDefer_spec {o : Oper} (h : Oper.noDefer o = true) : ∀ c, o.op ≠ .defer c := by
  intro c e; simp [Oper.noDefer, e] at h

theorem callsIn_any {r : Option Nat} {n : Nat} {P : Program} {f : FuncId} {args : Array Value} {w : World} {R : Ending → World → Prop} (h : Calls P f args w R) : CallsIn (Wd r) n P f args w R := by
  have := (callsIn_wide (n := n)).2 h
  exact this

theorem roundIn_any {r : Option Nat} {n m : Nat} {P : Program} {l : Nat} {f : FuncId} {tmps : Array Value} {assign body : Code} {w : World} {R : Ending → World → Prop}
    (h : RoundIn Fence.wide m P l f tmps assign body w R) : RoundIn (Wd r) n P l f tmps assign body w R :=
  ⟨trivial, fun c cs _ => h.2 c cs (room_wide _)⟩

theorem op1_wpIn {P : Program} {o : Oper} {a : Act} {w : World} {K : Value → World → Prop} {r : Option Nat} {n : Nat} {next : Act → World → Prop} {Q : Exit → Act → World → Prop}
    (hd : Oper.noDefer o = true) (h : Op1 P o a.eval w K) (hk : ∀ v w', K v w' → next (a.put o.dst v) w') : o.wpIn (Wd r) n P a w next Q := by
  refine ⟨fun _ _ => trivial, ?_⟩
  rw [show o.semAt (Wd r).round a.eval = execOp a.eval o from Oper.semAt_eq _ _ _ (noDefer_spec hd)]
  unfold Op1 at h
  generalize (execOp a.eval o).run P w = x at h
  cases x with
  | halt _ _ => exact h.elim
  | ok x w' =>
    cases x <;> simp only at h <;> first | exact h.elim | skip
    · exact hk _ _ h
    · exact hk _ _ h
    · rename_i f args
      refine ⟨fun hh => by simp [Fence.wide] at hh, callsIn_any (h.mono ?_)⟩
      rintro e w'' ⟨v, rfl, hv⟩
      exact hk _ _ hv
    · refine ⟨fun hh => by simp [Fence.wide] at hh, roundIn_any (h.mono ?_)⟩
      rintro e w'' ⟨v, rfl, hv⟩
      exact hk _ _ hv

/-- what one operation does, at whatever frame that has these slots -/
def O (P : Program) (o : Oper) (fr : Fr) (I : World → Prop) (R : Value → World → Prop) : Prop :=
  ∀ ρ w, (∀ x v, fev fr x = some v → ρ x = v) → I w → Op1 P o ρ w R

theorem Op1.mono {P : Program} {o : Oper} {ρ : Operand → Value} {w : World} {K K' : Value → World → Prop} (h : Op1 P o ρ w K) (hk : ∀ v w', K v w' → K' v w') : Op1 P o ρ w K' := by
  unfold Op1 at *
  generalize (execOp ρ o).run P w = x at *
  cases x with
  | halt _ _ => exact h
  | ok x w' =>
    cases x <;> simp only at h ⊢ <;> first | exact hk _ _ h | exact h | skip
    · exact h.mono fun e w'' ⟨v, he, hv⟩ => ⟨v, he, hk _ _ hv⟩
    · exact h.mono fun e w'' ⟨v, he, hv⟩ => ⟨v, he, hk _ _ hv⟩

theorem O.mono {P : Program} {o : Oper} {fr : Fr} {I : World → Prop} {R R' : Value → World → Prop} (h : O P o fr I R) (hr : ∀ v w, R v w → R' v w) : O P o fr I R' :=
  fun ρ w hρ hw => (h ρ w hρ hw).mono hr

/-! ### lists of operations -/

variable {P : Program} {r : Option Nat} {ops : Array Oper} {Q : Exit → Act → World → Prop} {nt : Nat} {D : List Deferred} {fr : Fr} {I : World → Prop}

def TL (P : Program) (r : Option Nat) (ops : Array Oper) (Q : Exit → Act → World → Prop) (nt : Nat) (D : List Deferred) (rest : List Oper) (fr : Fr) (I : World → Prop) : Prop :=
  ∀ a w, Ag nt D fr a → I w → wpListIn (Wd r) 0 P ops Q rest a w

def Xt (_P : Program) (e : Exit) (Q : Exit → Act → World → Prop) (nt : Nat) (D : List Deferred) (fr : Fr) (I : World → Prop) : Prop :=
  ∀ a w, Ag nt D fr a → I w → Q e a w

def T (P : Program) (r : Option Nat) (c : Code) (Q : Exit → Act → World → Prop) (nt : Nat) (D : List Deferred) (fr : Fr) (I : World → Prop) : Prop :=
  ∀ a w, Ag nt D fr a → I w → c.wpIn (Wd r) 0 P Q a w

theorem tl_nil (h : Xt P .normal Q nt D fr I) : TL P r ops Q nt D [] fr I := fun a w ha hw => h a w ha hw

theorem tl_op {d : Nat} {op : Op} {ty : TypeId} {pos : String} {af : Array Edge} {rest : List Oper} {R : Value → World → Prop} (hd : Nat.ble nt d = false) (hn : Oper.noDefer ⟨some d, op, ty, pos, af, none⟩ = true)
    (ho : O P ⟨some d, op, ty, pos, af, none⟩ fr I R) (h : ∀ v, TL P r ops Q nt D rest ((d, v) :: fr) (R v)) : TL P r ops Q nt D (⟨some d, op, ty, pos, af, none⟩ :: rest) fr I := by
  intro a w ha hw
  have hlt : d < nt := by
    rw [← Nat.not_le]; intro hle; rw [← Nat.ble_eq] at hle; rw [hd] at hle; cases hle
  unfold wpListIn
  rw [if_pos (by simp [Region.wanted])]
  exact op1_wpIn hn (ho a.eval w (fun x v hx => ha.eval hx) hw) fun v w' hv => h v _ _ (ha.put hlt v) hv

theorem tl_val {d : Nat} {op : Op} {ty : TypeId} {pos : String} {af : Array Edge} {rest : List Oper} {u : Value} {I' : World → Prop} (ho : O P ⟨some d, op, ty, pos, af, none⟩ fr I (fun v w => v = u ∧ I' w)) (hd : Nat.ble nt d = false) (hn : Oper.noDefer ⟨some d, op, ty, pos, af, none⟩ = true)
    (h : TL P r ops Q nt D rest ((d, u) :: fr) I') : TL P r ops Q nt D (⟨some d, op, ty, pos, af, none⟩ :: rest) fr I :=
  tl_op hd hn ho fun v a w ha hw => by obtain ⟨rfl, hw⟩ := hw; exact h a w ha hw

theorem tl_unit {op : Op} {ty : TypeId} {pos : String} {af : Array Edge} {rest : List Oper} {I' : World → Prop} (ho : O P ⟨none, op, ty, pos, af, none⟩ fr I (fun _ w => I' w)) (hn : Oper.noDefer ⟨none, op, ty, pos, af, none⟩ = true)
    (h : TL P r ops Q nt D rest fr I') : TL P r ops Q nt D (⟨none, op, ty, pos, af, none⟩ :: rest) fr I := by
  intro a w ha hw
  unfold wpListIn
  rw [if_pos (by simp [Region.wanted])]
  exact op1_wpIn hn (ho a.eval w (fun x v hx => ha.eval hx) hw) fun v w' hv => h _ _ ha hv

/-- the guard's word -/
theorem yielded_of {a : Act} {j dj : Nat} {b : Bool} (ha : Ag nt D fr a) (hj : (ops[j]?).bind (·.dst) = some dj) (hb : flook fr dj = some (.bool b)) : yielded ops a.tmps j = some b := by
  have := ha.look dj _ hb
  unfold yielded
  rw [hj]
  simp only [Option.bind_some]
  rw [Array.getD_eq_getD_getElem?] at this
  cases h : a.tmps[dj]? with
  | none => rw [h] at this; simp [undef] at this
  | some x => rw [h] at this; simp at this; subst this; rfl

theorem yielded_undef {a : Act} {j dj : Nat} (ha : Ag nt D fr a) (hj : (ops[j]?).bind (·.dst) = some dj) (hb : flook fr dj = some undef) : yielded ops a.tmps j = none := by
  have := ha.look dj _ hb
  unfold yielded
  rw [hj]
  simp only [Option.bind_some]
  rw [Array.getD_eq_getD_getElem?] at this
  cases h : a.tmps[dj]? with
  | none => rfl
  | some x => rw [h] at this; simp at this; subst this; rfl

theorem Ag.shadow {nt : Nat} {D : List Deferred} {fr : Fr} {a : Act} {t : Nat} {v : Value} (h : Ag nt D fr a) (hl : flook fr t = some v) : Ag nt D ((t, v) :: fr) a :=
  ⟨h.size, h.defers, fun t' v' hl' => by
    rw [flook_cons] at hl'
    by_cases e : t = t'
    · subst e; simp only [if_true, Option.some.injEq] at hl'; subst hl'; exact h.look t v hl
    · rw [if_neg e] at hl'; exact h.look t' v' hl'⟩

theorem tl_guard {d j dj : Nat} {want b : Bool} {op : Op} {ty : TypeId} {pos : String} {af : Array Edge} {rest : List Oper} (hj : (ops[j]?).bind (·.dst) = some dj) (hb : flook fr dj = some (.bool b)) (hd : Nat.ble nt d = false)
    (yes : b = want → TL P r ops Q nt D (⟨some d, op, ty, pos, af, none⟩ :: rest) ((dj, .bool want) :: fr) I) (no : b = !want → TL P r ops Q nt D rest ((d, undef) :: (dj, .bool (!want)) :: fr) I) :
    TL P r ops Q nt D (⟨some d, op, ty, pos, af, some (j, want)⟩ :: rest) fr I := by
  intro a w ha hw
  have hy := yielded_of (ops := ops) ha hj hb
  have hlt : d < nt := by
    rw [← Nat.not_le]; intro hle; rw [← Nat.ble_eq] at hle; rw [hd] at hle; cases hle
  unfold wpListIn
  by_cases e : b = want
  · have h1 := yes e a w (by subst e; exact ha.shadow hb) hw
    unfold wpListIn at h1
    rw [if_pos (by simp [Region.wanted])] at h1
    rw [if_pos (by simp [Region.wanted, hy, e])]
    exact h1
  · rw [if_neg (by simp [Region.wanted, hy, e])]
    have e' : b = !want := by cases b <;> cases want <;> simp_all
    exact ⟨fun _ _ => trivial, no e' _ _ ((by subst e'; exact ha.shadow hb : Ag nt D ((dj, .bool (!want)) :: fr) a).put hlt undef) hw⟩

theorem tl_guard_yes {j dj : Nat} {d : Option Nat} {want : Bool} {op : Op} {ty : TypeId} {pos : String} {af : Array Edge} {rest : List Oper} (hj : (ops[j]?).bind (·.dst) = some dj) (hb : flook fr dj = some (.bool want))
    (yes : TL P r ops Q nt D (⟨d, op, ty, pos, af, none⟩ :: rest) fr I) : TL P r ops Q nt D (⟨d, op, ty, pos, af, some (j, want)⟩ :: rest) fr I := by
  intro a w ha hw
  have hy := yielded_of (ops := ops) ha hj hb
  have h1 := yes a w ha hw
  unfold wpListIn at h1 ⊢
  rw [if_pos (by simp [Region.wanted])] at h1
  rw [if_pos (by simp [Region.wanted, hy])]
  exact h1

theorem tl_guard_no {d j dj : Nat} {want b : Bool} {op : Op} {ty : TypeId} {pos : String} {af : Array Edge} {rest : List Oper} (hj : (ops[j]?).bind (·.dst) = some dj) (hb : flook fr dj = some (.bool b)) (hw : (b == want) = false) (hd : Nat.ble nt d = false)
    (no : TL P r ops Q nt D rest ((d, undef) :: fr) I) : TL P r ops Q nt D (⟨some d, op, ty, pos, af, some (j, want)⟩ :: rest) fr I := by
  intro a w ha hw'
  have hy := yielded_of (ops := ops) ha hj hb
  have hlt : d < nt := by
    rw [← Nat.not_le]; intro hle; rw [← Nat.ble_eq] at hle; rw [hd] at hle; cases hle
  unfold wpListIn
  rw [if_neg (by simp only [Region.wanted, hy]; intro h; cases b <;> cases want <;> simp_all)]
  exact ⟨fun _ _ => trivial, no _ _ (ha.put hlt undef) hw'⟩

theorem tl_guard_undef {d j dj : Nat} {want : Bool} {op : Op} {ty : TypeId} {pos : String} {af : Array Edge} {rest : List Oper} (hj : (ops[j]?).bind (·.dst) = some dj) (hb : flook fr dj = some undef) (hd : Nat.ble nt d = false)
    (no : TL P r ops Q nt D rest ((d, undef) :: fr) I) : TL P r ops Q nt D (⟨some d, op, ty, pos, af, some (j, want)⟩ :: rest) fr I := by
  intro a w ha hw
  have hy := yielded_undef (ops := ops) ha hj hb
  have hlt : d < nt := by
    rw [← Nat.not_le]; intro hle; rw [← Nat.ble_eq] at hle; rw [hd] at hle; cases hle
  unfold wpListIn
  rw [if_neg (by simp [Region.wanted, hy])]
  exact ⟨fun _ _ => trivial, no _ _ (ha.put hlt undef) hw⟩

/-- forget slots, turn what is known of the world -/
theorem tl_weak {rest : List Oper} {fr' : Fr} {I' : World → Prop} (hf : fle fr' fr) (hI : ∀ w, I w → I' w) (h : TL P r ops Q nt D rest fr' I') : TL P r ops Q nt D rest fr I :=
  fun a w ha hw => h a w (ha.weak hf) (hI w hw)

theorem tl_imp {rest : List Oper} {I' : World → Prop} (hI : ∀ w, I w → I' w) (h : TL P r ops Q nt D rest fr I') : TL P r ops Q nt D rest fr I :=
  fun a w ha hw => h a w ha (hI w hw)

/-! ### code -/

theorem t_weak {c : Code} {fr' : Fr} {I' : World → Prop} (hf : fle fr' fr) (hI : ∀ w, I w → I' w) (h : T P r c Q nt D fr' I') : T P r c Q nt D fr I :=
  fun a w ha hw => h a w (ha.weak hf) (hI w hw)

theorem xt_weak {e : Exit} {fr' : Fr} {I' : World → Prop} (hf : fle fr' fr) (hI : ∀ w, I w → I' w) (h : Xt P e Q nt D fr' I') : Xt P e Q nt D fr I :=
  fun a w ha hw => h a w (ha.weak hf) (hI w hw)

theorem t_region {id : Nat} {l : List Oper} (h : TL P r l.toArray Q nt D l fr I) : T P r (.region id l.toArray false) Q nt D fr I :=
  fun a w ha hw => wpIn_region_lit (h a w ha hw)

def Kt (P : Program) (r : Option Nat) (y : Code) (Q : Exit → Act → World → Prop) : Exit → Act → World → Prop := Exit.then (fun a w => y.wpIn (Wd r) 0 P Q a w) Q

theorem t_seq {x y : Code} (h : T P r x (Kt P r y Q) nt D fr I) : T P r (.seq x y) Q nt D fr I :=
  fun a w ha hw => wpIn_seq (h a w ha hw)

theorem xt_then {y : Code} (h : T P r y Q nt D fr I) : Xt P .normal (Kt P r y Q) nt D fr I := fun a w ha hw => h a w ha hw
theorem xt_then_ret {y : Code} (h : Xt P .ret Q nt D fr I) : Xt P .ret (Kt P r y Q) nt D fr I := fun a w ha hw => h a w ha hw
theorem xt_then_exit {y : Code} {id : Nat} (h : Xt P (.exit id) Q nt D fr I) : Xt P (.exit id) (Kt P r y Q) nt D fr I := fun a w ha hw => h a w ha hw
theorem xt_blk {id : Nat} (h : Xt P .normal Q nt D fr I) : Xt P .normal (Exit.inBlock id Q) nt D fr I := fun a w ha hw => h a w ha hw
theorem xt_blk_ret {id : Nat} (h : Xt P .ret Q nt D fr I) : Xt P .ret (Exit.inBlock id Q) nt D fr I := fun a w ha hw => h a w ha hw
theorem xt_blk_exit {id : Nat} (h : Xt P .normal Q nt D fr I) : Xt P (.exit id) (Exit.inBlock id Q) nt D fr I := fun a w ha hw => by
  have := h a w ha hw
  simpa [Exit.inBlock] using this
theorem xt_blk_other {id id' : Nat} (hne : Nat.beq id' id = false) (h : Xt P (.exit id') Q nt D fr I) : Xt P (.exit id') (Exit.inBlock id Q) nt D fr I := fun a w ha hw => by
  have := h a w ha hw
  have hne' : id' ≠ id := by intro e; subst e; simp at hne
  simpa [Exit.inBlock, hne'] using this

theorem t_block {id : Nat} {c : Code} (h : T P r c (Exit.inBlock id Q) nt D fr I) : T P r (.block id c) Q nt D fr I := fun a w ha hw => wpIn_block (h a w ha hw)
theorem t_skip (h : Xt P .normal Q nt D fr I) : T P r .skip Q nt D fr I := fun a w ha hw => wpIn_skip (h a w ha hw)
theorem t_ret (h : Xt P .ret Q nt D fr I) : T P r .ret Q nt D fr I := fun a w ha hw => wpIn_ret (h a w ha hw)
theorem t_exit {id : Nat} (h : Xt P (.exit id) Q nt D fr I) : T P r (.exit id) Q nt D fr I := fun a w ha hw => wpIn_exit (h a w ha hw)
theorem t_label {l : Nat} (h : Xt P .normal Q nt D fr I) : T P r (.label l) Q nt D fr I := fun a w ha hw => wpIn_label (h a w ha hw)
theorem t_cond {c : Operand} {x y : Code} {b : Bool} (hc : fev fr c = some (.bool b)) (ht : b = true → T P r x Q nt D fr I) (hf : b = false → T P r y Q nt D fr I) : T P r (.cond c x y) Q nt D fr I :=
  fun a w ha hw => wpIn_cond_split (ha.eval hc) (fun e => ht e a w ha hw) (fun e => hf e a w ha hw)

theorem t_loop {α : Type} {c : Code} (Inv : α → Fr) (J : α → World → Prop) (μ : α → Nat) (x0 : α) (hf : fle (Inv x0) fr) (hJ : ∀ w, I w → J x0 w)
    (hb : ∀ x, T P r c (Exit.then (fun a w => ∃ x', Ag nt D (Inv x') a ∧ J x' w ∧ μ x' < μ x) Q) nt D (Inv x) (J x)) : T P r (.loop c) Q nt D fr I := by
  intro a w ha hw
  classical
  let G : Nat → Act → World → Prop := fun m a w => ∃ x, Ag nt D (Inv x) a ∧ J x w ∧ μ x = m
  let M : Act → World → Nat := fun a w => if h : ∃ m, G m a w ∧ ∀ m', G m' a w → m ≤ m' then h.choose else 0
  have least : ∀ a w, (∃ x, Ag nt D (Inv x) a ∧ J x w) → G (M a w) a w ∧ ∀ m', G m' a w → M a w ≤ m' := by
    rintro a w ⟨x, hx, hj⟩
    have hex : ∃ m, G m a w ∧ ∀ m', G m' a w → m ≤ m' := by
      have : ∀ k, ∀ m, m ≤ k → G m a w → ∃ m, G m a w ∧ ∀ m', G m' a w → m ≤ m' := by
        intro k
        induction k with
        | zero => intro m hm hg; exact ⟨m, hg, fun m' _ => by omega⟩
        | succ k ih =>
          intro m hm hg
          by_cases h : ∃ m', m' < m ∧ G m' a w
          · obtain ⟨m', hlt, hg'⟩ := h
            exact ih m' (by omega) hg'
          · exact ⟨m, hg, fun m' hg' => by
              rcases Nat.lt_or_ge m' m with hlt | hge
              · exact absurd ⟨m', hlt, hg'⟩ h
              · exact hge⟩
      exact this (μ x) (μ x) (Nat.le_refl _) ⟨x, hx, hj, rfl⟩
    have hM : M a w = hex.choose := dif_pos hex
    rw [hM]; exact hex.choose_spec
  refine wpIn_loop (fun a w => ∃ x, Ag nt D (Inv x) a ∧ J x w) M ⟨x0, ha.weak hf, hJ w hw⟩ ?_
  intro a w hI
  obtain ⟨⟨x, hx, hj, hm⟩, _⟩ := least a w hI
  refine wpIn_mono (hb x a w hx hj) ?_
  intro e a' w' hq
  cases e with
  | normal =>
    obtain ⟨x', hx', hj', hlt⟩ := hq
    refine ⟨⟨x', hx', hj'⟩, ?_⟩
    have := (least a' w' ⟨x', hx', hj'⟩).2 (μ x') ⟨x', hx', hj', rfl⟩
    omega
  | _ => exact hq

theorem xt_round {α : Type} {Inv : α → Fr} {J : α → World → Prop} {μ : α → Nat} {x : α} (x' : α) (hf : fle (Inv x') fr) (hJ : ∀ w, I w → J x' w) (hm : μ x' < μ x) :
    Xt P .normal (Exit.then (fun a w => ∃ x', Ag nt D (Inv x') a ∧ J x' w ∧ μ x' < μ x) Q) nt D fr I :=
  fun _ _ ha hw => ⟨x', ha.weak hf, hJ _ hw, hm⟩
theorem xt_round_exit {K : Act → World → Prop} {id : Nat} (h : Xt P (.exit id) Q nt D fr I) : Xt P (.exit id) (Exit.then K Q) nt D fr I := fun a w ha hw => h a w ha hw
theorem xt_round_ret {K : Act → World → Prop} (h : Xt P .ret Q nt D fr I) : Xt P .ret (Exit.then K Q) nt D fr I := fun a w ha hw => h a w ha hw

/-! ### calls -/

def fargs : Nat → List Value → Fr
  | _, [] => []
  | k, v :: vs => (k, v) :: fargs (k + 1) vs

theorem fargs_look : ∀ (vs : List Value) (k t : Nat) (v : Value), flook (fargs k vs) t = some v → k ≤ t ∧ vs[t - k]? = some v
  | [], _, _, _, h => by simp [fargs, flook] at h
  | u :: vs, k, t, v, h => by
    simp only [fargs, flook_cons] at h
    by_cases e : k = t
    · subst e; simp at h; subst h; simp
    · rw [if_neg e] at h
      obtain ⟨h1, h2⟩ := fargs_look vs (k + 1) t v h
      exact ⟨by omega, by rw [show t - k = (t - (k + 1)) + 1 by omega, List.getElem?_cons_succ]; exact h2⟩

theorem calls_T {f : FuncId} {fn : Func} {c : Code} {vs : List Value} {w : World} {R : Ending → World → Prop} (hf : P.funcs[f]? = some fn) (hb : fn.body = some c) (hn : fn.ntmps = nt) (hs : Nat.ble vs.length nt = true)
    (h : T P none c (bodyPost P fn R) nt [] (fargs 0 vs) (· = w)) : Calls P f vs.toArray w R := by
  have hs' : vs.length ≤ nt := by simpa [Nat.ble_eq] using hs
  refine (callsIn_wide (n := 0)).1 (callsIn_of_wp hf hb trivial (h _ w ⟨?_, rfl, ?_⟩ rfl))
  · simp [hn]; omega
  · intro t v hl
    obtain ⟨_, h2⟩ := fargs_look vs 0 t v hl
    simp only [Nat.sub_zero] at h2
    simp only [Array.getD_eq_getD_getElem?]
    have hlt : t < vs.length := (List.getElem?_eq_some_iff.1 h2).1
    rw [Array.getElem?_append_left (by simpa using hlt)]
    simp [h2]

theorem xt_ret_any {fn : Func} {R : Ending → World → Prop} (h : ∀ a w, Ag nt [] fr a → I w → ∃ v, (results fn a.tmps).run P w = .ok v w ∧ R (.returned v) w) : Xt P .ret (bodyPost P fn R) nt [] fr I :=
  fun a w ha hw => ⟨ha.defers, h a w ha hw⟩
theorem xt_end_any {fn : Func} {R : Ending → World → Prop} (h : ∀ a w, Ag nt [] fr a → I w → ∃ v, (results fn a.tmps).run P w = .ok v w ∧ R (.returned v) w) : Xt P .normal (bodyPost P fn R) nt [] fr I :=
  fun a w ha hw => ⟨ha.defers, h a w ha hw⟩

theorem xt_ret1 {fn : Func} {R : Ending → World → Prop} {t : Tmp} {v : Value} (hr : fn.results = #[.tmp t]) (hv : flook fr t = some v) (h : ∀ w, I w → R (.returned v) w) : Xt P .ret (bodyPost P fn R) nt [] fr I :=
  xt_ret_any fun a w ha hw => ⟨_, results_tmp hr _ _ _, by rw [ha.look t v hv]; exact h w hw⟩
theorem xt_ret2 {fn : Func} {R : Ending → World → Prop} {t u : Tmp} {v x : Value} (hr : fn.results = #[.tmp t, .tmp u]) (hv : flook fr t = some v) (hx : flook fr u = some x) (h : ∀ w, I w → R (.returned (.tuple #[v, x])) w) : Xt P .ret (bodyPost P fn R) nt [] fr I :=
  xt_ret_any fun a w ha hw => ⟨_, results_tmp2 hr _ _ _, by rw [ha.look t v hv, ha.look u x hx]; exact h w hw⟩
theorem xt_end0 {fn : Func} {R : Ending → World → Prop} (hr : fn.results = #[]) (h : ∀ w, I w → R (.returned (.tuple #[])) w) : Xt P .normal (bodyPost P fn R) nt [] fr I :=
  xt_end_any fun _ w _ hw => ⟨_, results_none hr _ _ _, h w hw⟩
theorem xt_ret0 {fn : Func} {R : Ending → World → Prop} (hr : fn.results = #[]) (h : ∀ w, I w → R (.returned (.tuple #[])) w) : Xt P .ret (bodyPost P fn R) nt [] fr I :=
  xt_ret_any fun _ w _ hw => ⟨_, results_none hr _ _ _, h w hw⟩

end Go.Proofs.Ytbgolbkolcmldaa

/-
  What is known of the heap: the caller's blocks are as they were (but for those that may be written), and a list of blocks of the call's own.
-/
namespace Go.Proofs.Ytbgolbkolcmldaa
open Go.RowKit

abbrev HL := List (Nat × (Obj → Prop))

/-- a block of just these cells -/
def bx (cs : List Value) (t : TypeId) : Obj → Prop := fun o => o = .cells cs.toArray t (0, 0)

/-- a row with spare room: the first n elements are xs -/
def row (e : TypeId) (sz n cap : Nat) (xs : List Value) : Obj → Prop := fun o =>
  ∃ cur : Array Value, o = .cells cur e (0, 0) ∧ cur.size = cap * sz ∧ cur.toList.take (n * sz) = xs ∧ xs.length = n * sz ∧ n ≤ cap ∧ cap ≤ maxLen

structure St (w0 : World) (X : List Nat) (L : HL) (w : World) : Prop where
  os : w.os = w0.os
  tape : w.tape = w0.tape
  output : w.output = w0.output
  size : w0.heap.size ≤ w.heap.size
  old : ∀ k, k < w0.heap.size → k ∉ X → w.heap[k]? = w0.heap[k]?
  here : ∀ p ∈ L, ∃ o, w.heap[p.1]? = some o ∧ p.2 o
  mine : ∀ p ∈ L, w0.heap.size ≤ p.1 ∨ p.1 ∈ X
  apart : (L.map (·.1)).Nodup

/-- all blocks that there were are as they were -/
abbrev Ext (w w' : World) : Prop := Below w.heap.size w w'

theorem Ext.refl (w : World) : Ext w w := Below.refl _ _
theorem Ext.trans {a b c : World} (h : Ext a b) (k : Ext b c) : Ext a c := Below.trans h (Below.mono k h.size)

theorem St.init (w : World) (X : List Nat) : St w X [] w := ⟨rfl, rfl, rfl, Nat.le_refl _, fun _ _ _ => rfl, by simp, by simp, by simp⟩

theorem St.ext {w0 : World} {X : List Nat} {L : HL} {w w' : World} (h : St w0 X L w) (e : Ext w w') : St w0 X L w' :=
  ⟨e.os.trans h.os, e.tape.trans h.tape, e.output.trans h.output, Nat.le_trans h.size e.size, fun k hk hx => (e.block k (Nat.lt_of_lt_of_le hk h.size)).trans (h.old k hk hx),
   fun p hp => by
    obtain ⟨o, ho, hq⟩ := h.here p hp
    exact ⟨o, (e.block p.1 (Array.getElem?_eq_some_iff.1 ho).1).trans ho, hq⟩, h.mine, h.apart⟩

theorem St.toExt {w0 : World} {L : HL} {w : World} (h : St w0 [] L w) : Ext w0 w := ⟨h.os, h.tape, h.output, h.size, fun k hk => h.old k hk (by simp)⟩

theorem St.drew {w0 : World} {X : List Nat} {L : HL} {w : World} (h : St w0 X L w) (n : Nat) : St w0 X L { w with drawn := n } := ⟨h.os, h.tape, h.output, h.size, h.old, h.here, h.mine, h.apart⟩

theorem St.lt {w0 : World} {X : List Nat} {L : HL} {w : World} (h : St w0 X L w) {p : Nat × (Obj → Prop)} (hp : p ∈ L) : p.1 < w.heap.size := by
  obtain ⟨o, ho, _⟩ := h.here p hp
  exact (Array.getElem?_eq_some_iff.1 ho).1

/-- a new block -/
theorem St.alloc {w0 : World} {X : List Nat} {L : HL} {w : World} (h : St w0 X L w) (o : Obj) {q : Obj → Prop} (hq : q o) : St w0 X ((w.heap.size, q) :: L) (w.alloc o) := by
  have hnew : (w.alloc o).heap[w.heap.size]? = some o := World.alloc_heap_new w o
  refine ⟨h.os, h.tape, h.output, Nat.le_trans h.size (by simp), fun k hk hx => (Below.heap_alloc w o k (Nat.lt_of_lt_of_le hk h.size)).trans (h.old k hk hx), ?_, ?_, ?_⟩
  · intro p hp
    rcases List.mem_cons.1 hp with rfl | hp
    · exact ⟨o, hnew, hq⟩
    · obtain ⟨o', ho, hq⟩ := h.here p hp
      exact ⟨o', (Below.heap_alloc w o p.1 (Array.getElem?_eq_some_iff.1 ho).1).trans ho, hq⟩
  · intro p hp
    rcases List.mem_cons.1 hp with rfl | hp
    · exact .inl h.size
    · exact h.mine p hp
  · simp only [List.map_cons, List.nodup_cons]
    refine ⟨?_, h.apart⟩
    intro hm
    obtain ⟨p, hp, he⟩ := List.mem_map.1 hm
    have := h.lt hp
    omega

/-- fewer blocks, in another order -/
theorem St.sub {w0 : World} {X : List Nat} {L L' : HL} {w : World} (h : St w0 X L w) (hs : ∀ p ∈ L', p ∈ L) (hn : (L'.map (·.1)).Nodup) : St w0 X L' w :=
  ⟨h.os, h.tape, h.output, h.size, h.old, fun p hp => h.here p (hs p hp), fun p hp => h.mine p (hs p hp), hn⟩

theorem St.sublist {w0 : World} {X : List Nat} {L L' : HL} {w : World} (h : St w0 X L w) (hs : L'.Sublist L) : St w0 X L' w :=
  h.sub (fun _ hp => hs.subset hp) (h.apart.sublist (hs.map _))

theorem St.perm {w0 : World} {X : List Nat} {L L' : HL} {w : World} (h : St w0 X L w) (hs : L.Perm L') : St w0 X L' w :=
  h.sub (fun _ hp => hs.mem_iff.2 hp) ((hs.map _).nodup_iff.1 h.apart)

theorem St.imp {w0 : World} {X : List Nat} {L : HL} {b : Nat} {q q' : Obj → Prop} {w : World} (h : St w0 X ((b, q) :: L) w) (hq : ∀ o, q o → q' o) : St w0 X ((b, q') :: L) w :=
  ⟨h.os, h.tape, h.output, h.size, h.old, fun p hp => by
    rcases List.mem_cons.1 hp with rfl | hp
    · obtain ⟨o, ho, hh⟩ := h.here (b, q) (List.mem_cons_self ..)
      exact ⟨o, ho, hq o hh⟩
    · exact h.here p (List.mem_cons_of_mem _ hp), fun p hp => by
    rcases List.mem_cons.1 hp with rfl | hp
    · exact h.mine (b, q) (List.mem_cons_self ..)
    · exact h.mine p (List.mem_cons_of_mem _ hp), h.apart⟩

/-- one block of the list is written -/
theorem St.put {w0 : World} {X : List Nat} {L : HL} {b : Nat} {q q' : Obj → Prop} {w w' : World} (h : St w0 X ((b, q) :: L) w) (hg : w.grownBy w' (some b)) {o' : Obj} (ho : w'.heap[b]? = some o') (hq : q' o') : St w0 X ((b, q') :: L) w' := by
  have hmine := h.mine (b, q) (List.mem_cons_self ..)
  refine ⟨hg.os.trans h.os, hg.tape.trans h.tape, hg.output.trans h.output, Nat.le_trans h.size hg.size, ?_, ?_, ?_, h.apart⟩
  · intro k hk hx
    refine (hg.block k (Nat.lt_of_lt_of_le hk h.size) ?_).trans (h.old k hk hx)
    rintro ⟨⟩
    rcases hmine with hm | hm
    · simp only at hm; omega
    · exact hx hm
  · intro p hp
    rcases List.mem_cons.1 hp with rfl | hp
    · exact ⟨o', ho, hq⟩
    · obtain ⟨o, ho, hq⟩ := h.here p (List.mem_cons_of_mem _ hp)
      refine ⟨o, (hg.block p.1 (Array.getElem?_eq_some_iff.1 ho).1 ?_).trans ho, hq⟩
      intro e
      injection e with e
      have := h.apart
      simp only [List.map_cons, List.nodup_cons] at this
      exact this.1 (List.mem_map.2 ⟨p, hp, e⟩)
  · intro p hp
    rcases List.mem_cons.1 hp with rfl | hp
    · exact hmine
    · exact h.mine p (List.mem_cons_of_mem _ hp)

theorem grownBy_setCell (w : World) (b k : Nat) (v : Value) : w.grownBy (w.setCell ⟨b, k, none⟩ v) (some b) :=
  ⟨rfl, rfl, rfl, by simp [World.setCell], fun i _ hi => Below.heap_setCell w ⟨b, k, none⟩ v i (fun e => hi (by rw [e]))⟩

theorem heap_setCell_same {w : World} {b k : Nat} {v : Value} {cs : Array Value} {t : TypeId} {f : Nat × Nat} (h : w.heap[b]? = some (.cells cs t f)) : (w.setCell ⟨b, k, none⟩ v).heap[b]? = some (.cells (cs.setIfInBounds k v) t f) := by
  simp [World.setCell, Array.getElem?_modify, h]

theorem setCells_heap (b : Nat) : ∀ (vs : List Value) (k : Nat) (w : World) (cs : Array Value) (t : TypeId) (f : Nat × Nat), w.heap[b]? = some (.cells cs t f) →
    w.grownBy (w.setCells b k vs) (some b) ∧ ∃ cs' : Array Value, (w.setCells b k vs).heap[b]? = some (.cells cs' t f) ∧ cs'.size = cs.size ∧ ∀ j, cs'[j]? = if k ≤ j ∧ j < k + vs.length ∧ j < cs.size then vs[j - k]? else cs[j]?
  | [], k, w, cs, t, f, h => ⟨⟨rfl, rfl, rfl, Nat.le_refl _, fun _ _ _ => rfl⟩, cs, h, rfl, fun j => by rw [if_neg]; simp; omega⟩
  | v :: r, k, w, cs, t, f, h => by
    have h1 := heap_setCell_same (k := k) (v := v) h
    obtain ⟨hg, cs', hc, hs, hj⟩ := setCells_heap b r (k + 1) _ _ t f h1
    have g1 := grownBy_setCell w b k v
    refine ⟨⟨hg.os.trans g1.os, hg.tape.trans g1.tape, hg.output.trans g1.output, Nat.le_trans g1.size hg.size, fun i hi hne => (hg.block i (Nat.lt_of_lt_of_le hi g1.size) hne).trans (g1.block i hi hne)⟩, cs', hc, by simpa using hs, ?_⟩
    intro j
    rw [hj j]
    simp only [Array.size_setIfInBounds, List.length_cons]
    by_cases e : j = k
    · subst e
      rw [if_neg (by omega)]
      by_cases hl : j < cs.size
      · rw [if_pos ⟨Nat.le_refl _, by omega, hl⟩]; simp [hl]
      · rw [if_neg (by omega)]
        rw [Array.getElem?_eq_none (by simpa using hl), Array.getElem?_eq_none (by omega)]
    · by_cases hc : k + 1 ≤ j ∧ j < k + 1 + r.length ∧ j < cs.size
      · rw [if_pos hc, if_pos (by omega)]
        rw [show j - k = (j - (k + 1)) + 1 by omega, List.getElem?_cons_succ]
      · rw [if_neg hc, if_neg (by omega), Array.getElem?_setIfInBounds_ne (by omega)]

/-! ### reading -/

theorem St.get {w0 : World} {X : List Nat} {L : HL} {w : World} (h : St w0 X L w) {b : Nat} {cs : List Value} {t : TypeId} (hp : (b, bx cs t) ∈ L) : w.heap[b]? = some (.cells cs.toArray t (0, 0)) := by
  obtain ⟨o, ho, hq⟩ := h.here _ hp
  rw [ho, hq]

theorem cell_of {w : World} {b k : Nat} {cs : Array Value} {t : TypeId} {f : Nat × Nat} (h : w.heap[b]? = some (.cells cs t f)) : w.cell? ⟨b, k, none⟩ = cs[k]? := by simp [World.cell?, h]
theorem frozen_of {w : World} {b k : Nat} {cs : Array Value} {t : TypeId} (h : w.heap[b]? = some (.cells cs t (0, 0))) : w.frozen? ⟨b, k, none⟩ = false := by simp [World.frozen?, h]

theorem St.cell {w0 : World} {X : List Nat} {L : HL} {w : World} (h : St w0 X L w) {b : Nat} {cs : List Value} {t : TypeId} (hp : (b, bx cs t) ∈ L) (k : Nat) : w.cell? ⟨b, k, none⟩ = cs[k]? := by
  rw [cell_of (h.get hp)]; simp

theorem St.rowCell {w0 : World} {X : List Nat} {L : HL} {w : World} (h : St w0 X L w) {b : Nat} {e : TypeId} {sz n cap : Nat} {xs : List Value} (hp : (b, row e sz n cap xs) ∈ L) {k : Nat} {v : Value} (hv : xs[k]? = some v) : w.cell? ⟨b, k, none⟩ = some v := by
  obtain ⟨o, ho, cur, rfl, _, ht, _⟩ := h.here _ hp
  rw [cell_of ho]
  rw [← ht, List.getElem?_take] at hv
  split at hv
  · simpa using hv
  · cases hv

theorem St.oldCell {w0 : World} {X : List Nat} {L : HL} {w : World} (h : St w0 X L w) {a : Addr} (hlt : a.block < w0.heap.size) (hx : a.block ∉ X) : w.cell? a = w0.cell? a :=
  World.cell?_of_block (h.old a.block hlt hx)

/-- a slice that came in: its cells -/
def Rd (w : World) (sz : Nat) (v : Value) (xs : List Value) : Prop :=
  ∃ A n cap, v = .slice A n cap ∧ xs.length = n * sz ∧ n ≤ cap ∧ cap ≤ maxLen ∧ (0 < n → ∃ b off, A = some ⟨b, off, none⟩ ∧ b < w.heap.size ∧ ∀ j u, xs[j]? = some u → w.cell? ⟨b, off + j, none⟩ = some u)

theorem Rd.ext {w w' : World} {sz : Nat} {v : Value} {xs : List Value} (h : Rd w sz v xs) (e : Ext w w') : Rd w' sz v xs := by
  obtain ⟨A, n, cap, hv, hl, hc, hm, hr⟩ := h
  refine ⟨A, n, cap, hv, hl, hc, hm, fun hn => ?_⟩
  obtain ⟨b, off, ha, hb, hu⟩ := hr hn
  exact ⟨b, off, ha, Nat.lt_of_lt_of_le hb e.size, fun j u hj => (e.cell (p := ⟨b, off + j, none⟩) hb).trans (hu j u hj)⟩

end Go.Proofs.Ytbgolbkolcmldaa

/-
  What each operation does, over the frame's known slots and the heap's known blocks.
-/
namespace Go.Proofs.Ytbgolbkolcmldaa
open Go.RowKit

variable {P : Program} {fr : Fr} {I : World → Prop} {d : Option Tmp} {ty t t' : TypeId} {pos : String} {af : Array Edge} {g : Option (Nat × Bool)} {x y : Operand}

/-- closed facts on types and functions of a program -/
class CSc (P : Program) (t : TypeId) : Prop where
  agg : ∀ w, (isAgg t).run P w = .ok false w
  one : (P.info? t).map (·.size) = some 1
class CAg (P : Program) (t : TypeId) (k : outParam Nat) : Prop where
  agg : ∀ w, (isAgg t).run P w = .ok true w
  size : (P.info? t).map (·.size) = some k
class CFd (P : Program) (s f : Nat) (off : outParam Nat) : Prop where
  run : ∀ a w, (Instr.fieldAt s (.pointer (some a)) f).run P w = .ok (.pointer (some (a.add off))) w
class CZ (P : Program) (t : TypeId) (z : outParam (List Value)) : Prop where
  run : ∃ v : Value, v.cells = z.toArray ∧ ∀ w, (zeroValue t).run P w = .ok v w
class CSl (P : Program) (t : TypeId) (e sz bytes : outParam Nat) : Prop where
  under : P.underlying t = some (.slice e)
  info : ∃ i z, P.info? e = some i ∧ i.size = sz ∧ i.bytes = bytes ∧ i.zero = some z ∧ z.cells.size = sz
class CStr (P : Program) (t : TypeId) : Prop where
  under : P.underlying t = some .string
class CInt (P : Program) (t : TypeId) (k : outParam IntKind) : Prop where
  under : P.underlying t = some (.int k)
class CFn (P : Program) (f : FuncId) : Prop where
  enters : ∀ args w, (callFunc f args).run P w = .ok (.enter f args) w

abbrev Pv (P : Program) (o : Oper) (fr : Fr) (I : World → Prop) (u : Value) : Prop := O P o fr I (fun v w => v = u ∧ I w)

theorem pv_of {o : Oper} {u : Value} (h : ∀ ρ w, (∀ x v, fev fr x = some v → ρ x = v) → I w → (execOp ρ o).run P w = .ok (.value u) w) : Pv P o fr I u := by
  intro ρ w hρ hw
  unfold Op1
  rw [h ρ w hρ hw]
  exact ⟨rfl, hw⟩

theorem o_move {u : Value} (hx : fev fr x = some u) : Pv P ⟨d, .move x, ty, pos, af, g⟩ fr I u :=
  pv_of fun ρ w hρ _ => by simp [execOp, hρ _ _ hx]
theorem o_assign {u : Value} (hx : fev fr x = some u) : Pv P ⟨d, .assign x, ty, pos, af, g⟩ fr I u :=
  pv_of fun ρ w hρ _ => by simp [execOp, hρ _ _ hx]
theorem o_pick_t {c : Operand} {u : Value} (hc : fev fr c = some (.bool true)) (hx : fev fr x = some u) : Pv P ⟨d, .pick c x y, ty, pos, af, g⟩ fr I u :=
  pv_of fun ρ w hρ _ => by simp [execOp, hρ _ _ hx, hρ _ _ hc, asBool]
theorem o_pick_f {c : Operand} {u : Value} (hc : fev fr c = some (.bool false)) (hy : fev fr y = some u) : Pv P ⟨d, .pick c x y, ty, pos, af, g⟩ fr I u :=
  pv_of fun ρ w hρ _ => by simp [execOp, hρ _ _ hy, hρ _ _ hc, asBool]

theorem fits64 {n : Int} (h : -9223372036854775808 ≤ n ∧ n ≤ 9223372036854775807) : IntKind.i64.wrap n = n := by
  rw [IntKind.wrap_i64]; omega

theorem o_add {k : IntKind} {a b : Int} (hx : fev fr x = some (.int k a)) (hy : fev fr y = some (.int k b)) : Pv P ⟨d, .binOp .add t x y t', ty, pos, af, g⟩ fr I (.int k (k.wrap (a + b))) :=
  pv_of fun ρ w hρ _ => by simp [execOp, hρ _ _ hx, hρ _ _ hy, eqGuard, binOp, Op.intArith]
theorem o_sub {k : IntKind} {a b : Int} (hx : fev fr x = some (.int k a)) (hy : fev fr y = some (.int k b)) : Pv P ⟨d, .binOp .sub t x y t', ty, pos, af, g⟩ fr I (.int k (k.wrap (a - b))) :=
  pv_of fun ρ w hρ _ => by simp [execOp, hρ _ _ hx, hρ _ _ hy, eqGuard, binOp, Op.intArith]
theorem o_mul {k : IntKind} {a b : Int} (hx : fev fr x = some (.int k a)) (hy : fev fr y = some (.int k b)) : Pv P ⟨d, .binOp .mul t x y t', ty, pos, af, g⟩ fr I (.int k (k.wrap (a * b))) :=
  pv_of fun ρ w hρ _ => by simp [execOp, hρ _ _ hx, hρ _ _ hy, eqGuard, binOp, Op.intArith]
theorem o_add64 {a b : Int} (hx : fev fr x = some (.int .i64 a)) (hy : fev fr y = some (.int .i64 b)) (h : -9223372036854775808 ≤ a + b ∧ a + b ≤ 9223372036854775807) : Pv P ⟨d, .binOp .add t x y t', ty, pos, af, g⟩ fr I (.int .i64 (a + b)) := by
  have := o_add (P := P) (I := I) (d := d) (ty := ty) (t := t) (t' := t') (pos := pos) (af := af) (g := g) hx hy
  rwa [fits64 h] at this
theorem o_sub64 {a b : Int} (hx : fev fr x = some (.int .i64 a)) (hy : fev fr y = some (.int .i64 b)) (h : -9223372036854775808 ≤ a - b ∧ a - b ≤ 9223372036854775807) : Pv P ⟨d, .binOp .sub t x y t', ty, pos, af, g⟩ fr I (.int .i64 (a - b)) := by
  have := o_sub (P := P) (I := I) (d := d) (ty := ty) (t := t) (t' := t') (pos := pos) (af := af) (g := g) hx hy
  rwa [fits64 h] at this
theorem o_mul64 {a b : Int} (hx : fev fr x = some (.int .i64 a)) (hy : fev fr y = some (.int .i64 b)) (h : -9223372036854775808 ≤ a * b ∧ a * b ≤ 9223372036854775807) : Pv P ⟨d, .binOp .mul t x y t', ty, pos, af, g⟩ fr I (.int .i64 (a * b)) := by
  have := o_mul (P := P) (I := I) (d := d) (ty := ty) (t := t) (t' := t') (pos := pos) (af := af) (g := g) hx hy
  rwa [fits64 h] at this
theorem o_quo {k : IntKind} {a b : Int} (hx : fev fr x = some (.int k a)) (hy : fev fr y = some (.int k b)) (h : b ≠ 0) : Pv P ⟨d, .binOp .quo t x y t', ty, pos, af, g⟩ fr I (.int k (k.wrap (a.tdiv b))) :=
  pv_of fun ρ w hρ _ => by simp [execOp, hρ _ _ hx, hρ _ _ hy, eqGuard, binOp, Op.intDiv, h]
theorem o_rem {k : IntKind} {a b : Int} (hx : fev fr x = some (.int k a)) (hy : fev fr y = some (.int k b)) (h : b ≠ 0) : Pv P ⟨d, .binOp .rem t x y t', ty, pos, af, g⟩ fr I (.int k (a.tmod b)) :=
  pv_of fun ρ w hρ _ => by simp [execOp, hρ _ _ hx, hρ _ _ hy, eqGuard, binOp, Op.intDiv, h]
theorem o_and {k : IntKind} {a b : Int} (hx : fev fr x = some (.int k a)) (hy : fev fr y = some (.int k b)) : Pv P ⟨d, .binOp .and t x y t', ty, pos, af, g⟩ fr I (.int k (bits .and k a b)) :=
  pv_of fun ρ w hρ _ => by simp [execOp, hρ _ _ hx, hρ _ _ hy, eqGuard, binOp, go_sem]
theorem o_lss {k : IntKind} {a b : Int} (hx : fev fr x = some (.int k a)) (hy : fev fr y = some (.int k b)) : Pv P ⟨d, .binOp .lss t x y t', ty, pos, af, g⟩ fr I (.bool (decide (a < b))) :=
  pv_of fun ρ w hρ _ => by simp [execOp, hρ _ _ hx, hρ _ _ hy, eqGuard, binOp, Op.intCmp]
theorem o_leq {k : IntKind} {a b : Int} (hx : fev fr x = some (.int k a)) (hy : fev fr y = some (.int k b)) : Pv P ⟨d, .binOp .leq t x y t', ty, pos, af, g⟩ fr I (.bool (decide (a ≤ b))) :=
  pv_of fun ρ w hρ _ => by simp [execOp, hρ _ _ hx, hρ _ _ hy, eqGuard, binOp, Op.intCmp]
theorem o_gtr {k : IntKind} {a b : Int} (hx : fev fr x = some (.int k a)) (hy : fev fr y = some (.int k b)) : Pv P ⟨d, .binOp .gtr t x y t', ty, pos, af, g⟩ fr I (.bool (decide (b < a))) :=
  pv_of fun ρ w hρ _ => by simp [execOp, hρ _ _ hx, hρ _ _ hy, eqGuard, binOp, Op.intCmp]
theorem o_geq {k : IntKind} {a b : Int} (hx : fev fr x = some (.int k a)) (hy : fev fr y = some (.int k b)) : Pv P ⟨d, .binOp .geq t x y t', ty, pos, af, g⟩ fr I (.bool (decide (b ≤ a))) :=
  pv_of fun ρ w hρ _ => by simp [execOp, hρ _ _ hx, hρ _ _ hy, eqGuard, binOp, Op.intCmp]
theorem o_eql {k : IntKind} {a b : Int} (hx : fev fr x = some (.int k a)) (hy : fev fr y = some (.int k b)) : Pv P ⟨d, .binOp .eql t x y t', ty, pos, af, g⟩ fr I (.bool (decide (a = b))) :=
  pv_of fun ρ w hρ _ => by
    simp [execOp, hρ _ _ hx, hρ _ _ hy, eqGuard, binOp, Op.intCmp]
    by_cases h : a = b <;> simp [h]
theorem o_neq {k : IntKind} {a b : Int} (hx : fev fr x = some (.int k a)) (hy : fev fr y = some (.int k b)) : Pv P ⟨d, .binOp .neq t x y t', ty, pos, af, g⟩ fr I (.bool (decide (a ≠ b))) :=
  pv_of fun ρ w hρ _ => by
    simp [execOp, hρ _ _ hx, hρ _ _ hy, eqGuard, binOp, Op.intCmp]
    by_cases h : a = b <;> simp [h]
theorem bytes_ne {a b : ByteArray} (h : ¬ a = b) : ¬ a.toList = b.toList := by
  intro e; apply h
  rw [ByteArray.toList_eq, ByteArray.toList_eq] at e
  exact ByteArray.ext (Array.toList_inj.1 e)
theorem o_eqls {a b : ByteArray} (hx : fev fr x = some (.string a)) (hy : fev fr y = some (.string b)) : Pv P ⟨d, .binOp .eql t x y t', ty, pos, af, g⟩ fr I (.bool (decide (a = b))) :=
  pv_of fun ρ w hρ _ => by
    simp [execOp, hρ _ _ hx, hρ _ _ hy, eqGuard, binOp, Op.stringOp]
    by_cases h : a = b
    · simp [h]
    · simp [h, bytes_ne h]
theorem o_neqs {a b : ByteArray} (hx : fev fr x = some (.string a)) (hy : fev fr y = some (.string b)) : Pv P ⟨d, .binOp .neq t x y t', ty, pos, af, g⟩ fr I (.bool (decide (a ≠ b))) :=
  pv_of fun ρ w hρ _ => by
    simp [execOp, hρ _ _ hx, hρ _ _ hy, eqGuard, binOp, Op.stringOp]
    by_cases h : a = b
    · simp [h]
    · simp [h, bytes_ne h]
theorem o_eqlb {a b : Bool} (hx : fev fr x = some (.bool a)) (hy : fev fr y = some (.bool b)) (hu : P.underlying t = some .bool) : Pv P ⟨d, .binOp .eql t x y t', ty, pos, af, g⟩ fr I (.bool (a == b)) :=
  pv_of fun ρ w hρ _ => by simp [execOp, hρ _ _ hx, hρ _ _ hy, eqGuard, run_eql_bool, hu]
theorem o_not {b : Bool} (hx : fev fr x = some (.bool b)) : Pv P ⟨d, .unOp .not t x, ty, pos, af, g⟩ fr I (.bool (!b)) :=
  pv_of fun ρ w hρ _ => by simp [execOp, hρ _ _ hx, Op.unary]
theorem o_neg {k : IntKind} {a : Int} (hx : fev fr x = some (.int k a)) : Pv P ⟨d, .unOp .neg t x, ty, pos, af, g⟩ fr I (.int k (k.wrap (0 - a))) :=
  pv_of fun ρ w hρ _ => by simp [execOp, hρ _ _ hx, Op.unary, Op.intArith]
theorem o_convert {k k' : IntKind} {a : Int} (hx : fev fr x = some (.int k a)) [hs : CInt P t k] [hd : CInt P t' k'] : Pv P ⟨d, .convert t t' x, ty, pos, af, g⟩ fr I (.int k' (k'.wrap a)) :=
  pv_of fun ρ w hρ _ => by simp [execOp, hρ _ _ hx, convert, run_underlying hs.under, run_underlying hd.under, Conv.intToInt]

theorem o_extract {vs : Array Value} {i : Nat} {u : Value} (hx : fev fr x = some (.tuple vs)) (hi : vs[i]? = some u) : Pv P ⟨d, .extract x i, ty, pos, af, g⟩ fr I u :=
  pv_of fun ρ w hρ _ => by simp [execOp, hρ _ _ hx, Instr.extract, hi]
theorem o_fieldAddr {s f off : Nat} {b k : Nat} [h : CFd P s f off] (hx : fev fr x = some (.pointer (some ⟨b, k, none⟩))) : Pv P ⟨d, .fieldAddr s x f, ty, pos, af, g⟩ fr I (.pointer (some ⟨b, k + off, none⟩)) :=
  pv_of fun ρ w hρ _ => by
    simp only [execOp, hρ _ _ hx, Sem.run_bind, h.run, Result.andThen, Sem.run_pure]
    have : (⟨b, k, none⟩ : Addr).add off = ⟨b, k + off, none⟩ := by unfold Addr.add; split <;> simp_all
    rw [this]
theorem o_run {op : Op} {u : Value} {s : (Operand → Value) → Sem Value} (he : ∀ ρ, execOp ρ ⟨d, op, ty, pos, af, g⟩ = (do pure (.value (← s ρ)))) (h : ∀ ρ w, (∀ x v, fev fr x = some v → ρ x = v) → I w → (s ρ).run P w = .ok u w) : Pv P ⟨d, op, ty, pos, af, g⟩ fr I u :=
  pv_of fun ρ w hρ hw => by rw [he]; simp [h ρ w hρ hw]
theorem o_build {parts : Array (Nat × Operand)} {u : Value} (vs : List Value) (hv : fevs fr (parts.toList.map (·.2)) = some vs) (h : ∀ w, (Instr.build t ((parts.toList.map (·.1)).zip vs).toArray).run P w = .ok u w) : Pv P ⟨d, .build t parts, ty, pos, af, g⟩ fr I u :=
  pv_of fun ρ w hρ _ => by
    have key : ∀ (l : List (Nat × Operand)) (vs : List Value), fevs fr (l.map (·.2)) = some vs → l.map (fun p => (p.1, ρ p.2)) = (l.map (·.1)).zip vs := by
      intro l
      induction l with
      | nil => intro vs h; simp
      | cons p l ih =>
        intro vs h
        simp only [List.map_cons, fevs] at h
        split at h
        · cases h
        · rename_i v hv
          split at h
          · cases h
          · rename_i vs' hvs
            cases h
            simp [ih _ hvs, hρ _ _ hv]
    have e : parts.map (fun p => (p.1, ρ p.2)) = ((parts.toList.map (·.1)).zip vs).toArray := by
      apply Array.toList_inj.1
      simp [key parts.toList vs hv]
    simp only [execOp]
    rw [e]
    simp [h w]

theorem fevs_map {ρ : Operand → Value} (hρ : ∀ x v, fev fr x = some v → ρ x = v) : ∀ (l : List Operand) (vs : List Value), fevs fr l = some vs → l.map ρ = vs := by
  intro l
  induction l with
  | nil => intro vs h; simpa [fevs] using h
  | cons x l ih =>
    intro vs h
    simp only [fevs] at h
    split at h
    · cases h
    · rename_i v hv
      split at h
      · cases h
      · rename_i vs' hvs
        cases h
        simp [ih _ hvs, hρ _ _ hv]

/-- a call of a function of the program -/
theorem o_call {f : FuncId} {args : Array Operand} {ts : Array TypeId} (vs : List Value) {R : Value → World → Prop} [hf : CFn P f] (hv : fevs fr args.toList = some vs)
    (h : ∀ w, I w → Calls P f vs.toArray w fun e w' => ∃ v, e = .returned v ∧ R v w') : O P ⟨d, .call ⟨.value (.func f), args, ts⟩, ty, pos, af, g⟩ fr I R := by
  intro ρ w hρ hw
  have e : args.map ρ = vs.toArray := by
    apply Array.toList_inj.1
    simp [fevs_map hρ _ _ hv]
  have hfv : ρ (.func f) = .func (.func f) #[] #[] := hρ _ _ rfl
  unfold Op1
  have : (execOp ρ ⟨d, .call ⟨.value (.func f), args, ts⟩, ty, pos, af, g⟩).run P w = .ok (.enter f vs.toArray) w := by
    simp [execOp, resolve, hfv, Deferred.ofValue, e, invoke, hf.enters]
  rw [this]
  exact h w hw

/-- a call of a function value -/
theorem o_callv {f : FuncId} {z : Operand} {args : Array Operand} {ts : Array TypeId} (vs cap : List Value) {R : Value → World → Prop} [hf : CFn P f] (hz : fev fr z = some (.func (.func f) #[] cap.toArray)) (hv : fevs fr args.toList = some vs)
    (h : ∀ w, I w → Calls P f (vs ++ cap).toArray w fun e w' => ∃ v, e = .returned v ∧ R v w') : O P ⟨d, .call ⟨.value z, args, ts⟩, ty, pos, af, g⟩ fr I R := by
  intro ρ w hρ hw
  have e : args.map ρ = vs.toArray := by
    apply Array.toList_inj.1
    simp [fevs_map hρ _ _ hv]
  have hfv : ρ z = .func (.func f) #[] cap.toArray := hρ _ _ hz
  unfold Op1
  have : (execOp ρ ⟨d, .call ⟨.value z, args, ts⟩, ty, pos, af, g⟩).run P w = .ok (.enter f (vs ++ cap).toArray) w := by
    simp [execOp, resolve, hfv, Deferred.ofValue, e, invoke, hf.enters]
  rw [this]
  exact h w hw

/-- a builtin that computes a value -/
theorem o_builtin {b : Builtin} {args : Array Operand} {ts : Array TypeId} {u : Value} (vs : List Value) (hv : fevs fr args.toList = some vs)
    (h : ∀ w consts, I w → (builtin b ts ty consts vs.toArray).run P w = .ok (.value u) w) : Pv P ⟨d, .call ⟨.builtin b, args, ts⟩, ty, pos, af, g⟩ fr I u :=
  pv_of fun ρ w hρ hw => by
    have e : args.map ρ = vs.toArray := by
      apply Array.toList_inj.1
      simp [fevs_map hρ _ _ hv]
    simp [execOp, resolve, e, invoke, h w _ hw]

theorem o_min {k : IntKind} {a b : Int} {u : Operand} {ts : Array TypeId} (hx : fev fr x = some (.int k a)) (hu : fev fr u = some (.int k b)) : Pv P ⟨d, .call ⟨.builtin .min, #[x, u], ts⟩, ty, pos, af, g⟩ fr I (.int k (min a b)) :=
  o_builtin [.int k a, .int k b] (by simp [fevs, hx, hu]) fun w c _ => by
    simp [builtin, Builtin.min_, Builtin.min2]; omega
theorem o_max {k : IntKind} {a b : Int} {u : Operand} {ts : Array TypeId} (hx : fev fr x = some (.int k a)) (hu : fev fr u = some (.int k b)) : Pv P ⟨d, .call ⟨.builtin .max, #[x, u], ts⟩, ty, pos, af, g⟩ fr I (.int k (max a b)) :=
  o_builtin [.int k a, .int k b] (by simp [fevs, hx, hu]) fun w c _ => by
    simp [builtin, Builtin.max_, Builtin.max2]; omega
theorem o_len {A : Option Addr} {n c e sz by_ : Nat} {ts : TypeId} [hs : CSl P ts e sz by_] (hx : fev fr x = some (.slice A n c)) : Pv P ⟨d, .call ⟨.builtin .len, #[x], #[ts]⟩, ty, pos, af, g⟩ fr I (.int .i64 n) :=
  o_builtin [.slice A n c] (by simp [fevs, hx]) fun w c _ => by
    simp [builtin, Builtin.len_, run_underlying hs.under, goInt]
theorem o_lens {s : ByteArray} {ts : TypeId} [hs : CStr P ts] (hx : fev fr x = some (.string s)) : Pv P ⟨d, .call ⟨.builtin .len, #[x], #[ts]⟩, ty, pos, af, g⟩ fr I (.int .i64 s.size) :=
  o_builtin [.string s] (by simp [fevs, hx]) fun w c _ => by
    simp [builtin, Builtin.len_, run_underlying hs.under, goInt]

end Go.Proofs.Ytbgolbkolcmldaa

/-
  Operations that read, write and make memory.
-/
namespace Go.Proofs.Ytbgolbkolcmldaa
open Go.RowKit

variable {P : Program} {fr : Fr} {I : World → Prop} {d : Option Tmp} {ty t t' : TypeId} {pos : String} {af : Array Edge} {g : Option (Nat × Bool)} {x y : Operand}
variable {w0 : World} {X : List Nat} {L : HL}

theorem run_loadVar_sc [h : CSc P t] {w : World} {a : Addr} {v : Value} (hc : w.cell? a = some v) : (loadVar t a).run P w = .ok v w := by
  simp [loadVar, h.agg w, load, Sem.run, hc, Sem.run_bind]

theorem run_loadVar_ag {k : Nat} [h : CAg P t k] {w : World} {b o : Nat} {cs : List Value} (hl : cs.length = k) (hc : ∀ j v, cs[j]? = some v → w.cell? ⟨b, o + j, none⟩ = some v) : (loadVar t ⟨b, o, none⟩).run P w = .ok (.agg cs.toArray) w := by
  have hl' : (loadCells ⟨b, o, none⟩ cs.length).run P w = .ok cs.toArray w :=
    run_loadCells_list (P := P) w ⟨b, o, none⟩ cs (fun j v hv => by rw [Addr.add_mid]; exact hc j v hv)
  have hi := h.size
  cases hq : P.info? t with
  | none => rw [hq] at hi; cases hi
  | some i =>
    rw [hq] at hi
    simp only [Option.map_some, Option.some.injEq] at hi
    simp only [loadVar, Sem.run_bind, h.agg w, Result.andThen, if_true]
    simp [sizeOf, typeInfo, hq, hi, ← hl, hl']

/-- a load, by what is known of the cell -/
theorem o_load {a : Addr} {v : Value} [CSc P t] (hx : fev fr x = some (.pointer (some a))) (hc : ∀ w, I w → w.cell? a = some v) : Pv P ⟨d, .load t x, ty, pos, af, g⟩ fr I v :=
  pv_of fun ρ w hρ hw => by
    simp [execOp, hρ _ _ hx, Instr.loadAt, Instr.sureAddr, run_loadVar_sc (hc w hw)]
theorem o_loadA {b o k : Nat} {cs : List Value} [CAg P t k] (hx : fev fr x = some (.pointer (some ⟨b, o, none⟩))) (hl : cs.length = k) (hc : ∀ w, I w → ∀ j v, cs[j]? = some v → w.cell? ⟨b, o + j, none⟩ = some v) : Pv P ⟨d, .load t x, ty, pos, af, g⟩ fr I (.agg cs.toArray) :=
  pv_of fun ρ w hρ hw => by
    simp [execOp, hρ _ _ hx, Instr.loadAt, Instr.sureAddr, run_loadVar_ag hl (hc w hw)]

/-- a load out of the i-th known block -/
theorem o_loadB (i : Nat) {b k : Nat} {cs : List Value} {e : TypeId} {v : Value} [CSc P t] (hx : fev fr x = some (.pointer (some ⟨b, k, none⟩))) (hL : L[i]? = some (b, bx cs e)) (hv : cs[k]? = some v) : Pv P ⟨d, .load t x, ty, pos, af, g⟩ fr (St w0 X L) v :=
  o_load hx fun w hw => by rw [hw.cell (List.mem_of_getElem? hL), hv]
/-- a whole struct out of its own block -/
theorem o_loadBA (i : Nat) {b k : Nat} {cs : List Value} {e : TypeId} [CAg P t k] (hx : fev fr x = some (.pointer (some ⟨b, 0, none⟩))) (hL : L[i]? = some (b, bx cs e)) (hl : cs.length = k) : Pv P ⟨d, .load t x, ty, pos, af, g⟩ fr (St w0 X L) (.agg cs.toArray) :=
  o_loadA hx hl fun w hw j v hj => by rw [hw.cell (List.mem_of_getElem? hL), Nat.zero_add, hj]

theorem o_of {o : Oper} {R : Value → World → Prop} (h : ∀ ρ w, (∀ x v, fev fr x = some v → ρ x = v) → I w → ∃ u w', (execOp ρ o).run P w = .ok (.value u) w' ∧ R u w') : O P o fr I R := by
  intro ρ w hρ hw
  obtain ⟨u, w', hr, hR⟩ := h ρ w hρ hw
  unfold Op1
  rw [hr]
  exact hR
theorem o_ofu {o : Oper} {R : Value → World → Prop} (h : ∀ ρ w, (∀ x v, fev fr x = some v → ρ x = v) → I w → ∃ w', (execOp ρ o).run P w = .ok .skip w' ∧ R undef w') : O P o fr I R := by
  intro ρ w hρ hw
  obtain ⟨w', hr, hR⟩ := h ρ w hρ hw
  unfold Op1
  rw [hr]
  exact hR

/-- a fresh pointer -/
def PtrTo (w0 : World) (X : List Nat) (L : HL) (q : Obj → Prop) (v : Value) (w : World) : Prop := ∃ b, v = .pointer (some ⟨b, 0, none⟩) ∧ St w0 X ((b, q) :: L) w

theorem o_alloc {z : List Value} [hz : CZ P t z] : O P ⟨d, .alloc t, ty, pos, af, g⟩ fr (St w0 X L) (PtrTo w0 X L (bx z t)) :=
  o_of fun ρ w hρ hw => by
    obtain ⟨v, hv, hr⟩ := hz.run
    refine ⟨.pointer (some ⟨w.heap.size, 0, none⟩), w.alloc (.cells z.toArray t), ?_, w.heap.size, rfl, hw.alloc _ rfl⟩
    simp [execOp, Instr.alloc, hr, newVar, newRow, hv]

theorem o_box {v : Value} {cs : List Value} (hx : fev fr x = some v) (hc : v.cells.toList = cs) : O P ⟨d, .box t x, ty, pos, af, g⟩ fr (St w0 X L) (PtrTo w0 X L (bx cs t)) :=
  o_of fun ρ w hρ hw => by
    have hc' : v.cells = cs.toArray := by rw [← hc]
    refine ⟨.pointer (some ⟨w.heap.size, 0, none⟩), w.alloc (.cells cs.toArray t), ?_, w.heap.size, rfl, hw.alloc _ rfl⟩
    simp [execOp, Instr.box, hρ _ _ hx, newVar, newRow, hc']

theorem tl_new {r : Option Nat} {ops : Array Oper} {Q : Exit → Act → World → Prop} {nt : Nat} {D : List Deferred} {d : Nat} {op : Op} {rest : List Oper} {q : Obj → Prop} (ho : O P ⟨some d, op, ty, pos, af, none⟩ fr I (PtrTo w0 X L q)) (hd : Nat.ble nt d = false) (hn : Oper.noDefer ⟨some d, op, ty, pos, af, none⟩ = true)
    (h : ∀ b, TL P r ops Q nt D rest ((d, .pointer (some ⟨b, 0, none⟩)) :: fr) (St w0 X ((b, q) :: L))) : TL P r ops Q nt D (⟨some d, op, ty, pos, af, none⟩ :: rest) fr I :=
  tl_op hd hn ho fun v a w ha hw => by obtain ⟨b, rfl, hw⟩ := hw; exact h b a w ha hw

theorem oneCell_cells {v : Value} (h : v.oneCell' = true) : v.cells = #[v] := by cases v <;> first | rfl | (simp [Value.oneCell'] at h)

theorem run_storeVar_sc [h : CSc P t] {w : World} {b k : Nat} {v : Value} (h1 : v.oneCell' = true) (hc : (w.cell? ⟨b, k, none⟩).isSome = true) (hf : w.frozen? ⟨b, k, none⟩ = false) : (storeVar t ⟨b, k, none⟩ v).run P w = .ok () (w.setCell ⟨b, k, none⟩ v) := by
  have := run_storeCells_cells (P := P) b k [v] 0 w (by simpa using hc) (by simpa using hf) (by simpa using h1)
  have hi := h.one
  cases hq : P.info? t with
  | none => rw [hq] at hi; cases hi
  | some i =>
    rw [hq] at hi
    simp only [Option.map_some, Option.some.injEq] at hi
    simp [storeVar, sizeOf, typeInfo, hq, hi, oneCell_cells h1]
    simpa [World.setCells] using this

/-- the i-th known block is turned -/
def lput (L : HL) (i : Nat) (q : Obj → Prop) : HL := match L, i with
  | [], _ => []
  | p :: r, 0 => (p.1, q) :: r
  | p :: r, i + 1 => p :: lput r i q

theorem perm_get {L : HL} {i : Nat} {p : Nat × (Obj → Prop)} (h : L[i]? = some p) : L.Perm (p :: L.eraseIdx i) := by
  induction L generalizing i with
  | nil => simp at h
  | cons a r ih =>
    cases i with
    | zero => simp at h; subst h; simp
    | succ i =>
      simp only [List.getElem?_cons_succ] at h
      simp only [List.eraseIdx_cons_succ]
      exact ((ih h).cons a).trans (List.Perm.swap ..)
theorem perm_lput {L : HL} {i : Nat} {p : Nat × (Obj → Prop)} (q : Obj → Prop) (h : L[i]? = some p) : ((p.1, q) :: L.eraseIdx i).Perm (lput L i q) := by
  induction L generalizing i with
  | nil => simp at h
  | cons a r ih =>
    cases i with
    | zero => simp at h; subst h; simp [lput]
    | succ i =>
      simp only [List.getElem?_cons_succ] at h
      simp only [List.eraseIdx_cons_succ, lput]
      exact (List.Perm.swap ..).trans ((ih h).cons a)

theorem St.putAt {i b : Nat} {q q' : Obj → Prop} {w w' : World} (h : St w0 X L w) (hi : L[i]? = some (b, q)) (hg : w.grownBy w' (some b)) {o' : Obj} (ho : w'.heap[b]? = some o') (hq : q' o') : St w0 X (lput L i q') w' :=
  ((h.perm (perm_get hi)).put hg ho hq).perm (perm_lput q' hi)

theorem o_storeB (i : Nat) {b k : Nat} {cs : List Value} {e : TypeId} {v : Value} [CSc P t] (hx : fev fr x = some (.pointer (some ⟨b, k, none⟩))) (hy : fev fr y = some v) (hL : L[i]? = some (b, bx cs e)) (hk : Nat.blt k cs.length = true) (h1 : v.oneCell' = true) :
    O P ⟨d, .store t x y, ty, pos, af, g⟩ fr (St w0 X L) (fun _ w => St w0 X (lput L i (bx (cs.set k v) e)) w) :=
  o_ofu fun ρ w hρ hw => by
    have hk' : k < cs.length := by simpa [Nat.blt_eq] using hk
    have hg := hw.get (List.mem_of_getElem? hL)
    refine ⟨w.setCell ⟨b, k, none⟩ v, ?_, ?_⟩
    · have := run_storeVar_sc (P := P) (t := t) (w := w) (b := b) (k := k) h1 (by rw [cell_of hg]; simp [hk']) (frozen_of hg)
      simp [execOp, hρ _ _ hx, hρ _ _ hy, Instr.storeAt, Instr.sureAddr, this]
    · refine hw.putAt hL (grownBy_setCell w b k v) (heap_setCell_same hg) ?_
      simp [bx]

theorem run_storeVar_ag {n : Nat} [h : CAg P t n] {w : World} {b k : Nat} {vs : List Value} (hl : vs.length = n) (h1 : ∀ v ∈ vs, v.oneCell' = true) (hc : ∀ j, j < vs.length → (w.cell? ⟨b, k + j, none⟩).isSome = true) (hf : ∀ j, j < vs.length → w.frozen? ⟨b, k + j, none⟩ = false) :
    (storeVar t ⟨b, k, none⟩ (.agg vs.toArray)).run P w = .ok () (w.setCells b k vs) := by
  have := run_storeCells_cells (P := P) b k vs 0 w (by simpa using hc) (by simpa using hf) h1
  have hi := h.size
  cases hq : P.info? t with
  | none => rw [hq] at hi; cases hi
  | some i =>
    rw [hq] at hi
    simp only [Option.map_some, Option.some.injEq] at hi
    simp only [Nat.add_zero] at this
    simp [storeVar, sizeOf, typeInfo, hq, hi, Value.cells, hl, this]

/-- a whole struct into its own block -/
theorem o_storeBA (i : Nat) {b n : Nat} {cs vs : List Value} {e : TypeId} [CAg P t n] (hx : fev fr x = some (.pointer (some ⟨b, 0, none⟩))) (hy : fev fr y = some (.agg vs.toArray)) (hL : L[i]? = some (b, bx cs e)) (hl : vs.length = n) (hc : cs.length = n) (h1 : vs.all (·.oneCell') = true) :
    O P ⟨d, .store t x y, ty, pos, af, g⟩ fr (St w0 X L) (fun _ w => St w0 X (lput L i (bx vs e)) w) :=
  o_ofu fun ρ w hρ hw => by
    have hg := hw.get (List.mem_of_getElem? hL)
    refine ⟨w.setCells b 0 vs, ?_, ?_⟩
    · have := run_storeVar_ag (P := P) (t := t) (w := w) (b := b) (k := 0) hl (fun v hv => List.all_eq_true.1 h1 v hv) (fun j hj => by rw [cell_of hg]; simp; omega) (fun j _ => frozen_of hg)
      simp [execOp, hρ _ _ hx, hρ _ _ hy, Instr.storeAt, Instr.sureAddr, this]
    · obtain ⟨hgr, cs', hh, hs, hj⟩ := setCells_heap b vs 0 w _ e (0, 0) hg
      refine hw.putAt hL hgr hh ?_
      have : cs' = vs.toArray := by
        apply Array.ext_getElem?
        intro j
        rw [hj j]
        simp only [List.size_toArray, Nat.zero_le, true_and, Nat.zero_add, Nat.sub_zero, List.getElem?_toArray]
        by_cases hlt : j < vs.length
        · rw [if_pos (by omega)]
        · rw [if_neg (by omega), List.getElem?_eq_none (by omega), List.getElem?_eq_none (by omega)]
      rw [this]; rfl

theorem add_mk (b k off : Nat) : (⟨b, k, none⟩ : Addr).add off = ⟨b, k + off, none⟩ := Addr.add_mid b k off

theorem run_sizeOf {e sz by_ : Nat} [h : CSl P t e sz by_] (w : World) : (sizeOf e).run P w = .ok sz w := by
  obtain ⟨i, z, hi, hs, _⟩ := h.info
  simp [sizeOf, typeInfo, hi, hs]

/-- an element's address -/
theorem o_indexAddr {b off n cap e sz by_ : Nat} {k : IntKind} {i : Int} [h : CSl P t e sz by_] (hx : fev fr x = some (.slice (some ⟨b, off, none⟩) n cap)) (hy : fev fr y = some (.int k i)) (h0 : 0 ≤ i ∧ i < n) : Pv P ⟨d, .indexAddr t x y, ty, pos, af, g⟩ fr I (.pointer (some ⟨b, off + i.toNat * sz, none⟩)) :=
  pv_of fun ρ w hρ _ => by
    simp [execOp, hρ _ _ hx, hρ _ _ hy, Instr.indexAt, asIntOf, run_underlying h.under, h0.1, h0.2, run_sizeOf (t := t), add_mk]

/-- a byte of a string -/
theorem o_index {s : ByteArray} {k : IntKind} {i : Int} {u : UInt8} [h : CStr P t] (hx : fev fr x = some (.string s)) (hy : fev fr y = some (.int k i)) (h0 : 0 ≤ i) (hu : s[i.toNat]? = some u) : Pv P ⟨d, .index t x y, ty, pos, af, g⟩ fr I (.int .u8 u.toNat) :=
  pv_of fun ρ w hρ _ => by
    simp [execOp, hρ _ _ hx, hρ _ _ hy, Instr.index, asIntOf, run_underlying h.under, h0, hu]

end Go.Proofs.Ytbgolbkolcmldaa

/-
  A region whose order Go leaves open: each operation is asked for once, whatever has been carried out before it.
-/
namespace Go.Proofs.Ytbgolbkolcmldaa
open Go.RowKit

def dstOf (ops : Array Oper) (i : Nat) : Option Nat := (ops[i]?).bind (·.dst)

/-- what an operation knows of its frame: what it comes after, and the region's start -/
def frk (ops : Array Oper) (ε : Nat → Value) (fr : Fr) : List Edge → Fr
  | [] => fr
  | e :: r => bif Region.binds .any e then (match dstOf ops e.on with
    | some t => (t, ε e.on) :: frk ops ε fr r
    | none => frk ops ε fr r) else frk ops ε fr r

def reachIn (ops : Array Oper) : Nat → Nat → Nat → Bool
  | 0, _, _ => false
  | n + 1, i, k => match ops[i]? with
    | none => false
    | some o => o.after.toList.any fun e => Region.binds .any e && (Nat.beq e.on k || reachIn ops n e.on k)

def edgeTo (o : Oper) (i : Nat) : Bool := o.after.toList.any fun e => Region.binds .any e && Nat.beq e.on i

def slotsOf (ops : Array Oper) (o : Oper) : List Nat :=
  (o.op.operands.toList.filterMap fun | .tmp t => some t | _ => none) ++ (match o.guard with | some (j, _) => (dstOf ops j).toList | none => [])

def okEdges (l : List Oper) : Nat → Bool
  | k => match l with
    | [] => true
    | o :: r => (o.after.toList.all fun e => !Region.binds .any e || Nat.blt e.on k) && okEdges r (k + 1)

def okDst : List Oper → Bool
  | [] => true
  | o :: r => (match o.dst with | none => true | some t => r.all fun p => !(p.dst == some t)) && okDst r

def okWriters (ops : Array Oper) (k : Nat) (o : Oper) (t : Nat) : List Oper → Nat → Bool
  | [], _ => true
  | p :: r, i => (!(p.dst == some t) || edgeTo o i || reachIn ops 6 i k) && okWriters ops k o t r (i + 1)

def okReads (ops : Array Oper) (all : List Oper) : List Oper → Nat → Bool
  | [], _ => true
  | o :: r, k => ((slotsOf ops o).all fun t => okWriters ops k o t all 0) && okReads ops all r (k + 1)

def okGuards (ops : Array Oper) : List Oper → Bool
  | [] => true
  | o :: r => (match o.guard with | none => true | some (j, _) => edgeTo o j && (dstOf ops j).isSome) && okGuards ops r

def okNoDefer : List Oper → Bool
  | [] => true
  | o :: r => Oper.noDefer o && okNoDefer r

def regionOk (l : List Oper) : Bool := okEdges l 0 && okDst l && okReads l.toArray l l 0 && okGuards l.toArray l && okNoDefer l

section
variable {l : List Oper}

theorem okEdges_spec : ∀ (l : List Oper) (k : Nat), okEdges l k = true → ∀ i o, l[i]? = some o → ∀ e ∈ o.after, Region.binds .any e = true → e.on < k + i
  | [], _, _, _, _, h => by simp at h
  | p :: r, k, hk, i, o, h => by
    simp only [okEdges, Bool.and_eq_true, List.all_eq_true] at hk
    intro e he hb
    cases i with
    | zero =>
      simp at h; subst h
      have := hk.1 e (by simpa using he)
      simp [hb, Nat.blt_eq] at this
      simpa using this
    | succ i =>
      have := okEdges_spec r (k + 1) hk.2 i o (by simpa using h) e he hb
      omega

theorem okDst_spec : ∀ (l : List Oper), okDst l = true → ∀ (i j : Nat) (oi oj : Oper) (t : Nat), i < j → l[i]? = some oi → l[j]? = some oj → oi.dst = some t → oj.dst ≠ some t
  | [], _, _, _, _, _, _, _, h, _, _ => by simp at h
  | p :: r, hk, i, j, oi, oj, t, hij, hi, hj, hd => by
    simp only [okDst, Bool.and_eq_true] at hk
    cases j with
    | zero => omega
    | succ j =>
      simp only [List.getElem?_cons_succ] at hj
      cases i with
      | zero =>
        simp at hi; subst hi
        rw [hd] at hk
        have := List.all_eq_true.1 hk.1 oj (List.mem_of_getElem? hj)
        intro e; simp [e] at this
      | succ i => exact okDst_spec r hk.2 i j oi oj t (by omega) (by simpa using hi) hj hd

theorem okWriters_spec (ops : Array Oper) (k : Nat) (o : Oper) (t : Nat) : ∀ (l : List Oper) (i : Nat), okWriters ops k o t l i = true → ∀ j p, l[j]? = some p → p.dst = some t → edgeTo o (i + j) = true ∨ reachIn ops 6 (i + j) k = true
  | [], _, _, _, _, h, _ => by simp at h
  | q :: r, i, hk, j, p, hj, hd => by
    simp only [okWriters, Bool.and_eq_true, Bool.or_eq_true] at hk
    cases j with
    | zero =>
      simp at hj; subst hj
      simpa [hd] using hk.1
    | succ j =>
      have := okWriters_spec ops k o t r (i + 1) hk.2 j p (by simpa using hj) hd
      rwa [show i + 1 + j = i + (j + 1) by omega] at this

theorem okReads_spec (ops : Array Oper) (all : List Oper) : ∀ (l : List Oper) (i : Nat), okReads ops all l i = true → ∀ j o, l[j]? = some o → ∀ t ∈ slotsOf ops o, okWriters ops (i + j) o t all 0 = true
  | [], _, _, _, _, h => by simp at h
  | q :: r, i, hk, j, o, hj => by
    simp only [okReads, Bool.and_eq_true, List.all_eq_true] at hk
    cases j with
    | zero => simp at hj; subst hj; simpa using hk.1
    | succ j =>
      have := okReads_spec ops all r (i + 1) hk.2 j o (by simpa using hj)
      rwa [show i + 1 + j = i + (j + 1) by omega] at this

theorem okGuards_spec (ops : Array Oper) : ∀ (l : List Oper), okGuards ops l = true → ∀ (i : Nat) (o : Oper) (j : Nat) (b : Bool), l[i]? = some o → o.guard = some (j, b) → edgeTo o j = true ∧ (dstOf ops j).isSome = true
  | [], _, _, _, _, _, h, _ => by simp at h
  | q :: r, hk, i, o, j, b, hi, hg => by
    simp only [okGuards, Bool.and_eq_true] at hk
    cases i with
    | zero => simp at hi; subst hi; simpa [hg] using hk.1
    | succ i => exact okGuards_spec ops r hk.2 i o j b (by simpa using hi) hg

theorem okNoDefer_spec : ∀ (l : List Oper), okNoDefer l = true → ∀ (i : Nat) (o : Oper), l[i]? = some o → Oper.noDefer o = true
  | [], _, _, _, h => by simp at h
  | q :: r, hk, i, o, hi => by
    simp only [okNoDefer, Bool.and_eq_true] at hk
    cases i with
    | zero => simp at hi; subst hi; exact hk.1
    | succ i => exact okNoDefer_spec r hk.2 i o (by simpa using hi)

theorem edgeTo_iff {o : Oper} {i : Nat} : edgeTo o i = true ↔ ∃ e ∈ o.after, Region.binds .any e = true ∧ e.on = i := by
  simp only [edgeTo, List.any_eq_true, Bool.and_eq_true, Nat.beq_eq, Array.mem_toList_iff]

/-- closed under what each operation comes after -/
def Closed (ops : Array Oper) (S : Nat → Bool) : Prop := ∀ i o, ops[i]? = some o → S i = true → ∀ e ∈ o.after, Region.binds .any e = true → S e.on = true

theorem reach_spec {ops : Array Oper} {S : Nat → Bool} (hc : Closed ops S) : ∀ (n i k : Nat), reachIn ops n i k = true → S i = true → S k = true
  | 0, _, _, h, _ => by simp [reachIn] at h
  | n + 1, i, k, h, hi => by
    simp only [reachIn] at h
    cases ho : ops[i]? with
    | none => rw [ho] at h; cases h
    | some o =>
      rw [ho] at h
      simp only [List.any_eq_true, Bool.and_eq_true, Bool.or_eq_true, Nat.beq_eq] at h
      obtain ⟨e, he, hb, h⟩ := h
      have hs := hc i o ho hi e (by simpa using he) hb
      rcases h with h | h
      · rw [← h]; exact hs
      · exact reach_spec hc n e.on k h hs
end

/-- the slots of a region under way -/
structure Way (nt : Nat) (D : List Deferred) (fr : Fr) (ops : Array Oper) (S : Nat → Bool) (ε : Nat → Value) (a : Act) : Prop where
  size : a.tmps.size = nt
  defers : a.defers = D
  base : ∀ t v, flook fr t = some v → (∀ i, S i = true → dstOf ops i ≠ some t) → a.tmps.getD t undef = v
  done : ∀ i t, S i = true → dstOf ops i = some t → a.tmps.getD t undef = ε i

theorem frk_look {ops : Array Oper} {ε : Nat → Value} {fr : Fr} : ∀ (es : List Edge) {t : Nat} {v : Value}, flook (frk ops ε fr es) t = some v →
    (∃ e ∈ es, Region.binds .any e = true ∧ dstOf ops e.on = some t ∧ v = ε e.on) ∨ (flook fr t = some v ∧ ∀ e ∈ es, Region.binds .any e = true → dstOf ops e.on ≠ some t)
  | [], t, v, h => .inr ⟨h, by simp⟩
  | e :: r, t, v, h => by
    simp only [frk] at h
    cases hb : Region.binds .any e with
    | false =>
      rw [hb] at h
      rcases frk_look r h with ⟨e', he, h1⟩ | ⟨h1, h2⟩
      · exact .inl ⟨e', List.mem_cons_of_mem _ he, h1⟩
      · refine .inr ⟨h1, fun e' he hb' => ?_⟩
        rcases List.mem_cons.1 he with rfl | he
        · rw [hb] at hb'; cases hb'
        · exact h2 e' he hb'
    | true =>
      rw [hb] at h
      simp only [cond_true] at h
      cases hd : dstOf ops e.on with
      | none =>
        rw [hd] at h
        rcases frk_look r h with ⟨e', he, h1⟩ | ⟨h1, h2⟩
        · exact .inl ⟨e', List.mem_cons_of_mem _ he, h1⟩
        · refine .inr ⟨h1, fun e' he hb' => ?_⟩
          rcases List.mem_cons.1 he with rfl | he
          · rw [hd]; simp
          · exact h2 e' he hb'
      | some t' =>
        rw [hd] at h
        simp only [flook_cons] at h
        by_cases e1 : t' = t
        · subst e1
          simp only [if_true, Option.some.injEq] at h
          exact .inl ⟨e, List.mem_cons_self .., hb, hd, h.symm⟩
        · rw [if_neg e1] at h
          rcases frk_look r h with ⟨e', he, h1⟩ | ⟨h1, h2⟩
          · exact .inl ⟨e', List.mem_cons_of_mem _ he, h1⟩
          · refine .inr ⟨h1, fun e' he hb' => ?_⟩
            rcases List.mem_cons.1 he with rfl | he
            · rw [hd]; intro e2; injection e2 with e2; exact e1 e2
            · exact h2 e' he hb'

def upd (ε : Nat → Value) (k : Nat) (v : Value) : Nat → Value := fun i => if i = k then v else ε i
def mark (S : Nat → Bool) (k : Nat) : Nat → Bool := fun i => decide (i = k) || S i

/-- what is asked of one operation -/
def Ob (P : Program) (l : List Oper) (fr : Fr) (J : (Nat → Bool) → (Nat → Value) → World → Prop) (k : Nat) (o : Oper) : Prop :=
  ∀ S ε, Closed l.toArray S → S k = false → (∀ e ∈ o.after, Region.binds .any e = true → S e.on = true) →
    match o.guard with
    | none => O P o (frk l.toArray ε fr o.after.toList) (J S ε) (fun v w => J (mark S k) (upd ε k v) w)
    | some (j, want) => (ε j = .bool want → O P o (frk l.toArray ε fr o.after.toList) (J S ε) (fun v w => J (mark S k) (upd ε k v) w)) ∧
        (ε j ≠ .bool want → ∀ w, J S ε w → J (mark S k) (upd ε k undef) w)

variable {P : Program} {r : Option Nat} {Q : Exit → Act → World → Prop} {nt : Nat} {D : List Deferred} {fr : Fr} {I : World → Prop}

def tailOk (l : List Oper) (n0 : Nat) : Bool := (List.range l.length).all fun k => Nat.blt k n0 || (List.range k).all fun i => reachIn l.toArray 6 k i

theorem tailOk_spec {l : List Oper} {n0 : Nat} (h : tailOk l n0 = true) {k i : Nat} (hk : k < l.length) (hn : n0 ≤ k) (hi : i < k) : reachIn l.toArray 6 k i = true := by
  simp only [tailOk, List.all_eq_true, List.mem_range, Bool.or_eq_true] at h
  rcases h k hk with h | h
  · rw [Nat.blt_eq] at h; omega
  · exact h i hi

/-- behind what may come in any order, what comes in the text's own -/
theorem any_tail {l : List Oper} {n0 : Nat} (okE : okEdges l 0 = true) (ht : tailOk l n0 = true) : ∀ (fuel m : Nat) (listed : Array Bool) (a : Act) (w : World), listed.size = l.length → n0 ≤ m → m ≤ l.length → l.length - m ≤ fuel → (∀ i, listed.getD i false = decide (i < m)) →
    wpListIn (Wd r) 0 P l.toArray Q (l.drop m) a w → wpAnyIn (Wd r) 0 P .any l.toArray Q fuel listed a w := by
  have hready : ∀ (m : Nat) (listed : Array Bool), listed.size = l.length → n0 ≤ m → (∀ i, listed.getD i false = decide (i < m)) → ∀ k, k ∈ Region.ready .any l.toArray listed → k = m := by
    intro m listed hs hn hl k hk
    rw [mem_ready] at hk
    obtain ⟨h0, o, ho, hall⟩ := hk
    have hkl : k < l.length := by have := (Array.getElem?_eq_some_iff.1 ho).1; simpa using this
    have hkm : m ≤ k := by
      have := hl k
      have hks : k < listed.size := by omega
      simp [hks] at h0 this
      rw [h0] at this
      simp at this
      exact this
    rcases Nat.lt_or_eq_of_le hkm with hlt | rfl
    · exfalso
      have hr := tailOk_spec ht hkl (by omega) hlt
      simp only [reachIn, ho, List.any_eq_true, Bool.and_eq_true, Bool.or_eq_true, Nat.beq_eq] at hr
      obtain ⟨e, he, hb, hr⟩ := hr
      have hse := hall e (by simpa using he) hb
      have hc : Closed l.toArray (fun i => decide (i < m)) := by
        intro i oi hoi hi e' he' hb'
        have := okEdges_spec l 0 okE i oi (by simpa using hoi) e' he' hb'
        simp at hi ⊢; omega
      rw [hl] at hse
      rcases hr with hr | hr
      · rw [hr] at hse; simp at hse
      · have := reach_spec hc 5 e.on m hr hse
        simp at this
    · rfl
  intro fuel
  induction fuel with
  | zero =>
    intro m listed a w hs hn hm hf hl h
    have hml : m = l.length := by omega
    subst hml
    refine ⟨?_, by simpa [wpListIn] using h⟩
    rw [List.eq_nil_iff_forall_not_mem]
    intro k hk
    have := hready _ _ hs hn hl k hk
    subst this
    rw [mem_ready] at hk
    obtain ⟨_, o, ho, _⟩ := hk
    have := (Array.getElem?_eq_some_iff.1 ho).1
    simp at this
  | succ fuel ih =>
    intro m listed a w hs hn hm hf hl h
    rcases Nat.lt_or_eq_of_le hm with hlt | hml
    · have hmem : m ∈ Region.ready .any l.toArray listed := by
        rw [mem_ready]
        have hms : m < listed.size := by omega
        refine ⟨?_, l[m], by simp [hlt], fun e he hb => ?_⟩
        · have := hl m; simp [hms] at this ⊢; exact this
        · have := okEdges_spec l 0 okE m l[m] (by simp [hlt]) e he hb
          rw [hl]; simp; omega
      refine ⟨(fun hnil => by rw [hnil] at hmem; cases hmem), ?_⟩
      intro k hk
      have := hready _ _ hs hn hl k hk
      subst this
      have hdrop : l.drop k = l[k] :: l.drop (k + 1) := List.drop_eq_getElem_cons hlt
      rw [hdrop] at h
      unfold wpListIn at h
      unfold wpOpIn
      rw [show l.toArray[k]? = some l[k] by simp [hlt]]
      have hl' : ∀ i, (listed.setIfInBounds k true).getD i false = decide (i < k + 1) := by
        intro i
        by_cases e : i = k
        · subst e; have : i < listed.size := by omega
          simp [this]
        · rw [getD_set_ne false (Ne.symm e), hl]
          by_cases hik : i < k
          · simp [hik]; omega
          · simp [hik]; omega
      have next : ∀ a w, wpListIn (Wd r) 0 P l.toArray Q (l.drop (k + 1)) a w → wpAnyIn (Wd r) 0 P .any l.toArray Q fuel (listed.setIfInBounds k true) a w := fun a w h => ih (k + 1) _ a w (by simpa using hs) (by omega) (by omega) (by omega) hl' h
      simp only
      split
      · rename_i hw; rw [if_pos hw] at h; exact Oper.wpIn_mono next h
      · rename_i hw; rw [if_neg hw] at h; exact ⟨h.1, next _ _ h.2⟩
    · subst hml
      have hnil : Region.ready .any l.toArray listed = [] := by
        rw [List.eq_nil_iff_forall_not_mem]
        intro k hk
        have := hready _ _ hs hn hl k hk
        subst this
        rw [mem_ready] at hk
        obtain ⟨_, o, ho, _⟩ := hk
        have := (Array.getElem?_eq_some_iff.1 ho).1
        simp at this
      refine ⟨fun _ => by simpa [wpListIn] using h, ?_⟩
      rw [hnil]; intro k hk; cases hk

theorem any_of_obs {l : List Oper} {n0 : Nat} {J : (Nat → Bool) → (Nat → Value) → World → Prop} (hn0 : n0 ≤ l.length) (ht : tailOk l n0 = true) (ok : regionOk l = true) (hlt : ∀ i t, dstOf l.toArray i = some t → t < nt) (hob : ∀ k o, k < n0 → l[k]? = some o → Ob P l fr J k o)
    (fin : ∀ ε a w, Way nt D fr l.toArray (fun i => decide (i < n0)) ε a → J (fun i => decide (i < n0)) ε w → wpListIn (Wd r) 0 P l.toArray Q (l.drop n0) a w) :
    ∀ (fuel : Nat) (listed : Array Bool) (ε : Nat → Value) (a : Act) (w : World), listed.size = l.length → Closed l.toArray (fun i => listed.getD i false) → (∀ i, n0 ≤ i → listed.getD i false = false) → (listed.toList.countP (· == false)) ≤ fuel →
      Way nt D fr l.toArray (fun i => listed.getD i false) ε a → J (fun i => listed.getD i false) ε w → wpAnyIn (Wd r) 0 P .any l.toArray Q fuel listed a w := by
  simp only [regionOk, Bool.and_eq_true] at ok
  obtain ⟨⟨⟨⟨okE, okD⟩, okR⟩, okG⟩, okN⟩ := ok
  -- all that may come in any order has come
  have finish : ∀ (fuel : Nat) (listed : Array Bool) (ε : Nat → Value) (a : Act) (w : World), listed.size = l.length → (∀ i, n0 ≤ i → listed.getD i false = false) → (listed.toList.countP (· == false)) ≤ fuel → Way nt D fr l.toArray (fun i => listed.getD i false) ε a → J (fun i => listed.getD i false) ε w → (∀ i, i < n0 → listed.getD i false = true) → wpAnyIn (Wd r) 0 P .any l.toArray Q fuel listed a w := by
    intro fuel listed ε a w hs hno hf hway hj hall
    have he : ∀ i, listed.getD i false = decide (i < n0) := fun i => by
      by_cases hi : i < n0
      · rw [hall i hi]; simp [hi]
      · rw [hno i (by omega)]; simp [hi]
    have hfun : (fun i => listed.getD i false) = (fun i => decide (i < n0)) := funext he
    rw [hfun] at hway hj
    refine any_tail okE ht fuel n0 listed a w hs (Nat.le_refl _) hn0 ?_ he (fin ε a w hway hj)
    refine Nat.le_trans ?_ hf
    have hcnt : listed.toList.countP (· == false) = ((List.range l.length).map fun i => decide (i < n0)).countP (· == false) := by
      congr 1
      apply List.ext_getElem?
      intro i
      by_cases hi : i < l.length
      · have := he i
        have his : i < listed.size := by omega
        simp [his] at this
        simp [hi, his, this]
      · rw [List.getElem?_eq_none (by simpa using by omega), List.getElem?_eq_none (by simp; omega)]
    rw [hcnt]
    clear hcnt hfun he
    have : ∀ n m : Nat, n - m ≤ ((List.range n).map fun i => decide (i < m)).countP (· == false) := by
      intro n m
      induction n with
      | zero => simp
      | succ n ih =>
        rw [List.range_succ, List.map_append, List.countP_append]
        by_cases h : n < m
        · simp [h]; omega
        · simp [h] at ih ⊢; omega
    exact this _ _
  intro fuel
  induction fuel with
  | zero =>
    intro listed ε a w hs hc hno hf hway hj
    refine finish 0 listed ε a w hs hno hf hway hj ?_
    intro i hi
    rcases Bool.eq_false_or_eq_true (listed.getD i false) with h | h
    · exact h
    · exfalso
      have hlt : i < listed.size := by omega
      have : listed.toList.countP (· == false) > 0 := by
        rw [gt_iff_lt, List.countP_pos_iff]
        refine ⟨listed[i], by simp, ?_⟩
        simp [hlt] at h; simp [h]
      omega
  | succ fuel ih =>
    intro listed ε a w hs hc hno hf hway hj
    by_cases hdone : ∀ i, i < n0 → listed.getD i false = true
    · exact finish _ listed ε a w hs hno hf hway hj hdone
    have hex : ∃ i, i < n0 ∧ listed.getD i false = false := by
      rcases Classical.em (∃ i, i < n0 ∧ listed.getD i false = false) with h | h
      · exact h
      · exfalso; apply hdone
        intro i hi
        rcases Bool.eq_false_or_eq_true (listed.getD i false) with h1 | h1
        · exact h1
        · exact absurd ⟨i, hi, h1⟩ h
    obtain ⟨i0, hi0, hi0f⟩ := hex
    have least : ∀ i, i < l.length → Region.ready .any l.toArray listed = [] → listed.getD i false = true := by
      intro i
      induction i using Nat.strongRecOn with
      | _ i ih =>
        intro hi hr
        rcases Bool.eq_false_or_eq_true (listed.getD i false) with h | h
        · exact h
        · exfalso
          have hm : i ∈ Region.ready .any l.toArray listed := by
            rw [mem_ready]
            refine ⟨?_, l[i], by simp [hi], fun e he hb => ?_⟩
            · have hii : i < listed.size := by omega
              simp [hii] at h ⊢; exact h
            · have := okEdges_spec l 0 okE i l[i] (by simp [hi]) e he hb
              exact ih e.on (by omega) (by omega) hr
          rw [hr] at hm; cases hm
    refine ⟨(fun hr => by have := least i0 (by omega) hr; rw [hi0f] at this; cases this), ?_⟩
    intro k hk
    rw [mem_ready] at hk
    obtain ⟨h0, o, ho, hall⟩ := hk
    have hkn0 : k < n0 := by
      rcases Nat.lt_or_ge k n0 with h | h
      · exact h
      · exfalso
        have hkl : k < l.length := by have := (Array.getElem?_eq_some_iff.1 ho).1; simpa using this
        have hr := tailOk_spec ht hkl h (i := i0) (by omega)
        simp only [reachIn, ho, List.any_eq_true, Bool.and_eq_true, Bool.or_eq_true, Nat.beq_eq] at hr
        obtain ⟨e, he, hb, hr⟩ := hr
        have hse := hall e (by simpa using he) hb
        rcases hr with hr | hr
        · rw [hr, hi0f] at hse; cases hse
        · have := reach_spec (S := fun i => listed.getD i false) hc 5 e.on i0 hr hse
          simp only [hi0f] at this; cases this
    have hkl : k < l.length := by have := (Array.getElem?_eq_some_iff.1 ho).1; simpa using this
    have hlo : l[k]? = some o := by simpa using ho
    have hklt : k < listed.size := by omega
    have hk0 : listed.getD k false = false := by simp [hklt] at h0 ⊢; exact h0
    have hmark : (fun i => (listed.setIfInBounds k true).getD i false) = mark (fun i => listed.getD i false) k := by
      funext i
      by_cases e : i = k
      · subst e; simp [mark, hklt]
      · rw [getD_set_ne false (Ne.symm e)]; simp [mark, e]
    have hclosed' : Closed l.toArray (fun i => (listed.setIfInBounds k true).getD i false) := by
      intro i oi hoi hi e he hb
      by_cases e1 : i = k
      · subst e1
        rw [ho] at hoi; cases hoi
        exact getD_set_true (hall e he hb)
      · have hi' : listed.getD i false = true := by
          have := hi
          simp only at this
          rwa [getD_set_ne false (Ne.symm e1)] at this
        exact getD_set_true (hc i oi hoi hi' e he hb)
    have hno' : ∀ i, n0 ≤ i → (listed.setIfInBounds k true).getD i false = false := fun i hi => by
      rw [getD_set_ne false (by omega)]; exact hno i hi
    have hcount : (listed.setIfInBounds k true).toList.countP (· == false) ≤ fuel := by
      have h1 : (listed.setIfInBounds k true).toList = listed.toList.set k true := by simp
      rw [h1, List.countP_set (by simpa using hklt)]
      have : listed.toList[k]'(by simpa using hklt) = false := by
        simp [hklt] at h0; simpa using h0
      simp [this]
      have h2 : 0 < listed.toList.countP (· == false) := by
        rw [List.countP_pos_iff]
        exact ⟨listed.toList[k]'(by simpa using hklt), by simp, by simp [this]⟩
      simp at h2 hf ⊢
      omega
    -- the slots behind the step
    have hput : ∀ v, Way nt D fr l.toArray (mark (fun i => listed.getD i false) k) (upd ε k v) (a.put o.dst v) := by
      intro v
      have hdk : dstOf l.toArray k = o.dst := by simp [dstOf, hlo]
      refine ⟨?_, ?_, ?_, ?_⟩
      · cases hd : o.dst <;> simp [Act.put, hway.size]
      · cases hd : o.dst <;> simp [Act.put, hway.defers]
      · intro t u hu hno
        have hbase := hway.base t u hu (fun i hi => hno i (by simp [mark, hi]))
        have hnk : o.dst ≠ some t := by have := hno k (by simp [mark]); rwa [hdk] at this
        cases hd : o.dst with
        | none => simpa [Act.put] using hbase
        | some t' =>
          have : t' ≠ t := by intro e; subst e; exact hnk hd
          simp only [Act.put]
          rw [← hbase]
          simp [Array.getElem?_setIfInBounds_ne this]
      · intro i t hi hd
        by_cases e : i = k
        · subst e
          rw [hdk] at hd
          have ht := hlt i t (by rw [hdk]; exact hd)
          rw [hd]
          simp [Act.put, upd, hway.size, ht]
        · have hi' : listed.getD i false = true := by simpa [mark, e] using hi
          have hold := hway.done i t hi' hd
          simp only [upd, if_neg e]
          cases hdo : o.dst with
          | none => simpa [Act.put] using hold
          | some t' =>
            have hne : t' ≠ t := by
              intro e1; subst e1
              have hoi : ∃ oi, l[i]? = some oi ∧ oi.dst = some t' := by
                unfold dstOf at hd
                cases hq : l.toArray[i]? with
                | none => rw [hq] at hd; cases hd
                | some oi => rw [hq] at hd; exact ⟨oi, by simpa using hq, by simpa using hd⟩
              obtain ⟨oi, hoi, hdi⟩ := hoi
              rcases Nat.lt_or_gt_of_ne e with hlt' | hgt
              · exact okDst_spec l okD i k oi o t' hlt' hoi hlo hdi hdo
              · exact okDst_spec l okD k i o oi t' hgt hlo hoi hdo hdi
            simp only [Act.put]
            rw [← hold]
            simp [Array.getElem?_setIfInBounds_ne hne]
    -- what the operation reads
    have hreads : ∀ t ∈ slotsOf l.toArray o, ∀ v, flook (frk l.toArray ε fr o.after.toList) t = some v → a.tmps.getD t undef = v := by
      intro t ht v hv
      rcases frk_look _ hv with ⟨e, he, hb, hd, rfl⟩ | ⟨hv, hno⟩
      · exact hway.done e.on t (hall e (by simpa using he) hb) hd
      · refine hway.base t v hv fun i hi hd => ?_
        have hoi : ∃ oi, l[i]? = some oi ∧ oi.dst = some t := by
          unfold dstOf at hd
          cases hq : l.toArray[i]? with
          | none => rw [hq] at hd; cases hd
          | some oi => rw [hq] at hd; exact ⟨oi, by simpa using hq, by simpa using hd⟩
        obtain ⟨oi, hoi, hdi⟩ := hoi
        have hw := okReads_spec l.toArray l l 0 okR k o hlo t ht
        rw [Nat.zero_add] at hw
        have := okWriters_spec l.toArray k o t l 0 hw i oi hoi hdi
        rw [Nat.zero_add] at this
        rcases this with h | h
        · obtain ⟨e, he, hb, hei⟩ := edgeTo_iff.1 h
          exact hno e (by simpa using he) hb (by rw [hei]; exact hd)
        · have := reach_spec (S := fun i => listed.getD i false) hc 6 i k h hi
          simp only [hk0] at this; cases this
    have heval : ∀ x ∈ o.op.operands, ∀ v, fev (frk l.toArray ε fr o.after.toList) x = some v → a.eval x = v := by
      intro x hx v hv
      cases x with
      | tmp t => exact hreads t (List.mem_append_left _ (List.mem_filterMap.2 ⟨.tmp t, by simpa using hx, rfl⟩)) v hv
      | const u => simpa [fev, Act.eval] using hv
      | global g => simpa [fev, Act.eval] using hv
      | func f => simpa [fev, Act.eval] using hv
    have hN := okNoDefer_spec l okN k o hlo
    have run : O P o (frk l.toArray ε fr o.after.toList) (J (fun i => listed.getD i false) ε) (fun v w => J (mark (fun i => listed.getD i false) k) (upd ε k v) w) →
        o.wpIn (Wd r) 0 P a w (wpAnyIn (Wd r) 0 P .any l.toArray Q fuel (listed.setIfInBounds k true)) Q := by
      intro hO
      -- an evaluation that agrees with the frame everywhere, and with 'a' at the operands
      let ρ : Operand → Value := fun x => (fev (frk l.toArray ε fr o.after.toList) x).getD (a.eval x)
      have hρ : ∀ x v, fev (frk l.toArray ε fr o.after.toList) x = some v → ρ x = v := fun x v hv => by simp [ρ, hv]
      have hop := hO ρ w hρ hj
      have hsel : ∀ cs b, o.op ≠ .select cs b := by intro cs b e; simp [Oper.noDefer, e] at hN
      have hcongr : execOp ρ o = execOp a.eval o := execOp_congr o hsel fun x hx => by
        cases hfx : fev (frk l.toArray ε fr o.after.toList) x with
        | none => simp [ρ, hfx]
        | some v => simp [ρ, hfx, heval x hx v hfx]
      have hop' : Op1 P o a.eval w (fun v w => J (mark (fun i => listed.getD i false) k) (upd ε k v) w) := by
        unfold Op1 at hop ⊢; rw [← hcongr]; exact hop
      refine op1_wpIn hN hop' fun v w' hv => ?_
      exact ih _ _ _ _ (by simpa using hs) hclosed' hno' hcount (by rw [hmark]; exact hput v) (by rw [hmark]; exact hv)
    unfold wpOpIn
    rw [ho]
    simp only
    have hobk := hob k o hkn0 hlo (fun i => listed.getD i false) ε hc hk0 hall
    cases hg : o.guard with
    | none =>
      rw [hg] at hobk
      rw [if_pos (by simp [Region.wanted, hg])]
      exact run hobk
    | some q =>
      obtain ⟨j, want⟩ := q
      rw [hg] at hobk
      simp only at hobk
      obtain ⟨hej, hsj⟩ := okGuards_spec l.toArray l okG k o j want hlo hg
      obtain ⟨e, he, hb, hei⟩ := edgeTo_iff.1 hej
      have hSj : listed.getD j false = true := by have := hall e he hb; rwa [hei] at this
      have hy : yielded l.toArray a.tmps j = some want ↔ ε j = .bool want := by
        cases hdj : dstOf l.toArray j with
        | none => rw [hdj] at hsj; cases hsj
        | some dj =>
          have hv := hway.done j dj hSj hdj
          unfold yielded
          rw [show (l.toArray[j]?).bind (·.dst) = some dj from hdj]
          simp only [Option.bind_some]
          have hltj : dj < a.tmps.size := by rw [hway.size]; exact hlt j dj hdj
          rw [Array.getD_eq_getD_getElem?, Array.getElem?_eq_getElem hltj] at hv
          simp only [Option.getD_some] at hv
          rw [Array.getElem?_eq_getElem hltj]
          simp only [hv]
          cases ε j <;> simp
      by_cases hwt : ε j = .bool want
      · rw [if_pos (by simp [Region.wanted, hg, hy.2 hwt])]
        exact run (hobk.1 hwt)
      · rw [if_neg (by
          simp only [Region.wanted, hg]
          intro h
          exact hwt (hy.1 (by simpa using h)))]
        exact ⟨fun _ _ => trivial, ih _ _ _ _ (by simpa using hs) hclosed' hno' hcount (by rw [hmark]; exact hput undef) (by rw [hmark]; exact hobk.2 hwt w hj)⟩

end Go.Proofs.Ytbgolbkolcmldaa

/-
  A region whose order Go leaves open, all of whose operations have values that are known: it is walked once, in the order of the text.
-/
namespace Go.Proofs.Ytbgolbkolcmldaa
open Go.RowKit

variable {P : Program} {r : Option Nat} {Q : Exit → Act → World → Prop} {nt : Nat} {D : List Deferred} {fr : Fr} {I : World → Prop}

def frAll (ops : Array Oper) (ε : Nat → Value) (fr : Fr) : Nat → Fr
  | 0 => fr
  | n + 1 => match dstOf ops n with
    | some t => (t, ε n) :: frAll ops ε fr n
    | none => frAll ops ε fr n

theorem frAll_look {ops : Array Oper} {ε : Nat → Value} {fr : Fr} : ∀ (n : Nat) {t : Nat} {v : Value}, flook (frAll ops ε fr n) t = some v →
    (∃ i, i < n ∧ dstOf ops i = some t ∧ v = ε i) ∨ (flook fr t = some v ∧ ∀ i, i < n → dstOf ops i ≠ some t)
  | 0, t, v, h => .inr ⟨h, by intro i hi; omega⟩
  | n + 1, t, v, h => by
    simp only [frAll] at h
    cases hd : dstOf ops n with
    | none =>
      rw [hd] at h
      rcases frAll_look n h with ⟨i, hi, h1⟩ | ⟨h1, h2⟩
      · exact .inl ⟨i, by omega, h1⟩
      · refine .inr ⟨h1, fun i hi => ?_⟩
        rcases Nat.lt_or_eq_of_le (Nat.le_of_lt_succ hi) with h | rfl
        · exact h2 i h
        · rw [hd]; simp
    | some t' =>
      rw [hd] at h
      simp only [flook_cons] at h
      by_cases e : t' = t
      · subst e
        simp only [if_true, Option.some.injEq] at h
        exact .inl ⟨n, by omega, hd, h.symm⟩
      · rw [if_neg e] at h
        rcases frAll_look n h with ⟨i, hi, h1⟩ | ⟨h1, h2⟩
        · exact .inl ⟨i, by omega, h1⟩
        · refine .inr ⟨h1, fun i hi => ?_⟩
          rcases Nat.lt_or_eq_of_le (Nat.le_of_lt_succ hi) with h | rfl
          · exact h2 i h
          · rw [hd]; intro e1; injection e1 with e1; exact e e1

def okSlots (nt : Nat) : List Oper → Bool
  | [] => true
  | o :: r => (match o.dst with | none => true | some t => Nat.blt t nt) && okSlots nt r

theorem okSlots_spec : ∀ (l : List Oper), okSlots nt l = true → ∀ (i t : Nat), dstOf l.toArray i = some t → t < nt
  | [], _, i, t, h => by simp [dstOf] at h
  | o :: l, hk, i, t, h => by
    simp only [okSlots, Bool.and_eq_true] at hk
    cases i with
    | zero =>
      have : o.dst = some t := by simpa [dstOf] using h
      simpa [this, Nat.blt_eq] using hk.1
    | succ i => exact okSlots_spec l hk.2 i t (by simpa [dstOf] using h)

theorem tailOk_all (l : List Oper) : tailOk l l.length = true := by
  simp only [tailOk, List.all_eq_true, List.mem_range, Bool.or_eq_true]
  intro k hk
  exact .inl (by rw [Nat.blt_eq]; exact hk)

/-- the general form: the first n0 operations in any order, then the others in the text's -/
theorem t_drawG {id : Nat} {l : List Oper} (n0 : Nat) {J : (Nat → Bool) → (Nat → Value) → World → Prop} (hn0 : n0 ≤ l.length) (ht : tailOk l n0 = true) (hm : P.follows .mixedOrders = true) (ok : regionOk l = true) (hs : okSlots nt l = true)
    (h0 : ∀ w n, I w → J (fun _ => false) (fun _ => undef) { w with drawn := n }) (hob : ∀ k o, k < n0 → l[k]? = some o → Ob P l fr J k o)
    (fin : ∀ ε, TL P r l.toArray Q nt D (l.drop n0) (frAll l.toArray ε fr n0) (J (fun i => decide (i < n0)) ε)) : T P r (.region id l.toArray true) Q nt D fr I := by
  intro a w ha hw
  refine wpIn_region_any hm ?_
  have hnone : (fun i => (Array.replicate l.toArray.size false).getD i false) = (fun _ : Nat => false) := by
    funext i
    by_cases hi : i < l.length <;> simp [hi]
  refine any_of_obs (J := J) (fr := fr) (D := D) (nt := nt) hn0 ht ok (okSlots_spec l hs) hob ?_ _ _ (fun _ => undef) a _ (by simp) ?_ ?_ ?_ ?_ ?_
  · intro ε a w hway hj
    refine fin ε a w ⟨hway.size, hway.defers, fun t v hl => ?_⟩ hj
    rcases frAll_look _ hl with ⟨i, hi, hd, rfl⟩ | ⟨hl, hno⟩
    · exact hway.done i t (by simpa using hi) hd
    · exact hway.base t v hl fun i hi hd => hno i (by simpa using hi) hd
  · rw [hnone]; intro i o _ h; simp at h
  · intro i _; exact congrFun hnone i
  · exact Nat.le_trans List.countP_le_length (by simp)
  · rw [hnone]
    exact ⟨ha.size, ha.defers, fun t v hl _ => ha.look t v hl, fun i t h => by simp at h⟩
  · rw [hnone]; exact h0 w _ hw

def lv (acc : Fr) (i : Nat) : Value := (flook acc i).getD undef

/-- values that are known, one by one -/
def DV (P : Program) (l : List Oper) (fr : Fr) (I : World → Prop) (fin : Fr → Prop) : Nat → List Oper → Fr → Prop
  | _, [], acc => fin acc
  | k, o :: rest, acc => ∃ u, (match o.guard with
      | none => O P o (frk l.toArray (lv acc) fr o.after.toList) I (fun v w => v = u ∧ I w)
      | some (j, want) => (lv acc j = .bool want ∧ O P o (frk l.toArray (lv acc) fr o.after.toList) I (fun v w => v = u ∧ I w)) ∨ (lv acc j ≠ .bool want ∧ u = undef)) ∧
      DV P l fr I fin (k + 1) rest ((k, u) :: acc)

theorem frk_congr {ops : Array Oper} {ε ε' : Nat → Value} {fr : Fr} : ∀ (es : List Edge), (∀ e ∈ es, Region.binds .any e = true → ε e.on = ε' e.on) → frk ops ε fr es = frk ops ε' fr es
  | [], _ => rfl
  | e :: r, h => by
    simp only [frk]
    rw [frk_congr r fun e' he => h e' (List.mem_cons_of_mem _ he)]
    cases hb : Region.binds .any e with
    | false => rfl
    | true =>
      simp only [cond_true]
      rw [h e (List.mem_cons_self ..) hb]

theorem frAll_congr {ops : Array Oper} {ε ε' : Nat → Value} {fr : Fr} : ∀ (n : Nat), (∀ i, i < n → ε i = ε' i) → frAll ops ε fr n = frAll ops ε' fr n
  | 0, _ => rfl
  | n + 1, h => by
    simp only [frAll]
    rw [frAll_congr n fun i hi => h i (by omega), h n (by omega)]

theorem lv_cons (k : Nat) (u : Value) (acc : Fr) (i : Nat) : lv ((k, u) :: acc) i = if k = i then u else lv acc i := by
  unfold lv
  rw [flook_cons]
  by_cases h : k = i <;> simp [h]

theorem dv_spec {l : List Oper} {fin : Fr → Prop} : ∀ (rest : List Oper) (k : Nat) (acc : Fr), DV P l fr I fin k rest acc →
    ∃ acc', fin acc' ∧ (∀ i, i < k → lv acc' i = lv acc i) ∧ ∀ j o, rest[j]? = some o →
      ∃ accj, (∀ i, i < k + j → lv accj i = lv acc' i) ∧ (match o.guard with
      | none => O P o (frk l.toArray (lv accj) fr o.after.toList) I (fun v w => v = lv acc' (k + j) ∧ I w)
      | some (g, want) => (lv accj g = .bool want ∧ O P o (frk l.toArray (lv accj) fr o.after.toList) I (fun v w => v = lv acc' (k + j) ∧ I w)) ∨ (lv accj g ≠ .bool want ∧ lv acc' (k + j) = undef))
  | [], k, acc, h => ⟨acc, h, fun _ _ => rfl, fun j o hj => by simp at hj⟩
  | o :: rest, k, acc, h => by
    obtain ⟨u, hu, hr⟩ := h
    obtain ⟨acc', hf, hsame, hall⟩ := dv_spec rest (k + 1) _ hr
    have hk : lv acc' k = u := by rw [hsame k (by omega), lv_cons, if_pos rfl]
    have hlow : ∀ i, i < k → lv acc' i = lv acc i := fun i hi => by rw [hsame i (by omega), lv_cons, if_neg (by omega)]
    refine ⟨acc', hf, hlow, ?_⟩
    intro j p hj
    cases j with
    | zero =>
      simp at hj; subst hj
      refine ⟨acc, fun i hi => (hlow i (by omega)).symm, ?_⟩
      rw [Nat.add_zero, hk]
      cases hg : o.guard with
      | none => rw [hg] at hu; exact hu
      | some q => obtain ⟨g, want⟩ := q; rw [hg] at hu; exact hu
    | succ j =>
      obtain ⟨accj, h1, h2⟩ := hall j p (by simpa using hj)
      rw [show k + (j + 1) = k + 1 + j by omega]
      exact ⟨accj, h1, h2⟩

def accFin (P : Program) (r : Option Nat) (l : List Oper) (n0 : Nat) (Q : Exit → Act → World → Prop) (nt : Nat) (D : List Deferred) (fr : Fr) (I : World → Prop) (acc : Fr) : Prop := TL P r l.toArray Q nt D (l.drop n0) (frAll l.toArray (lv acc) fr n0) I

theorem t_drawVT {id : Nat} {l : List Oper} (n0 : Nat) (hI : ∀ w n, I w → I { w with drawn := n }) (h : DV P l fr I (accFin P r l n0 Q nt D fr I) 0 (l.take n0) []) (hn0 : Nat.ble n0 l.length = true) (ht : tailOk l n0 = true) (hm : P.follows .mixedOrders = true) (ok : regionOk l = true) (hs : okSlots nt l = true) : T P r (.region id l.toArray true) Q nt D fr I := by
  have hn0' : n0 ≤ l.length := by simpa [Nat.ble_eq] using hn0
  obtain ⟨acc, hf, _, hall⟩ := dv_spec (l.take n0) 0 [] h
  have okE : okEdges l 0 = true ∧ okGuards l.toArray l = true := by
    simp only [regionOk, Bool.and_eq_true] at ok
    exact ⟨ok.1.1.1.1, ok.1.2⟩
  refine t_drawG n0 (J := fun S ε w => I w ∧ ∀ i, i < n0 → S i = true → ε i = lv acc i) hn0' ht hm ok hs (fun w n hw => ⟨hI w n hw, fun i _ h => by simp at h⟩) ?_ ?_
  · intro k o hkn hk S ε hc hSk hdeps
    obtain ⟨accj, h1, h2⟩ := hall k o (by rw [List.getElem?_take, if_pos hkn]; exact hk)
    rw [Nat.zero_add] at h1 h2
    have step : O P o (frk l.toArray (lv accj) fr o.after.toList) I (fun v w => v = lv acc k ∧ I w) →
        O P o (frk l.toArray ε fr o.after.toList) (fun w => I w ∧ ∀ i, i < n0 → S i = true → ε i = lv acc i) (fun v w => I w ∧ ∀ i, i < n0 → mark S k i = true → upd ε k v i = lv acc i) := by
      intro hO ρ w hρ hw
      have hfr : frk l.toArray ε fr o.after.toList = frk l.toArray (lv accj) fr o.after.toList := frk_congr _ fun e he hb => by
        have hlt := okEdges_spec l 0 okE.1 k o hk e (by simpa using he) hb
        rw [h1 e.on (by omega), hw.2 e.on (by omega) (hdeps e (by simpa using he) hb)]
      rw [hfr] at hρ
      refine (hO ρ w hρ hw.1).mono ?_
      rintro v w' ⟨rfl, hi⟩
      refine ⟨hi, fun i hil hm => ?_⟩
      by_cases e : i = k
      · subst e; simp [upd]
      · simp only [upd, if_neg e]
        exact hw.2 i hil (by simpa [mark, e] using hm)
    cases hg : o.guard with
    | none => rw [hg] at h2; exact step h2
    | some q =>
      obtain ⟨g, want⟩ := q
      rw [hg] at h2
      simp only at h2 ⊢
      obtain ⟨hej, _⟩ := okGuards_spec l.toArray l okE.2 k o g want hk hg
      obtain ⟨e, he, hb, hei⟩ := edgeTo_iff.1 hej
      have hlt := okEdges_spec l 0 okE.1 k o hk e he hb
      have hgv : lv accj g = lv acc g := h1 g (by omega)
      have hSg : S g = true := by have := hdeps e he hb; rwa [hei] at this
      refine ⟨fun hw ρ w hρ hJ => ?_, fun hw w hJ => ?_⟩
      · rcases h2 with ⟨_, hO⟩ | ⟨hne, _⟩
        · exact step hO ρ w hρ hJ
        · exfalso; apply hne; rw [hgv, ← hJ.2 g (by omega) hSg]; exact hw
      · rcases h2 with ⟨he', _⟩ | ⟨_, hu⟩
        · exfalso; apply hw; rw [hJ.2 g (by omega) hSg, ← hgv]; exact he'
        · refine ⟨hJ.1, fun i hil hm => ?_⟩
          by_cases e : i = k
          · subst e; simp [upd, hu]
          · simp only [upd, if_neg e]
            exact hJ.2 i hil (by simpa [mark, e] using hm)
  · intro ε a w ha hw
    have : frAll l.toArray ε fr n0 = frAll l.toArray (lv acc) fr n0 := frAll_congr _ fun i hi => hw.2 i hi (by simpa using hi)
    rw [this] at ha
    exact hf a w ha hw.1

theorem t_drawV {id : Nat} {l : List Oper} (hI : ∀ w n, I w → I { w with drawn := n }) (h : DV P l fr I (accFin P r l l.length Q nt D fr I) 0 l []) (hm : P.follows .mixedOrders = true) (ok : regionOk l = true) (hs : okSlots nt l = true) : T P r (.region id l.toArray true) Q nt D fr I :=
  t_drawVT l.length hI (by rw [List.take_length]; exact h) (by simp) (tailOk_all l) hm ok hs

section
variable {l rest : List Oper} {fin : Fr → Prop} {k : Nat} {acc : Fr} {d : Option Tmp} {op : Op} {ty : TypeId} {pos : String} {af : Array Edge} {u : Value}
theorem dv_op (h : O P ⟨d, op, ty, pos, af, none⟩ (frk l.toArray (lv acc) fr af.toList) I (fun v w => v = u ∧ I w)) (hr : DV P l fr I fin (k + 1) rest ((k, u) :: acc)) : DV P l fr I fin k (⟨d, op, ty, pos, af, none⟩ :: rest) acc := ⟨u, by simpa using h, hr⟩
theorem dv_yes {j : Nat} {want : Bool} (hj : lv acc j = .bool want) (h : O P ⟨d, op, ty, pos, af, some (j, want)⟩ (frk l.toArray (lv acc) fr af.toList) I (fun v w => v = u ∧ I w)) (hr : DV P l fr I fin (k + 1) rest ((k, u) :: acc)) : DV P l fr I fin k (⟨d, op, ty, pos, af, some (j, want)⟩ :: rest) acc := ⟨u, .inl ⟨hj, by simpa using h⟩, hr⟩
theorem dv_no {j : Nat} {want b : Bool} (hj : lv acc j = .bool b) (hb : (b == want) = false) (hr : DV P l fr I fin (k + 1) rest ((k, undef) :: acc)) : DV P l fr I fin k (⟨d, op, ty, pos, af, some (j, want)⟩ :: rest) acc := ⟨undef, .inr ⟨by rw [hj]; intro e; injection e with e; subst e; simp at hb, rfl⟩, hr⟩
theorem dv_undef {j : Nat} {want : Bool} (hj : lv acc j = undef) (hr : DV P l fr I fin (k + 1) rest ((k, undef) :: acc)) : DV P l fr I fin k (⟨d, op, ty, pos, af, some (j, want)⟩ :: rest) acc := ⟨undef, .inr ⟨by rw [hj]; intro e; simp [undef] at e, rfl⟩, hr⟩
theorem dv_nil (h : Xt P .normal Q nt D (frAll l.toArray (lv acc) fr l.length) I) : DV P l fr I (accFin P r l l.length Q nt D fr I) k [] acc := by
  intro a w ha hw
  rw [List.drop_length]
  exact h a w ha hw
theorem dv_tail {n0 : Nat} (h : TL P r l.toArray Q nt D (l.drop n0) (frAll l.toArray (lv acc) fr n0) I) : DV P l fr I (accFin P r l n0 Q nt D fr I) k [] acc := h
end

/-! ### one operation of the region acts -/
def DE (P : Program) (l : List Oper) (fr : Fr) (Bf Af : World → Prop) (k0 : Nat) (fin : Fr → Prop) : Nat → List Oper → Fr → Prop
  | _, [], acc => fin acc
  | k, o :: rest, acc => ∃ u, o.guard = none ∧ (if k = k0 then O P o (frk l.toArray (lv acc) fr o.after.toList) Bf (fun v w => v = u ∧ Af w) else O P o (frk l.toArray (lv acc) fr o.after.toList) Bf (fun v w => v = u ∧ Bf w) ∧ O P o (frk l.toArray (lv acc) fr o.after.toList) Af (fun v w => v = u ∧ Af w)) ∧
      DE P l fr Bf Af k0 fin (k + 1) rest ((k, u) :: acc)

theorem de_spec {l : List Oper} {Bf Af : World → Prop} {k0 : Nat} {fin : Fr → Prop} : ∀ (rest : List Oper) (k : Nat) (acc : Fr), DE P l fr Bf Af k0 fin k rest acc →
    ∃ acc', fin acc' ∧ (∀ i, i < k → lv acc' i = lv acc i) ∧ ∀ j o, rest[j]? = some o → o.guard = none ∧
      ∃ accj, (∀ i, i < k + j → lv accj i = lv acc' i) ∧ (if k + j = k0 then O P o (frk l.toArray (lv accj) fr o.after.toList) Bf (fun v w => v = lv acc' (k + j) ∧ Af w) else O P o (frk l.toArray (lv accj) fr o.after.toList) Bf (fun v w => v = lv acc' (k + j) ∧ Bf w) ∧ O P o (frk l.toArray (lv accj) fr o.after.toList) Af (fun v w => v = lv acc' (k + j) ∧ Af w))
  | [], k, acc, h => ⟨acc, h, fun _ _ => rfl, fun j o hj => by simp at hj⟩
  | o :: rest, k, acc, h => by
    obtain ⟨u, hg, hu, hr⟩ := h
    obtain ⟨acc', hf, hsame, hall⟩ := de_spec rest (k + 1) _ hr
    have hk : lv acc' k = u := by rw [hsame k (by omega), lv_cons, if_pos rfl]
    have hlow : ∀ i, i < k → lv acc' i = lv acc i := fun i hi => by rw [hsame i (by omega), lv_cons, if_neg (by omega)]
    refine ⟨acc', hf, hlow, ?_⟩
    intro j p hj
    cases j with
    | zero =>
      simp at hj; subst hj
      refine ⟨hg, acc, fun i hi => (hlow i (by omega)).symm, ?_⟩
      rw [Nat.add_zero, hk]
      exact hu
    | succ j =>
      obtain ⟨hg', accj, h1, h2⟩ := hall j p (by simpa using hj)
      rw [show k + (j + 1) = k + 1 + j by omega]
      exact ⟨hg', accj, h1, h2⟩

theorem t_drawE {id : Nat} {l : List Oper} (n0 k0 : Nat) {Bf Af : World → Prop} (hI : ∀ w n, I w → Bf { w with drawn := n }) (h : DE P l fr Bf Af k0 (accFin P r l n0 Q nt D fr Af) 0 (l.take n0) []) (hk0 : Nat.blt k0 n0 = true) (hn0 : Nat.ble n0 l.length = true) (ht : tailOk l n0 = true) (hm : P.follows .mixedOrders = true) (ok : regionOk l = true) (hs : okSlots nt l = true) : T P r (.region id l.toArray true) Q nt D fr I := by
  have hn0' : n0 ≤ l.length := by simpa [Nat.ble_eq] using hn0
  have hk0' : k0 < n0 := by simpa [Nat.blt_eq] using hk0
  obtain ⟨acc, hf, _, hall⟩ := de_spec (l.take n0) 0 [] h
  have okE : okEdges l 0 = true := by
    simp only [regionOk, Bool.and_eq_true] at ok
    exact ok.1.1.1.1
  refine t_drawG n0 (J := fun S ε w => (if S k0 = true then Af w else Bf w) ∧ ∀ i, i < n0 → S i = true → ε i = lv acc i) hn0' ht hm ok hs (fun w n hw => ⟨by simpa using hI w n hw, fun i _ h => by simp at h⟩) ?_ ?_
  · intro k o hkn hk S ε hc hSk hdeps
    obtain ⟨hg, accj, h1, h2⟩ := hall k o (by rw [List.getElem?_take, if_pos hkn]; exact hk)
    rw [Nat.zero_add] at h1 h2
    rw [hg]
    intro ρ w hρ hw
    have hfr : frk l.toArray ε fr o.after.toList = frk l.toArray (lv accj) fr o.after.toList := frk_congr _ fun e he hb => by
      have hlt := okEdges_spec l 0 okE k o hk e (by simpa using he) hb
      rw [h1 e.on (by omega), hw.2 e.on (by omega) (hdeps e (by simpa using he) hb)]
    rw [hfr] at hρ
    have vals : ∀ i, i < n0 → mark S k i = true → upd ε k (lv acc k) i = lv acc i := fun i hil hm => by
      by_cases e : i = k
      · subst e; simp [upd]
      · simp only [upd, if_neg e]
        exact hw.2 i hil (by simpa [mark, e] using hm)
    by_cases e0 : k = k0
    · subst e0
      rw [if_pos rfl] at h2
      have hbf : Bf w := by have := hw.1; rwa [hSk, if_neg (by simp)] at this
      refine (h2 ρ w hρ hbf).mono ?_
      rintro v w' ⟨rfl, hi⟩
      exact ⟨by simpa [mark] using hi, vals⟩
    · rw [if_neg e0] at h2
      have hmk : mark S k k0 = S k0 := by simp [mark, Ne.symm e0]
      cases hS0 : S k0 with
      | true =>
        have haf : Af w := by have := hw.1; rwa [if_pos hS0] at this
        refine (h2.2 ρ w hρ haf).mono ?_
        rintro v w' ⟨rfl, hi⟩
        exact ⟨by rw [hmk, if_pos hS0]; exact hi, vals⟩
      | false =>
        have hbf : Bf w := by have := hw.1; rwa [hS0, if_neg (by simp)] at this
        refine (h2.1 ρ w hρ hbf).mono ?_
        rintro v w' ⟨rfl, hi⟩
        exact ⟨by rw [hmk, hS0, if_neg (by simp)]; exact hi, vals⟩
  · intro ε a w ha hw
    have : frAll l.toArray ε fr n0 = frAll l.toArray (lv acc) fr n0 := frAll_congr _ fun i hi => hw.2 i hi (by simpa using hi)
    rw [this] at ha
    exact hf a w ha (by have := hw.1; rwa [if_pos (by simpa using hk0')] at this)

section
variable {l rest : List Oper} {Bf Af : World → Prop} {k0 : Nat} {fin : Fr → Prop} {k : Nat} {acc : Fr} {d : Option Tmp} {op : Op} {ty : TypeId} {pos : String} {af : Array Edge} {u : Value}
theorem de_v (hk : Nat.beq k k0 = false) (h : ∀ I' : World → Prop, (I' = Bf ∨ I' = Af) → O P ⟨d, op, ty, pos, af, none⟩ (frk l.toArray (lv acc) fr af.toList) I' (fun v w => v = u ∧ I' w)) (hr : DE P l fr Bf Af k0 fin (k + 1) rest ((k, u) :: acc)) : DE P l fr Bf Af k0 fin k (⟨d, op, ty, pos, af, none⟩ :: rest) acc :=
  ⟨u, rfl, by rw [if_neg (by intro e; subst e; simp at hk)]; exact ⟨h Bf (.inl rfl), h Af (.inr rfl)⟩, hr⟩
theorem de_e (h : O P ⟨d, op, ty, pos, af, none⟩ (frk l.toArray (lv acc) fr af.toList) Bf (fun v w => v = u ∧ Af w)) (hr : DE P l fr Bf Af k0 fin (k0 + 1) rest ((k0, u) :: acc)) : DE P l fr Bf Af k0 fin k0 (⟨d, op, ty, pos, af, none⟩ :: rest) acc :=
  ⟨u, rfl, by rw [if_pos rfl]; exact h, hr⟩
theorem de_tail {n0 : Nat} {I : World → Prop} (h : TL P r l.toArray Q nt D (l.drop n0) (frAll l.toArray (lv acc) fr n0) I) : DE P l fr Bf Af k0 (accFin P r l n0 Q nt D fr I) k [] acc := h
end

end Go.Proofs.Ytbgolbkolcmldaa
