/-
  A small logic of triples over the kit's 'wpIn' at the wide fence: a frame is a list of known slots, a world is known by a predicate.
-/
import Derived.RangeFuncNested
import Derived.RangeFuncBound
import Derived.RangeFuncCalls
import Derived.RangeFuncLeaves
import Derived.WalkKit
import Derived.OrdersIn
import Derived.KernelRfl
namespace Go.Proofs.Ytbgolbkolcmldaa
open Go.RowKit

/-- the wide fence, in a round or not -/
abbrev Wd (r : Option Nat) : Fence := { Fence.wide with round := r }

abbrev Fr := List (Nat × Value)

def flook : Fr → Nat → Option Value
  | [], _ => none
  | (i, v) :: r, t => bif Nat.beq i t then some v else flook r t

def fev (fr : Fr) : Operand → Option Value
  | .tmp t => flook fr t
  | .const v => some v
  | .global g => some (.pointer (some ⟨g, 0, none⟩))
  | .func f => some (.func (.func f) #[] #[])

def fevs (fr : Fr) : List Operand → Option (List Value)
  | [] => some []
  | x :: xs => match fev fr x with
    | none => none
    | some v => match fevs fr xs with
      | none => none
      | some vs => some (v :: vs)

structure Ag (nt : Nat) (D : List Deferred) (fr : Fr) (a : Act) : Prop where
  size : a.tmps.size = nt
  defers : a.defers = D
  look : ∀ t v, flook fr t = some v → a.tmps.getD t undef = v

theorem flook_cons (i : Nat) (v : Value) (fr : Fr) (t : Nat) : flook ((i, v) :: fr) t = if i = t then some v else flook fr t := by
  simp only [flook]
  by_cases h : i = t
  · subst h; simp
  · have : Nat.beq i t = false := by
      rw [← Bool.not_eq_true, Nat.beq_eq]; exact h
    simp [h, this]

theorem Ag.put {nt : Nat} {D : List Deferred} {fr : Fr} {a : Act} {d : Nat} (h : Ag nt D fr a) (hd : d < nt) (v : Value) : Ag nt D ((d, v) :: fr) (a.put (some d) v) := by
  refine ⟨by simp [Act.put, h.size], by simp [Act.put, h.defers], fun t u hu => ?_⟩
  rw [flook_cons] at hu
  have hs := h.size
  by_cases e : d = t
  · subst e
    simp only [if_true, Option.some.injEq] at hu
    subst hu
    simp [Act.put, hs, hd]
  · rw [if_neg e] at hu
    have := h.look t u hu
    simp only [Act.put]
    rw [← this]
    simp [Array.getElem?_setIfInBounds_ne, e]

theorem Ag.putNone {nt : Nat} {D : List Deferred} {fr : Fr} {a : Act} (h : Ag nt D fr a) (v : Value) : Ag nt D fr (a.put none v) := h

theorem Ag.eval {nt : Nat} {D : List Deferred} {fr : Fr} {a : Act} (h : Ag nt D fr a) {x : Operand} {v : Value} (hx : fev fr x = some v) : a.eval x = v := by
  cases x with
  | tmp t => exact h.look t v hx
  | const u => simpa [fev, Act.eval] using hx
  | global g => simpa [fev, Act.eval] using hx
  | func f => simpa [fev, Act.eval] using hx

/-- all that one list knows, another one knows -/
def fle : Fr → Fr → Prop
  | [], _ => True
  | (t, v) :: r, fr => flook fr t = some v ∧ fle r fr

theorem fle_spec {fr' fr : Fr} (h : fle fr' fr) {t : Nat} {v : Value} (hl : flook fr' t = some v) : flook fr t = some v := by
  induction fr' with
  | nil => simp [flook] at hl
  | cons p r ih =>
    obtain ⟨i, u⟩ := p
    rw [flook_cons] at hl
    by_cases e : i = t
    · subst e; simp only [if_true, Option.some.injEq] at hl; subst hl; exact h.1
    · rw [if_neg e] at hl; exact ih h.2 hl

theorem Ag.weak {nt : Nat} {D : List Deferred} {fr fr' : Fr} {a : Act} (h : Ag nt D fr a) (hf : fle fr' fr) : Ag nt D fr' a :=
  ⟨h.size, h.defers, fun t v hl => h.look t v (fle_spec hf hl)⟩

/-! ### one operation -/

def Op1 (P : Program) (o : Oper) (ρ : Operand → Value) (w : World) (K : Value → World → Prop) : Prop :=
  match (execOp ρ o).run P w with
  | .ok (.value v) w' => K v w'
  | .ok .skip w' => K undef w'
  | .ok (.enter f args) w' => Calls P f args w' fun e w'' => ∃ v, e = .returned v ∧ K v w''
  | .ok (.round l f tmps assign body) w' => RoundIn Fence.wide 0 P l f tmps assign body w' fun e w'' => ∃ v, e = .returned v ∧ K v w''
  | _ => False

def Oper.noDefer (o : Oper) : Bool := match o.op with | .defer _ => false | .select .. => false | _ => true

theorem noDefer_spec {o : Oper} (h : Oper.noDefer o = true) : ∀ c, o.op ≠ .defer c := by
  intro c e; simp [Oper.noDefer, e] at h

theorem callsIn_any {r : Option Nat} {n : Nat} {P : Program} {f : FuncId} {args : Array Value} {w : World} {R : Ending → World → Prop} (h : Calls P f args w R) : CallsIn (Wd r) n P f args w R := by
  have := (callsIn_wide (n := n)).2 h
  exact this

theorem roundIn_any {r : Option Nat} {n m : Nat} {P : Program} {l : Nat} {f : FuncId} {tmps : Array Value} {assign body : Code} {w : World} {R : Ending → World → Prop}
    (h : RoundIn Fence.wide m P l f tmps assign body w R) : RoundIn (Wd r) n P l f tmps assign body w R :=
  ⟨trivial, fun c cs _ => h.2 c cs (room_wide _)⟩

theorem op1_wpIn {P : Program} {o : Oper} {a : Act} {w : World} {K : Value → World → Prop} {r : Option Nat} {n : Nat} {next : Act → World → Prop} {Q : Exit → Act → World → Prop}
    (hd : Oper.noDefer o = true) (h : Op1 P o a.eval w K) (hk : ∀ v w', K v w' → next (a.put o.dst v) w') : o.wpIn (Wd r) n P a w next Q := by
  refine ⟨fun _ _ => trivial, ?_⟩
  rw [show o.semAt (Wd r).round a.eval = execOp a.eval o from Oper.semAt_eq _ _ _ (noDefer_spec hd)]
  unfold Op1 at h
  generalize (execOp a.eval o).run P w = x at h
  cases x with
  | halt _ _ => exact h.elim
  | ok x w' =>
    cases x <;> simp only at h <;> first | exact h.elim | skip
    · exact hk _ _ h
    · exact hk _ _ h
    · rename_i f args
      refine ⟨fun hh => by simp [Fence.wide] at hh, callsIn_any (h.mono ?_)⟩
      rintro e w'' ⟨v, rfl, hv⟩
      exact hk _ _ hv
    · refine ⟨fun hh => by simp [Fence.wide] at hh, roundIn_any (h.mono ?_)⟩
      rintro e w'' ⟨v, rfl, hv⟩
      exact hk _ _ hv

/-- what one operation does, at whatever frame that has these slots -/
def O (P : Program) (o : Oper) (fr : Fr) (I : World → Prop) (R : Value → World → Prop) : Prop :=
  ∀ ρ w, (∀ x v, fev fr x = some v → ρ x = v) → I w → Op1 P o ρ w R

theorem Op1.mono {P : Program} {o : Oper} {ρ : Operand → Value} {w : World} {K K' : Value → World → Prop} (h : Op1 P o ρ w K) (hk : ∀ v w', K v w' → K' v w') : Op1 P o ρ w K' := by
  unfold Op1 at *
  generalize (execOp ρ o).run P w = x at *
  cases x with
  | halt _ _ => exact h
  | ok x w' =>
    cases x <;> simp only at h ⊢ <;> first | exact hk _ _ h | exact h | skip
    · exact h.mono fun e w'' ⟨v, he, hv⟩ => ⟨v, he, hk _ _ hv⟩
    · exact h.mono fun e w'' ⟨v, he, hv⟩ => ⟨v, he, hk _ _ hv⟩

theorem O.mono {P : Program} {o : Oper} {fr : Fr} {I : World → Prop} {R R' : Value → World → Prop} (h : O P o fr I R) (hr : ∀ v w, R v w → R' v w) : O P o fr I R' :=
  fun ρ w hρ hw => (h ρ w hρ hw).mono hr

/-! ### lists of operations -/

variable {P : Program} {r : Option Nat} {ops : Array Oper} {Q : Exit → Act → World → Prop} {nt : Nat} {D : List Deferred} {fr : Fr} {I : World → Prop}

def TL (P : Program) (r : Option Nat) (ops : Array Oper) (Q : Exit → Act → World → Prop) (nt : Nat) (D : List Deferred) (rest : List Oper) (fr : Fr) (I : World → Prop) : Prop :=
  ∀ a w, Ag nt D fr a → I w → wpListIn (Wd r) 0 P ops Q rest a w

def Xt (_P : Program) (e : Exit) (Q : Exit → Act → World → Prop) (nt : Nat) (D : List Deferred) (fr : Fr) (I : World → Prop) : Prop :=
  ∀ a w, Ag nt D fr a → I w → Q e a w

def T (P : Program) (r : Option Nat) (c : Code) (Q : Exit → Act → World → Prop) (nt : Nat) (D : List Deferred) (fr : Fr) (I : World → Prop) : Prop :=
  ∀ a w, Ag nt D fr a → I w → c.wpIn (Wd r) 0 P Q a w

theorem tl_nil (h : Xt P .normal Q nt D fr I) : TL P r ops Q nt D [] fr I := fun a w ha hw => h a w ha hw

theorem tl_op {d : Nat} {op : Op} {ty : TypeId} {pos : String} {af : Array Edge} {rest : List Oper} {R : Value → World → Prop} (hd : Nat.ble nt d = false) (hn : Oper.noDefer ⟨some d, op, ty, pos, af, none⟩ = true)
    (ho : O P ⟨some d, op, ty, pos, af, none⟩ fr I R) (h : ∀ v, TL P r ops Q nt D rest ((d, v) :: fr) (R v)) : TL P r ops Q nt D (⟨some d, op, ty, pos, af, none⟩ :: rest) fr I := by
  intro a w ha hw
  have hlt : d < nt := by
    rw [← Nat.not_le]; intro hle; rw [← Nat.ble_eq] at hle; rw [hd] at hle; cases hle
  unfold wpListIn
  rw [if_pos (by simp [Region.wanted])]
  exact op1_wpIn hn (ho a.eval w (fun x v hx => ha.eval hx) hw) fun v w' hv => h v _ _ (ha.put hlt v) hv

theorem tl_val {d : Nat} {op : Op} {ty : TypeId} {pos : String} {af : Array Edge} {rest : List Oper} {u : Value} {I' : World → Prop} (ho : O P ⟨some d, op, ty, pos, af, none⟩ fr I (fun v w => v = u ∧ I' w)) (hd : Nat.ble nt d = false) (hn : Oper.noDefer ⟨some d, op, ty, pos, af, none⟩ = true)
    (h : TL P r ops Q nt D rest ((d, u) :: fr) I') : TL P r ops Q nt D (⟨some d, op, ty, pos, af, none⟩ :: rest) fr I :=
  tl_op hd hn ho fun v a w ha hw => by obtain ⟨rfl, hw⟩ := hw; exact h a w ha hw

theorem tl_unit {op : Op} {ty : TypeId} {pos : String} {af : Array Edge} {rest : List Oper} {I' : World → Prop} (ho : O P ⟨none, op, ty, pos, af, none⟩ fr I (fun _ w => I' w)) (hn : Oper.noDefer ⟨none, op, ty, pos, af, none⟩ = true)
    (h : TL P r ops Q nt D rest fr I') : TL P r ops Q nt D (⟨none, op, ty, pos, af, none⟩ :: rest) fr I := by
  intro a w ha hw
  unfold wpListIn
  rw [if_pos (by simp [Region.wanted])]
  exact op1_wpIn hn (ho a.eval w (fun x v hx => ha.eval hx) hw) fun v w' hv => h _ _ ha hv

/-- the guard's word -/
theorem yielded_of {a : Act} {j dj : Nat} {b : Bool} (ha : Ag nt D fr a) (hj : (ops[j]?).bind (·.dst) = some dj) (hb : flook fr dj = some (.bool b)) : yielded ops a.tmps j = some b := by
  have := ha.look dj _ hb
  unfold yielded
  rw [hj]
  simp only [Option.bind_some]
  rw [Array.getD_eq_getD_getElem?] at this
  cases h : a.tmps[dj]? with
  | none => rw [h] at this; simp [undef] at this
  | some x => rw [h] at this; simp at this; subst this; rfl

theorem yielded_undef {a : Act} {j dj : Nat} (ha : Ag nt D fr a) (hj : (ops[j]?).bind (·.dst) = some dj) (hb : flook fr dj = some undef) : yielded ops a.tmps j = none := by
  have := ha.look dj _ hb
  unfold yielded
  rw [hj]
  simp only [Option.bind_some]
  rw [Array.getD_eq_getD_getElem?] at this
  cases h : a.tmps[dj]? with
  | none => rfl
  | some x => rw [h] at this; simp at this; subst this; rfl

theorem Ag.shadow {nt : Nat} {D : List Deferred} {fr : Fr} {a : Act} {t : Nat} {v : Value} (h : Ag nt D fr a) (hl : flook fr t = some v) : Ag nt D ((t, v) :: fr) a :=
  ⟨h.size, h.defers, fun t' v' hl' => by
    rw [flook_cons] at hl'
    by_cases e : t = t'
    · subst e; simp only [if_true, Option.some.injEq] at hl'; subst hl'; exact h.look t v hl
    · rw [if_neg e] at hl'; exact h.look t' v' hl'⟩

theorem tl_guard {d j dj : Nat} {want b : Bool} {op : Op} {ty : TypeId} {pos : String} {af : Array Edge} {rest : List Oper} (hj : (ops[j]?).bind (·.dst) = some dj) (hb : flook fr dj = some (.bool b)) (hd : Nat.ble nt d = false)
    (yes : b = want → TL P r ops Q nt D (⟨some d, op, ty, pos, af, none⟩ :: rest) ((dj, .bool want) :: fr) I) (no : b = !want → TL P r ops Q nt D rest ((d, undef) :: (dj, .bool (!want)) :: fr) I) :
    TL P r ops Q nt D (⟨some d, op, ty, pos, af, some (j, want)⟩ :: rest) fr I := by
  intro a w ha hw
  have hy := yielded_of (ops := ops) ha hj hb
  have hlt : d < nt := by
    rw [← Nat.not_le]; intro hle; rw [← Nat.ble_eq] at hle; rw [hd] at hle; cases hle
  unfold wpListIn
  by_cases e : b = want
  · have h1 := yes e a w (by subst e; exact ha.shadow hb) hw
    unfold wpListIn at h1
    rw [if_pos (by simp [Region.wanted])] at h1
    rw [if_pos (by simp [Region.wanted, hy, e])]
    exact h1
  · rw [if_neg (by simp [Region.wanted, hy, e])]
    have e' : b = !want := by cases b <;> cases want <;> simp_all
    exact ⟨fun _ _ => trivial, no e' _ _ ((by subst e'; exact ha.shadow hb : Ag nt D ((dj, .bool (!want)) :: fr) a).put hlt undef) hw⟩

theorem tl_guard_yes {j dj : Nat} {d : Option Nat} {want : Bool} {op : Op} {ty : TypeId} {pos : String} {af : Array Edge} {rest : List Oper} (hj : (ops[j]?).bind (·.dst) = some dj) (hb : flook fr dj = some (.bool want))
    (yes : TL P r ops Q nt D (⟨d, op, ty, pos, af, none⟩ :: rest) fr I) : TL P r ops Q nt D (⟨d, op, ty, pos, af, some (j, want)⟩ :: rest) fr I := by
  intro a w ha hw
  have hy := yielded_of (ops := ops) ha hj hb
  have h1 := yes a w ha hw
  unfold wpListIn at h1 ⊢
  rw [if_pos (by simp [Region.wanted])] at h1
  rw [if_pos (by simp [Region.wanted, hy])]
  exact h1

theorem tl_guard_no {d j dj : Nat} {want b : Bool} {op : Op} {ty : TypeId} {pos : String} {af : Array Edge} {rest : List Oper} (hj : (ops[j]?).bind (·.dst) = some dj) (hb : flook fr dj = some (.bool b)) (hw : (b == want) = false) (hd : Nat.ble nt d = false)
    (no : TL P r ops Q nt D rest ((d, undef) :: fr) I) : TL P r ops Q nt D (⟨some d, op, ty, pos, af, some (j, want)⟩ :: rest) fr I := by
  intro a w ha hw'
  have hy := yielded_of (ops := ops) ha hj hb
  have hlt : d < nt := by
    rw [← Nat.not_le]; intro hle; rw [← Nat.ble_eq] at hle; rw [hd] at hle; cases hle
  unfold wpListIn
  rw [if_neg (by simp only [Region.wanted, hy]; intro h; cases b <;> cases want <;> simp_all)]
  exact ⟨fun _ _ => trivial, no _ _ (ha.put hlt undef) hw'⟩

theorem tl_guard_undef {d j dj : Nat} {want : Bool} {op : Op} {ty : TypeId} {pos : String} {af : Array Edge} {rest : List Oper} (hj : (ops[j]?).bind (·.dst) = some dj) (hb : flook fr dj = some undef) (hd : Nat.ble nt d = false)
    (no : TL P r ops Q nt D rest ((d, undef) :: fr) I) : TL P r ops Q nt D (⟨some d, op, ty, pos, af, some (j, want)⟩ :: rest) fr I := by
  intro a w ha hw
  have hy := yielded_undef (ops := ops) ha hj hb
  have hlt : d < nt := by
    rw [← Nat.not_le]; intro hle; rw [← Nat.ble_eq] at hle; rw [hd] at hle; cases hle
  unfold wpListIn
  rw [if_neg (by simp [Region.wanted, hy])]
  exact ⟨fun _ _ => trivial, no _ _ (ha.put hlt undef) hw⟩

/-- forget slots, turn what is known of the world -/
theorem tl_weak {rest : List Oper} {fr' : Fr} {I' : World → Prop} (hf : fle fr' fr) (hI : ∀ w, I w → I' w) (h : TL P r ops Q nt D rest fr' I') : TL P r ops Q nt D rest fr I :=
  fun a w ha hw => h a w (ha.weak hf) (hI w hw)

theorem tl_imp {rest : List Oper} {I' : World → Prop} (hI : ∀ w, I w → I' w) (h : TL P r ops Q nt D rest fr I') : TL P r ops Q nt D rest fr I :=
  fun a w ha hw => h a w ha (hI w hw)

/-! ### code -/

theorem t_weak {c : Code} {fr' : Fr} {I' : World → Prop} (hf : fle fr' fr) (hI : ∀ w, I w → I' w) (h : T P r c Q nt D fr' I') : T P r c Q nt D fr I :=
  fun a w ha hw => h a w (ha.weak hf) (hI w hw)

theorem xt_weak {e : Exit} {fr' : Fr} {I' : World → Prop} (hf : fle fr' fr) (hI : ∀ w, I w → I' w) (h : Xt P e Q nt D fr' I') : Xt P e Q nt D fr I :=
  fun a w ha hw => h a w (ha.weak hf) (hI w hw)

theorem t_region {id : Nat} {l : List Oper} (h : TL P r l.toArray Q nt D l fr I) : T P r (.region id l.toArray false) Q nt D fr I :=
  fun a w ha hw => wpIn_region_lit (h a w ha hw)

def Kt (P : Program) (r : Option Nat) (y : Code) (Q : Exit → Act → World → Prop) : Exit → Act → World → Prop := Exit.then (fun a w => y.wpIn (Wd r) 0 P Q a w) Q

theorem t_seq {x y : Code} (h : T P r x (Kt P r y Q) nt D fr I) : T P r (.seq x y) Q nt D fr I :=
  fun a w ha hw => wpIn_seq (h a w ha hw)

theorem xt_then {y : Code} (h : T P r y Q nt D fr I) : Xt P .normal (Kt P r y Q) nt D fr I := fun a w ha hw => h a w ha hw
theorem xt_then_ret {y : Code} (h : Xt P .ret Q nt D fr I) : Xt P .ret (Kt P r y Q) nt D fr I := fun a w ha hw => h a w ha hw
theorem xt_then_exit {y : Code} {id : Nat} (h : Xt P (.exit id) Q nt D fr I) : Xt P (.exit id) (Kt P r y Q) nt D fr I := fun a w ha hw => h a w ha hw
theorem xt_blk {id : Nat} (h : Xt P .normal Q nt D fr I) : Xt P .normal (Exit.inBlock id Q) nt D fr I := fun a w ha hw => h a w ha hw
theorem xt_blk_ret {id : Nat} (h : Xt P .ret Q nt D fr I) : Xt P .ret (Exit.inBlock id Q) nt D fr I := fun a w ha hw => h a w ha hw
theorem xt_blk_exit {id : Nat} (h : Xt P .normal Q nt D fr I) : Xt P (.exit id) (Exit.inBlock id Q) nt D fr I := fun a w ha hw => by
  have := h a w ha hw
  simpa [Exit.inBlock] using this
theorem xt_blk_other {id id' : Nat} (hne : Nat.beq id' id = false) (h : Xt P (.exit id') Q nt D fr I) : Xt P (.exit id') (Exit.inBlock id Q) nt D fr I := fun a w ha hw => by
  have := h a w ha hw
  have hne' : id' ≠ id := by intro e; subst e; simp at hne
  simpa [Exit.inBlock, hne'] using this

theorem t_block {id : Nat} {c : Code} (h : T P r c (Exit.inBlock id Q) nt D fr I) : T P r (.block id c) Q nt D fr I := fun a w ha hw => wpIn_block (h a w ha hw)
theorem t_skip (h : Xt P .normal Q nt D fr I) : T P r .skip Q nt D fr I := fun a w ha hw => wpIn_skip (h a w ha hw)
theorem t_ret (h : Xt P .ret Q nt D fr I) : T P r .ret Q nt D fr I := fun a w ha hw => wpIn_ret (h a w ha hw)
theorem t_exit {id : Nat} (h : Xt P (.exit id) Q nt D fr I) : T P r (.exit id) Q nt D fr I := fun a w ha hw => wpIn_exit (h a w ha hw)
theorem t_label {l : Nat} (h : Xt P .normal Q nt D fr I) : T P r (.label l) Q nt D fr I := fun a w ha hw => wpIn_label (h a w ha hw)
theorem t_cond {c : Operand} {x y : Code} {b : Bool} (hc : fev fr c = some (.bool b)) (ht : b = true → T P r x Q nt D fr I) (hf : b = false → T P r y Q nt D fr I) : T P r (.cond c x y) Q nt D fr I :=
  fun a w ha hw => wpIn_cond_split (ha.eval hc) (fun e => ht e a w ha hw) (fun e => hf e a w ha hw)

theorem t_loop {α : Type} {c : Code} (Inv : α → Fr) (J : α → World → Prop) (μ : α → Nat) (x0 : α) (hf : fle (Inv x0) fr) (hJ : ∀ w, I w → J x0 w)
    (hb : ∀ x, T P r c (Exit.then (fun a w => ∃ x', Ag nt D (Inv x') a ∧ J x' w ∧ μ x' < μ x) Q) nt D (Inv x) (J x)) : T P r (.loop c) Q nt D fr I := by
  intro a w ha hw
  classical
  let G : Nat → Act → World → Prop := fun m a w => ∃ x, Ag nt D (Inv x) a ∧ J x w ∧ μ x = m
  let M : Act → World → Nat := fun a w => if h : ∃ m, G m a w ∧ ∀ m', G m' a w → m ≤ m' then h.choose else 0
  have least : ∀ a w, (∃ x, Ag nt D (Inv x) a ∧ J x w) → G (M a w) a w ∧ ∀ m', G m' a w → M a w ≤ m' := by
    rintro a w ⟨x, hx, hj⟩
    have hex : ∃ m, G m a w ∧ ∀ m', G m' a w → m ≤ m' := by
      have : ∀ k, ∀ m, m ≤ k → G m a w → ∃ m, G m a w ∧ ∀ m', G m' a w → m ≤ m' := by
        intro k
        induction k with
        | zero => intro m hm hg; exact ⟨m, hg, fun m' _ => by omega⟩
        | succ k ih =>
          intro m hm hg
          by_cases h : ∃ m', m' < m ∧ G m' a w
          · obtain ⟨m', hlt, hg'⟩ := h
            exact ih m' (by omega) hg'
          · exact ⟨m, hg, fun m' hg' => by
              rcases Nat.lt_or_ge m' m with hlt | hge
              · exact absurd ⟨m', hlt, hg'⟩ h
              · exact hge⟩
      exact this (μ x) (μ x) (Nat.le_refl _) ⟨x, hx, hj, rfl⟩
    have hM : M a w = hex.choose := dif_pos hex
    rw [hM]; exact hex.choose_spec
  refine wpIn_loop (fun a w => ∃ x, Ag nt D (Inv x) a ∧ J x w) M ⟨x0, ha.weak hf, hJ w hw⟩ ?_
  intro a w hI
  obtain ⟨⟨x, hx, hj, hm⟩, _⟩ := least a w hI
  refine wpIn_mono (hb x a w hx hj) ?_
  intro e a' w' hq
  cases e with
  | normal =>
    obtain ⟨x', hx', hj', hlt⟩ := hq
    refine ⟨⟨x', hx', hj'⟩, ?_⟩
    have := (least a' w' ⟨x', hx', hj'⟩).2 (μ x') ⟨x', hx', hj', rfl⟩
    omega
  | _ => exact hq

theorem xt_round {α : Type} {Inv : α → Fr} {J : α → World → Prop} {μ : α → Nat} {x : α} (x' : α) (hf : fle (Inv x') fr) (hJ : ∀ w, I w → J x' w) (hm : μ x' < μ x) :
    Xt P .normal (Exit.then (fun a w => ∃ x', Ag nt D (Inv x') a ∧ J x' w ∧ μ x' < μ x) Q) nt D fr I :=
  fun _ _ ha hw => ⟨x', ha.weak hf, hJ _ hw, hm⟩
theorem xt_round_exit {K : Act → World → Prop} {id : Nat} (h : Xt P (.exit id) Q nt D fr I) : Xt P (.exit id) (Exit.then K Q) nt D fr I := fun a w ha hw => h a w ha hw
theorem xt_round_ret {K : Act → World → Prop} (h : Xt P .ret Q nt D fr I) : Xt P .ret (Exit.then K Q) nt D fr I := fun a w ha hw => h a w ha hw

/-! ### calls -/

def fargs : Nat → List Value → Fr
  | _, [] => []
  | k, v :: vs => (k, v) :: fargs (k + 1) vs

theorem fargs_look : ∀ (vs : List Value) (k t : Nat) (v : Value), flook (fargs k vs) t = some v → k ≤ t ∧ vs[t - k]? = some v
  | [], _, _, _, h => by simp [fargs, flook] at h
  | u :: vs, k, t, v, h => by
    simp only [fargs, flook_cons] at h
    by_cases e : k = t
    · subst e; simp at h; subst h; simp
    · rw [if_neg e] at h
      obtain ⟨h1, h2⟩ := fargs_look vs (k + 1) t v h
      exact ⟨by omega, by rw [show t - k = (t - (k + 1)) + 1 by omega, List.getElem?_cons_succ]; exact h2⟩

theorem calls_T {f : FuncId} {fn : Func} {c : Code} {vs : List Value} {w : World} {R : Ending → World → Prop} (hf : P.funcs[f]? = some fn) (hb : fn.body = some c) (hn : fn.ntmps = nt) (hs : Nat.ble vs.length nt = true)
    (h : T P none c (bodyPost P fn R) nt [] (fargs 0 vs) (· = w)) : Calls P f vs.toArray w R := by
  have hs' : vs.length ≤ nt := by simpa [Nat.ble_eq] using hs
  refine (callsIn_wide (n := 0)).1 (callsIn_of_wp hf hb trivial (h _ w ⟨?_, rfl, ?_⟩ rfl))
  · simp [hn]; omega
  · intro t v hl
    obtain ⟨_, h2⟩ := fargs_look vs 0 t v hl
    simp only [Nat.sub_zero] at h2
    simp only [Array.getD_eq_getD_getElem?]
    have hlt : t < vs.length := (List.getElem?_eq_some_iff.1 h2).1
    rw [Array.getElem?_append_left (by simpa using hlt)]
    simp [h2]

theorem xt_ret_any {fn : Func} {R : Ending → World → Prop} (h : ∀ a w, Ag nt [] fr a → I w → ∃ v, (results fn a.tmps).run P w = .ok v w ∧ R (.returned v) w) : Xt P .ret (bodyPost P fn R) nt [] fr I :=
  fun a w ha hw => ⟨ha.defers, h a w ha hw⟩
theorem xt_end_any {fn : Func} {R : Ending → World → Prop} (h : ∀ a w, Ag nt [] fr a → I w → ∃ v, (results fn a.tmps).run P w = .ok v w ∧ R (.returned v) w) : Xt P .normal (bodyPost P fn R) nt [] fr I :=
  fun a w ha hw => ⟨ha.defers, h a w ha hw⟩

theorem xt_ret1 {fn : Func} {R : Ending → World → Prop} {t : Tmp} {v : Value} (hr : fn.results = #[.tmp t]) (hv : flook fr t = some v) (h : ∀ w, I w → R (.returned v) w) : Xt P .ret (bodyPost P fn R) nt [] fr I :=
  xt_ret_any fun a w ha hw => ⟨_, results_tmp hr _ _ _, by rw [ha.look t v hv]; exact h w hw⟩
theorem xt_ret2 {fn : Func} {R : Ending → World → Prop} {t u : Tmp} {v x : Value} (hr : fn.results = #[.tmp t, .tmp u]) (hv : flook fr t = some v) (hx : flook fr u = some x) (h : ∀ w, I w → R (.returned (.tuple #[v, x])) w) : Xt P .ret (bodyPost P fn R) nt [] fr I :=
  xt_ret_any fun a w ha hw => ⟨_, results_tmp2 hr _ _ _, by rw [ha.look t v hv, ha.look u x hx]; exact h w hw⟩
theorem xt_end0 {fn : Func} {R : Ending → World → Prop} (hr : fn.results = #[]) (h : ∀ w, I w → R (.returned (.tuple #[])) w) : Xt P .normal (bodyPost P fn R) nt [] fr I :=
  xt_end_any fun _ w _ hw => ⟨_, results_none hr _ _ _, h w hw⟩
theorem xt_ret0 {fn : Func} {R : Ending → World → Prop} (hr : fn.results = #[]) (h : ∀ w, I w → R (.returned (.tuple #[])) w) : Xt P .ret (bodyPost P fn R) nt [] fr I :=
  xt_ret_any fun _ w _ hw => ⟨_, results_none hr _ _ _, h w hw⟩

end Go.Proofs.Ytbgolbkolcmldaa
