/-
  A small logic of triples over the kit's 'wpIn' at the wide fence: a frame is a list of known slots, a world is known by a predicate.
-/
import Derived.RangeFuncNested
import Derived.RangeFuncBound
import Derived.RangeFuncCalls
import Derived.RangeFuncLeaves
import Derived.WalkKit
import Derived.OrdersIn
import Derived.KernelRfl
import Derived.Laws.AppendOwn
import Derived.Laws.IdiomCopy
import Derived.Deep.MidRow
namespace Go.Proofs.YtpbinloeemebkaaGreat
open Go.RowKit

/-- the wide fence, in a round or not -/
abbrev Wd (r : Option Nat) : Fence := { Fence.wide with round := r }

abbrev Fr := List (Nat × Value)

def flook : Fr → Nat → Option Value
  | [], _ => none
  | (i, v) :: r, t => bif Nat.beq i t then some v else flook r t

def fev (fr : Fr) : Operand → Option Value
  | .tmp t => flook fr t
  | .const v => some v
  | .global g => some (.pointer (some ⟨g, 0, none⟩))
  | .func f => some (.func (.func f) #[] #[])

def fevs (fr : Fr) : List Operand → Option (List Value)
  | [] => some []
  | x :: xs => match fev fr x with
    | none => none
    | some v => match fevs fr xs with
      | none => none
      | some vs => some (v :: vs)

structure Ag (nt : Nat) (D : List Deferred) (fr : Fr) (a : Act) : Prop where
  size : a.tmps.size = nt
  defers : a.defers = D
  look : ∀ t v, flook fr t = some v → a.tmps.getD t undef = v

theorem flook_cons (i : Nat) (v : Value) (fr : Fr) (t : Nat) : flook ((i, v) :: fr) t = if i = t then some v else flook fr t := by
  simp only [flook]
  by_cases h : i = t
  · subst h; simp
  · have : Nat.beq i t = false := by
      rw [← Bool.not_eq_true, Nat.beq_eq]; exact h
    simp [h, this]

theorem Ag.put {nt : Nat} {D : List Deferred} {fr : Fr} {a : Act} {d : Nat} (h : Ag nt D fr a) (hd : d < nt) (v : Value) : Ag nt D ((d, v) :: fr) (a.put (some d) v) := by
  refine ⟨by simp [Act.put, h.size], by simp [Act.put, h.defers], fun t u hu => ?_⟩
  rw [flook_cons] at hu
  have hs := h.size
  by_cases e : d = t
  · subst e
    simp only [if_true, Option.some.injEq] at hu
    subst hu
    simp [Act.put, hs, hd]
  · rw [if_neg e] at hu
    have := h.look t u hu
    simp only [Act.put]
    rw [← this]
    simp [Array.getElem?_setIfInBounds_ne, e]

theorem Ag.putNone {nt : Nat} {D : List Deferred} {fr : Fr} {a : Act} (h : Ag nt D fr a) (v : Value) : Ag nt D fr (a.put none v) := h

theorem Ag.eval {nt : Nat} {D : List Deferred} {fr : Fr} {a : Act} (h : Ag nt D fr a) {x : Operand} {v : Value} (hx : fev fr x = some v) : a.eval x = v := by
  cases x with
  | tmp t => exact h.look t v hx
  | const u => simpa [fev, Act.eval] using hx
  | global g => simpa [fev, Act.eval] using hx
  | func f => simpa [fev, Act.eval] using hx

/-- all that one list knows, another one knows -/
def fle : Fr → Fr → Prop
  | [], _ => True
  | (t, v) :: r, fr => flook fr t = some v ∧ fle r fr

theorem fle_spec {fr' fr : Fr} (h : fle fr' fr) {t : Nat} {v : Value} (hl : flook fr' t = some v) : flook fr t = some v := by
  induction fr' with
  | nil => simp [flook] at hl
  | cons p r ih =>
    obtain ⟨i, u⟩ := p
    rw [flook_cons] at hl
    by_cases e : i = t
    · subst e; simp only [if_true, Option.some.injEq] at hl; subst hl; exact h.1
    · rw [if_neg e] at hl; exact ih h.2 hl

theorem Ag.weak {nt : Nat} {D : List Deferred} {fr fr' : Fr} {a : Act} (h : Ag nt D fr a) (hf : fle fr' fr) : Ag nt D fr' a :=
  ⟨h.size, h.defers, fun t v hl => h.look t v (fle_spec hf hl)⟩

/-! ### one operation -/

def Op1 (P : Program) (o : Oper) (ρ : Operand → Value) (w : World) (K : Value → World → Prop) : Prop :=
  match (execOp ρ o).run P w with
  | .ok (.value v) w' => K v w'
  | .ok .skip w' => K undef w'
  | .ok (.enter f args) w' => Calls P f args w' fun e w'' => ∃ v, e = .returned v ∧ K v w''
  | .ok (.round l f tmps assign body) w' => RoundIn Fence.wide 0 P l f tmps assign body w' fun e w'' => ∃ v, e = .returned v ∧ K v w''
  | _ => False

def Oper.noDefer (o : Oper) : Bool := match o.op with | .defer _ => false | .select .. => false | _ => true

theorem noDefer_spec {o : Oper} (h : Oper.noDefer o = true) : ∀ c, o.op ≠ .defer c := by
  intro c e; simp [Oper.noDefer, e] at h

theorem callsIn_any {r : Option Nat} {n : Nat} {P : Program} {f : FuncId} {args : Array Value} {w : World} {R : Ending → World → Prop} (h : Calls P f args w R) : CallsIn (Wd r) n P f args w R := by
  have := (callsIn_wide (n := n)).2 h
  exact this

theorem roundIn_any {r : Option Nat} {n m : Nat} {P : Program} {l : Nat} {f : FuncId} {tmps : Array Value} {assign body : Code} {w : World} {R : Ending → World → Prop}
    (h : RoundIn Fence.wide m P l f tmps assign body w R) : RoundIn (Wd r) n P l f tmps assign body w R :=
  ⟨trivial, fun c cs _ => h.2 c cs (room_wide _)⟩

theorem op1_wpIn {P : Program} {o : Oper} {a : Act} {w : World} {K : Value → World → Prop} {r : Option Nat} {n : Nat} {next : Act → World → Prop} {Q : Exit → Act → World → Prop}
    (hd : Oper.noDefer o = true) (h : Op1 P o a.eval w K) (hk : ∀ v w', K v w' → next (a.put o.dst v) w') : o.wpIn (Wd r) n P a w next Q := by
  refine ⟨fun _ _ => trivial, ?_⟩
  rw [show o.semAt (Wd r).round a.eval = execOp a.eval o from Oper.semAt_eq _ _ _ (noDefer_spec hd)]
  unfold Op1 at h
  generalize (execOp a.eval o).run P w = x at h
  cases x with
  | halt _ _ => exact h.elim
  | ok x w' =>
    cases x <;> simp only at h <;> first | exact h.elim | skip
    · exact hk _ _ h
    · exact hk _ _ h
    · rename_i f args
      refine ⟨fun hh => by simp [Fence.wide] at hh, callsIn_any (h.mono ?_)⟩
      rintro e w'' ⟨v, rfl, hv⟩
      exact hk _ _ hv
    · refine ⟨fun hh => by simp [Fence.wide] at hh, roundIn_any (h.mono ?_)⟩
      rintro e w'' ⟨v, rfl, hv⟩
      exact hk _ _ hv

/-- what one operation does, at whatever frame that has these slots -/
def O (P : Program) (o : Oper) (fr : Fr) (I : World → Prop) (R : Value → World → Prop) : Prop :=
  ∀ ρ w, (∀ x v, fev fr x = some v → ρ x = v) → I w → Op1 P o ρ w R

theorem Op1.mono {P : Program} {o : Oper} {ρ : Operand → Value} {w : World} {K K' : Value → World → Prop} (h : Op1 P o ρ w K) (hk : ∀ v w', K v w' → K' v w') : Op1 P o ρ w K' := by
  unfold Op1 at *
  generalize (execOp ρ o).run P w = x at *
  cases x with
  | halt _ _ => exact h
  | ok x w' =>
    cases x <;> simp only at h ⊢ <;> first | exact hk _ _ h | exact h | skip
    · exact h.mono fun e w'' ⟨v, he, hv⟩ => ⟨v, he, hk _ _ hv⟩
    · exact h.mono fun e w'' ⟨v, he, hv⟩ => ⟨v, he, hk _ _ hv⟩

theorem O.mono {P : Program} {o : Oper} {fr : Fr} {I : World → Prop} {R R' : Value → World → Prop} (h : O P o fr I R) (hr : ∀ v w, R v w → R' v w) : O P o fr I R' :=
  fun ρ w hρ hw => (h ρ w hρ hw).mono hr

/-! ### lists of operations -/

variable {P : Program} {r : Option Nat} {ops : Array Oper} {Q : Exit → Act → World → Prop} {nt : Nat} {D : List Deferred} {fr : Fr} {I : World → Prop}

def TL (P : Program) (r : Option Nat) (ops : Array Oper) (Q : Exit → Act → World → Prop) (nt : Nat) (D : List Deferred) (rest : List Oper) (fr : Fr) (I : World → Prop) : Prop :=
  ∀ a w, Ag nt D fr a → I w → wpListIn (Wd r) 0 P ops Q rest a w

def Xt (_P : Program) (e : Exit) (Q : Exit → Act → World → Prop) (nt : Nat) (D : List Deferred) (fr : Fr) (I : World → Prop) : Prop :=
  ∀ a w, Ag nt D fr a → I w → Q e a w

def T (P : Program) (r : Option Nat) (c : Code) (Q : Exit → Act → World → Prop) (nt : Nat) (D : List Deferred) (fr : Fr) (I : World → Prop) : Prop :=
  ∀ a w, Ag nt D fr a → I w → c.wpIn (Wd r) 0 P Q a w

theorem tl_nil (h : Xt P .normal Q nt D fr I) : TL P r ops Q nt D [] fr I := fun a w ha hw => h a w ha hw

theorem tl_op {d : Nat} {op : Op} {ty : TypeId} {pos : String} {af : Array Edge} {rest : List Oper} {R : Value → World → Prop} (hd : Nat.ble nt d = false) (hn : Oper.noDefer ⟨some d, op, ty, pos, af, none⟩ = true)
    (ho : O P ⟨some d, op, ty, pos, af, none⟩ fr I R) (h : ∀ v, TL P r ops Q nt D rest ((d, v) :: fr) (R v)) : TL P r ops Q nt D (⟨some d, op, ty, pos, af, none⟩ :: rest) fr I := by
  intro a w ha hw
  have hlt : d < nt := by
    rw [← Nat.not_le]; intro hle; rw [← Nat.ble_eq] at hle; rw [hd] at hle; cases hle
  unfold wpListIn
  rw [if_pos (by simp [Region.wanted])]
  exact op1_wpIn hn (ho a.eval w (fun x v hx => ha.eval hx) hw) fun v w' hv => h v _ _ (ha.put hlt v) hv

theorem tl_val {d : Nat} {op : Op} {ty : TypeId} {pos : String} {af : Array Edge} {rest : List Oper} {u : Value} {I' : World → Prop} (ho : O P ⟨some d, op, ty, pos, af, none⟩ fr I (fun v w => v = u ∧ I' w)) (hd : Nat.ble nt d = false) (hn : Oper.noDefer ⟨some d, op, ty, pos, af, none⟩ = true)
    (h : TL P r ops Q nt D rest ((d, u) :: fr) I') : TL P r ops Q nt D (⟨some d, op, ty, pos, af, none⟩ :: rest) fr I :=
  tl_op hd hn ho fun v a w ha hw => by obtain ⟨rfl, hw⟩ := hw; exact h a w ha hw

theorem tl_unit {op : Op} {ty : TypeId} {pos : String} {af : Array Edge} {rest : List Oper} {I' : World → Prop} (ho : O P ⟨none, op, ty, pos, af, none⟩ fr I (fun _ w => I' w)) (hn : Oper.noDefer ⟨none, op, ty, pos, af, none⟩ = true)
    (h : TL P r ops Q nt D rest fr I') : TL P r ops Q nt D (⟨none, op, ty, pos, af, none⟩ :: rest) fr I := by
  intro a w ha hw
  unfold wpListIn
  rw [if_pos (by simp [Region.wanted])]
  exact op1_wpIn hn (ho a.eval w (fun x v hx => ha.eval hx) hw) fun v w' hv => h _ _ ha hv

/-- the guard's word -/
theorem yielded_of {a : Act} {j dj : Nat} {b : Bool} (ha : Ag nt D fr a) (hj : (ops[j]?).bind (·.dst) = some dj) (hb : flook fr dj = some (.bool b)) : yielded ops a.tmps j = some b := by
  have := ha.look dj _ hb
  unfold yielded
  rw [hj]
  simp only [Option.bind_some]
  rw [Array.getD_eq_getD_getElem?] at this
  cases h : a.tmps[dj]? with
  | none => rw [h] at this; simp [undef] at this
  | some x => rw [h] at this; simp at this; subst this; rfl

theorem yielded_undef {a : Act} {j dj : Nat} (ha : Ag nt D fr a) (hj : (ops[j]?).bind (·.dst) = some dj) (hb : flook fr dj = some undef) : yielded ops a.tmps j = none := by
  have := ha.look dj _ hb
  unfold yielded
  rw [hj]
  simp only [Option.bind_some]
  rw [Array.getD_eq_getD_getElem?] at this
  cases h : a.tmps[dj]? with
  | none => rfl
  | some x => rw [h] at this; simp at this; subst this; rfl

theorem Ag.shadow {nt : Nat} {D : List Deferred} {fr : Fr} {a : Act} {t : Nat} {v : Value} (h : Ag nt D fr a) (hl : flook fr t = some v) : Ag nt D ((t, v) :: fr) a :=
  ⟨h.size, h.defers, fun t' v' hl' => by
    rw [flook_cons] at hl'
    by_cases e : t = t'
    · subst e; simp only [if_true, Option.some.injEq] at hl'; subst hl'; exact h.look t v hl
    · rw [if_neg e] at hl'; exact h.look t' v' hl'⟩

theorem tl_guard {d j dj : Nat} {want b : Bool} {op : Op} {ty : TypeId} {pos : String} {af : Array Edge} {rest : List Oper} (hj : (ops[j]?).bind (·.dst) = some dj) (hb : flook fr dj = some (.bool b)) (hd : Nat.ble nt d = false)
    (yes : b = want → TL P r ops Q nt D (⟨some d, op, ty, pos, af, none⟩ :: rest) ((dj, .bool want) :: fr) I) (no : b = !want → TL P r ops Q nt D rest ((d, undef) :: (dj, .bool (!want)) :: fr) I) :
    TL P r ops Q nt D (⟨some d, op, ty, pos, af, some (j, want)⟩ :: rest) fr I := by
  intro a w ha hw
  have hy := yielded_of (ops := ops) ha hj hb
  have hlt : d < nt := by
    rw [← Nat.not_le]; intro hle; rw [← Nat.ble_eq] at hle; rw [hd] at hle; cases hle
  unfold wpListIn
  by_cases e : b = want
  · have h1 := yes e a w (by subst e; exact ha.shadow hb) hw
    unfold wpListIn at h1
    rw [if_pos (by simp [Region.wanted])] at h1
    rw [if_pos (by simp [Region.wanted, hy, e])]
    exact h1
  · rw [if_neg (by simp [Region.wanted, hy, e])]
    have e' : b = !want := by cases b <;> cases want <;> simp_all
    exact ⟨fun _ _ => trivial, no e' _ _ ((by subst e'; exact ha.shadow hb : Ag nt D ((dj, .bool (!want)) :: fr) a).put hlt undef) hw⟩

theorem tl_guard_yes {j dj : Nat} {d : Option Nat} {want : Bool} {op : Op} {ty : TypeId} {pos : String} {af : Array Edge} {rest : List Oper} (hj : (ops[j]?).bind (·.dst) = some dj) (hb : flook fr dj = some (.bool want))
    (yes : TL P r ops Q nt D (⟨d, op, ty, pos, af, none⟩ :: rest) fr I) : TL P r ops Q nt D (⟨d, op, ty, pos, af, some (j, want)⟩ :: rest) fr I := by
  intro a w ha hw
  have hy := yielded_of (ops := ops) ha hj hb
  have h1 := yes a w ha hw
  unfold wpListIn at h1 ⊢
  rw [if_pos (by simp [Region.wanted])] at h1
  rw [if_pos (by simp [Region.wanted, hy])]
  exact h1

theorem tl_guard_no {d j dj : Nat} {want b : Bool} {op : Op} {ty : TypeId} {pos : String} {af : Array Edge} {rest : List Oper} (hj : (ops[j]?).bind (·.dst) = some dj) (hb : flook fr dj = some (.bool b)) (hw : (b == want) = false) (hd : Nat.ble nt d = false)
    (no : TL P r ops Q nt D rest ((d, undef) :: fr) I) : TL P r ops Q nt D (⟨some d, op, ty, pos, af, some (j, want)⟩ :: rest) fr I := by
  intro a w ha hw'
  have hy := yielded_of (ops := ops) ha hj hb
  have hlt : d < nt := by
    rw [← Nat.not_le]; intro hle; rw [← Nat.ble_eq] at hle; rw [hd] at hle; cases hle
  unfold wpListIn
  rw [if_neg (by simp only [Region.wanted, hy]; intro h; cases b <;> cases want <;> simp_all)]
  exact ⟨fun _ _ => trivial, no _ _ (ha.put hlt undef) hw'⟩

theorem tl_guard_undef {d j dj : Nat} {want : Bool} {op : Op} {ty : TypeId} {pos : String} {af : Array Edge} {rest : List Oper} (hj : (ops[j]?).bind (·.dst) = some dj) (hb : flook fr dj = some undef) (hd : Nat.ble nt d = false)
    (no : TL P r ops Q nt D rest ((d, undef) :: fr) I) : TL P r ops Q nt D (⟨some d, op, ty, pos, af, some (j, want)⟩ :: rest) fr I := by
  intro a w ha hw
  have hy := yielded_undef (ops := ops) ha hj hb
  have hlt : d < nt := by
    rw [← Nat.not_le]; intro hle; rw [← Nat.ble_eq] at hle; rw [hd] at hle; cases hle
  unfold wpListIn
  rw [if_neg (by simp [Region.wanted, hy])]
  exact ⟨fun _ _ => trivial, no _ _ (ha.put hlt undef) hw⟩

/-- forget slots, turn what is known of the world -/
theorem tl_weak {rest : List Oper} {fr' : Fr} {I' : World → Prop} (hf : fle fr' fr) (hI : ∀ w, I w → I' w) (h : TL P r ops Q nt D rest fr' I') : TL P r ops Q nt D rest fr I :=
  fun a w ha hw => h a w (ha.weak hf) (hI w hw)

theorem tl_imp {rest : List Oper} {I' : World → Prop} (hI : ∀ w, I w → I' w) (h : TL P r ops Q nt D rest fr I') : TL P r ops Q nt D rest fr I :=
  fun a w ha hw => h a w ha (hI w hw)

/-! ### code -/

theorem t_weak {c : Code} {fr' : Fr} {I' : World → Prop} (hf : fle fr' fr) (hI : ∀ w, I w → I' w) (h : T P r c Q nt D fr' I') : T P r c Q nt D fr I :=
  fun a w ha hw => h a w (ha.weak hf) (hI w hw)

theorem xt_weak {e : Exit} {fr' : Fr} {I' : World → Prop} (hf : fle fr' fr) (hI : ∀ w, I w → I' w) (h : Xt P e Q nt D fr' I') : Xt P e Q nt D fr I :=
  fun a w ha hw => h a w (ha.weak hf) (hI w hw)

theorem t_region {id : Nat} {l : List Oper} (h : TL P r l.toArray Q nt D l fr I) : T P r (.region id l.toArray false) Q nt D fr I :=
  fun a w ha hw => wpIn_region_lit (h a w ha hw)

def Kt (P : Program) (r : Option Nat) (y : Code) (Q : Exit → Act → World → Prop) : Exit → Act → World → Prop := Exit.then (fun a w => y.wpIn (Wd r) 0 P Q a w) Q

theorem t_seq {x y : Code} (h : T P r x (Kt P r y Q) nt D fr I) : T P r (.seq x y) Q nt D fr I :=
  fun a w ha hw => wpIn_seq (h a w ha hw)

theorem xt_then {y : Code} (h : T P r y Q nt D fr I) : Xt P .normal (Kt P r y Q) nt D fr I := fun a w ha hw => h a w ha hw
theorem xt_then_ret {y : Code} (h : Xt P .ret Q nt D fr I) : Xt P .ret (Kt P r y Q) nt D fr I := fun a w ha hw => h a w ha hw
theorem xt_then_exit {y : Code} {id : Nat} (h : Xt P (.exit id) Q nt D fr I) : Xt P (.exit id) (Kt P r y Q) nt D fr I := fun a w ha hw => h a w ha hw
theorem xt_blk {id : Nat} (h : Xt P .normal Q nt D fr I) : Xt P .normal (Exit.inBlock id Q) nt D fr I := fun a w ha hw => h a w ha hw
theorem xt_blk_ret {id : Nat} (h : Xt P .ret Q nt D fr I) : Xt P .ret (Exit.inBlock id Q) nt D fr I := fun a w ha hw => h a w ha hw
theorem xt_blk_exit {id : Nat} (h : Xt P .normal Q nt D fr I) : Xt P (.exit id) (Exit.inBlock id Q) nt D fr I := fun a w ha hw => by
  have := h a w ha hw
  simpa [Exit.inBlock] using this
theorem xt_blk_other {id id' : Nat} (hne : Nat.beq id' id = false) (h : Xt P (.exit id') Q nt D fr I) : Xt P (.exit id') (Exit.inBlock id Q) nt D fr I := fun a w ha hw => by
  have := h a w ha hw
  have hne' : id' ≠ id := by intro e; subst e; simp at hne
  simpa [Exit.inBlock, hne'] using this

theorem t_block {id : Nat} {c : Code} (h : T P r c (Exit.inBlock id Q) nt D fr I) : T P r (.block id c) Q nt D fr I := fun a w ha hw => wpIn_block (h a w ha hw)
theorem t_skip (h : Xt P .normal Q nt D fr I) : T P r .skip Q nt D fr I := fun a w ha hw => wpIn_skip (h a w ha hw)
theorem t_ret (h : Xt P .ret Q nt D fr I) : T P r .ret Q nt D fr I := fun a w ha hw => wpIn_ret (h a w ha hw)
theorem t_exit {id : Nat} (h : Xt P (.exit id) Q nt D fr I) : T P r (.exit id) Q nt D fr I := fun a w ha hw => wpIn_exit (h a w ha hw)
theorem t_label {l : Nat} (h : Xt P .normal Q nt D fr I) : T P r (.label l) Q nt D fr I := fun a w ha hw => wpIn_label (h a w ha hw)
theorem t_cond {c : Operand} {x y : Code} {b : Bool} (hc : fev fr c = some (.bool b)) (ht : b = true → T P r x Q nt D fr I) (hf : b = false → T P r y Q nt D fr I) : T P r (.cond c x y) Q nt D fr I :=
  fun a w ha hw => wpIn_cond_split (ha.eval hc) (fun e => ht e a w ha hw) (fun e => hf e a w ha hw)

theorem t_loop {α : Type} {c : Code} (Inv : α → Fr) (J : α → World → Prop) (μ : α → Nat) (x0 : α) (hf : fle (Inv x0) fr) (hJ : ∀ w, I w → J x0 w)
    (hb : ∀ x, T P r c (Exit.then (fun a w => ∃ x', Ag nt D (Inv x') a ∧ J x' w ∧ μ x' < μ x) Q) nt D (Inv x) (J x)) : T P r (.loop c) Q nt D fr I := by
  intro a w ha hw
  classical
  let G : Nat → Act → World → Prop := fun m a w => ∃ x, Ag nt D (Inv x) a ∧ J x w ∧ μ x = m
  let M : Act → World → Nat := fun a w => if h : ∃ m, G m a w ∧ ∀ m', G m' a w → m ≤ m' then h.choose else 0
  have least : ∀ a w, (∃ x, Ag nt D (Inv x) a ∧ J x w) → G (M a w) a w ∧ ∀ m', G m' a w → M a w ≤ m' := by
    rintro a w ⟨x, hx, hj⟩
    have hex : ∃ m, G m a w ∧ ∀ m', G m' a w → m ≤ m' := by
      have : ∀ k, ∀ m, m ≤ k → G m a w → ∃ m, G m a w ∧ ∀ m', G m' a w → m ≤ m' := by
        intro k
        induction k with
        | zero => intro m hm hg; exact ⟨m, hg, fun m' _ => by omega⟩
        | succ k ih =>
          intro m hm hg
          by_cases h : ∃ m', m' < m ∧ G m' a w
          · obtain ⟨m', hlt, hg'⟩ := h
            exact ih m' (by omega) hg'
          · exact ⟨m, hg, fun m' hg' => by
              rcases Nat.lt_or_ge m' m with hlt | hge
              · exact absurd ⟨m', hlt, hg'⟩ h
              · exact hge⟩
      exact this (μ x) (μ x) (Nat.le_refl _) ⟨x, hx, hj, rfl⟩
    have hM : M a w = hex.choose := dif_pos hex
    rw [hM]; exact hex.choose_spec
  refine wpIn_loop (fun a w => ∃ x, Ag nt D (Inv x) a ∧ J x w) M ⟨x0, ha.weak hf, hJ w hw⟩ ?_
  intro a w hI
  obtain ⟨⟨x, hx, hj, hm⟩, _⟩ := least a w hI
  refine wpIn_mono (hb x a w hx hj) ?_
  intro e a' w' hq
  cases e with
  | normal =>
    obtain ⟨x', hx', hj', hlt⟩ := hq
    refine ⟨⟨x', hx', hj'⟩, ?_⟩
    have := (least a' w' ⟨x', hx', hj'⟩).2 (μ x') ⟨x', hx', hj', rfl⟩
    omega
  | _ => exact hq

theorem xt_round {α : Type} {Inv : α → Fr} {J : α → World → Prop} {μ : α → Nat} {x : α} (x' : α) (hf : fle (Inv x') fr) (hJ : ∀ w, I w → J x' w) (hm : μ x' < μ x) :
    Xt P .normal (Exit.then (fun a w => ∃ x', Ag nt D (Inv x') a ∧ J x' w ∧ μ x' < μ x) Q) nt D fr I :=
  fun _ _ ha hw => ⟨x', ha.weak hf, hJ _ hw, hm⟩
theorem xt_round_exit {K : Act → World → Prop} {id : Nat} (h : Xt P (.exit id) Q nt D fr I) : Xt P (.exit id) (Exit.then K Q) nt D fr I := fun a w ha hw => h a w ha hw
theorem xt_round_ret {K : Act → World → Prop} (h : Xt P .ret Q nt D fr I) : Xt P .ret (Exit.then K Q) nt D fr I := fun a w ha hw => h a w ha hw

/-! ### calls -/

def fargs : Nat → List Value → Fr
  | _, [] => []
  | k, v :: vs => (k, v) :: fargs (k + 1) vs

theorem fargs_look : ∀ (vs : List Value) (k t : Nat) (v : Value), flook (fargs k vs) t = some v → k ≤ t ∧ vs[t - k]? = some v
  | [], _, _, _, h => by simp [fargs, flook] at h
  | u :: vs, k, t, v, h => by
    simp only [fargs, flook_cons] at h
    by_cases e : k = t
    · subst e; simp at h; subst h; simp
    · rw [if_neg e] at h
      obtain ⟨h1, h2⟩ := fargs_look vs (k + 1) t v h
      exact ⟨by omega, by rw [show t - k = (t - (k + 1)) + 1 by omega, List.getElem?_cons_succ]; exact h2⟩

theorem calls_T {f : FuncId} {fn : Func} {c : Code} {vs : List Value} {w : World} {R : Ending → World → Prop} (hf : P.funcs[f]? = some fn) (hb : fn.body = some c) (hn : fn.ntmps = nt) (hs : Nat.ble vs.length nt = true)
    (h : T P none c (bodyPost P fn R) nt [] (fargs 0 vs) (· = w)) : Calls P f vs.toArray w R := by
  have hs' : vs.length ≤ nt := by simpa [Nat.ble_eq] using hs
  refine (callsIn_wide (n := 0)).1 (callsIn_of_wp hf hb trivial (h _ w ⟨?_, rfl, ?_⟩ rfl))
  · simp [hn]; omega
  · intro t v hl
    obtain ⟨_, h2⟩ := fargs_look vs 0 t v hl
    simp only [Nat.sub_zero] at h2
    simp only [Array.getD_eq_getD_getElem?]
    have hlt : t < vs.length := (List.getElem?_eq_some_iff.1 h2).1
    rw [Array.getElem?_append_left (by simpa using hlt)]
    simp [h2]

theorem xt_ret_any {fn : Func} {R : Ending → World → Prop} (h : ∀ a w, Ag nt [] fr a → I w → ∃ v, (results fn a.tmps).run P w = .ok v w ∧ R (.returned v) w) : Xt P .ret (bodyPost P fn R) nt [] fr I :=
  fun a w ha hw => ⟨ha.defers, h a w ha hw⟩
theorem xt_end_any {fn : Func} {R : Ending → World → Prop} (h : ∀ a w, Ag nt [] fr a → I w → ∃ v, (results fn a.tmps).run P w = .ok v w ∧ R (.returned v) w) : Xt P .normal (bodyPost P fn R) nt [] fr I :=
  fun a w ha hw => ⟨ha.defers, h a w ha hw⟩

theorem xt_ret1 {fn : Func} {R : Ending → World → Prop} {t : Tmp} {v : Value} (hr : fn.results = #[.tmp t]) (hv : flook fr t = some v) (h : ∀ w, I w → R (.returned v) w) : Xt P .ret (bodyPost P fn R) nt [] fr I :=
  xt_ret_any fun a w ha hw => ⟨_, results_tmp hr _ _ _, by rw [ha.look t v hv]; exact h w hw⟩
theorem xt_ret2 {fn : Func} {R : Ending → World → Prop} {t u : Tmp} {v x : Value} (hr : fn.results = #[.tmp t, .tmp u]) (hv : flook fr t = some v) (hx : flook fr u = some x) (h : ∀ w, I w → R (.returned (.tuple #[v, x])) w) : Xt P .ret (bodyPost P fn R) nt [] fr I :=
  xt_ret_any fun a w ha hw => ⟨_, results_tmp2 hr _ _ _, by rw [ha.look t v hv, ha.look u x hx]; exact h w hw⟩
theorem xt_end0 {fn : Func} {R : Ending → World → Prop} (hr : fn.results = #[]) (h : ∀ w, I w → R (.returned (.tuple #[])) w) : Xt P .normal (bodyPost P fn R) nt [] fr I :=
  xt_end_any fun _ w _ hw => ⟨_, results_none hr _ _ _, h w hw⟩
theorem xt_ret0 {fn : Func} {R : Ending → World → Prop} (hr : fn.results = #[]) (h : ∀ w, I w → R (.returned (.tuple #[])) w) : Xt P .ret (bodyPost P fn R) nt [] fr I :=
  xt_ret_any fun _ w _ hw => ⟨_, results_none hr _ _ _, h w hw⟩

end Go.Proofs.YtpbinloeemebkaaGreat

namespace Go.Proofs.YtpbinloeemebkaaGreat
open Go.RowKit

abbrev HL := List (Nat × (Obj → Prop))

/-- a block of just these cells -/
def bx (cs : List Value) (t : TypeId) : Obj → Prop := fun o => o = .cells cs.toArray t (0, 0)

/-- a row with spare room: the first n elements are xs -/
def row (e : TypeId) (sz n cap : Nat) (xs : List Value) : Obj → Prop := fun o =>
  ∃ cur : Array Value, o = .cells cur e (0, 0) ∧ cur.size = cap * sz ∧ cur.toList.take (n * sz) = xs ∧ xs.length = n * sz ∧ n ≤ cap ∧ cap ≤ maxLen

structure St (w0 : World) (X : List Nat) (L : HL) (w : World) : Prop where
  os : w.os = w0.os
  tape : w.tape = w0.tape
  output : w.output = w0.output
  size : w0.heap.size ≤ w.heap.size
  old : ∀ k, k < w0.heap.size → k ∉ X → w.heap[k]? = w0.heap[k]?
  here : ∀ p ∈ L, ∃ o, w.heap[p.1]? = some o ∧ p.2 o
  mine : ∀ p ∈ L, w0.heap.size ≤ p.1 ∨ p.1 ∈ X
  apart : (L.map (·.1)).Nodup

/-- all blocks that there were are as they were -/
abbrev Ext (w w' : World) : Prop := Below w.heap.size w w'

theorem Ext.refl (w : World) : Ext w w := Below.refl _ _
theorem Ext.trans {a b c : World} (h : Ext a b) (k : Ext b c) : Ext a c := Below.trans h (Below.mono k h.size)

theorem St.init (w : World) (X : List Nat) : St w X [] w := ⟨rfl, rfl, rfl, Nat.le_refl _, fun _ _ _ => rfl, by simp, by simp, by simp⟩

theorem St.ext {w0 : World} {X : List Nat} {L : HL} {w w' : World} (h : St w0 X L w) (e : Ext w w') : St w0 X L w' :=
  ⟨e.os.trans h.os, e.tape.trans h.tape, e.output.trans h.output, Nat.le_trans h.size e.size, fun k hk hx => (e.block k (Nat.lt_of_lt_of_le hk h.size)).trans (h.old k hk hx),
   fun p hp => by
    obtain ⟨o, ho, hq⟩ := h.here p hp
    exact ⟨o, (e.block p.1 (Array.getElem?_eq_some_iff.1 ho).1).trans ho, hq⟩, h.mine, h.apart⟩

theorem St.toExt {w0 : World} {L : HL} {w : World} (h : St w0 [] L w) : Ext w0 w := ⟨h.os, h.tape, h.output, h.size, fun k hk => h.old k hk (by simp)⟩

theorem St.drew {w0 : World} {X : List Nat} {L : HL} {w : World} (h : St w0 X L w) (n : Nat) : St w0 X L { w with drawn := n } := ⟨h.os, h.tape, h.output, h.size, h.old, h.here, h.mine, h.apart⟩

theorem St.lt {w0 : World} {X : List Nat} {L : HL} {w : World} (h : St w0 X L w) {p : Nat × (Obj → Prop)} (hp : p ∈ L) : p.1 < w.heap.size := by
  obtain ⟨o, ho, _⟩ := h.here p hp
  exact (Array.getElem?_eq_some_iff.1 ho).1

/-- a new block -/
theorem St.alloc {w0 : World} {X : List Nat} {L : HL} {w : World} (h : St w0 X L w) (o : Obj) {q : Obj → Prop} (hq : q o) : St w0 X ((w.heap.size, q) :: L) (w.alloc o) := by
  have hnew : (w.alloc o).heap[w.heap.size]? = some o := World.alloc_heap_new w o
  refine ⟨h.os, h.tape, h.output, Nat.le_trans h.size (by simp), fun k hk hx => (Below.heap_alloc w o k (Nat.lt_of_lt_of_le hk h.size)).trans (h.old k hk hx), ?_, ?_, ?_⟩
  · intro p hp
    rcases List.mem_cons.1 hp with rfl | hp
    · exact ⟨o, hnew, hq⟩
    · obtain ⟨o', ho, hq⟩ := h.here p hp
      exact ⟨o', (Below.heap_alloc w o p.1 (Array.getElem?_eq_some_iff.1 ho).1).trans ho, hq⟩
  · intro p hp
    rcases List.mem_cons.1 hp with rfl | hp
    · exact .inl h.size
    · exact h.mine p hp
  · simp only [List.map_cons, List.nodup_cons]
    refine ⟨?_, h.apart⟩
    intro hm
    obtain ⟨p, hp, he⟩ := List.mem_map.1 hm
    have := h.lt hp
    omega

/-- fewer blocks, in another order -/
theorem St.sub {w0 : World} {X : List Nat} {L L' : HL} {w : World} (h : St w0 X L w) (hs : ∀ p ∈ L', p ∈ L) (hn : (L'.map (·.1)).Nodup) : St w0 X L' w :=
  ⟨h.os, h.tape, h.output, h.size, h.old, fun p hp => h.here p (hs p hp), fun p hp => h.mine p (hs p hp), hn⟩

theorem St.sublist {w0 : World} {X : List Nat} {L L' : HL} {w : World} (h : St w0 X L w) (hs : L'.Sublist L) : St w0 X L' w :=
  h.sub (fun _ hp => hs.subset hp) (h.apart.sublist (hs.map _))

theorem St.perm {w0 : World} {X : List Nat} {L L' : HL} {w : World} (h : St w0 X L w) (hs : L.Perm L') : St w0 X L' w :=
  h.sub (fun _ hp => hs.mem_iff.2 hp) ((hs.map _).nodup_iff.1 h.apart)

theorem St.imp {w0 : World} {X : List Nat} {L : HL} {b : Nat} {q q' : Obj → Prop} {w : World} (h : St w0 X ((b, q) :: L) w) (hq : ∀ o, q o → q' o) : St w0 X ((b, q') :: L) w :=
  ⟨h.os, h.tape, h.output, h.size, h.old, fun p hp => by
    rcases List.mem_cons.1 hp with rfl | hp
    · obtain ⟨o, ho, hh⟩ := h.here (b, q) (List.mem_cons_self ..)
      exact ⟨o, ho, hq o hh⟩
    · exact h.here p (List.mem_cons_of_mem _ hp), fun p hp => by
    rcases List.mem_cons.1 hp with rfl | hp
    · exact h.mine (b, q) (List.mem_cons_self ..)
    · exact h.mine p (List.mem_cons_of_mem _ hp), h.apart⟩

/-- one block of the list is written -/
theorem St.put {w0 : World} {X : List Nat} {L : HL} {b : Nat} {q q' : Obj → Prop} {w w' : World} (h : St w0 X ((b, q) :: L) w) (hg : w.grownBy w' (some b)) {o' : Obj} (ho : w'.heap[b]? = some o') (hq : q' o') : St w0 X ((b, q') :: L) w' := by
  have hmine := h.mine (b, q) (List.mem_cons_self ..)
  refine ⟨hg.os.trans h.os, hg.tape.trans h.tape, hg.output.trans h.output, Nat.le_trans h.size hg.size, ?_, ?_, ?_, h.apart⟩
  · intro k hk hx
    refine (hg.block k (Nat.lt_of_lt_of_le hk h.size) ?_).trans (h.old k hk hx)
    rintro ⟨⟩
    rcases hmine with hm | hm
    · simp only at hm; omega
    · exact hx hm
  · intro p hp
    rcases List.mem_cons.1 hp with rfl | hp
    · exact ⟨o', ho, hq⟩
    · obtain ⟨o, ho, hq⟩ := h.here p (List.mem_cons_of_mem _ hp)
      refine ⟨o, (hg.block p.1 (Array.getElem?_eq_some_iff.1 ho).1 ?_).trans ho, hq⟩
      intro e
      injection e with e
      have := h.apart
      simp only [List.map_cons, List.nodup_cons] at this
      exact this.1 (List.mem_map.2 ⟨p, hp, e⟩)
  · intro p hp
    rcases List.mem_cons.1 hp with rfl | hp
    · exact hmine
    · exact h.mine p (List.mem_cons_of_mem _ hp)

theorem grownBy_setCell (w : World) (b k : Nat) (v : Value) : w.grownBy (w.setCell ⟨b, k, none⟩ v) (some b) :=
  ⟨rfl, rfl, rfl, by simp [World.setCell], fun i _ hi => Below.heap_setCell w ⟨b, k, none⟩ v i (fun e => hi (by rw [e]))⟩

theorem heap_setCell_same {w : World} {b k : Nat} {v : Value} {cs : Array Value} {t : TypeId} {f : Nat × Nat} (h : w.heap[b]? = some (.cells cs t f)) : (w.setCell ⟨b, k, none⟩ v).heap[b]? = some (.cells (cs.setIfInBounds k v) t f) := by
  simp [World.setCell, Array.getElem?_modify, h]

theorem setCells_heap (b : Nat) : ∀ (vs : List Value) (k : Nat) (w : World) (cs : Array Value) (t : TypeId) (f : Nat × Nat), w.heap[b]? = some (.cells cs t f) →
    w.grownBy (w.setCells b k vs) (some b) ∧ ∃ cs' : Array Value, (w.setCells b k vs).heap[b]? = some (.cells cs' t f) ∧ cs'.size = cs.size ∧ ∀ j, cs'[j]? = if k ≤ j ∧ j < k + vs.length ∧ j < cs.size then vs[j - k]? else cs[j]?
  | [], k, w, cs, t, f, h => ⟨⟨rfl, rfl, rfl, Nat.le_refl _, fun _ _ _ => rfl⟩, cs, h, rfl, fun j => by rw [if_neg]; simp; omega⟩
  | v :: r, k, w, cs, t, f, h => by
    have h1 := heap_setCell_same (k := k) (v := v) h
    obtain ⟨hg, cs', hc, hs, hj⟩ := setCells_heap b r (k + 1) _ _ t f h1
    have g1 := grownBy_setCell w b k v
    refine ⟨⟨hg.os.trans g1.os, hg.tape.trans g1.tape, hg.output.trans g1.output, Nat.le_trans g1.size hg.size, fun i hi hne => (hg.block i (Nat.lt_of_lt_of_le hi g1.size) hne).trans (g1.block i hi hne)⟩, cs', hc, by simpa using hs, ?_⟩
    intro j
    rw [hj j]
    simp only [Array.size_setIfInBounds, List.length_cons]
    by_cases e : j = k
    · subst e
      rw [if_neg (by omega)]
      by_cases hl : j < cs.size
      · rw [if_pos ⟨Nat.le_refl _, by omega, hl⟩]; simp [hl]
      · rw [if_neg (by omega)]
        rw [Array.getElem?_eq_none (by simpa using hl), Array.getElem?_eq_none (by omega)]
    · by_cases hc : k + 1 ≤ j ∧ j < k + 1 + r.length ∧ j < cs.size
      · rw [if_pos hc, if_pos (by omega)]
        rw [show j - k = (j - (k + 1)) + 1 by omega, List.getElem?_cons_succ]
      · rw [if_neg hc, if_neg (by omega), Array.getElem?_setIfInBounds_ne (by omega)]

/-! ### reading -/

theorem St.get {w0 : World} {X : List Nat} {L : HL} {w : World} (h : St w0 X L w) {b : Nat} {cs : List Value} {t : TypeId} (hp : (b, bx cs t) ∈ L) : w.heap[b]? = some (.cells cs.toArray t (0, 0)) := by
  obtain ⟨o, ho, hq⟩ := h.here _ hp
  rw [ho, hq]

theorem cell_of {w : World} {b k : Nat} {cs : Array Value} {t : TypeId} {f : Nat × Nat} (h : w.heap[b]? = some (.cells cs t f)) : w.cell? ⟨b, k, none⟩ = cs[k]? := by simp [World.cell?, h]
theorem frozen_of {w : World} {b k : Nat} {cs : Array Value} {t : TypeId} (h : w.heap[b]? = some (.cells cs t (0, 0))) : w.frozen? ⟨b, k, none⟩ = false := by simp [World.frozen?, h]

theorem St.cell {w0 : World} {X : List Nat} {L : HL} {w : World} (h : St w0 X L w) {b : Nat} {cs : List Value} {t : TypeId} (hp : (b, bx cs t) ∈ L) (k : Nat) : w.cell? ⟨b, k, none⟩ = cs[k]? := by
  rw [cell_of (h.get hp)]; simp

theorem St.rowCell {w0 : World} {X : List Nat} {L : HL} {w : World} (h : St w0 X L w) {b : Nat} {e : TypeId} {sz n cap : Nat} {xs : List Value} (hp : (b, row e sz n cap xs) ∈ L) {k : Nat} {v : Value} (hv : xs[k]? = some v) : w.cell? ⟨b, k, none⟩ = some v := by
  obtain ⟨o, ho, cur, rfl, _, ht, _⟩ := h.here _ hp
  rw [cell_of ho]
  rw [← ht, List.getElem?_take] at hv
  split at hv
  · simpa using hv
  · cases hv

theorem St.oldCell {w0 : World} {X : List Nat} {L : HL} {w : World} (h : St w0 X L w) {a : Addr} (hlt : a.block < w0.heap.size) (hx : a.block ∉ X) : w.cell? a = w0.cell? a :=
  World.cell?_of_block (h.old a.block hlt hx)

/-- a slice that came in: its cells -/
def Rd (w : World) (sz : Nat) (v : Value) (xs : List Value) : Prop :=
  ∃ A n cap, v = .slice A n cap ∧ xs.length = n * sz ∧ n ≤ cap ∧ cap ≤ maxLen ∧ (0 < n → ∃ b off, A = some ⟨b, off, none⟩ ∧ b < w.heap.size ∧ ∀ j u, xs[j]? = some u → w.cell? ⟨b, off + j, none⟩ = some u)

theorem Rd.ext {w w' : World} {sz : Nat} {v : Value} {xs : List Value} (h : Rd w sz v xs) (e : Ext w w') : Rd w' sz v xs := by
  obtain ⟨A, n, cap, hv, hl, hc, hm, hr⟩ := h
  refine ⟨A, n, cap, hv, hl, hc, hm, fun hn => ?_⟩
  obtain ⟨b, off, ha, hb, hu⟩ := hr hn
  exact ⟨b, off, ha, Nat.lt_of_lt_of_le hb e.size, fun j u hj => (e.cell (p := ⟨b, off + j, none⟩) hb).trans (hu j u hj)⟩

end Go.Proofs.YtpbinloeemebkaaGreat

namespace Go.Proofs.YtpbinloeemebkaaGreat
open Go.RowKit

variable {P : Program} {fr : Fr} {I : World → Prop} {d : Option Tmp} {ty t t' : TypeId} {pos : String} {af : Array Edge} {g : Option (Nat × Bool)} {x y : Operand}

/-- closed facts on types and functions of a program -/
class CSc (P : Program) (t : TypeId) : Prop where
  agg : ∀ w, (isAgg t).run P w = .ok false w
  one : (P.info? t).map (·.size) = some 1
class CAg (P : Program) (t : TypeId) (k : outParam Nat) : Prop where
  agg : ∀ w, (isAgg t).run P w = .ok true w
  size : (P.info? t).map (·.size) = some k
class CFd (P : Program) (s f : Nat) (off : outParam Nat) : Prop where
  run : ∀ a w, (Instr.fieldAt s (.pointer (some a)) f).run P w = .ok (.pointer (some (a.add off))) w
class CZ (P : Program) (t : TypeId) (z : outParam (List Value)) : Prop where
  run : ∃ v : Value, v.cells = z.toArray ∧ ∀ w, (zeroValue t).run P w = .ok v w
class CSl (P : Program) (t : TypeId) (e sz bytes : outParam Nat) : Prop where
  under : P.underlying t = some (.slice e)
  info : ∃ i z, P.info? e = some i ∧ i.size = sz ∧ i.bytes = bytes ∧ i.zero = some z ∧ z.cells.size = sz
class CStr (P : Program) (t : TypeId) : Prop where
  under : P.underlying t = some .string
class CInt (P : Program) (t : TypeId) (k : outParam IntKind) : Prop where
  under : P.underlying t = some (.int k)
class CFn (P : Program) (f : FuncId) : Prop where
  enters : ∀ args w, (callFunc f args).run P w = .ok (.enter f args) w

abbrev Pv (P : Program) (o : Oper) (fr : Fr) (I : World → Prop) (u : Value) : Prop := O P o fr I (fun v w => v = u ∧ I w)

theorem pv_of {o : Oper} {u : Value} (h : ∀ ρ w, (∀ x v, fev fr x = some v → ρ x = v) → I w → (execOp ρ o).run P w = .ok (.value u) w) : Pv P o fr I u := by
  intro ρ w hρ hw
  unfold Op1
  rw [h ρ w hρ hw]
  exact ⟨rfl, hw⟩

theorem o_move {u : Value} (hx : fev fr x = some u) : Pv P ⟨d, .move x, ty, pos, af, g⟩ fr I u :=
  pv_of fun ρ w hρ _ => by simp [execOp, hρ _ _ hx]
theorem o_assign {u : Value} (hx : fev fr x = some u) : Pv P ⟨d, .assign x, ty, pos, af, g⟩ fr I u :=
  pv_of fun ρ w hρ _ => by simp [execOp, hρ _ _ hx]
theorem o_pick_t {c : Operand} {u : Value} (hc : fev fr c = some (.bool true)) (hx : fev fr x = some u) : Pv P ⟨d, .pick c x y, ty, pos, af, g⟩ fr I u :=
  pv_of fun ρ w hρ _ => by simp [execOp, hρ _ _ hx, hρ _ _ hc, asBool]
theorem o_pick_f {c : Operand} {u : Value} (hc : fev fr c = some (.bool false)) (hy : fev fr y = some u) : Pv P ⟨d, .pick c x y, ty, pos, af, g⟩ fr I u :=
  pv_of fun ρ w hρ _ => by simp [execOp, hρ _ _ hy, hρ _ _ hc, asBool]

theorem fits64 {n : Int} (h : -9223372036854775808 ≤ n ∧ n ≤ 9223372036854775807) : IntKind.i64.wrap n = n := by
  rw [IntKind.wrap_i64]; omega

theorem o_add {k : IntKind} {a b : Int} (hx : fev fr x = some (.int k a)) (hy : fev fr y = some (.int k b)) : Pv P ⟨d, .binOp .add t x y t', ty, pos, af, g⟩ fr I (.int k (k.wrap (a + b))) :=
  pv_of fun ρ w hρ _ => by simp [execOp, hρ _ _ hx, hρ _ _ hy, eqGuard, binOp, Op.intArith]
theorem o_sub {k : IntKind} {a b : Int} (hx : fev fr x = some (.int k a)) (hy : fev fr y = some (.int k b)) : Pv P ⟨d, .binOp .sub t x y t', ty, pos, af, g⟩ fr I (.int k (k.wrap (a - b))) :=
  pv_of fun ρ w hρ _ => by simp [execOp, hρ _ _ hx, hρ _ _ hy, eqGuard, binOp, Op.intArith]
theorem o_mul {k : IntKind} {a b : Int} (hx : fev fr x = some (.int k a)) (hy : fev fr y = some (.int k b)) : Pv P ⟨d, .binOp .mul t x y t', ty, pos, af, g⟩ fr I (.int k (k.wrap (a * b))) :=
  pv_of fun ρ w hρ _ => by simp [execOp, hρ _ _ hx, hρ _ _ hy, eqGuard, binOp, Op.intArith]
theorem o_add64 {a b : Int} (hx : fev fr x = some (.int .i64 a)) (hy : fev fr y = some (.int .i64 b)) (h : -9223372036854775808 ≤ a + b ∧ a + b ≤ 9223372036854775807) : Pv P ⟨d, .binOp .add t x y t', ty, pos, af, g⟩ fr I (.int .i64 (a + b)) := by
  have := o_add (P := P) (I := I) (d := d) (ty := ty) (t := t) (t' := t') (pos := pos) (af := af) (g := g) hx hy
  rwa [fits64 h] at this
theorem o_sub64 {a b : Int} (hx : fev fr x = some (.int .i64 a)) (hy : fev fr y = some (.int .i64 b)) (h : -9223372036854775808 ≤ a - b ∧ a - b ≤ 9223372036854775807) : Pv P ⟨d, .binOp .sub t x y t', ty, pos, af, g⟩ fr I (.int .i64 (a - b)) := by
  have := o_sub (P := P) (I := I) (d := d) (ty := ty) (t := t) (t' := t') (pos := pos) (af := af) (g := g) hx hy
  rwa [fits64 h] at this
theorem o_mul64 {a b : Int} (hx : fev fr x = some (.int .i64 a)) (hy : fev fr y = some (.int .i64 b)) (h : -9223372036854775808 ≤ a * b ∧ a * b ≤ 9223372036854775807) : Pv P ⟨d, .binOp .mul t x y t', ty, pos, af, g⟩ fr I (.int .i64 (a * b)) := by
  have := o_mul (P := P) (I := I) (d := d) (ty := ty) (t := t) (t' := t') (pos := pos) (af := af) (g := g) hx hy
  rwa [fits64 h] at this
theorem o_quo {k : IntKind} {a b : Int} (hx : fev fr x = some (.int k a)) (hy : fev fr y = some (.int k b)) (h : b ≠ 0) : Pv P ⟨d, .binOp .quo t x y t', ty, pos, af, g⟩ fr I (.int k (k.wrap (a.tdiv b))) :=
  pv_of fun ρ w hρ _ => by simp [execOp, hρ _ _ hx, hρ _ _ hy, eqGuard, binOp, Op.intDiv, h]
theorem o_rem {k : IntKind} {a b : Int} (hx : fev fr x = some (.int k a)) (hy : fev fr y = some (.int k b)) (h : b ≠ 0) : Pv P ⟨d, .binOp .rem t x y t', ty, pos, af, g⟩ fr I (.int k (a.tmod b)) :=
  pv_of fun ρ w hρ _ => by simp [execOp, hρ _ _ hx, hρ _ _ hy, eqGuard, binOp, Op.intDiv, h]
theorem o_and {k : IntKind} {a b : Int} (hx : fev fr x = some (.int k a)) (hy : fev fr y = some (.int k b)) : Pv P ⟨d, .binOp .and t x y t', ty, pos, af, g⟩ fr I (.int k (bits .and k a b)) :=
  pv_of fun ρ w hρ _ => by simp [execOp, hρ _ _ hx, hρ _ _ hy, eqGuard, binOp, go_sem]
theorem o_lss {k : IntKind} {a b : Int} (hx : fev fr x = some (.int k a)) (hy : fev fr y = some (.int k b)) : Pv P ⟨d, .binOp .lss t x y t', ty, pos, af, g⟩ fr I (.bool (decide (a < b))) :=
  pv_of fun ρ w hρ _ => by simp [execOp, hρ _ _ hx, hρ _ _ hy, eqGuard, binOp, Op.intCmp]
theorem o_leq {k : IntKind} {a b : Int} (hx : fev fr x = some (.int k a)) (hy : fev fr y = some (.int k b)) : Pv P ⟨d, .binOp .leq t x y t', ty, pos, af, g⟩ fr I (.bool (decide (a ≤ b))) :=
  pv_of fun ρ w hρ _ => by simp [execOp, hρ _ _ hx, hρ _ _ hy, eqGuard, binOp, Op.intCmp]
theorem o_gtr {k : IntKind} {a b : Int} (hx : fev fr x = some (.int k a)) (hy : fev fr y = some (.int k b)) : Pv P ⟨d, .binOp .gtr t x y t', ty, pos, af, g⟩ fr I (.bool (decide (b < a))) :=
  pv_of fun ρ w hρ _ => by simp [execOp, hρ _ _ hx, hρ _ _ hy, eqGuard, binOp, Op.intCmp]
theorem o_geq {k : IntKind} {a b : Int} (hx : fev fr x = some (.int k a)) (hy : fev fr y = some (.int k b)) : Pv P ⟨d, .binOp .geq t x y t', ty, pos, af, g⟩ fr I (.bool (decide (b ≤ a))) :=
  pv_of fun ρ w hρ _ => by simp [execOp, hρ _ _ hx, hρ _ _ hy, eqGuard, binOp, Op.intCmp]
theorem o_eql {k : IntKind} {a b : Int} (hx : fev fr x = some (.int k a)) (hy : fev fr y = some (.int k b)) : Pv P ⟨d, .binOp .eql t x y t', ty, pos, af, g⟩ fr I (.bool (decide (a = b))) :=
  pv_of fun ρ w hρ _ => by
    simp [execOp, hρ _ _ hx, hρ _ _ hy, eqGuard, binOp, Op.intCmp]
    by_cases h : a = b <;> simp [h]
theorem o_neq {k : IntKind} {a b : Int} (hx : fev fr x = some (.int k a)) (hy : fev fr y = some (.int k b)) : Pv P ⟨d, .binOp .neq t x y t', ty, pos, af, g⟩ fr I (.bool (decide (a ≠ b))) :=
  pv_of fun ρ w hρ _ => by
    simp [execOp, hρ _ _ hx, hρ _ _ hy, eqGuard, binOp, Op.intCmp]
    by_cases h : a = b <;> simp [h]
theorem bytes_ne {a b : ByteArray} (h : ¬ a = b) : ¬ a.toList = b.toList := by
  intro e; apply h
  rw [ByteArray.toList_eq, ByteArray.toList_eq] at e
  exact ByteArray.ext (Array.toList_inj.1 e)
theorem o_eqls {a b : ByteArray} (hx : fev fr x = some (.string a)) (hy : fev fr y = some (.string b)) : Pv P ⟨d, .binOp .eql t x y t', ty, pos, af, g⟩ fr I (.bool (decide (a = b))) :=
  pv_of fun ρ w hρ _ => by
    simp [execOp, hρ _ _ hx, hρ _ _ hy, eqGuard, binOp, Op.stringOp]
    by_cases h : a = b
    · simp [h]
    · simp [h, bytes_ne h]
theorem o_neqs {a b : ByteArray} (hx : fev fr x = some (.string a)) (hy : fev fr y = some (.string b)) : Pv P ⟨d, .binOp .neq t x y t', ty, pos, af, g⟩ fr I (.bool (decide (a ≠ b))) :=
  pv_of fun ρ w hρ _ => by
    simp [execOp, hρ _ _ hx, hρ _ _ hy, eqGuard, binOp, Op.stringOp]
    by_cases h : a = b
    · simp [h]
    · simp [h, bytes_ne h]
theorem o_eqlb {a b : Bool} (hx : fev fr x = some (.bool a)) (hy : fev fr y = some (.bool b)) (hu : P.underlying t = some .bool) : Pv P ⟨d, .binOp .eql t x y t', ty, pos, af, g⟩ fr I (.bool (a == b)) :=
  pv_of fun ρ w hρ _ => by simp [execOp, hρ _ _ hx, hρ _ _ hy, eqGuard, run_eql_bool, hu]
theorem o_not {b : Bool} (hx : fev fr x = some (.bool b)) : Pv P ⟨d, .unOp .not t x, ty, pos, af, g⟩ fr I (.bool (!b)) :=
  pv_of fun ρ w hρ _ => by simp [execOp, hρ _ _ hx, Op.unary]
theorem o_neg {k : IntKind} {a : Int} (hx : fev fr x = some (.int k a)) : Pv P ⟨d, .unOp .neg t x, ty, pos, af, g⟩ fr I (.int k (k.wrap (0 - a))) :=
  pv_of fun ρ w hρ _ => by simp [execOp, hρ _ _ hx, Op.unary, Op.intArith]
theorem o_convert {k k' : IntKind} {a : Int} (hx : fev fr x = some (.int k a)) [hs : CInt P t k] [hd : CInt P t' k'] : Pv P ⟨d, .convert t t' x, ty, pos, af, g⟩ fr I (.int k' (k'.wrap a)) :=
  pv_of fun ρ w hρ _ => by simp [execOp, hρ _ _ hx, convert, run_underlying hs.under, run_underlying hd.under, Conv.intToInt]

theorem o_extract {vs : Array Value} {i : Nat} {u : Value} (hx : fev fr x = some (.tuple vs)) (hi : vs[i]? = some u) : Pv P ⟨d, .extract x i, ty, pos, af, g⟩ fr I u :=
  pv_of fun ρ w hρ _ => by simp [execOp, hρ _ _ hx, Instr.extract, hi]
theorem o_fieldAddr {s f off : Nat} {b k : Nat} [h : CFd P s f off] (hx : fev fr x = some (.pointer (some ⟨b, k, none⟩))) : Pv P ⟨d, .fieldAddr s x f, ty, pos, af, g⟩ fr I (.pointer (some ⟨b, k + off, none⟩)) :=
  pv_of fun ρ w hρ _ => by
    simp only [execOp, hρ _ _ hx, Sem.run_bind, h.run, Result.andThen, Sem.run_pure]
    have : (⟨b, k, none⟩ : Addr).add off = ⟨b, k + off, none⟩ := by unfold Addr.add; split <;> simp_all
    rw [this]
theorem o_run {op : Op} {u : Value} {s : (Operand → Value) → Sem Value} (he : ∀ ρ, execOp ρ ⟨d, op, ty, pos, af, g⟩ = (do pure (.value (← s ρ)))) (h : ∀ ρ w, (∀ x v, fev fr x = some v → ρ x = v) → I w → (s ρ).run P w = .ok u w) : Pv P ⟨d, op, ty, pos, af, g⟩ fr I u :=
  pv_of fun ρ w hρ hw => by rw [he]; simp [h ρ w hρ hw]
theorem o_build {parts : Array (Nat × Operand)} {u : Value} (vs : List Value) (hv : fevs fr (parts.toList.map (·.2)) = some vs) (h : ∀ w, (Instr.build t ((parts.toList.map (·.1)).zip vs).toArray).run P w = .ok u w) : Pv P ⟨d, .build t parts, ty, pos, af, g⟩ fr I u :=
  pv_of fun ρ w hρ _ => by
    have key : ∀ (l : List (Nat × Operand)) (vs : List Value), fevs fr (l.map (·.2)) = some vs → l.map (fun p => (p.1, ρ p.2)) = (l.map (·.1)).zip vs := by
      intro l
      induction l with
      | nil => intro vs h; simp
      | cons p l ih =>
        intro vs h
        simp only [List.map_cons, fevs] at h
        split at h
        · cases h
        · rename_i v hv
          split at h
          · cases h
          · rename_i vs' hvs
            cases h
            simp [ih _ hvs, hρ _ _ hv]
    have e : parts.map (fun p => (p.1, ρ p.2)) = ((parts.toList.map (·.1)).zip vs).toArray := by
      apply Array.toList_inj.1
      simp [key parts.toList vs hv]
    simp only [execOp]
    rw [e]
    simp [h w]

theorem fevs_map {ρ : Operand → Value} (hρ : ∀ x v, fev fr x = some v → ρ x = v) : ∀ (l : List Operand) (vs : List Value), fevs fr l = some vs → l.map ρ = vs := by
  intro l
  induction l with
  | nil => intro vs h; simpa [fevs] using h
  | cons x l ih =>
    intro vs h
    simp only [fevs] at h
    split at h
    · cases h
    · rename_i v hv
      split at h
      · cases h
      · rename_i vs' hvs
        cases h
        simp [ih _ hvs, hρ _ _ hv]

/-- a call of a function of the program -/
theorem o_call {f : FuncId} {args : Array Operand} {ts : Array TypeId} (vs : List Value) {R : Value → World → Prop} [hf : CFn P f] (hv : fevs fr args.toList = some vs)
    (h : ∀ w, I w → Calls P f vs.toArray w fun e w' => ∃ v, e = .returned v ∧ R v w') : O P ⟨d, .call ⟨.value (.func f), args, ts⟩, ty, pos, af, g⟩ fr I R := by
  intro ρ w hρ hw
  have e : args.map ρ = vs.toArray := by
    apply Array.toList_inj.1
    simp [fevs_map hρ _ _ hv]
  have hfv : ρ (.func f) = .func (.func f) #[] #[] := hρ _ _ rfl
  unfold Op1
  have : (execOp ρ ⟨d, .call ⟨.value (.func f), args, ts⟩, ty, pos, af, g⟩).run P w = .ok (.enter f vs.toArray) w := by
    simp [execOp, resolve, hfv, Deferred.ofValue, e, invoke, hf.enters]
  rw [this]
  exact h w hw

/-- a call of a function value -/
theorem o_callv {f : FuncId} {z : Operand} {args : Array Operand} {ts : Array TypeId} (vs cap : List Value) {R : Value → World → Prop} [hf : CFn P f] (hz : fev fr z = some (.func (.func f) #[] cap.toArray)) (hv : fevs fr args.toList = some vs)
    (h : ∀ w, I w → Calls P f (vs ++ cap).toArray w fun e w' => ∃ v, e = .returned v ∧ R v w') : O P ⟨d, .call ⟨.value z, args, ts⟩, ty, pos, af, g⟩ fr I R := by
  intro ρ w hρ hw
  have e : args.map ρ = vs.toArray := by
    apply Array.toList_inj.1
    simp [fevs_map hρ _ _ hv]
  have hfv : ρ z = .func (.func f) #[] cap.toArray := hρ _ _ hz
  unfold Op1
  have : (execOp ρ ⟨d, .call ⟨.value z, args, ts⟩, ty, pos, af, g⟩).run P w = .ok (.enter f (vs ++ cap).toArray) w := by
    simp [execOp, resolve, hfv, Deferred.ofValue, e, invoke, hf.enters]
  rw [this]
  exact h w hw

/-- a builtin that computes a value -/
theorem o_builtin {b : Builtin} {args : Array Operand} {ts : Array TypeId} {u : Value} (vs : List Value) (hv : fevs fr args.toList = some vs)
    (h : ∀ w consts, I w → (builtin b ts ty consts vs.toArray).run P w = .ok (.value u) w) : Pv P ⟨d, .call ⟨.builtin b, args, ts⟩, ty, pos, af, g⟩ fr I u :=
  pv_of fun ρ w hρ hw => by
    have e : args.map ρ = vs.toArray := by
      apply Array.toList_inj.1
      simp [fevs_map hρ _ _ hv]
    simp [execOp, resolve, e, invoke, h w _ hw]

theorem o_min {k : IntKind} {a b : Int} {u : Operand} {ts : Array TypeId} (hx : fev fr x = some (.int k a)) (hu : fev fr u = some (.int k b)) : Pv P ⟨d, .call ⟨.builtin .min, #[x, u], ts⟩, ty, pos, af, g⟩ fr I (.int k (min a b)) :=
  o_builtin [.int k a, .int k b] (by simp [fevs, hx, hu]) fun w c _ => by
    simp [builtin, Builtin.min_, Builtin.min2]; omega
theorem o_max {k : IntKind} {a b : Int} {u : Operand} {ts : Array TypeId} (hx : fev fr x = some (.int k a)) (hu : fev fr u = some (.int k b)) : Pv P ⟨d, .call ⟨.builtin .max, #[x, u], ts⟩, ty, pos, af, g⟩ fr I (.int k (max a b)) :=
  o_builtin [.int k a, .int k b] (by simp [fevs, hx, hu]) fun w c _ => by
    simp [builtin, Builtin.max_, Builtin.max2]; omega
theorem o_len {A : Option Addr} {n c e sz by_ : Nat} {ts : TypeId} [hs : CSl P ts e sz by_] (hx : fev fr x = some (.slice A n c)) : Pv P ⟨d, .call ⟨.builtin .len, #[x], #[ts]⟩, ty, pos, af, g⟩ fr I (.int .i64 n) :=
  o_builtin [.slice A n c] (by simp [fevs, hx]) fun w c _ => by
    simp [builtin, Builtin.len_, run_underlying hs.under, goInt]
theorem o_lens {s : ByteArray} {ts : TypeId} [hs : CStr P ts] (hx : fev fr x = some (.string s)) : Pv P ⟨d, .call ⟨.builtin .len, #[x], #[ts]⟩, ty, pos, af, g⟩ fr I (.int .i64 s.size) :=
  o_builtin [.string s] (by simp [fevs, hx]) fun w c _ => by
    simp [builtin, Builtin.len_, run_underlying hs.under, goInt]

end Go.Proofs.YtpbinloeemebkaaGreat
