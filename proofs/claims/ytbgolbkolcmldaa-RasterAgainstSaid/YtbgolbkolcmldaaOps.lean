/-
  What each operation does, over the frame's known slots and the heap's known blocks.
-/
import Derived.Test.YtbgolbkolcmldaaHeap
import Derived.Deep.MidRow
namespace Go.Proofs.Ytbgolbkolcmldaa
open Go.RowKit

variable {P : Program} {fr : Fr} {I : World → Prop} {d : Option Tmp} {ty t t' : TypeId} {pos : String} {af : Array Edge} {g : Option (Nat × Bool)} {x y : Operand}

/-- closed facts on types and functions of a program -/
class CSc (P : Program) (t : TypeId) : Prop where
  agg : ∀ w, (isAgg t).run P w = .ok false w
  one : (P.info? t).map (·.size) = some 1
class CAg (P : Program) (t : TypeId) (k : outParam Nat) : Prop where
  agg : ∀ w, (isAgg t).run P w = .ok true w
  size : (P.info? t).map (·.size) = some k
class CFd (P : Program) (s f : Nat) (off : outParam Nat) : Prop where
  run : ∀ a w, (Instr.fieldAt s (.pointer (some a)) f).run P w = .ok (.pointer (some (a.add off))) w
class CZ (P : Program) (t : TypeId) (z : outParam (List Value)) : Prop where
  run : ∃ v : Value, v.cells = z.toArray ∧ ∀ w, (zeroValue t).run P w = .ok v w
class CSl (P : Program) (t : TypeId) (e sz bytes : outParam Nat) : Prop where
  under : P.underlying t = some (.slice e)
  info : ∃ i z, P.info? e = some i ∧ i.size = sz ∧ i.bytes = bytes ∧ i.zero = some z ∧ z.cells.size = sz
class CStr (P : Program) (t : TypeId) : Prop where
  under : P.underlying t = some .string
class CInt (P : Program) (t : TypeId) (k : outParam IntKind) : Prop where
  under : P.underlying t = some (.int k)
class CFn (P : Program) (f : FuncId) : Prop where
  enters : ∀ args w, (callFunc f args).run P w = .ok (.enter f args) w

abbrev Pv (P : Program) (o : Oper) (fr : Fr) (I : World → Prop) (u : Value) : Prop := O P o fr I (fun v w => v = u ∧ I w)

theorem pv_of {o : Oper} {u : Value} (h : ∀ ρ w, (∀ x v, fev fr x = some v → ρ x = v) → I w → (execOp ρ o).run P w = .ok (.value u) w) : Pv P o fr I u := by
  intro ρ w hρ hw
  unfold Op1
  rw [h ρ w hρ hw]
  exact ⟨rfl, hw⟩

theorem o_move {u : Value} (hx : fev fr x = some u) : Pv P ⟨d, .move x, ty, pos, af, g⟩ fr I u :=
  pv_of fun ρ w hρ _ => by simp [execOp, hρ _ _ hx]
theorem o_assign {u : Value} (hx : fev fr x = some u) : Pv P ⟨d, .assign x, ty, pos, af, g⟩ fr I u :=
  pv_of fun ρ w hρ _ => by simp [execOp, hρ _ _ hx]
theorem o_pick_t {c : Operand} {u : Value} (hc : fev fr c = some (.bool true)) (hx : fev fr x = some u) : Pv P ⟨d, .pick c x y, ty, pos, af, g⟩ fr I u :=
  pv_of fun ρ w hρ _ => by simp [execOp, hρ _ _ hx, hρ _ _ hc, asBool]
theorem o_pick_f {c : Operand} {u : Value} (hc : fev fr c = some (.bool false)) (hy : fev fr y = some u) : Pv P ⟨d, .pick c x y, ty, pos, af, g⟩ fr I u :=
  pv_of fun ρ w hρ _ => by simp [execOp, hρ _ _ hy, hρ _ _ hc, asBool]

theorem fits64 {n : Int} (h : -9223372036854775808 ≤ n ∧ n ≤ 9223372036854775807) : IntKind.i64.wrap n = n := by
  rw [IntKind.wrap_i64]; omega

theorem o_add {k : IntKind} {a b : Int} (hx : fev fr x = some (.int k a)) (hy : fev fr y = some (.int k b)) : Pv P ⟨d, .binOp .add t x y t', ty, pos, af, g⟩ fr I (.int k (k.wrap (a + b))) :=
  pv_of fun ρ w hρ _ => by simp [execOp, hρ _ _ hx, hρ _ _ hy, eqGuard, binOp, Op.intArith]
theorem o_sub {k : IntKind} {a b : Int} (hx : fev fr x = some (.int k a)) (hy : fev fr y = some (.int k b)) : Pv P ⟨d, .binOp .sub t x y t', ty, pos, af, g⟩ fr I (.int k (k.wrap (a - b))) :=
  pv_of fun ρ w hρ _ => by simp [execOp, hρ _ _ hx, hρ _ _ hy, eqGuard, binOp, Op.intArith]
theorem o_mul {k : IntKind} {a b : Int} (hx : fev fr x = some (.int k a)) (hy : fev fr y = some (.int k b)) : Pv P ⟨d, .binOp .mul t x y t', ty, pos, af, g⟩ fr I (.int k (k.wrap (a * b))) :=
  pv_of fun ρ w hρ _ => by simp [execOp, hρ _ _ hx, hρ _ _ hy, eqGuard, binOp, Op.intArith]
theorem o_add64 {a b : Int} (hx : fev fr x = some (.int .i64 a)) (hy : fev fr y = some (.int .i64 b)) (h : -9223372036854775808 ≤ a + b ∧ a + b ≤ 9223372036854775807) : Pv P ⟨d, .binOp .add t x y t', ty, pos, af, g⟩ fr I (.int .i64 (a + b)) := by
  have := o_add (P := P) (I := I) (d := d) (ty := ty) (t := t) (t' := t') (pos := pos) (af := af) (g := g) hx hy
  rwa [fits64 h] at this
theorem o_sub64 {a b : Int} (hx : fev fr x = some (.int .i64 a)) (hy : fev fr y = some (.int .i64 b)) (h : -9223372036854775808 ≤ a - b ∧ a - b ≤ 9223372036854775807) : Pv P ⟨d, .binOp .sub t x y t', ty, pos, af, g⟩ fr I (.int .i64 (a - b)) := by
  have := o_sub (P := P) (I := I) (d := d) (ty := ty) (t := t) (t' := t') (pos := pos) (af := af) (g := g) hx hy
  rwa [fits64 h] at this
theorem o_mul64 {a b : Int} (hx : fev fr x = some (.int .i64 a)) (hy : fev fr y = some (.int .i64 b)) (h : -9223372036854775808 ≤ a * b ∧ a * b ≤ 9223372036854775807) : Pv P ⟨d, .binOp .mul t x y t', ty, pos, af, g⟩ fr I (.int .i64 (a * b)) := by
  have := o_mul (P := P) (I := I) (d := d) (ty := ty) (t := t) (t' := t') (pos := pos) (af := af) (g := g) hx hy
  rwa [fits64 h] at this
theorem o_quo {k : IntKind} {a b : Int} (hx : fev fr x = some (.int k a)) (hy : fev fr y = some (.int k b)) (h : b ≠ 0) : Pv P ⟨d, .binOp .quo t x y t', ty, pos, af, g⟩ fr I (.int k (k.wrap (a.tdiv b))) :=
  pv_of fun ρ w hρ _ => by simp [execOp, hρ _ _ hx, hρ _ _ hy, eqGuard, binOp, Op.intDiv, h]
theorem o_rem {k : IntKind} {a b : Int} (hx : fev fr x = some (.int k a)) (hy : fev fr y = some (.int k b)) (h : b ≠ 0) : Pv P ⟨d, .binOp .rem t x y t', ty, pos, af, g⟩ fr I (.int k (a.tmod b)) :=
  pv_of fun ρ w hρ _ => by simp [execOp, hρ _ _ hx, hρ _ _ hy, eqGuard, binOp, Op.intDiv, h]
theorem o_and {k : IntKind} {a b : Int} (hx : fev fr x = some (.int k a)) (hy : fev fr y = some (.int k b)) : Pv P ⟨d, .binOp .and t x y t', ty, pos, af, g⟩ fr I (.int k (bits .and k a b)) :=
  pv_of fun ρ w hρ _ => by simp [execOp, hρ _ _ hx, hρ _ _ hy, eqGuard, binOp, go_sem]
theorem o_lss {k : IntKind} {a b : Int} (hx : fev fr x = some (.int k a)) (hy : fev fr y = some (.int k b)) : Pv P ⟨d, .binOp .lss t x y t', ty, pos, af, g⟩ fr I (.bool (decide (a < b))) :=
  pv_of fun ρ w hρ _ => by simp [execOp, hρ _ _ hx, hρ _ _ hy, eqGuard, binOp, Op.intCmp]
theorem o_leq {k : IntKind} {a b : Int} (hx : fev fr x = some (.int k a)) (hy : fev fr y = some (.int k b)) : Pv P ⟨d, .binOp .leq t x y t', ty, pos, af, g⟩ fr I (.bool (decide (a ≤ b))) :=
  pv_of fun ρ w hρ _ => by simp [execOp, hρ _ _ hx, hρ _ _ hy, eqGuard, binOp, Op.intCmp]
theorem o_gtr {k : IntKind} {a b : Int} (hx : fev fr x = some (.int k a)) (hy : fev fr y = some (.int k b)) : Pv P ⟨d, .binOp .gtr t x y t', ty, pos, af, g⟩ fr I (.bool (decide (b < a))) :=
  pv_of fun ρ w hρ _ => by simp [execOp, hρ _ _ hx, hρ _ _ hy, eqGuard, binOp, Op.intCmp]
theorem o_geq {k : IntKind} {a b : Int} (hx : fev fr x = some (.int k a)) (hy : fev fr y = some (.int k b)) : Pv P ⟨d, .binOp .geq t x y t', ty, pos, af, g⟩ fr I (.bool (decide (b ≤ a))) :=
  pv_of fun ρ w hρ _ => by simp [execOp, hρ _ _ hx, hρ _ _ hy, eqGuard, binOp, Op.intCmp]
theorem o_eql {k : IntKind} {a b : Int} (hx : fev fr x = some (.int k a)) (hy : fev fr y = some (.int k b)) : Pv P ⟨d, .binOp .eql t x y t', ty, pos, af, g⟩ fr I (.bool (decide (a = b))) :=
  pv_of fun ρ w hρ _ => by
    simp [execOp, hρ _ _ hx, hρ _ _ hy, eqGuard, binOp, Op.intCmp]
    by_cases h : a = b <;> simp [h]
theorem o_neq {k : IntKind} {a b : Int} (hx : fev fr x = some (.int k a)) (hy : fev fr y = some (.int k b)) : Pv P ⟨d, .binOp .neq t x y t', ty, pos, af, g⟩ fr I (.bool (decide (a ≠ b))) :=
  pv_of fun ρ w hρ _ => by
    simp [execOp, hρ _ _ hx, hρ _ _ hy, eqGuard, binOp, Op.intCmp]
    by_cases h : a = b <;> simp [h]
theorem bytes_ne {a b : ByteArray} (h : ¬ a = b) : ¬ a.toList = b.toList := by
  intro e; apply h
  rw [ByteArray.toList_eq, ByteArray.toList_eq] at e
  exact ByteArray.ext (Array.toList_inj.1 e)
theorem o_eqls {a b : ByteArray} (hx : fev fr x = some (.string a)) (hy : fev fr y = some (.string b)) : Pv P ⟨d, .binOp .eql t x y t', ty, pos, af, g⟩ fr I (.bool (decide (a = b))) :=
  pv_of fun ρ w hρ _ => by
    simp [execOp, hρ _ _ hx, hρ _ _ hy, eqGuard, binOp, Op.stringOp]
    by_cases h : a = b
    · simp [h]
    · simp [h, bytes_ne h]
theorem o_neqs {a b : ByteArray} (hx : fev fr x = some (.string a)) (hy : fev fr y = some (.string b)) : Pv P ⟨d, .binOp .neq t x y t', ty, pos, af, g⟩ fr I (.bool (decide (a ≠ b))) :=
  pv_of fun ρ w hρ _ => by
    simp [execOp, hρ _ _ hx, hρ _ _ hy, eqGuard, binOp, Op.stringOp]
    by_cases h : a = b
    · simp [h]
    · simp [h, bytes_ne h]
theorem o_eqlb {a b : Bool} (hx : fev fr x = some (.bool a)) (hy : fev fr y = some (.bool b)) (hu : P.underlying t = some .bool) : Pv P ⟨d, .binOp .eql t x y t', ty, pos, af, g⟩ fr I (.bool (a == b)) :=
  pv_of fun ρ w hρ _ => by simp [execOp, hρ _ _ hx, hρ _ _ hy, eqGuard, run_eql_bool, hu]
theorem o_not {b : Bool} (hx : fev fr x = some (.bool b)) : Pv P ⟨d, .unOp .not t x, ty, pos, af, g⟩ fr I (.bool (!b)) :=
  pv_of fun ρ w hρ _ => by simp [execOp, hρ _ _ hx, Op.unary]
theorem o_neg {k : IntKind} {a : Int} (hx : fev fr x = some (.int k a)) : Pv P ⟨d, .unOp .neg t x, ty, pos, af, g⟩ fr I (.int k (k.wrap (0 - a))) :=
  pv_of fun ρ w hρ _ => by simp [execOp, hρ _ _ hx, Op.unary, Op.intArith]
theorem o_convert {k k' : IntKind} {a : Int} (hx : fev fr x = some (.int k a)) [hs : CInt P t k] [hd : CInt P t' k'] : Pv P ⟨d, .convert t t' x, ty, pos, af, g⟩ fr I (.int k' (k'.wrap a)) :=
  pv_of fun ρ w hρ _ => by simp [execOp, hρ _ _ hx, convert, run_underlying hs.under, run_underlying hd.under, Conv.intToInt]

theorem o_extract {vs : Array Value} {i : Nat} {u : Value} (hx : fev fr x = some (.tuple vs)) (hi : vs[i]? = some u) : Pv P ⟨d, .extract x i, ty, pos, af, g⟩ fr I u :=
  pv_of fun ρ w hρ _ => by simp [execOp, hρ _ _ hx, Instr.extract, hi]
theorem o_fieldAddr {s f off : Nat} {b k : Nat} [h : CFd P s f off] (hx : fev fr x = some (.pointer (some ⟨b, k, none⟩))) : Pv P ⟨d, .fieldAddr s x f, ty, pos, af, g⟩ fr I (.pointer (some ⟨b, k + off, none⟩)) :=
  pv_of fun ρ w hρ _ => by
    simp only [execOp, hρ _ _ hx, Sem.run_bind, h.run, Result.andThen, Sem.run_pure]
    have : (⟨b, k, none⟩ : Addr).add off = ⟨b, k + off, none⟩ := by unfold Addr.add; split <;> simp_all
    rw [this]
theorem o_run {op : Op} {u : Value} {s : (Operand → Value) → Sem Value} (he : ∀ ρ, execOp ρ ⟨d, op, ty, pos, af, g⟩ = (do pure (.value (← s ρ)))) (h : ∀ ρ w, (∀ x v, fev fr x = some v → ρ x = v) → I w → (s ρ).run P w = .ok u w) : Pv P ⟨d, op, ty, pos, af, g⟩ fr I u :=
  pv_of fun ρ w hρ hw => by rw [he]; simp [h ρ w hρ hw]
theorem o_build {parts : Array (Nat × Operand)} {u : Value} (vs : List Value) (hv : fevs fr (parts.toList.map (·.2)) = some vs) (h : ∀ w, (Instr.build t ((parts.toList.map (·.1)).zip vs).toArray).run P w = .ok u w) : Pv P ⟨d, .build t parts, ty, pos, af, g⟩ fr I u :=
  pv_of fun ρ w hρ _ => by
    have key : ∀ (l : List (Nat × Operand)) (vs : List Value), fevs fr (l.map (·.2)) = some vs → l.map (fun p => (p.1, ρ p.2)) = (l.map (·.1)).zip vs := by
      intro l
      induction l with
      | nil => intro vs h; simp
      | cons p l ih =>
        intro vs h
        simp only [List.map_cons, fevs] at h
        split at h
        · cases h
        · rename_i v hv
          split at h
          · cases h
          · rename_i vs' hvs
            cases h
            simp [ih _ hvs, hρ _ _ hv]
    have e : parts.map (fun p => (p.1, ρ p.2)) = ((parts.toList.map (·.1)).zip vs).toArray := by
      apply Array.toList_inj.1
      simp [key parts.toList vs hv]
    simp only [execOp]
    rw [e]
    simp [h w]

theorem fevs_map {ρ : Operand → Value} (hρ : ∀ x v, fev fr x = some v → ρ x = v) : ∀ (l : List Operand) (vs : List Value), fevs fr l = some vs → l.map ρ = vs := by
  intro l
  induction l with
  | nil => intro vs h; simpa [fevs] using h
  | cons x l ih =>
    intro vs h
    simp only [fevs] at h
    split at h
    · cases h
    · rename_i v hv
      split at h
      · cases h
      · rename_i vs' hvs
        cases h
        simp [ih _ hvs, hρ _ _ hv]

/-- a call of a function of the program -/
theorem o_call {f : FuncId} {args : Array Operand} {ts : Array TypeId} (vs : List Value) {R : Value → World → Prop} [hf : CFn P f] (hv : fevs fr args.toList = some vs)
    (h : ∀ w, I w → Calls P f vs.toArray w fun e w' => ∃ v, e = .returned v ∧ R v w') : O P ⟨d, .call ⟨.value (.func f), args, ts⟩, ty, pos, af, g⟩ fr I R := by
  intro ρ w hρ hw
  have e : args.map ρ = vs.toArray := by
    apply Array.toList_inj.1
    simp [fevs_map hρ _ _ hv]
  have hfv : ρ (.func f) = .func (.func f) #[] #[] := hρ _ _ rfl
  unfold Op1
  have : (execOp ρ ⟨d, .call ⟨.value (.func f), args, ts⟩, ty, pos, af, g⟩).run P w = .ok (.enter f vs.toArray) w := by
    simp [execOp, resolve, hfv, Deferred.ofValue, e, invoke, hf.enters]
  rw [this]
  exact h w hw

/-- a call of a function value -/
theorem o_callv {f : FuncId} {z : Operand} {args : Array Operand} {ts : Array TypeId} (vs cap : List Value) {R : Value → World → Prop} [hf : CFn P f] (hz : fev fr z = some (.func (.func f) #[] cap.toArray)) (hv : fevs fr args.toList = some vs)
    (h : ∀ w, I w → Calls P f (vs ++ cap).toArray w fun e w' => ∃ v, e = .returned v ∧ R v w') : O P ⟨d, .call ⟨.value z, args, ts⟩, ty, pos, af, g⟩ fr I R := by
  intro ρ w hρ hw
  have e : args.map ρ = vs.toArray := by
    apply Array.toList_inj.1
    simp [fevs_map hρ _ _ hv]
  have hfv : ρ z = .func (.func f) #[] cap.toArray := hρ _ _ hz
  unfold Op1
  have : (execOp ρ ⟨d, .call ⟨.value z, args, ts⟩, ty, pos, af, g⟩).run P w = .ok (.enter f (vs ++ cap).toArray) w := by
    simp [execOp, resolve, hfv, Deferred.ofValue, e, invoke, hf.enters]
  rw [this]
  exact h w hw

/-- a builtin that computes a value -/
theorem o_builtin {b : Builtin} {args : Array Operand} {ts : Array TypeId} {u : Value} (vs : List Value) (hv : fevs fr args.toList = some vs)
    (h : ∀ w consts, I w → (builtin b ts ty consts vs.toArray).run P w = .ok (.value u) w) : Pv P ⟨d, .call ⟨.builtin b, args, ts⟩, ty, pos, af, g⟩ fr I u :=
  pv_of fun ρ w hρ hw => by
    have e : args.map ρ = vs.toArray := by
      apply Array.toList_inj.1
      simp [fevs_map hρ _ _ hv]
    simp [execOp, resolve, e, invoke, h w _ hw]

theorem o_min {k : IntKind} {a b : Int} {u : Operand} {ts : Array TypeId} (hx : fev fr x = some (.int k a)) (hu : fev fr u = some (.int k b)) : Pv P ⟨d, .call ⟨.builtin .min, #[x, u], ts⟩, ty, pos, af, g⟩ fr I (.int k (min a b)) :=
  o_builtin [.int k a, .int k b] (by simp [fevs, hx, hu]) fun w c _ => by
    simp [builtin, Builtin.min_, Builtin.min2]; omega
theorem o_max {k : IntKind} {a b : Int} {u : Operand} {ts : Array TypeId} (hx : fev fr x = some (.int k a)) (hu : fev fr u = some (.int k b)) : Pv P ⟨d, .call ⟨.builtin .max, #[x, u], ts⟩, ty, pos, af, g⟩ fr I (.int k (max a b)) :=
  o_builtin [.int k a, .int k b] (by simp [fevs, hx, hu]) fun w c _ => by
    simp [builtin, Builtin.max_, Builtin.max2]; omega
theorem o_len {A : Option Addr} {n c e sz by_ : Nat} {ts : TypeId} [hs : CSl P ts e sz by_] (hx : fev fr x = some (.slice A n c)) : Pv P ⟨d, .call ⟨.builtin .len, #[x], #[ts]⟩, ty, pos, af, g⟩ fr I (.int .i64 n) :=
  o_builtin [.slice A n c] (by simp [fevs, hx]) fun w c _ => by
    simp [builtin, Builtin.len_, run_underlying hs.under, goInt]
theorem o_lens {s : ByteArray} {ts : TypeId} [hs : CStr P ts] (hx : fev fr x = some (.string s)) : Pv P ⟨d, .call ⟨.builtin .len, #[x], #[ts]⟩, ty, pos, af, g⟩ fr I (.int .i64 s.size) :=
  o_builtin [.string s] (by simp [fevs, hx]) fun w c _ => by
    simp [builtin, Builtin.len_, run_underlying hs.under, goInt]

end Go.Proofs.Ytbgolbkolcmldaa
