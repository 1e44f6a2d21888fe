/-
  Runs of operations that compute with the frame alone: reckoned in one step.
-/
import Derived.Test.YtbgolbkolcmldaaDrawB
namespace Go.Proofs.Ytbgolbkolcmldaa
open Go.RowKit

/-- tables of a program: a field's place, a type's kind (1: a slice, 2: a string) -/
structure Tab (P : Program) (off : Nat → Nat → Option Nat) (kd : Nat → Nat) : Prop where
  field : ∀ s f n, off s f = some n → CFd P s f n
  slice : ∀ t, kd t = 1 → ∃ e, P.underlying t = some (.slice e)
  str : ∀ t, kd t = 2 → P.underlying t = some .string

def cmpP (op : BinOp) (a b : Int) : Option Value := match op with
  | .lss => some (.bool (decide (a < b)))
  | .leq => some (.bool (decide (a ≤ b)))
  | .gtr => some (.bool (decide (b < a)))
  | .geq => some (.bool (decide (b ≤ a)))
  | .eql => some (.bool (decide (a = b)))
  | .neq => some (.bool (decide (a ≠ b)))
  | _ => none

def stepP (off : Nat → Nat → Option Nat) (kd : Nat → Nat) (fr : Fr) : Op → Option Value
  | .move x => fev fr x
  | .assign x => fev fr x
  | .fieldAddr s x f => match fev fr x with
    | some (.pointer (some ⟨b, k, none⟩)) => match off s f with
      | some n => some (.pointer (some ⟨b, k + n, none⟩))
      | none => none
    | _ => none
  | .extract x i => match fev fr x with
    | some (.tuple vs) => vs.toList[i]?
    | _ => none
  | .unOp .not _ x => match fev fr x with
    | some (.bool b) => some (.bool (!b))
    | _ => none
  | .binOp op _ x y _ => match op with
    | .lss | .leq | .gtr | .geq | .eql | .neq => match fev fr x with
      | some (.int k a) => match fev fr y with
        | some (.int k' b) => if k = k' then cmpP op a b else none
        | _ => none
      | _ => none
    | _ => none
  | .call ⟨.builtin b, args, ts⟩ => match b with
    | .len => match args.toList, ts.toList with
      | [x], [t] => match kd t with
        | 1 => match fev fr x with
          | some (.slice _ n _) => some (.int .i64 n)
          | _ => none
        | 2 => match fev fr x with
          | some (.string s) => some (.int .i64 s.size)
          | _ => none
        | _ => none
      | _, _ => none
    | .min => match args.toList with
      | [x, y] => match fev fr x with
        | some (.int k a) => match fev fr y with
          | some (.int k' b) => if k = k' then some (.int k (min a b)) else none
          | _ => none
        | _ => none
      | _ => none
    | .max => match args.toList with
      | [x, y] => match fev fr x with
        | some (.int k a) => match fev fr y with
          | some (.int k' b) => if k = k' then some (.int k (max a b)) else none
          | _ => none
        | _ => none
      | _ => none
    | _ => none
  | _ => none

variable {P : Program} {r : Option Nat} {Q : Exit → Act → World → Prop} {nt : Nat} {D : List Deferred} {fr : Fr} {I : World → Prop}
variable {off : Nat → Nat → Option Nat} {kd : Nat → Nat}

theorem cmpP_spec {op : BinOp} {a b : Int} {u : Value} (h : cmpP op a b = some u) {k : IntKind} {d : Option Tmp} {ty t t' : TypeId} {pos : String} {af : Array Edge} {g : Option (Nat × Bool)} {x y : Operand} (hx : fev fr x = some (.int k a)) (hy : fev fr y = some (.int k b)) : Pv P ⟨d, .binOp op t x y t', ty, pos, af, g⟩ fr I u := by
  cases op <;> simp only [cmpP, Option.some.injEq] at h <;> first | (subst h; first | exact o_lss hx hy | exact o_leq hx hy | exact o_gtr hx hy | exact o_geq hx hy | exact o_eql hx hy | exact o_neq hx hy) | cases h

section
variable {d : Option Tmp} {ty t t' : TypeId} {pos : String} {af : Array Edge} {g : Option (Nat × Bool)} {x y : Operand}
theorem o_minL {k : IntKind} {a b : Int} {args : Array Operand} {ts : Array TypeId} (ha : args.toList = [x, y]) (hx : fev fr x = some (.int k a)) (hy : fev fr y = some (.int k b)) : Pv P ⟨d, .call ⟨.builtin .min, args, ts⟩, ty, pos, af, g⟩ fr I (.int k (min a b)) := by
  obtain rfl : args = #[x, y] := Array.toList_inj.1 (by simpa using ha)
  exact o_min hx hy
theorem o_maxL {k : IntKind} {a b : Int} {args : Array Operand} {ts : Array TypeId} (ha : args.toList = [x, y]) (hx : fev fr x = some (.int k a)) (hy : fev fr y = some (.int k b)) : Pv P ⟨d, .call ⟨.builtin .max, args, ts⟩, ty, pos, af, g⟩ fr I (.int k (max a b)) := by
  obtain rfl : args = #[x, y] := Array.toList_inj.1 (by simpa using ha)
  exact o_max hx hy
theorem o_lenL (ht : Tab P off kd) {A : Option Addr} {n c : Nat} {args : Array Operand} {ts : Array TypeId} (ha : args.toList = [x]) (hts : ts.toList = [t]) (hk : kd t = 1) (hx : fev fr x = some (.slice A n c)) : Pv P ⟨d, .call ⟨.builtin .len, args, ts⟩, ty, pos, af, g⟩ fr I (.int .i64 n) := by
  obtain rfl : args = #[x] := Array.toList_inj.1 (by simpa using ha)
  obtain rfl : ts = #[t] := Array.toList_inj.1 (by simpa using hts)
  obtain ⟨e, he⟩ := ht.slice _ hk
  refine o_builtin [.slice A n c] (by simp [fevs, hx]) fun w c _ => ?_
  simp [builtin, Builtin.len_, run_underlying he, goInt]
theorem o_lensL (ht : Tab P off kd) {s : ByteArray} {args : Array Operand} {ts : Array TypeId} (ha : args.toList = [x]) (hts : ts.toList = [t]) (hk : kd t = 2) (hx : fev fr x = some (.string s)) : Pv P ⟨d, .call ⟨.builtin .len, args, ts⟩, ty, pos, af, g⟩ fr I (.int .i64 s.size) := by
  obtain rfl : args = #[x] := Array.toList_inj.1 (by simpa using ha)
  obtain rfl : ts = #[t] := Array.toList_inj.1 (by simpa using hts)
  refine o_builtin [.string s] (by simp [fevs, hx]) fun w c _ => ?_
  simp [builtin, Builtin.len_, run_underlying (ht.str _ hk), goInt]
end

theorem stepP_spec (ht : Tab P off kd) {op : Op} {u : Value} (h : stepP off kd fr op = some u) {d : Option Tmp} {ty : TypeId} {pos : String} {af : Array Edge} {g : Option (Nat × Bool)} : Pv P ⟨d, op, ty, pos, af, g⟩ fr I u := by
  unfold stepP at h
  split at h
  · exact o_move h
  · exact o_assign h
  · split at h
    · split at h
      · rename_i hx _ _ hn
        cases h
        exact @o_fieldAddr _ _ _ _ _ _ _ _ _ _ _ _ _ _ (ht.field _ _ _ hn) hx
      · cases h
    · cases h
  · split at h
    · rename_i hx
      exact o_extract hx (by simpa using h)
    · cases h
  · split at h
    · rename_i hx; cases h; exact o_not hx
    · cases h
  · split at h
    all_goals first
      | (split at h
         · split at h
           · split at h
             · rename_i hx _ _ _ hy hk
               subst hk
               exact cmpP_spec h hx hy
             · cases h
           · cases h
         · cases h)
      | cases h
  · split at h
    · split at h
      · split at h
        · split at h
          · cases h
            rename_i ha hts _ hk _ _ _ _ hx
            first | exact o_lenL ht (by assumption) (by assumption) (by assumption) (by assumption)
          · cases h
        · split at h
          · cases h
            rename_i ha hts _ hk _ _ hx
            first | exact o_lensL ht (by assumption) (by assumption) (by assumption) (by assumption)
          · cases h
        · cases h
      · cases h
    · split at h
      · split at h
        · split at h
          · split at h
            · rename_i ha _ _ _ hx _ _ _ hy hk
              subst hk
              cases h
              exact o_minL ha hx hy
            · cases h
          · cases h
        · cases h
      · cases h
    · split at h
      · split at h
        · split at h
          · split at h
            · rename_i ha _ _ _ hx _ _ _ hy hk
              subst hk
              cases h
              exact o_maxL ha hx hy
            · cases h
          · cases h
        · cases h
      · cases h
    · cases h
  · cases h

/-- as far as it goes -/
def runP (off : Nat → Nat → Option Nat) (kd : Nat → Nat) (nt : Nat) : List Oper → Fr → List Oper × Fr
  | [], fr => ([], fr)
  | o :: rest, fr => match o.guard with
    | some _ => (o :: rest, fr)
    | none => match o.dst with
      | none => (o :: rest, fr)
      | some d => match stepP off kd fr o.op with
        | none => (o :: rest, fr)
        | some u => bif Nat.ble nt d then (o :: rest, fr) else runP off kd nt rest ((d, u) :: fr)

theorem runP_spec {ops : Array Oper} (ht : Tab P off kd) : ∀ (l : List Oper) (fr : Fr) {rest' : List Oper} {fr' : Fr}, runP off kd nt l fr = (rest', fr') → TL P r ops Q nt D rest' fr' I → TL P r ops Q nt D l fr I
  | [], fr, _, _, h, hn => by cases h; exact hn
  | o :: rest, fr, rest', fr', h, hn => by
    obtain ⟨dst, op, ty, pos, af, g⟩ := o
    simp only [runP] at h
    cases g with
    | some _ => cases h; exact hn
    | none =>
      cases dst with
      | none => cases h; exact hn
      | some d =>
        simp only at h
        cases hs : stepP off kd fr op with
        | none => rw [hs] at h; cases h; exact hn
        | some u =>
          rw [hs] at h
          cases hb : Nat.ble nt d with
          | true => rw [hb] at h; cases h; exact hn
          | false =>
            rw [hb] at h
            have hnd : Oper.noDefer ⟨some d, op, ty, pos, af, none⟩ = true := by
              unfold stepP at hs
              cases op <;> first | rfl | cases hs
            exact tl_val (stepP_spec ht hs) hb hnd (runP_spec ht rest _ h hn)

theorem tl_run {ops : Array Oper} {d : Nat} {op : Op} {ty : TypeId} {pos : String} {af : Array Edge} {u : Value} {rest rest' : List Oper} {fr' : Fr} (ht : Tab P off kd) (_h1 : stepP off kd fr op = some u) (h : runP off kd nt (⟨some d, op, ty, pos, af, none⟩ :: rest) fr = (rest', fr')) (hn : TL P r ops Q nt D rest' fr' I) :
    TL P r ops Q nt D (⟨some d, op, ty, pos, af, none⟩ :: rest) fr I := runP_spec ht _ _ h hn

/-! ### steps by the kind of the operation -/
section
variable {ops : Array Oper} {d : Nat} {ty t t' : TypeId} {pos : String} {af : Array Edge} {x y c : Operand} {rest : List Oper} {u : Value} {I' : World → Prop} {w0 : World} {X : List Nat} {L : HL} {q : Obj → Prop} {op : BinOp}
theorem tl_load (ho : O P ⟨some d, .load t x, ty, pos, af, none⟩ fr I (fun v w => v = u ∧ I' w)) (hd : Nat.ble nt d = false) (h : TL P r ops Q nt D rest ((d, u) :: fr) I') : TL P r ops Q nt D (⟨some d, .load t x, ty, pos, af, none⟩ :: rest) fr I := tl_val ho hd rfl h
theorem tl_pick (ho : O P ⟨some d, .pick c x y, ty, pos, af, none⟩ fr I (fun v w => v = u ∧ I' w)) (hd : Nat.ble nt d = false) (h : TL P r ops Q nt D rest ((d, u) :: fr) I') : TL P r ops Q nt D (⟨some d, .pick c x y, ty, pos, af, none⟩ :: rest) fr I := tl_val ho hd rfl h
theorem tl_bin (ho : O P ⟨some d, .binOp op t x y t', ty, pos, af, none⟩ fr I (fun v w => v = u ∧ I' w)) (hd : Nat.ble nt d = false) (h : TL P r ops Q nt D rest ((d, u) :: fr) I') : TL P r ops Q nt D (⟨some d, .binOp op t x y t', ty, pos, af, none⟩ :: rest) fr I := tl_val ho hd rfl h
theorem tl_box (ho : O P ⟨some d, .box t x, ty, pos, af, none⟩ fr I (PtrTo w0 X L q)) (hd : Nat.ble nt d = false) (h : ∀ b, TL P r ops Q nt D rest ((d, .pointer (some ⟨b, 0, none⟩)) :: fr) (St w0 X ((b, q) :: L))) : TL P r ops Q nt D (⟨some d, .box t x, ty, pos, af, none⟩ :: rest) fr I := tl_new ho hd rfl h
theorem tl_alloc {z : List Value} [CZ P t z] (hd : Nat.ble nt d = false) (h : ∀ b, TL P r ops Q nt D rest ((d, .pointer (some ⟨b, 0, none⟩)) :: fr) (St w0 X ((b, bx z t) :: L))) : TL P r ops Q nt D (⟨some d, .alloc t, ty, pos, af, none⟩ :: rest) fr (St w0 X L) := tl_new o_alloc hd rfl h
end

section
variable {l rest : List Oper} {ks kr : List Kd} {k : Nat} {d : Option Tmp} {op : Op} {ty : TypeId} {pos : String} {af : Array Edge} {u : Value} {w0 : World} {X : List Nat} {L : HL} {fin : Fr → Prop} {acc : Fr}
theorem ob_p (ht : Tab P off kd) (h : ∀ β, stepP off kd (frk l.toArray (evk ks β) fr af.toList) op = some u) (hr : ObsB P l fr w0 X L ks (k + 1) rest kr) : ObsB P l fr w0 X L ks k (⟨d, op, ty, pos, af, none⟩ :: rest) (.val u :: kr) :=
  ob_v (fun β _ => stepP_spec ht (h β)) hr
theorem dv_p (ht : Tab P off kd) (h : stepP off kd (frk l.toArray (lv acc) fr af.toList) op = some u) (hr : DV P l fr I fin (k + 1) rest ((k, u) :: acc)) : DV P l fr I fin k (⟨d, op, ty, pos, af, none⟩ :: rest) acc := dv_op (stepP_spec ht h) hr
theorem de_p {Bf Af : World → Prop} {k0 : Nat} (ht : Tab P off kd) (hk : Nat.beq k k0 = false) (h : stepP off kd (frk l.toArray (lv acc) fr af.toList) op = some u) (hr : DE P l fr Bf Af k0 fin (k + 1) rest ((k, u) :: acc)) : DE P l fr Bf Af k0 fin k (⟨d, op, ty, pos, af, none⟩ :: rest) acc := de_v hk (fun _ _ => stepP_spec ht h) hr
theorem dv_py (ht : Tab P off kd) {j : Nat} {want : Bool} (hj : lv acc j = .bool want) (h : stepP off kd (frk l.toArray (lv acc) fr af.toList) op = some u) (hr : DV P l fr I fin (k + 1) rest ((k, u) :: acc)) : DV P l fr I fin k (⟨d, op, ty, pos, af, some (j, want)⟩ :: rest) acc := dv_yes hj (stepP_spec ht h) hr
end

/-! ### tables, checked by the kernel -/

def offOf (L : List (List Nat)) (s f : Nat) : Option Nat := match L[s]? with
  | some q => q[f]?
  | none => none
def kdOf (L : List Nat) (t : Nat) : Nat := match L[t]? with
  | some k => k
  | none => 0

def fieldOk (P : Program) (s f n : Nat) : Bool := match P.underlying s with
  | some (.struct fields) => match fields[f]? with
    | some fl => fl.offset == n && (match P.info? fl.type with | some i => i.size != 0 | none => false)
    | none => false
  | _ => false
def kindOk (P : Program) (t k : Nat) : Bool := match P.underlying t with
  | some (.slice _) => k != 2
  | some .string => k != 1
  | _ => k != 1 && k != 2
def tabOk (P : Program) (L : List (List Nat)) (K : List Nat) : Bool :=
  ((List.range L.length).all fun s => match L[s]? with | some q => (List.range q.length).all fun f => (match q[f]? with | some n => fieldOk P s f n | none => true) | none => true) &&
  ((List.range K.length).all fun t => match K[t]? with | some k => kindOk P t k | none => true)

theorem cfd_of {s f n : Nat} (h : fieldOk P s f n = true) : CFd P s f n := by
  unfold fieldOk at h
  split at h
  · rename_i fields hu
    split at h
    · rename_i fl hf
      simp only [Bool.and_eq_true, beq_iff_eq] at h
      obtain ⟨ho, hs⟩ := h
      split at hs
      · rename_i i hi
        have hne : ¬ i.size = 0 := by simpa using hs
        refine ⟨fun a w => ?_⟩
        simp [Instr.fieldAt, run_underlying hu, hf, Instr.sureAddr, fieldPlace, sizeOf, typeInfo, hi, hne, ho]
      · cases hs
    · cases h
  · cases h

theorem tab_of {L : List (List Nat)} {K : List Nat} (h : tabOk P L K = true) : Tab P (offOf L) (kdOf K) := by
  simp only [tabOk, Bool.and_eq_true, List.all_eq_true, List.mem_range] at h
  obtain ⟨h1, h2⟩ := h
  refine ⟨fun s f n hn => ?_, fun t hk => ?_, fun t hk => ?_⟩
  · unfold offOf at hn
    cases hq : L[s]? with
    | none => rw [hq] at hn; cases hn
    | some q =>
      rw [hq] at hn
      have a1 := h1 s (List.getElem?_eq_some_iff.1 hq).1
      rw [hq] at a1
      simp only [List.all_eq_true, List.mem_range] at a1
      have a2 := a1 f (List.getElem?_eq_some_iff.1 hn).1
      simp only [hn] at a2
      exact cfd_of a2
  · unfold kdOf at hk
    cases hq : K[t]? with
    | none => rw [hq] at hk; cases hk
    | some k =>
      rw [hq] at hk; subst hk
      have a1 := h2 t (List.getElem?_eq_some_iff.1 hq).1
      rw [hq] at a1
      simp only [kindOk] at a1
      split at a1 <;> first | (rename_i e he; exact ⟨e, he⟩) | simp at a1
  · unfold kdOf at hk
    cases hq : K[t]? with
    | none => rw [hq] at hk; cases hk
    | some k =>
      rw [hq] at hk; subst hk
      have a1 := h2 t (List.getElem?_eq_some_iff.1 hq).1
      rw [hq] at a1
      simp only [kindOk] at a1
      split at a1 <;> first | assumption | simp at a1

end Go.Proofs.Ytbgolbkolcmldaa
