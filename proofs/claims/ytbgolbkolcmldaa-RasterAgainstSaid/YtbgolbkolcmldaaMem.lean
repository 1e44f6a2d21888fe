/-
  Operations that read, write and make memory.
-/
import Derived.Test.YtbgolbkolcmldaaOps
namespace Go.Proofs.Ytbgolbkolcmldaa
open Go.RowKit

variable {P : Program} {fr : Fr} {I : World → Prop} {d : Option Tmp} {ty t t' : TypeId} {pos : String} {af : Array Edge} {g : Option (Nat × Bool)} {x y : Operand}
variable {w0 : World} {X : List Nat} {L : HL}

theorem run_loadVar_sc [h : CSc P t] {w : World} {a : Addr} {v : Value} (hc : w.cell? a = some v) : (loadVar t a).run P w = .ok v w := by
  simp [loadVar, h.agg w, load, Sem.run, hc, Sem.run_bind]

theorem run_loadVar_ag {k : Nat} [h : CAg P t k] {w : World} {b o : Nat} {cs : List Value} (hl : cs.length = k) (hc : ∀ j v, cs[j]? = some v → w.cell? ⟨b, o + j, none⟩ = some v) : (loadVar t ⟨b, o, none⟩).run P w = .ok (.agg cs.toArray) w := by
  have hl' : (loadCells ⟨b, o, none⟩ cs.length).run P w = .ok cs.toArray w :=
    run_loadCells_list (P := P) w ⟨b, o, none⟩ cs (fun j v hv => by rw [Addr.add_mid]; exact hc j v hv)
  have hi := h.size
  cases hq : P.info? t with
  | none => rw [hq] at hi; cases hi
  | some i =>
    rw [hq] at hi
    simp only [Option.map_some, Option.some.injEq] at hi
    simp only [loadVar, Sem.run_bind, h.agg w, Result.andThen, if_true]
    simp [sizeOf, typeInfo, hq, hi, ← hl, hl']

/-- a load, by what is known of the cell -/
theorem o_load {a : Addr} {v : Value} [CSc P t] (hx : fev fr x = some (.pointer (some a))) (hc : ∀ w, I w → w.cell? a = some v) : Pv P ⟨d, .load t x, ty, pos, af, g⟩ fr I v :=
  pv_of fun ρ w hρ hw => by
    simp [execOp, hρ _ _ hx, Instr.loadAt, Instr.sureAddr, run_loadVar_sc (hc w hw)]
theorem o_loadA {b o k : Nat} {cs : List Value} [CAg P t k] (hx : fev fr x = some (.pointer (some ⟨b, o, none⟩))) (hl : cs.length = k) (hc : ∀ w, I w → ∀ j v, cs[j]? = some v → w.cell? ⟨b, o + j, none⟩ = some v) : Pv P ⟨d, .load t x, ty, pos, af, g⟩ fr I (.agg cs.toArray) :=
  pv_of fun ρ w hρ hw => by
    simp [execOp, hρ _ _ hx, Instr.loadAt, Instr.sureAddr, run_loadVar_ag hl (hc w hw)]

/-- a load out of the i-th known block -/
theorem o_loadB (i : Nat) {b k : Nat} {cs : List Value} {e : TypeId} {v : Value} [CSc P t] (hx : fev fr x = some (.pointer (some ⟨b, k, none⟩))) (hL : L[i]? = some (b, bx cs e)) (hv : cs[k]? = some v) : Pv P ⟨d, .load t x, ty, pos, af, g⟩ fr (St w0 X L) v :=
  o_load hx fun w hw => by rw [hw.cell (List.mem_of_getElem? hL), hv]
/-- a whole struct out of its own block -/
theorem o_loadBA (i : Nat) {b k : Nat} {cs : List Value} {e : TypeId} [CAg P t k] (hx : fev fr x = some (.pointer (some ⟨b, 0, none⟩))) (hL : L[i]? = some (b, bx cs e)) (hl : cs.length = k) : Pv P ⟨d, .load t x, ty, pos, af, g⟩ fr (St w0 X L) (.agg cs.toArray) :=
  o_loadA hx hl fun w hw j v hj => by rw [hw.cell (List.mem_of_getElem? hL), Nat.zero_add, hj]

theorem o_of {o : Oper} {R : Value → World → Prop} (h : ∀ ρ w, (∀ x v, fev fr x = some v → ρ x = v) → I w → ∃ u w', (execOp ρ o).run P w = .ok (.value u) w' ∧ R u w') : O P o fr I R := by
  intro ρ w hρ hw
  obtain ⟨u, w', hr, hR⟩ := h ρ w hρ hw
  unfold Op1
  rw [hr]
  exact hR
theorem o_ofu {o : Oper} {R : Value → World → Prop} (h : ∀ ρ w, (∀ x v, fev fr x = some v → ρ x = v) → I w → ∃ w', (execOp ρ o).run P w = .ok .skip w' ∧ R undef w') : O P o fr I R := by
  intro ρ w hρ hw
  obtain ⟨w', hr, hR⟩ := h ρ w hρ hw
  unfold Op1
  rw [hr]
  exact hR

/-- a fresh pointer -/
def PtrTo (w0 : World) (X : List Nat) (L : HL) (q : Obj → Prop) (v : Value) (w : World) : Prop := ∃ b, v = .pointer (some ⟨b, 0, none⟩) ∧ St w0 X ((b, q) :: L) w

theorem o_alloc {z : List Value} [hz : CZ P t z] : O P ⟨d, .alloc t, ty, pos, af, g⟩ fr (St w0 X L) (PtrTo w0 X L (bx z t)) :=
  o_of fun ρ w hρ hw => by
    obtain ⟨v, hv, hr⟩ := hz.run
    refine ⟨.pointer (some ⟨w.heap.size, 0, none⟩), w.alloc (.cells z.toArray t), ?_, w.heap.size, rfl, hw.alloc _ rfl⟩
    simp [execOp, Instr.alloc, hr, newVar, newRow, hv]

theorem o_box {v : Value} {cs : List Value} (hx : fev fr x = some v) (hc : v.cells.toList = cs) : O P ⟨d, .box t x, ty, pos, af, g⟩ fr (St w0 X L) (PtrTo w0 X L (bx cs t)) :=
  o_of fun ρ w hρ hw => by
    have hc' : v.cells = cs.toArray := by rw [← hc]
    refine ⟨.pointer (some ⟨w.heap.size, 0, none⟩), w.alloc (.cells cs.toArray t), ?_, w.heap.size, rfl, hw.alloc _ rfl⟩
    simp [execOp, Instr.box, hρ _ _ hx, newVar, newRow, hc']

theorem tl_new {r : Option Nat} {ops : Array Oper} {Q : Exit → Act → World → Prop} {nt : Nat} {D : List Deferred} {d : Nat} {op : Op} {rest : List Oper} {q : Obj → Prop} (ho : O P ⟨some d, op, ty, pos, af, none⟩ fr I (PtrTo w0 X L q)) (hd : Nat.ble nt d = false) (hn : Oper.noDefer ⟨some d, op, ty, pos, af, none⟩ = true)
    (h : ∀ b, TL P r ops Q nt D rest ((d, .pointer (some ⟨b, 0, none⟩)) :: fr) (St w0 X ((b, q) :: L))) : TL P r ops Q nt D (⟨some d, op, ty, pos, af, none⟩ :: rest) fr I :=
  tl_op hd hn ho fun v a w ha hw => by obtain ⟨b, rfl, hw⟩ := hw; exact h b a w ha hw

theorem oneCell_cells {v : Value} (h : v.oneCell' = true) : v.cells = #[v] := by cases v <;> first | rfl | (simp [Value.oneCell'] at h)

theorem run_storeVar_sc [h : CSc P t] {w : World} {b k : Nat} {v : Value} (h1 : v.oneCell' = true) (hc : (w.cell? ⟨b, k, none⟩).isSome = true) (hf : w.frozen? ⟨b, k, none⟩ = false) : (storeVar t ⟨b, k, none⟩ v).run P w = .ok () (w.setCell ⟨b, k, none⟩ v) := by
  have := run_storeCells_cells (P := P) b k [v] 0 w (by simpa using hc) (by simpa using hf) (by simpa using h1)
  have hi := h.one
  cases hq : P.info? t with
  | none => rw [hq] at hi; cases hi
  | some i =>
    rw [hq] at hi
    simp only [Option.map_some, Option.some.injEq] at hi
    simp [storeVar, sizeOf, typeInfo, hq, hi, oneCell_cells h1]
    simpa [World.setCells] using this

/-- the i-th known block is turned -/
def lput (L : HL) (i : Nat) (q : Obj → Prop) : HL := match L, i with
  | [], _ => []
  | p :: r, 0 => (p.1, q) :: r
  | p :: r, i + 1 => p :: lput r i q

theorem perm_get {L : HL} {i : Nat} {p : Nat × (Obj → Prop)} (h : L[i]? = some p) : L.Perm (p :: L.eraseIdx i) := by
  induction L generalizing i with
  | nil => simp at h
  | cons a r ih =>
    cases i with
    | zero => simp at h; subst h; simp
    | succ i =>
      simp only [List.getElem?_cons_succ] at h
      simp only [List.eraseIdx_cons_succ]
      exact ((ih h).cons a).trans (List.Perm.swap ..)
theorem perm_lput {L : HL} {i : Nat} {p : Nat × (Obj → Prop)} (q : Obj → Prop) (h : L[i]? = some p) : ((p.1, q) :: L.eraseIdx i).Perm (lput L i q) := by
  induction L generalizing i with
  | nil => simp at h
  | cons a r ih =>
    cases i with
    | zero => simp at h; subst h; simp [lput]
    | succ i =>
      simp only [List.getElem?_cons_succ] at h
      simp only [List.eraseIdx_cons_succ, lput]
      exact (List.Perm.swap ..).trans ((ih h).cons a)

theorem St.putAt {i b : Nat} {q q' : Obj → Prop} {w w' : World} (h : St w0 X L w) (hi : L[i]? = some (b, q)) (hg : w.grownBy w' (some b)) {o' : Obj} (ho : w'.heap[b]? = some o') (hq : q' o') : St w0 X (lput L i q') w' :=
  ((h.perm (perm_get hi)).put hg ho hq).perm (perm_lput q' hi)

theorem o_storeB (i : Nat) {b k : Nat} {cs : List Value} {e : TypeId} {v : Value} [CSc P t] (hx : fev fr x = some (.pointer (some ⟨b, k, none⟩))) (hy : fev fr y = some v) (hL : L[i]? = some (b, bx cs e)) (hk : Nat.blt k cs.length = true) (h1 : v.oneCell' = true) :
    O P ⟨d, .store t x y, ty, pos, af, g⟩ fr (St w0 X L) (fun _ w => St w0 X (lput L i (bx (cs.set k v) e)) w) :=
  o_ofu fun ρ w hρ hw => by
    have hk' : k < cs.length := by simpa [Nat.blt_eq] using hk
    have hg := hw.get (List.mem_of_getElem? hL)
    refine ⟨w.setCell ⟨b, k, none⟩ v, ?_, ?_⟩
    · have := run_storeVar_sc (P := P) (t := t) (w := w) (b := b) (k := k) h1 (by rw [cell_of hg]; simp [hk']) (frozen_of hg)
      simp [execOp, hρ _ _ hx, hρ _ _ hy, Instr.storeAt, Instr.sureAddr, this]
    · refine hw.putAt hL (grownBy_setCell w b k v) (heap_setCell_same hg) ?_
      simp [bx]

theorem run_storeVar_ag {n : Nat} [h : CAg P t n] {w : World} {b k : Nat} {vs : List Value} (hl : vs.length = n) (h1 : ∀ v ∈ vs, v.oneCell' = true) (hc : ∀ j, j < vs.length → (w.cell? ⟨b, k + j, none⟩).isSome = true) (hf : ∀ j, j < vs.length → w.frozen? ⟨b, k + j, none⟩ = false) :
    (storeVar t ⟨b, k, none⟩ (.agg vs.toArray)).run P w = .ok () (w.setCells b k vs) := by
  have := run_storeCells_cells (P := P) b k vs 0 w (by simpa using hc) (by simpa using hf) h1
  have hi := h.size
  cases hq : P.info? t with
  | none => rw [hq] at hi; cases hi
  | some i =>
    rw [hq] at hi
    simp only [Option.map_some, Option.some.injEq] at hi
    simp only [Nat.add_zero] at this
    simp [storeVar, sizeOf, typeInfo, hq, hi, Value.cells, hl, this]

/-- a whole struct into its own block -/
theorem o_storeBA (i : Nat) {b n : Nat} {cs vs : List Value} {e : TypeId} [CAg P t n] (hx : fev fr x = some (.pointer (some ⟨b, 0, none⟩))) (hy : fev fr y = some (.agg vs.toArray)) (hL : L[i]? = some (b, bx cs e)) (hl : vs.length = n) (hc : cs.length = n) (h1 : vs.all (·.oneCell') = true) :
    O P ⟨d, .store t x y, ty, pos, af, g⟩ fr (St w0 X L) (fun _ w => St w0 X (lput L i (bx vs e)) w) :=
  o_ofu fun ρ w hρ hw => by
    have hg := hw.get (List.mem_of_getElem? hL)
    refine ⟨w.setCells b 0 vs, ?_, ?_⟩
    · have := run_storeVar_ag (P := P) (t := t) (w := w) (b := b) (k := 0) hl (fun v hv => List.all_eq_true.1 h1 v hv) (fun j hj => by rw [cell_of hg]; simp; omega) (fun j _ => frozen_of hg)
      simp [execOp, hρ _ _ hx, hρ _ _ hy, Instr.storeAt, Instr.sureAddr, this]
    · obtain ⟨hgr, cs', hh, hs, hj⟩ := setCells_heap b vs 0 w _ e (0, 0) hg
      refine hw.putAt hL hgr hh ?_
      have : cs' = vs.toArray := by
        apply Array.ext_getElem?
        intro j
        rw [hj j]
        simp only [List.size_toArray, Nat.zero_le, true_and, Nat.zero_add, Nat.sub_zero, List.getElem?_toArray]
        by_cases hlt : j < vs.length
        · rw [if_pos (by omega)]
        · rw [if_neg (by omega), List.getElem?_eq_none (by omega), List.getElem?_eq_none (by omega)]
      rw [this]; rfl

theorem add_mk (b k off : Nat) : (⟨b, k, none⟩ : Addr).add off = ⟨b, k + off, none⟩ := Addr.add_mid b k off

theorem run_sizeOf {e sz by_ : Nat} [h : CSl P t e sz by_] (w : World) : (sizeOf e).run P w = .ok sz w := by
  obtain ⟨i, z, hi, hs, _⟩ := h.info
  simp [sizeOf, typeInfo, hi, hs]

/-- an element's address -/
theorem o_indexAddr {b off n cap e sz by_ : Nat} {k : IntKind} {i : Int} [h : CSl P t e sz by_] (hx : fev fr x = some (.slice (some ⟨b, off, none⟩) n cap)) (hy : fev fr y = some (.int k i)) (h0 : 0 ≤ i ∧ i < n) : Pv P ⟨d, .indexAddr t x y, ty, pos, af, g⟩ fr I (.pointer (some ⟨b, off + i.toNat * sz, none⟩)) :=
  pv_of fun ρ w hρ _ => by
    simp [execOp, hρ _ _ hx, hρ _ _ hy, Instr.indexAt, asIntOf, run_underlying h.under, h0.1, h0.2, run_sizeOf (t := t), add_mk]

/-- a byte of a string -/
theorem o_index {s : ByteArray} {k : IntKind} {i : Int} {u : UInt8} [h : CStr P t] (hx : fev fr x = some (.string s)) (hy : fev fr y = some (.int k i)) (h0 : 0 ≤ i) (hu : s[i.toNat]? = some u) : Pv P ⟨d, .index t x y, ty, pos, af, g⟩ fr I (.int .u8 u.toNat) :=
  pv_of fun ρ w hρ _ => by
    simp [execOp, hρ _ _ hx, hρ _ _ hy, Instr.index, asIntOf, run_underlying h.under, h0, hu]

end Go.Proofs.Ytbgolbkolcmldaa
