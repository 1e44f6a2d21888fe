/-
  Rows of pixels in memory; calls that write one block of the caller's.
-/
import Derived.Test.YtbgolbkolcmldaaSl
import Derived.Laws.IdiomStrings
namespace Go.Proofs.Ytbgolbkolcmldaa
open Go.RowKit

variable {P : Program} {r : Option Nat} {Q : Exit → Act → World → Prop} {nt : Nat} {D : List Deferred} {fr : Fr} {I : World → Prop}
variable {w0 : World} {X : List Nat} {L : HL}
variable {d : Option Tmp} {ty t t' : TypeId} {pos : String} {af : Array Edge} {g : Option (Nat × Bool)} {x y : Operand}

def pixV (p : Bool) : Value := .int .u8 (if p then 35 else 46)

/-- n pixels at the head of a block -/
def px (e : TypeId) (n : Nat) (p : Nat → Bool) : Obj → Prop := fun o => ∃ cur : Array Value, o = .cells cur e (0, 0) ∧ n ≤ cur.size ∧ ∀ j, j < n → cur[j]? = some (pixV (p j))

theorem px_blank {e : TypeId} {n : Nat} {o : Obj} (h : pre e n (List.replicate n (.int .u8 46)) o) : px e n (fun _ => false) o := by
  obtain ⟨cur, rfl, hn, s, hs⟩ := h
  refine ⟨cur, rfl, hn, fun j hj => ?_⟩
  rw [← Array.getElem?_toList, ← hs, List.getElem?_append_left (by simpa using hj), List.getElem?_replicate, if_pos hj]
  rfl

theorem px_congr {e : TypeId} {n : Nat} {p q : Nat → Bool} {o : Obj} (h : px e n p o) (hpq : ∀ j, j < n → p j = q j) : px e n q o := by
  obtain ⟨cur, rfl, hn, hc⟩ := h
  exact ⟨cur, rfl, hn, fun j hj => by rw [← hpq j hj]; exact hc j hj⟩

theorem o_storePx (i : Nat) {b k n : Nat} {p : Nat → Bool} {e : TypeId} [CSc P t] (hx : fev fr x = some (.pointer (some ⟨b, k, none⟩))) (hy : fev fr y = some (.int .u8 35)) (hL : L[i]? = some (b, px e n p)) (hk : k < n) :
    O P ⟨d, .store t x y, ty, pos, af, g⟩ fr (St w0 X L) (fun _ w => St w0 X (lput L i (px e n fun j => p j || decide (j = k))) w) :=
  o_ofu fun ρ w hρ hw => by
    obtain ⟨o, ho, cur, rfl, hn, hc⟩ := hw.here _ (List.mem_of_getElem? hL)
    simp only at ho
    refine ⟨w.setCell ⟨b, k, none⟩ (.int .u8 35), ?_, ?_⟩
    · have := run_storeVar_sc (P := P) (t := t) (w := w) (b := b) (k := k) (v := .int .u8 35) rfl (by rw [cell_of ho]; simp; omega) (frozen_of ho)
      simp [execOp, hρ _ _ hx, hρ _ _ hy, Instr.storeAt, Instr.sureAddr, this]
    · refine hw.putAt hL (grownBy_setCell w b k _) (heap_setCell_same ho) ⟨_, rfl, by simpa using hn, fun j hj => ?_⟩
      rw [Array.getElem?_setIfInBounds]
      by_cases h : k = j
      · subst h
        rw [if_pos rfl, if_pos (by omega)]
        simp [pixV]
      · rw [if_neg h, hc j hj]
        have : decide (j = k) = false := by simp; omega
        simp [this]

def rowB (W : Nat) (p : Nat → Bool) : ByteArray := ⟨((List.range W).map fun j => if p j then (35 : UInt8) else 46).toArray⟩

/-- a row of pixels as a string -/
theorem o_convPx {b n cap e by_ : Nat} {p : Nat → Bool} [hs : CSl P t e 1 by_] [he : CInt P e .u8] [hd : CStr P t'] (hx : fev fr x = some (.slice (some ⟨b, 0, none⟩) n cap)) (hL : ∀ w, I w → ∃ o, w.heap[b]? = some o ∧ px e n p o) : Pv P ⟨d, .convert t t' x, ty, pos, af, g⟩ fr I (.string (rowB n p)) :=
  pv_of fun ρ w hρ hw => by
    obtain ⟨o, ho, cur, rfl, hn, hc⟩ := hL w hw
    have := run_convert_bytes_back (P := P) w t t' e ⟨b, 0, none⟩ cap ((List.range n).map fun j => if p j then (35 : UInt8) else 46) hs.under he.under hd.under (fun j hj => by
      have hj' : j < n := by simpa using hj
      rw [add_mk, cell_of ho, Nat.zero_add, hc j hj']
      simp only [List.getElem_map, List.getElem_range, pixV]
      cases p j <;> rfl)
    simp only [List.length_map, List.length_range] at this
    simp [execOp, hρ _ _ hx, this, rowB]

/-- a call that writes one block of the caller's -/
def Wrote (w : World) (b : Nat) (q : Obj → Prop) : Ending → World → Prop := fun e w' => e = .returned (.tuple #[]) ∧ w.grownBy w' (some b) ∧ ∃ o, w'.heap[b]? = some o ∧ q o

theorem calls_W {f : FuncId} {fn : Func} {c : Code} {vs : List Value} {w : World} {R : Ending → World → Prop} {b : Nat} {o : Obj} {q : Obj → Prop} (ho : w.heap[b]? = some o) (hq : q o) (hf : P.funcs[f]? = some fn) (hb : fn.body = some c) (hn : fn.ntmps = nt) (hs : Nat.ble vs.length nt = true)
    (h : T P none c (bodyPost P fn R) nt [] (fargs 0 vs) (St w [b] [(b, q)])) : Calls P f vs.toArray w R :=
  calls_T hf hb hn hs fun a w' ha hw => by
    subst hw
    exact h a _ ha ⟨rfl, rfl, rfl, Nat.le_refl _, fun _ _ _ => rfl, by simpa using ⟨o, ho, hq⟩, by simp, by simp⟩

theorem St.wrote {w w' : World} {b : Nat} {q : Obj → Prop} {L : HL} (h : St w [b] ((b, q) :: L) w') : Wrote w b q (.returned (.tuple #[])) w' :=
  ⟨rfl, ⟨h.os, h.tape, h.output, h.size, fun k hk hne => h.old k hk (by simpa using hne)⟩, h.here _ (List.mem_cons_self ..)⟩

theorem o_wrote (i : Nat) {f : FuncId} {args : Array Operand} {ts : Array TypeId} {vs : List Value} {b : Nat} {q q' : Obj → Prop} [CFn P f] (hv : fevs fr args.toList = some vs) (hL : L[i]? = some (b, q)) (hc : ∀ w o, w.heap[b]? = some o → q o → Calls P f vs.toArray w (Wrote w b q')) :
    O P ⟨d, .call ⟨.value (.func f), args, ts⟩, ty, pos, af, g⟩ fr (St w0 X L) (fun v w => v = .tuple #[] ∧ St w0 X (lput L i q') w) :=
  o_call vs hv fun w hw => by
    obtain ⟨o, ho, hq⟩ := hw.here _ (List.mem_of_getElem? hL)
    exact (hc w o ho hq).mono fun e w' ⟨he, hg, o', ho', hq'⟩ => ⟨_, he, rfl, hw.putAt hL hg ho' hq'⟩

theorem lput_get (q : Obj → Prop) : ∀ (L : HL) (i j : Nat), (lput L i q)[j]? = if j = i then (L[j]?).map fun p => (p.1, q) else L[j]?
  | [], i, j => by cases i <;> simp [lput]
  | p :: L, 0, 0 => by simp [lput]
  | p :: L, 0, j + 1 => by simp [lput]
  | p :: L, i + 1, 0 => by simp [lput]
  | p :: L, i + 1, j + 1 => by
    simp only [lput, List.getElem?_cons_succ]
    rw [lput_get q L i j]
    simp

theorem St.imps {L L' : HL} {w : World} (h : St w0 X L w) (himp : ∀ i : Nat, match L[i]?, L'[i]? with | some p, some q => p.1 = q.1 ∧ ∀ o, p.2 o → q.2 o | none, none => True | _, _ => False) : St w0 X L' w := by
  have hl : L.map (·.1) = L'.map (·.1) := by
    apply List.ext_getElem?
    intro i
    have := himp i
    rw [List.getElem?_map, List.getElem?_map]
    cases h1 : L[i]? <;> cases h2 : L'[i]? <;> simp [h1, h2] at this ⊢
    exact this.1
  have hm : ∀ q ∈ L', ∃ p ∈ L, p.1 = q.1 ∧ ∀ o, p.2 o → q.2 o := by
    intro q hq
    obtain ⟨i, hi⟩ := List.mem_iff_getElem?.1 hq
    have := himp i
    cases h1 : L[i]? with
    | none => simp [h1, hi] at this
    | some p =>
      simp [h1, hi] at this
      exact ⟨p, List.mem_of_getElem? h1, this.1, this.2⟩
  refine ⟨h.os, h.tape, h.output, h.size, h.old, ?_, ?_, ?_⟩
  · intro q hq
    obtain ⟨p, hp, h1, h2⟩ := hm q hq
    obtain ⟨o, ho, hpo⟩ := h.here p hp
    exact ⟨o, by rw [← h1]; exact ho, h2 o hpo⟩
  · intro q hq
    obtain ⟨p, hp, h1, h2⟩ := hm q hq
    rw [← h1]
    exact h.mine p hp
  · rw [← hl]; exact h.apart

end Go.Proofs.Ytbgolbkolcmldaa
