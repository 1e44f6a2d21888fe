/-
  Steps that find their own facts; memory that a callee has made; loops that keep what they do not write.
-/
import Derived.Test.YtbgolbkolcmldaaDrawW
import Derived.Test.YtbgolbkolcmldaaSl
import Derived.Test.YtbgolbkolcmldaaPx
namespace Go.Proofs.Ytbgolbkolcmldaa
open Go.RowKit

variable {P : Program} {r : Option Nat} {Q : Exit → Act → World → Prop} {nt : Nat} {D : List Deferred} {fr : Fr} {I : World → Prop}
variable {w0 : World} {X : List Nat} {L : HL} {ops : Array Oper} {rest : List Oper} {d : Nat}
variable {dd : Option Tmp} {ty t t' : TypeId} {pos : String} {af : Array Edge} {g : Option (Nat × Bool)} {x y c : Operand} {u : Value}

/-! ### cells of old -/
def Cl (w : World) (b k : Nat) (v : Value) : Prop := b < w.heap.size ∧ w.cell? ⟨b, k, none⟩ = some v
def ClA (w : World) (b k : Nat) (cs : List Value) : Prop := b < w.heap.size ∧ ∀ j v, cs[j]? = some v → w.cell? ⟨b, k + j, none⟩ = some v
theorem o_loadC {b k : Nat} {v : Value} [CSc P t] (hx : fev fr x = some (.pointer (some ⟨b, k, none⟩))) (h : Cl w0 b k v) : Pv P ⟨dd, .load t x, ty, pos, af, g⟩ fr (St w0 [] L) v := o_loadO hx h.1 h.2
theorem o_loadCF {b k j : Nat} {cs : List Value} {v : Value} [CSc P t] (hx : fev fr x = some (.pointer (some ⟨b, k + j, none⟩))) (h : ClA w0 b k cs) (hv : cs[j]? = some v) : Pv P ⟨dd, .load t x, ty, pos, af, g⟩ fr (St w0 [] L) v := o_loadO hx h.1 (h.2 j v hv)
theorem o_loadCA {b k n : Nat} {cs : List Value} [CAg P t n] (hx : fev fr x = some (.pointer (some ⟨b, k, none⟩))) (h : ClA w0 b k cs) (hl : cs.length = n) : Pv P ⟨dd, .load t x, ty, pos, af, g⟩ fr (St w0 [] L) (.agg cs.toArray) := o_loadOA hx hl h.1 h.2

theorem o_loadCX {b k : Nat} {v : Value} [CSc P t] (hx : fev fr x = some (.pointer (some ⟨b, k, none⟩))) (h : Cl w0 b k v) (hn : b ∉ X) : Pv P ⟨dd, .load t x, ty, pos, af, g⟩ fr (St w0 X L) v :=
  o_load hx fun w hw => by rw [hw.oldCell (a := ⟨b, k, none⟩) h.1 hn]; exact h.2
theorem o_loadCFX {b k j : Nat} {cs : List Value} {v : Value} [CSc P t] (hx : fev fr x = some (.pointer (some ⟨b, k + j, none⟩))) (h : ClA w0 b k cs) (hn : b ∉ X) (hv : cs[j]? = some v) : Pv P ⟨dd, .load t x, ty, pos, af, g⟩ fr (St w0 X L) v := o_loadCX hx ⟨h.1, h.2 j v hv⟩ hn
theorem o_loadCAX {b k n : Nat} {cs : List Value} [CAg P t n] (hx : fev fr x = some (.pointer (some ⟨b, k, none⟩))) (h : ClA w0 b k cs) (hn : b ∉ X) (hl : cs.length = n) : Pv P ⟨dd, .load t x, ty, pos, af, g⟩ fr (St w0 X L) (.agg cs.toArray) :=
  o_loadA hx hl fun w hw j v hj => by rw [hw.oldCell (a := ⟨b, k + j, none⟩) h.1 hn]; exact h.2 j v hj

/-! ### memory that a callee has made -/
def seg (w w' : World) : HL := (List.range' w.heap.size (w'.heap.size - w.heap.size)).map fun b => (b, fun o => w'.heap[b]? = some o)

theorem St.addSeg {w w' : World} (h : St w0 X L w) (e : Ext w w') : St w0 X (L ++ seg w w') w' := by
  refine (h.ext e).addAll ?_ ?_
  · intro p hp
    obtain ⟨b, hb, rfl⟩ := List.mem_map.1 hp
    simp only [List.mem_range'_1] at hb
    have hs := e.size
    refine ⟨⟨_, Array.getElem?_eq_getElem (by omega), Array.getElem?_eq_getElem (by omega)⟩, .inl (Nat.le_trans h.size hb.1), fun hm => ?_⟩
    obtain ⟨q, hq, hqe⟩ := List.mem_map.1 hm
    have := h.lt hq
    simp only at hqe
    omega
  · have : (seg w w').map (·.1) = List.range' w.heap.size (w'.heap.size - w.heap.size) := by
      unfold seg
      rw [List.map_map]
      simp [Function.comp_def]
    rw [this]
    exact List.nodup_range'

theorem St.segGet {w w1 w2 : World} (h : St w0 X L w) (hm : ∀ p ∈ seg w1 w2, p ∈ L) {b : Nat} (h1 : w1.heap.size ≤ b) (h2 : b < w2.heap.size) : w.heap[b]? = w2.heap[b]? := by
  have hp : (b, fun o => w2.heap[b]? = some o) ∈ seg w1 w2 := List.mem_map.2 ⟨b, by simp only [List.mem_range'_1]; omega, rfl⟩
  obtain ⟨o, ho, hq⟩ := h.here _ (hm _ hp)
  exact ho.trans hq.symm

/-- cells of blocks that a callee has made -/
def Cs (w1 w2 : World) (b k : Nat) (v : Value) : Prop := w1.heap.size ≤ b ∧ w2.cell? ⟨b, k, none⟩ = some v
def CsA (w1 w2 : World) (b k : Nat) (cs : List Value) : Prop := (w1.heap.size ≤ b ∧ b < w2.heap.size) ∧ ∀ j v, cs[j]? = some v → w2.cell? ⟨b, k + j, none⟩ = some v
theorem cell_lt {w : World} {b k : Nat} {v : Value} (h : w.cell? ⟨b, k, none⟩ = some v) : b < w.heap.size := by
  rcases Nat.lt_or_ge b w.heap.size with hlt | hge
  · exact hlt
  · simp [World.cell?, Array.getElem?_eq_none hge] at h
theorem o_loadS {w1 w2 : World} {b k : Nat} {v : Value} [CSc P t] (hx : fev fr x = some (.pointer (some ⟨b, k, none⟩))) (h : Cs w1 w2 b k v) (hm : ∀ p ∈ seg w1 w2, p ∈ L) : Pv P ⟨dd, .load t x, ty, pos, af, g⟩ fr (St w0 X L) v :=
  o_load hx fun w hw => by rw [World.cell?_of_block (hw.segGet hm h.1 (cell_lt h.2))]; exact h.2
theorem o_loadSF {w1 w2 : World} {b k j : Nat} {cs : List Value} {v : Value} [CSc P t] (hx : fev fr x = some (.pointer (some ⟨b, k + j, none⟩))) (h : CsA w1 w2 b k cs) (hv : cs[j]? = some v) (hm : ∀ p ∈ seg w1 w2, p ∈ L) : Pv P ⟨dd, .load t x, ty, pos, af, g⟩ fr (St w0 X L) v :=
  o_loadS hx ⟨h.1.1, h.2 j v hv⟩ hm
theorem o_loadSA {w1 w2 : World} {b k n : Nat} {cs : List Value} [CAg P t n] (hx : fev fr x = some (.pointer (some ⟨b, k, none⟩))) (h : CsA w1 w2 b k cs) (hl : cs.length = n) (hm : ∀ p ∈ seg w1 w2, p ∈ L) : Pv P ⟨dd, .load t x, ty, pos, af, g⟩ fr (St w0 X L) (.agg cs.toArray) :=
  o_loadA hx hl fun w hw j v hj => by rw [World.cell?_of_block (hw.segGet hm h.1.1 h.1.2)]; exact h.2 j v hj

/-- a slice all of whose cells lie in blocks from n on, below m -/
def RdI (n m : Nat) (w : World) (sz : Nat) (v : Value) (xs : List Value) : Prop :=
  ∃ A len cap, v = .slice A len cap ∧ xs.length = len * sz ∧ len ≤ cap ∧ cap ≤ maxLen ∧ (0 < len → ∃ b off, A = some ⟨b, off, none⟩ ∧ n ≤ b ∧ b < m ∧ b < w.heap.size ∧ ∀ j u, xs[j]? = some u → w.cell? ⟨b, off + j, none⟩ = some u)
theorem RdI.rd {n m : Nat} {w : World} {sz : Nat} {v : Value} {xs : List Value} (h : RdI n m w sz v xs) : Rd w sz v xs := by
  obtain ⟨A, len, cap, hv, hl, h1, h2, hr⟩ := h
  refine ⟨A, len, cap, hv, hl, h1, h2, fun h0 => ?_⟩
  obtain ⟨b, off, ha, _, _, hb, hc⟩ := hr h0
  exact ⟨b, off, ha, hb, hc⟩
theorem RdI.move {n m : Nat} {w w' : World} {sz : Nat} {v : Value} {xs : List Value} (h : RdI n m w sz v xs) (hb : ∀ b, n ≤ b → b < m → w'.heap[b]? = w.heap[b]?) : RdI n m w' sz v xs := by
  obtain ⟨A, len, cap, hv, hl, h1, h2, hr⟩ := h
  refine ⟨A, len, cap, hv, hl, h1, h2, fun h0 => ?_⟩
  obtain ⟨b, off, ha, hn, hm, hlt, hc⟩ := hr h0
  have hbb := hb b hn hm
  refine ⟨b, off, ha, hn, hm, ?_, fun j u hj => by rw [World.cell?_of_block hbb]; exact hc j u hj⟩
  rw [Array.getElem?_eq_getElem hlt] at hbb
  exact (Array.getElem?_eq_some_iff.1 hbb).1
theorem RdI.wide {n m n' m' : Nat} {w : World} {sz : Nat} {v : Value} {xs : List Value} (h : RdI n m w sz v xs) (hn : n' ≤ n) (hm : m ≤ m') : RdI n' m' w sz v xs := by
  obtain ⟨A, len, cap, hv, hl, h1, h2, hr⟩ := h
  refine ⟨A, len, cap, hv, hl, h1, h2, fun h0 => ?_⟩
  obtain ⟨b, off, ha, h3, h4, h5⟩ := hr h0
  exact ⟨b, off, ha, by omega, by omega, h5⟩
theorem RdI.top {n m n' : Nat} {w : World} {sz : Nat} {v : Value} {xs : List Value} (h : RdI n m w sz v xs) (hn : n' ≤ n) : RdI n' w.heap.size w sz v xs := by
  obtain ⟨A, len, cap, hv, hl, h1, h2, hr⟩ := h
  refine ⟨A, len, cap, hv, hl, h1, h2, fun h0 => ?_⟩
  obtain ⟨b, off, ha, h3, h4, h5, h6⟩ := hr h0
  exact ⟨b, off, ha, by omega, h5, h5, h6⟩
theorem OwnsV.rdI {v : Value} {e sz n : Nat} {xs : List Value} {Lv L' : HL} {w w' : World} (h : OwnsV v e sz n xs Lv) (hs : St w [] L' w') (hm : ∀ p ∈ Lv, p ∈ L') : RdI w.heap.size w'.heap.size w' sz v xs := by
  rcases h with ⟨rfl, rfl, rfl, rfl⟩ | ⟨b, cap, rfl, rfl⟩
  · exact ⟨none, 0, 0, rfl, by simp, Nat.le_refl _, by unfold maxLen; omega, fun h => absurd h (Nat.lt_irrefl 0)⟩
  · have hb := hm (b, row e sz n cap xs) (by simp)
    obtain ⟨o, ho, cur, rfl, h1, h2, h3, h4, h5⟩ := hs.here _ hb
    have hlt := (Array.getElem?_eq_some_iff.1 ho).1
    have hmine := hs.mine _ hb
    simp at hmine
    exact ⟨_, n, cap, rfl, h3, h4, h5, fun _ => ⟨b, 0, rfl, hmine, hlt, hlt, fun j u hj => by rw [Nat.zero_add]; exact hs.rowCell hb hj⟩⟩
theorem bx_rdI {e sz n b : Nat} {cs : List Value} {L' : HL} {w w' : World} (hs : St w [] L' w') (hm : (b, bx cs e) ∈ L') (hl : cs.length = n * sz) (hn : n ≤ maxLen) : RdI w.heap.size w'.heap.size w' sz (.slice (some ⟨b, 0, none⟩) n n) cs := by
  have ho := hs.get hm
  have hlt := (Array.getElem?_eq_some_iff.1 ho).1
  have hmine := hs.mine _ hm
  simp at hmine
  exact ⟨_, n, n, rfl, hl, Nat.le_refl _, hn, fun _ => ⟨b, 0, rfl, hmine, hlt, hlt, fun j u hj => by rw [Nat.zero_add, hs.cell hm, hj]⟩⟩
theorem nil_rdI (n m : Nat) (w : World) (sz : Nat) : RdI n m w sz (.slice none 0 0) [] := ⟨none, 0, 0, rfl, by simp, Nat.le_refl _, by unfold maxLen; omega, fun h => absurd h (Nat.lt_irrefl 0)⟩

/-- the blocks of a callee's as they are later -/
theorem St.sg {w w1 w2 : World} (h : St w0 X L w) (hm : ∀ p ∈ seg w1 w2, p ∈ L) : ∀ b, w1.heap.size ≤ b → b < w2.heap.size → w.heap[b]? = w2.heap[b]? := fun _ h1 h2 => h.segGet hm h1 h2

def frkN (ops : Array Oper) (acc fr : Fr) : List Edge → Fr
  | [] => fr
  | e :: r => bif Region.binds .any e then (match dstOf ops e.on with
    | some t => (match flook acc e.on with
      | some v => (t, v) :: frkN ops acc fr r
      | none => (t, undef) :: frkN ops acc fr r)
    | none => frkN ops acc fr r) else frkN ops acc fr r
theorem frkN_eq {ops : Array Oper} {acc fr : Fr} : ∀ (es : List Edge), frkN ops acc fr es = frk ops (lv acc) fr es
  | [] => rfl
  | e :: r => by
    simp only [frkN, frk]
    rw [frkN_eq r]
    cases Region.binds .any e with
    | false => rfl
    | true =>
      simp only [cond_true]
      cases dstOf ops e.on with
      | none => rfl
      | some t =>
        simp only [lv]
        cases flook acc e.on <;> rfl

/-- a call whose result is memory of its own -/
theorem tl_callR {f : FuncId} {args : Array Operand} {ts : Array TypeId} {vs : List Value} {Post : World → Value → World → Prop} [CFn P f] (hc : ∀ w, St w0 X L w → Calls P f vs.toArray w (Ret w (Post w))) (hv : fevs fr args.toList = some vs) (hd : Nat.ble nt d = false)
    (h : ∀ w1 w2 v, St w0 X L w1 → Ext w1 w2 → Post w1 v w2 → TL P r ops Q nt D rest ((d, v) :: fr) (St w0 X (L ++ seg w1 w2))) : TL P r ops Q nt D (⟨some d, .call ⟨.value (.func f), args, ts⟩, ty, pos, af, none⟩ :: rest) fr (St w0 X L) :=
  tl_op hd rfl (o_ret hv hc) fun v a w' ha hw => by
    obtain ⟨w, hw, he, hpost⟩ := hw
    exact h w w' v hw he hpost a w' ha (hw.addSeg he)
/-- a call whose result is a value -/
theorem tl_callV {f : FuncId} {args : Array Operand} {ts : Array TypeId} {vs : List Value} [CFn P f] (hc : ∀ w, St w0 X L w → Calls P f vs.toArray w (Ret w fun v _ => v = u)) (hv : fevs fr args.toList = some vs) (hd : Nat.ble nt d = false)
    (h : TL P r ops Q nt D rest ((d, u) :: fr) (St w0 X L)) : TL P r ops Q nt D (⟨some d, .call ⟨.value (.func f), args, ts⟩, ty, pos, af, none⟩ :: rest) fr (St w0 X L) :=
  tl_op hd rfl (o_ret (Post := fun _ v _ => v = u) hv hc) fun v a w' ha hw => by
    obtain ⟨w, hw, he, rfl⟩ := hw
    exact h a w' ha (hw.ext he)
section
variable {l : List Oper} {fin : Fr → HL → Prop} {k j : Nat} {s : Sk} {sk : SkL} {acc : Fr} {Hn : HL} {want b : Bool}
theorem dw_callR {f : FuncId} {args : Array Operand} {ts : Array TypeId} {vs : List Value} {Post : World → Value → World → Prop} [CFn P f] (hc : ∀ L' w, St w0 X (L ++ L') w → Calls P f vs.toArray w (Ret w (Post w))) (hv : fevs (frkN l.toArray acc fr af.toList) args.toList = some vs) (hg : GOk ⟨dd, .call ⟨.value (.func f), args, ts⟩, ty, pos, af, g⟩ acc) (hh : hdF sk = true)
    (h : ∀ w1 w2 v L', St w0 X (L ++ L') w1 → Ext w1 w2 → Post w1 v w2 → DW P l fr w0 X fin sk ((k, v) :: acc) (L ++ seg w1 w2) Hn) : DW1 P l fr w0 X fin k .e ⟨dd, .call ⟨.value (.func f), args, ts⟩, ty, pos, af, g⟩ sk acc L Hn :=
  by
  rw [frkN_eq] at hv
  exact dw_eff (α := World × World × Value) (fun x => (∃ L', St w0 X (L ++ L') x.1) ∧ Ext x.1 x.2.1 ∧ Post x.1 x.2.2 x.2.1) (fun x => x.2.2) (fun x => seg x.1 x.2.1) (fun x => L ++ seg x.1 x.2.1) hh hg
    (fun L' => (o_ret hv (hc L')).mono fun v w' ⟨w, hw, he, hp⟩ => ⟨(w, w', v), ⟨⟨L', hw⟩, he, hp⟩, rfl, (hw.addSeg he).perm (by
      rw [List.append_assoc, List.append_assoc]
      exact List.perm_append_comm.append_left L)⟩)
    (fun x _ => List.perm_append_comm) fun x ⟨⟨L', hx⟩, he, hp⟩ => h x.1 x.2.1 x.2.2 L' hx he hp
end

/-! ### structs that are built -/
class CBd (P : Program) (t : TypeId) (places : outParam (List (Nat × Nat))) (z : outParam (List Value)) : Prop where
  run : ∀ (parts : List (Nat × Value)) (cs : Array Value) (w : World), Instr.fill (places[·]?) z.toArray parts = some cs → (Instr.build t parts.toArray).run P w = .ok (.agg cs) w
def putL (z : List Value) (off : Nat) : List Value → List Value
  | [] => z
  | c :: cs => putL (z.set off c) (off + 1) cs
def cellsL : Value → List Value
  | .agg cs => cs.toList
  | v => [v]
def fillL (places : List (Nat × Nat)) (z : List Value) : List (Nat × Value) → Option (List Value)
  | [] => some z
  | (i, v) :: r => match places[i]? with
    | none => none
    | some (off, n) => bif Nat.beq (cellsL v).length n && Nat.ble (off + n) z.length then fillL places (putL z off (cellsL v)) r else none
def forceL : List Value → Option (List Value)
  | [] => some []
  | v :: r => match forceL r with
    | some q => some (v :: q)
    | none => none
def buildL (places : List (Nat × Nat)) (z : List Value) (parts : List (Nat × Value)) : Option (List Value) := match fillL places z parts with
  | some cs => forceL cs
  | none => none
theorem forceL_eq : ∀ {l q : List Value}, forceL l = some q → q = l
  | [], q, h => by simp [forceL] at h; exact h
  | v :: r, q, h => by
    simp only [forceL] at h
    cases hr : forceL r with
    | none => rw [hr] at h; cases h
    | some q' => rw [hr] at h; injection h with h; rw [← h, forceL_eq hr]
theorem putL_length (cs : List Value) : ∀ (z : List Value) (off : Nat), (putL z off cs).length = z.length := by
  induction cs with
  | nil => intro z off; rfl
  | cons c cs ih => intro z off; simp [putL, ih]
theorem cells_eq (v : Value) : v.cells.toList = cellsL v := by cases v <;> rfl
theorem putL_spec (off : Nat) : ∀ (cs : List Value) (m : Nat) (z : List Value), (cs.zipIdx m).foldl (fun (a : Array Value) (p : Value × Nat) => a.setIfInBounds (off + p.2) p.1) z.toArray = (putL z (off + m) cs).toArray
  | [], m, z => rfl
  | c :: cs, m, z => by
    simp only [List.zipIdx_cons, List.foldl_cons, putL]
    rw [List.setIfInBounds_toArray, putL_spec off cs (m + 1)]
    rfl
theorem fillL_spec (places : List (Nat × Nat)) : ∀ (parts : List (Nat × Value)) (z cs : List Value), fillL places z parts = some cs → Instr.fill (places[·]?) z.toArray parts = some cs.toArray
  | [], z, cs, h => by simp [fillL] at h; subst h; rfl
  | (i, v) :: r, z, cs, h => by
    simp only [fillL] at h
    cases hp : places[i]? with
    | none => rw [hp] at h; cases h
    | some q =>
      obtain ⟨off, n⟩ := q
      rw [hp] at h
      simp only at h
      cases hb : (Nat.beq (cellsL v).length n && Nat.ble (off + n) z.length) with
      | false => rw [hb] at h; cases h
      | true =>
        rw [hb] at h
        simp only [Bool.and_eq_true, Nat.beq_eq, Nat.ble_eq] at hb
        have hcs : v.cells.size = n := by rw [← hb.1, ← cells_eq]; simp
        simp only [cond_true] at h
        simp only [Instr.fill, hp]
        rw [if_neg (by simp [hcs]; omega)]
        have ef : v.cells.zipIdx.foldl (fun (cs : Array Value) (x : Value × Nat) => cs.setIfInBounds (off + x.2) x.1) z.toArray = (putL z off (cellsL v)).toArray := by
          rw [← Array.foldl_toList, Array.toList_zipIdx, cells_eq]
          exact putL_spec off (cellsL v) 0 z
        have := fillL_spec places r (putL z off (cellsL v)) cs h
        rw [← ef] at this
        exact this
theorem o_bd {places : List (Nat × Nat)} {z cs vs : List Value} {parts : Array (Nat × Operand)} [h : CBd P t places z] (hv : fevs fr (parts.toList.map (·.2)) = some vs) (hb : buildL places z ((parts.toList.map (·.1)).zip vs) = some cs) : Pv P ⟨dd, .build t parts, ty, pos, af, g⟩ fr I (.agg cs.toArray) :=
  o_build vs hv fun w => by
    refine h.run _ _ w ?_
    unfold buildL at hb
    cases hf : fillL places z ((parts.toList.map (·.1)).zip vs) with
    | none => rw [hf] at hb; cases hb
    | some cs' =>
      rw [hf] at hb
      have := forceL_eq hb
      subst this
      exact fillL_spec places _ z _ hf

/-! ### loops that keep what they do not write -/
theorem fle_append : ∀ (a b fr : Fr), fle a fr → fle b fr → fle (a ++ b) fr
  | [], b, fr, _, h => h
  | (i, v) :: a, b, fr, h, h' => ⟨h.1, fle_append a b fr h.2 h'⟩
def LoopQ {α : Type} (nt : Nat) (D : List Deferred) (w0 : World) (X : List Nat) (st : α → Fr) (fr0 : Fr) (C : α → Prop) (J : α → HL) (μ : α → Nat) (x : α) (Q : Exit → Act → World → Prop) : Exit → Act → World → Prop := Exit.then (fun a w => ∃ x', Ag nt D (st x' ++ fr0) a ∧ (C x' ∧ St w0 X (J x') w) ∧ μ x' < μ x) Q
theorem t_loopK {α : Type} {cd : Code} (ks : List Nat) {fr0 : Fr} (st : α → Fr) (C : α → Prop) (J : α → HL) (μ : α → Nat) (x0 : α) (hk : keep fr ks = some fr0) (hf : fle (st x0) fr) (hC : C x0) (hJ : ∀ w, St w0 X L w → St w0 X (J x0) w)
    (hb : ∀ x, C x → T P r cd (LoopQ nt D w0 X st fr0 C J μ x Q) nt D (st x ++ fr0) (St w0 X (J x))) : T P r (.loop cd) Q nt D fr (St w0 X L) :=
  t_loopC (fun x => st x ++ fr0) C (fun x => St w0 X (J x)) μ x0 hC (fle_append _ _ _ hf (keep_fle ks _ hk)) hJ hb
theorem xt_roundK {α : Type} {fr0 : Fr} {st : α → Fr} {C : α → Prop} {J : α → HL} {μ : α → Nat} {x : α} (x' : α) (hk : keep fr (fr0.map (·.1)) = some fr0) (hf : fle (st x') fr) (hC : C x') (hm : μ x' < μ x) (hJ : ∀ w, I w → St w0 X (J x') w) :
    Xt P .normal (LoopQ nt D w0 X st fr0 C J μ x Q) nt D fr I :=
  xt_roundC x' (fle_append _ _ _ hf (keep_fle _ _ hk)) hC hJ hm
theorem xt_loop_exit {α : Type} {fr0 : Fr} {st : α → Fr} {C : α → Prop} {J : α → HL} {μ : α → Nat} {x : α} {id : Nat} (h : Xt P (.exit id) Q nt D fr I) : Xt P (.exit id) (LoopQ nt D w0 X st fr0 C J μ x Q) nt D fr I := fun a w ha hw => h a w ha hw
theorem xt_loop_ret {α : Type} {fr0 : Fr} {st : α → Fr} {C : α → Prop} {J : α → HL} {μ : α → Nat} {x : α} (h : Xt P .ret Q nt D fr I) : Xt P .ret (LoopQ nt D w0 X st fr0 C J μ x Q) nt D fr I := fun a w ha hw => h a w ha hw
/-- fewer blocks, by their places -/
theorem St.pick {L' : HL} {w : World} (h : St w0 X L w) (is : List Nat) (hn : is.Nodup) (he : is.filterMap (fun i => L[i]?) = L') : St w0 X L' w := by
  subst he
  refine h.sub (fun p hp => ?_) ?_
  · obtain ⟨i, _, hi⟩ := List.mem_filterMap.1 hp
    exact List.mem_of_getElem? hi
  · rw [List.map_filterMap]
    refine nodup_filterMap hn fun a _ a' _ b ha ha' => ?_
    simp only [Option.map_eq_some_iff] at ha ha'
    obtain ⟨p, hp, rfl⟩ := ha
    obtain ⟨p', hp', he⟩ := ha'
    have hnd := h.apart
    have h1 : (L.map (·.1))[a]? = some p.1 := by simp [hp]
    have h2 : (L.map (·.1))[a']? = some p.1 := by simp [hp', he]
    have hlt := (List.getElem?_eq_some_iff.1 h1).1
    exact (List.getElem?_inj hlt hnd).1 (h1.trans h2.symm)
theorem St.weak {L' : HL} {w : World} (h : St w0 X (L ++ L') w) : St w0 X L w := h.sublist (List.sublist_append_left ..)

def lputF : HL → Nat → (Obj → Prop) → Option HL
  | [], _, _ => none
  | (b, _) :: r, 0, q => some ((b, q) :: r)
  | p :: r, i + 1, q => match lputF r i q with
    | some r' => some (p :: r')
    | none => none
theorem lputF_eq {q : Obj → Prop} : ∀ {L : HL} {i : Nat} {L' : HL}, lputF L i q = some L' → lput L i q = L'
  | [], _, _, h => by simp [lputF] at h
  | p :: r, 0, L', h => by simp [lputF] at h; subst h; rfl
  | p :: r, i + 1, L', h => by
    simp only [lputF] at h
    cases hr : lputF r i q with
    | none => rw [hr] at h; cases h
    | some r' => rw [hr] at h; injection h with h; rw [← h, lput, lputF_eq hr]
def setF : List Value → Nat → Value → Option (List Value)
  | [], _, _ => none
  | _ :: r, 0, v => some (v :: r)
  | u :: r, k + 1, v => match setF r k v with
    | some r' => some (u :: r')
    | none => none
theorem setF_eq {v : Value} : ∀ {cs : List Value} {k : Nat} {cs' : List Value}, setF cs k v = some cs' → cs.set k v = cs' ∧ k < cs.length
  | [], _, _, h => by simp [setF] at h
  | u :: r, 0, cs', h => by simp [setF] at h; subst h; simp
  | u :: r, k + 1, cs', h => by
    simp only [setF] at h
    cases hr : setF r k v with
    | none => rw [hr] at h; cases h
    | some r' =>
      rw [hr] at h
      injection h with h
      obtain ⟨h1, h2⟩ := setF_eq hr
      rw [← h]
      exact ⟨by simp [h1], by simpa using h2⟩
theorem o_storeN (i : Nat) {b k : Nat} {cs cs' : List Value} {e : TypeId} {v : Value} {L' : HL} [CSc P t] (hx : fev fr x = some (.pointer (some ⟨b, k, none⟩))) (hy : fev fr y = some v) (hL : L[i]? = some (b, bx cs e)) (h1 : v.oneCell' = true) (hs : setF cs k v = some cs') (hp : lputF L i (bx cs' e) = some L') :
    O P ⟨dd, .store t x y, ty, pos, af, g⟩ fr (St w0 X L) (fun _ w => St w0 X L' w) := by
  obtain ⟨e1, e2⟩ := setF_eq hs
  have := o_storeB (P := P) (t := t) (d := dd) (ty := ty) (pos := pos) (af := af) (g := g) (w0 := w0) (X := X) i hx hy hL (by rw [Nat.blt_eq]; exact e2) h1
  rwa [e1, lputF_eq hp] at this
theorem o_storeAN (i : Nat) {b n : Nat} {cs vs : List Value} {e : TypeId} {L' : HL} [CAg P t n] (hx : fev fr x = some (.pointer (some ⟨b, 0, none⟩))) (hy : fev fr y = some (.agg vs.toArray)) (hL : L[i]? = some (b, bx cs e)) (hl : vs.length = n) (hc : cs.length = n) (h1 : vs.all (·.oneCell') = true) (hp : lputF L i (bx vs e) = some L') :
    O P ⟨dd, .store t x y, ty, pos, af, g⟩ fr (St w0 X L) (fun _ w => St w0 X L' w) := by
  have := o_storeBA (P := P) (t := t) (d := dd) (ty := ty) (pos := pos) (af := af) (g := g) (w0 := w0) (X := X) i hx hy hL hl hc h1
  rwa [lputF_eq hp] at this

/-- a store of what is there -/
theorem o_storeSame (i : Nat) {b n : Nat} {cs : List Value} {e : TypeId} [CAg P t n] (hx : fev fr x = some (.pointer (some ⟨b, 0, none⟩))) (hy : fev fr y = some (.agg cs.toArray)) (hL : L[i]? = some (b, bx cs e)) (hl : cs.length = n) (h1 : cs.all (·.oneCell') = true) :
    O P ⟨dd, .store t x y, ty, pos, af, g⟩ fr (St w0 X L) (fun v w => v = undef ∧ St w0 X L w) := by
  have hput : lput L i (bx cs e) = L := by
    apply List.ext_getElem?
    intro j
    rw [lput_get]
    by_cases hj : j = i
    · subst hj; rw [if_pos rfl, hL]; rfl
    · rw [if_neg hj]
  intro ρ w hρ hw
  have h := o_storeBA (P := P) (t := t) (d := dd) (ty := ty) (pos := pos) (af := af) (g := g) (w0 := w0) (X := X) i hx hy hL hl hl h1 ρ w hρ hw
  unfold Op1 at *
  have hex : ∃ w', (execOp ρ ⟨dd, .store t x y, ty, pos, af, g⟩).run P w = .ok .skip w' := by
    have hg := hw.get (List.mem_of_getElem? hL)
    have := run_storeVar_ag (P := P) (t := t) (w := w) (b := b) (k := 0) hl (fun v hv => List.all_eq_true.1 h1 v hv) (fun j hj => by rw [cell_of hg]; simp; omega) (fun j _ => frozen_of hg)
    exact ⟨w.setCells b 0 cs, by simp [execOp, hρ _ _ hx, hρ _ _ hy, Instr.storeAt, Instr.sureAddr, this]⟩
  obtain ⟨w', he⟩ := hex
  rw [he] at h ⊢
  rw [hput] at h
  exact ⟨rfl, h⟩

/-! ### steps that find their own facts -/
theorem t_condT {a b : Code} (hc : fev fr c = some (.bool true)) (h : T P r a Q nt D fr I) : T P r (.cond c a b) Q nt D fr I := t_cond hc (fun _ => h) (fun e => by cases e)
theorem t_condF {a b : Code} (hc : fev fr c = some (.bool false)) (h : T P r b Q nt D fr I) : T P r (.cond c a b) Q nt D fr I := t_cond hc (fun e => by cases e) (fun _ => h)
theorem s_load (h : TL P r ops Q nt D (⟨some d, .load t x, ty, pos, af, none⟩ :: rest) fr I) : TL P r ops Q nt D (⟨some d, .load t x, ty, pos, af, none⟩ :: rest) fr I := h
theorem s_bin {bop : BinOp} (h : TL P r ops Q nt D (⟨some d, .binOp bop t x y t', ty, pos, af, none⟩ :: rest) fr I) : TL P r ops Q nt D (⟨some d, .binOp bop t x y t', ty, pos, af, none⟩ :: rest) fr I := h
theorem s_pick (h : TL P r ops Q nt D (⟨some d, .pick c x y, ty, pos, af, none⟩ :: rest) fr I) : TL P r ops Q nt D (⟨some d, .pick c x y, ty, pos, af, none⟩ :: rest) fr I := h
theorem s_build {parts : Array (Nat × Operand)} (h : TL P r ops Q nt D (⟨some d, .build t parts, ty, pos, af, none⟩ :: rest) fr I) : TL P r ops Q nt D (⟨some d, .build t parts, ty, pos, af, none⟩ :: rest) fr I := h
theorem s_index (h : TL P r ops Q nt D (⟨some d, .indexAddr t x y, ty, pos, af, none⟩ :: rest) fr I) : TL P r ops Q nt D (⟨some d, .indexAddr t x y, ty, pos, af, none⟩ :: rest) fr I := h
theorem s_unop {uop : UnOp} (h : TL P r ops Q nt D (⟨some d, .unOp uop t x, ty, pos, af, none⟩ :: rest) fr I) : TL P r ops Q nt D (⟨some d, .unOp uop t x, ty, pos, af, none⟩ :: rest) fr I := h
theorem s_conv (h : TL P r ops Q nt D (⟨some d, .convert t t' x, ty, pos, af, none⟩ :: rest) fr I) : TL P r ops Q nt D (⟨some d, .convert t t' x, ty, pos, af, none⟩ :: rest) fr I := h
theorem s_call {f : FuncId} {args : Array Operand} {ts : Array TypeId} (h : TL P r ops Q nt D (⟨some d, .call ⟨.value (.func f), args, ts⟩, ty, pos, af, none⟩ :: rest) fr I) : TL P r ops Q nt D (⟨some d, .call ⟨.value (.func f), args, ts⟩, ty, pos, af, none⟩ :: rest) fr I := h
theorem s_store (h : TL P r ops Q nt D (⟨none, .store t x y, ty, pos, af, none⟩ :: rest) fr I) : TL P r ops Q nt D (⟨none, .store t x y, ty, pos, af, none⟩ :: rest) fr I := h
def cellsO : Value → Option (List Value)
  | .agg cs => forceL cs.toList
  | v => some [v]
theorem cellsO_eq {v : Value} {cs : List Value} (h : cellsO v = some cs) : v.cells.toList = cs := by
  cases v <;> first | (simp only [cellsO, Option.some.injEq] at h; subst h; rfl) | exact (forceL_eq h).symm
theorem s_box (h : TL P r ops Q nt D (⟨some d, .box t x, ty, pos, af, none⟩ :: rest) fr I) : TL P r ops Q nt D (⟨some d, .box t x, ty, pos, af, none⟩ :: rest) fr I := h
theorem g_box {cs : List Value} {v : Value} (h : ∀ b, TL P r ops Q nt D rest ((d, .pointer (some ⟨b, 0, none⟩)) :: fr) (St w0 X ((b, bx cs t) :: L))) (hx : fev fr x = some v := by rfl) (hc : cellsO v = some cs := by rfl) (hd : Nat.ble nt d = false := by rfl) : TL P r ops Q nt D (⟨some d, .box t x, ty, pos, af, none⟩ :: rest) fr (St w0 X L) := tl_box (o_box hx (cellsO_eq hc)) hd h
theorem g_load (h : TL P r ops Q nt D rest ((d, u) :: fr) I)
    (ho : O P ⟨some d, .load t x, ty, pos, af, none⟩ fr I (fun v w => v = u ∧ I w) := by first | exact o_loadB 0 rfl rfl rfl | exact o_loadB 1 rfl rfl rfl | exact o_loadB 2 rfl rfl rfl | exact o_loadB 3 rfl rfl rfl | exact o_loadB 4 rfl rfl rfl | exact o_loadB 5 rfl rfl rfl | exact o_loadB 6 rfl rfl rfl | exact o_loadBA 0 rfl rfl rfl | exact o_loadBA 1 rfl rfl rfl | exact o_loadBA 2 rfl rfl rfl | exact o_loadBA 3 rfl rfl rfl | exact o_loadBA 4 rfl rfl rfl | exact o_loadBA 5 rfl rfl rfl | exact o_loadC rfl (by assumption) | exact o_loadCF rfl (by assumption) (by rfl) | exact o_loadCA rfl (by assumption) (by rfl) | exact o_loadCX rfl (by assumption) (by assumption) | exact o_loadCFX rfl (by assumption) (by assumption) (by rfl) | exact o_loadCAX rfl (by assumption) (by assumption) (by rfl) | exact o_loadS rfl (by assumption) (by intro p hp; simp [hp]) | exact o_loadSF rfl (by assumption) (by rfl) (by intro p hp; simp [hp]) | exact o_loadSA rfl (by assumption) (by rfl) (by intro p hp; simp [hp]))
    (hd : Nat.ble nt d = false := by rfl) : TL P r ops Q nt D (⟨some d, .load t x, ty, pos, af, none⟩ :: rest) fr I := tl_val ho hd rfl h
theorem g_bin {op : BinOp} (h : TL P r ops Q nt D rest ((d, u) :: fr) I)
    (ho : O P ⟨some d, .binOp op t x y t', ty, pos, af, none⟩ fr I (fun v w => v = u ∧ I w) := by first | exact o_add64 rfl rfl (by omega) | exact o_sub64 rfl rfl (by omega) | exact o_mul64 rfl rfl (by first | assumption | omega) | exact o_eqls rfl rfl | exact o_neqs rfl rfl)
    (hd : Nat.ble nt d = false := by rfl) : TL P r ops Q nt D (⟨some d, .binOp op t x y t', ty, pos, af, none⟩ :: rest) fr I := tl_val ho hd rfl h
theorem g_pick (h : TL P r ops Q nt D rest ((d, u) :: fr) I)
    (ho : O P ⟨some d, .pick c x y, ty, pos, af, none⟩ fr I (fun v w => v = u ∧ I w) := by first | exact o_pick_t rfl rfl | exact o_pick_f rfl rfl)
    (hd : Nat.ble nt d = false := by rfl) : TL P r ops Q nt D (⟨some d, .pick c x y, ty, pos, af, none⟩ :: rest) fr I := tl_val ho hd rfl h
theorem g_build {parts : Array (Nat × Operand)} (h : TL P r ops Q nt D rest ((d, u) :: fr) I)
    (ho : O P ⟨some d, .build t parts, ty, pos, af, none⟩ fr I (fun v w => v = u ∧ I w) := by exact o_bd rfl rfl)
    (hd : Nat.ble nt d = false := by rfl) : TL P r ops Q nt D (⟨some d, .build t parts, ty, pos, af, none⟩ :: rest) fr I := tl_val ho hd rfl h
theorem g_index (h : TL P r ops Q nt D rest ((d, u) :: fr) I)
    (ho : O P ⟨some d, .indexAddr t x y, ty, pos, af, none⟩ fr I (fun v w => v = u ∧ I w) := by exact o_indexAddr rfl rfl (by omega))
    (hd : Nat.ble nt d = false := by rfl) : TL P r ops Q nt D (⟨some d, .indexAddr t x y, ty, pos, af, none⟩ :: rest) fr I := tl_val ho hd rfl h
theorem g_store {I' : World → Prop} (h : TL P r ops Q nt D rest fr I')
    (ho : O P ⟨none, .store t x y, ty, pos, af, none⟩ fr I (fun _ w => I' w) := by first | exact o_storeN 0 rfl rfl rfl rfl rfl rfl | exact o_storeN 1 rfl rfl rfl rfl rfl rfl | exact o_storeN 2 rfl rfl rfl rfl rfl rfl | exact o_storeN 3 rfl rfl rfl rfl rfl rfl | exact o_storeN 4 rfl rfl rfl rfl rfl rfl | exact o_storeN 5 rfl rfl rfl rfl rfl rfl | exact o_storeAN 0 rfl rfl rfl rfl rfl rfl rfl | exact o_storeAN 1 rfl rfl rfl rfl rfl rfl rfl | exact o_storeAN 2 rfl rfl rfl rfl rfl rfl rfl | exact o_storeAN 3 rfl rfl rfl rfl rfl rfl rfl | exact o_storeAN 4 rfl rfl rfl rfl rfl rfl rfl | exact o_storeAN 5 rfl rfl rfl rfl rfl rfl rfl) : TL P r ops Q nt D (⟨none, .store t x y, ty, pos, af, none⟩ :: rest) fr I := tl_unit ho rfl h
theorem g_unop {op : UnOp} (h : TL P r ops Q nt D rest ((d, u) :: fr) I)
    (ho : O P ⟨some d, .unOp op t x, ty, pos, af, none⟩ fr I (fun v w => v = u ∧ I w) := by first | exact o_neg64 rfl (by omega))
    (hd : Nat.ble nt d = false := by rfl) : TL P r ops Q nt D (⟨some d, .unOp op t x, ty, pos, af, none⟩ :: rest) fr I := tl_val ho hd rfl h
theorem o_convI {k : IntKind} {a : Int} (hx : fev fr x = some (.int k a)) [hs : CInt P t k] [hd : CInt P t' .i64] (h : -9223372036854775808 ≤ a ∧ a ≤ 9223372036854775807) : Pv P ⟨dd, .convert t t' x, ty, pos, af, g⟩ fr I (.int .i64 a) := by
  have := o_convert (P := P) (I := I) (d := dd) (ty := ty) (t := t) (t' := t') (pos := pos) (af := af) (g := g) hx
  rwa [fits64 h] at this
theorem g_conv (h : TL P r ops Q nt D rest ((d, u) :: fr) I)
    (ho : O P ⟨some d, .convert t t' x, ty, pos, af, none⟩ fr I (fun v w => v = u ∧ I w) := by first | exact o_convI rfl (by omega))
    (hd : Nat.ble nt d = false := by rfl) : TL P r ops Q nt D (⟨some d, .convert t t' x, ty, pos, af, none⟩ :: rest) fr I := tl_val ho hd rfl h
class CDet (P : Program) (f : FuncId) (vs : List Value) (u : outParam Value) : Prop where
  det : Det P f vs u
theorem g_call {f : FuncId} {args : Array Operand} {ts : Array TypeId} {vs : List Value} (h : TL P r ops Q nt D rest ((d, u) :: fr) (St w0 X L)) [CFn P f] (hv : fevs fr args.toList = some vs := by rfl) (hc : CDet P f vs u := by infer_instance)
    (hd : Nat.ble nt d = false := by rfl) : TL P r ops Q nt D (⟨some d, .call ⟨.value (.func f), args, ts⟩, ty, pos, af, none⟩ :: rest) fr (St w0 X L) := tl_val (o_det hc.det hv) hd rfl h

section
variable {l : List Oper} {fin : Fr → HL → Prop} {k j : Nat} {s : Sk} {sk : SkL} {acc : Fr} {Hn : HL} {want b : Bool} {off : Nat → Nat → Option Nat} {kd : Nat → Nat} {op : Op} {o : Oper}
theorem dw_opN (hs : s.isA = false) (hh : hdF sk = true) (h : ∀ L', O P ⟨dd, op, ty, pos, af, none⟩ (frkN l.toArray acc fr af.toList) (St w0 X (L ++ L')) (fun v w => v = u ∧ St w0 X (L ++ L') w)) (hr : DW P l fr w0 X fin sk ((k, u) :: acc) L Hn) : DW1 P l fr w0 X fin k s ⟨dd, op, ty, pos, af, none⟩ sk acc L Hn := by
  rw [frkN_eq] at h
  exact dw_op hs hh h hr
theorem dw_yesN (hj : lv acc j = .bool want) (hs : s.isA = false) (hh : hdF sk = true) (h : ∀ L', O P ⟨dd, op, ty, pos, af, some (j, want)⟩ (frkN l.toArray acc fr af.toList) (St w0 X (L ++ L')) (fun v w => v = u ∧ St w0 X (L ++ L') w)) (hr : DW P l fr w0 X fin sk ((k, u) :: acc) L Hn) : DW1 P l fr w0 X fin k s ⟨dd, op, ty, pos, af, some (j, want)⟩ sk acc L Hn := by
  rw [frkN_eq] at h
  exact dw_yes hj hs hh h hr
theorem w_open (h : DW1 P l fr w0 X fin k s o sk acc L Hn) (ho : l[k]? = some o := by rfl) : DW P l fr w0 X fin ((k, s) :: sk) acc L Hn := h ho
theorem dw_opG (hg : GOk ⟨dd, op, ty, pos, af, g⟩ acc) (hs : s.isA = false) (hh : hdF sk = true) (h : ∀ L', O P ⟨dd, op, ty, pos, af, g⟩ (frkN l.toArray acc fr af.toList) (St w0 X (L ++ L')) (fun v w => v = u ∧ St w0 X (L ++ L') w)) (hr : DW P l fr w0 X fin sk ((k, u) :: acc) L Hn) : DW1 P l fr w0 X fin k s ⟨dd, op, ty, pos, af, g⟩ sk acc L Hn := by
  rw [frkN_eq] at h
  cases g with
  | none => exact dw_op hs hh h hr
  | some q =>
    obtain ⟨j, want⟩ := q
    exact dw_yes hg hs hh h hr
theorem sw_g (h : DW1 P l fr w0 X fin k s ⟨dd, op, ty, pos, af, some (j, want)⟩ sk acc L Hn) : DW1 P l fr w0 X fin k s ⟨dd, op, ty, pos, af, some (j, want)⟩ sk acc L Hn := h
theorem w_p (ht : Tab P off kd) (h : DW P l fr w0 X fin sk ((k, u) :: acc) L Hn) (hu : stepP off kd (frkN l.toArray acc fr af.toList) op = some u := by rfl) (hg : GOk ⟨dd, op, ty, pos, af, g⟩ acc := by first | trivial | rfl) (hs : s.isA = false := by rfl) (hh : hdF sk = true := by rfl) : DW1 P l fr w0 X fin k s ⟨dd, op, ty, pos, af, g⟩ sk acc L Hn := dw_opG hg hs hh (fun _ => stepP_spec ht hu) h
theorem w_no (h : DW P l fr w0 X fin sk ((k, undef) :: acc) L Hn) (hj : lv acc j = .bool b := by rfl) (hb : (b == want) = false := by rfl) (hs : s.isA = false := by rfl) (hh : hdF sk = true := by rfl) : DW1 P l fr w0 X fin k s ⟨dd, op, ty, pos, af, some (j, want)⟩ sk acc L Hn := dw_no hj hb hs hh h
theorem w_un (h : DW P l fr w0 X fin sk ((k, undef) :: acc) L Hn) (hj : lv acc j = undef := by rfl) (hs : s.isA = false := by rfl) (hh : hdF sk = true := by rfl) : DW1 P l fr w0 X fin k s ⟨dd, op, ty, pos, af, some (j, want)⟩ sk acc L Hn := dw_undef hj hs hh h
theorem sw_load (h : DW1 P l fr w0 X fin k s ⟨dd, .load t x, ty, pos, af, g⟩ sk acc L Hn) : DW1 P l fr w0 X fin k s ⟨dd, .load t x, ty, pos, af, g⟩ sk acc L Hn := h
theorem w_load (h : DW P l fr w0 X fin sk ((k, u) :: acc) L Hn) (ho : ∀ L', O P ⟨dd, .load t x, ty, pos, af, g⟩ (frkN l.toArray acc fr af.toList) (St w0 X (L ++ L')) (fun v w => v = u ∧ St w0 X (L ++ L') w) := by intro L'; first | exact o_loadB 0 rfl rfl rfl | exact o_loadB 1 rfl rfl rfl | exact o_loadB 2 rfl rfl rfl | exact o_loadB 3 rfl rfl rfl | exact o_loadB 4 rfl rfl rfl | exact o_loadB 5 rfl rfl rfl | exact o_loadB 6 rfl rfl rfl | exact o_loadBA 0 rfl rfl rfl | exact o_loadBA 1 rfl rfl rfl | exact o_loadBA 2 rfl rfl rfl | exact o_loadBA 3 rfl rfl rfl | exact o_loadBA 4 rfl rfl rfl | exact o_loadBA 5 rfl rfl rfl | exact o_loadC rfl (by assumption) | exact o_loadCF rfl (by assumption) (by rfl) | exact o_loadCA rfl (by assumption) (by rfl) | exact o_loadCX rfl (by assumption) (by assumption) | exact o_loadCFX rfl (by assumption) (by assumption) (by rfl) | exact o_loadCAX rfl (by assumption) (by assumption) (by rfl) | exact o_loadS rfl (by assumption) (by intro p hp; simp [hp]) | exact o_loadSF rfl (by assumption) (by rfl) (by intro p hp; simp [hp]) | exact o_loadSA rfl (by assumption) (by rfl) (by intro p hp; simp [hp])) (hg : GOk ⟨dd, .load t x, ty, pos, af, g⟩ acc := by first | trivial | rfl) (hs : s.isA = false := by rfl) (hh : hdF sk = true := by rfl) : DW1 P l fr w0 X fin k s ⟨dd, .load t x, ty, pos, af, g⟩ sk acc L Hn := dw_opG hg hs hh ho h
theorem sw_bin {bop : BinOp} (h : DW1 P l fr w0 X fin k s ⟨dd, .binOp bop t x y t', ty, pos, af, g⟩ sk acc L Hn) : DW1 P l fr w0 X fin k s ⟨dd, .binOp bop t x y t', ty, pos, af, g⟩ sk acc L Hn := h
theorem w_bin {bop : BinOp} (h : DW P l fr w0 X fin sk ((k, u) :: acc) L Hn) (ho : ∀ L', O P ⟨dd, .binOp bop t x y t', ty, pos, af, g⟩ (frkN l.toArray acc fr af.toList) (St w0 X (L ++ L')) (fun v w => v = u ∧ St w0 X (L ++ L') w) := by intro L'; first | exact o_add64 rfl rfl (by omega) | exact o_sub64 rfl rfl (by omega) | exact o_mul64 rfl rfl (by first | assumption | omega) | exact o_eqls rfl rfl | exact o_neqs rfl rfl) (hg : GOk ⟨dd, .binOp bop t x y t', ty, pos, af, g⟩ acc := by first | trivial | rfl) (hs : s.isA = false := by rfl) (hh : hdF sk = true := by rfl) : DW1 P l fr w0 X fin k s ⟨dd, .binOp bop t x y t', ty, pos, af, g⟩ sk acc L Hn := dw_opG hg hs hh ho h
theorem sw_pick (h : DW1 P l fr w0 X fin k s ⟨dd, .pick c x y, ty, pos, af, g⟩ sk acc L Hn) : DW1 P l fr w0 X fin k s ⟨dd, .pick c x y, ty, pos, af, g⟩ sk acc L Hn := h
theorem w_pick (h : DW P l fr w0 X fin sk ((k, u) :: acc) L Hn) (ho : ∀ L', O P ⟨dd, .pick c x y, ty, pos, af, g⟩ (frkN l.toArray acc fr af.toList) (St w0 X (L ++ L')) (fun v w => v = u ∧ St w0 X (L ++ L') w) := by intro L'; first | exact o_pick_t rfl rfl | exact o_pick_f rfl rfl) (hg : GOk ⟨dd, .pick c x y, ty, pos, af, g⟩ acc := by first | trivial | rfl) (hs : s.isA = false := by rfl) (hh : hdF sk = true := by rfl) : DW1 P l fr w0 X fin k s ⟨dd, .pick c x y, ty, pos, af, g⟩ sk acc L Hn := dw_opG hg hs hh ho h
theorem sw_build {parts : Array (Nat × Operand)} (h : DW1 P l fr w0 X fin k s ⟨dd, .build t parts, ty, pos, af, g⟩ sk acc L Hn) : DW1 P l fr w0 X fin k s ⟨dd, .build t parts, ty, pos, af, g⟩ sk acc L Hn := h
theorem w_build {parts : Array (Nat × Operand)} (h : DW P l fr w0 X fin sk ((k, u) :: acc) L Hn) (ho : ∀ L', O P ⟨dd, .build t parts, ty, pos, af, g⟩ (frkN l.toArray acc fr af.toList) (St w0 X (L ++ L')) (fun v w => v = u ∧ St w0 X (L ++ L') w) := by intro L'; exact o_bd rfl rfl) (hg : GOk ⟨dd, .build t parts, ty, pos, af, g⟩ acc := by first | trivial | rfl) (hs : s.isA = false := by rfl) (hh : hdF sk = true := by rfl) : DW1 P l fr w0 X fin k s ⟨dd, .build t parts, ty, pos, af, g⟩ sk acc L Hn := dw_opG hg hs hh ho h
theorem sw_index (h : DW1 P l fr w0 X fin k s ⟨dd, .indexAddr t x y, ty, pos, af, g⟩ sk acc L Hn) : DW1 P l fr w0 X fin k s ⟨dd, .indexAddr t x y, ty, pos, af, g⟩ sk acc L Hn := h
theorem w_index (h : DW P l fr w0 X fin sk ((k, u) :: acc) L Hn) (ho : ∀ L', O P ⟨dd, .indexAddr t x y, ty, pos, af, g⟩ (frkN l.toArray acc fr af.toList) (St w0 X (L ++ L')) (fun v w => v = u ∧ St w0 X (L ++ L') w) := by intro L'; exact o_indexAddr rfl rfl (by omega)) (hg : GOk ⟨dd, .indexAddr t x y, ty, pos, af, g⟩ acc := by first | trivial | rfl) (hs : s.isA = false := by rfl) (hh : hdF sk = true := by rfl) : DW1 P l fr w0 X fin k s ⟨dd, .indexAddr t x y, ty, pos, af, g⟩ sk acc L Hn := dw_opG hg hs hh ho h
theorem sw_unop {uop : UnOp} (h : DW1 P l fr w0 X fin k s ⟨dd, .unOp uop t x, ty, pos, af, g⟩ sk acc L Hn) : DW1 P l fr w0 X fin k s ⟨dd, .unOp uop t x, ty, pos, af, g⟩ sk acc L Hn := h
theorem w_unop {uop : UnOp} (h : DW P l fr w0 X fin sk ((k, u) :: acc) L Hn) (ho : ∀ L', O P ⟨dd, .unOp uop t x, ty, pos, af, g⟩ (frkN l.toArray acc fr af.toList) (St w0 X (L ++ L')) (fun v w => v = u ∧ St w0 X (L ++ L') w) := by intro L'; exact o_neg64 rfl (by omega)) (hg : GOk ⟨dd, .unOp uop t x, ty, pos, af, g⟩ acc := by first | trivial | rfl) (hs : s.isA = false := by rfl) (hh : hdF sk = true := by rfl) : DW1 P l fr w0 X fin k s ⟨dd, .unOp uop t x, ty, pos, af, g⟩ sk acc L Hn := dw_opG hg hs hh ho h
theorem sw_conv (h : DW1 P l fr w0 X fin k s ⟨dd, .convert t t' x, ty, pos, af, g⟩ sk acc L Hn) : DW1 P l fr w0 X fin k s ⟨dd, .convert t t' x, ty, pos, af, g⟩ sk acc L Hn := h
theorem w_conv (h : DW P l fr w0 X fin sk ((k, u) :: acc) L Hn) (ho : ∀ L', O P ⟨dd, .convert t t' x, ty, pos, af, g⟩ (frkN l.toArray acc fr af.toList) (St w0 X (L ++ L')) (fun v w => v = u ∧ St w0 X (L ++ L') w) := by intro L'; exact o_convI rfl (by omega)) (hg : GOk ⟨dd, .convert t t' x, ty, pos, af, g⟩ acc := by first | trivial | rfl) (hs : s.isA = false := by rfl) (hh : hdF sk = true := by rfl) : DW1 P l fr w0 X fin k s ⟨dd, .convert t t' x, ty, pos, af, g⟩ sk acc L Hn := dw_opG hg hs hh ho h
theorem sw_store (h : DW1 P l fr w0 X fin k s ⟨dd, .store t x y, ty, pos, af, g⟩ sk acc L Hn) : DW1 P l fr w0 X fin k s ⟨dd, .store t x y, ty, pos, af, g⟩ sk acc L Hn := h
theorem w_store (h : DW P l fr w0 X fin sk ((k, u) :: acc) L Hn) (ho : ∀ L', O P ⟨dd, .store t x y, ty, pos, af, g⟩ (frkN l.toArray acc fr af.toList) (St w0 X (L ++ L')) (fun v w => v = u ∧ St w0 X (L ++ L') w) := by intro L'; first | exact o_storeSame 0 rfl rfl rfl rfl rfl | exact o_storeSame 1 rfl rfl rfl rfl rfl | exact o_storeSame 2 rfl rfl rfl rfl rfl) (hg : GOk ⟨dd, .store t x y, ty, pos, af, g⟩ acc := by first | trivial | rfl) (hs : s.isA = false := by rfl) (hh : hdF sk = true := by rfl) : DW1 P l fr w0 X fin k s ⟨dd, .store t x y, ty, pos, af, g⟩ sk acc L Hn := dw_opG hg hs hh ho h
theorem sw_call {f : FuncId} {args : Array Operand} {ts : Array TypeId} (h : DW1 P l fr w0 X fin k s ⟨dd, .call ⟨.value (.func f), args, ts⟩, ty, pos, af, g⟩ sk acc L Hn) : DW1 P l fr w0 X fin k s ⟨dd, .call ⟨.value (.func f), args, ts⟩, ty, pos, af, g⟩ sk acc L Hn := h
theorem w_call {f : FuncId} {args : Array Operand} {ts : Array TypeId} {vs : List Value} [CFn P f] (h : DW P l fr w0 X fin sk ((k, u) :: acc) L Hn) (hv : fevs (frkN l.toArray acc fr af.toList) args.toList = some vs := by rfl) (hc : CDet P f vs u := by infer_instance) (hg : GOk ⟨dd, .call ⟨.value (.func f), args, ts⟩, ty, pos, af, g⟩ acc := by first | trivial | rfl) (hs : s.isA = false := by rfl) (hh : hdF sk = true := by rfl) : DW1 P l fr w0 X fin k s ⟨dd, .call ⟨.value (.func f), args, ts⟩, ty, pos, af, g⟩ sk acc L Hn := dw_opG hg hs hh (fun _ => o_det hc.det hv) h
theorem sw_put {t : TypeId} {x y : Operand} (h : DW1 P l fr w0 X fin k .h ⟨none, .store t x y, ty, pos, af, none⟩ sk acc L Hn) : DW1 P l fr w0 X fin k .h ⟨none, .store t x y, ty, pos, af, none⟩ sk acc L Hn := h
theorem w_put {bb : Nat} {t : TypeId} {x y : Operand} {v : Value} {cs cs' : List Value} {e : TypeId} (h : DW P l fr w0 X fin sk ((k, undef) :: acc) ((bb, bx cs' e) :: L) Hn) (hx : fev (frkN l.toArray acc fr af.toList) x = some (.pointer (some ⟨bb, 0, none⟩)) := by rfl) (hy : fev (frkN l.toArray acc fr af.toList) y = some v := by rfl) (hst : Stores P t v cs' := by first | exact stores_sc rfl | exact stores_ag rfl rfl) (hl : Nat.beq cs.length cs'.length = true := by rfl) : DW1 P l fr w0 X fin k .h ⟨none, .store t x y, ty, pos, af, none⟩ sk acc ((bb, bx cs e) :: L) Hn := by
  rw [frkN_eq] at hx hy
  exact dw_hd (α := Unit) (fun _ => True) (fun _ => undef) (fun _ => [(bb, bx cs' e)]) (by simp) trivial (fun L' => o_ofu fun ρ w hρ hw => by
    have hg := hw.get (List.mem_cons_self ..)
    obtain ⟨w', h1, h2, h3⟩ := hst w bb e cs hg (by rw [Nat.beq_eq] at hl; exact hl)
    refine ⟨w', ?_, (), trivial, rfl, hw.put h2 h3 rfl⟩
    simp [execOp, hρ _ _ hx, hρ _ _ hy, Instr.storeAt, Instr.sureAddr, h1]) fun _ _ => h
theorem dw_callV {f : FuncId} {args : Array Operand} {ts : Array TypeId} {vs : List Value} [CFn P f] (hc : ∀ L' w, St w0 X (L ++ L') w → Calls P f vs.toArray w (Ret w fun v _ => v = u)) (hv : fevs (frkN l.toArray acc fr af.toList) args.toList = some vs) (hg : GOk ⟨dd, .call ⟨.value (.func f), args, ts⟩, ty, pos, af, g⟩ acc) (hs : s.isA = false) (hh : hdF sk = true)
    (h : DW P l fr w0 X fin sk ((k, u) :: acc) L Hn) : DW1 P l fr w0 X fin k s ⟨dd, .call ⟨.value (.func f), args, ts⟩, ty, pos, af, g⟩ sk acc L Hn :=
  dw_opG hg hs hh (fun L' => (o_ret (Post := fun _ v _ => v = u) hv (hc L')).mono fun v w' ⟨w, hw, he, hp⟩ => ⟨hp, hw.ext he⟩) h
end

/-! ### tests of several parts -/
theorem t_if {c : Operand} {reg A B : Code} {t : Nat} {fr0 : Fr} (ks : List Nat) (hks : keep fr ks = some fr0) (C : Prop) (h : ∀ Q', (∀ fr' b, keep fr' ks = some fr0 → flook fr' t = some (.bool b) → (b = true ↔ C) → Xt P .normal Q' nt D fr' I) → T P r reg Q' nt D fr I) (hc : c = .tmp t) (hA : C → T P r A Q nt D fr0 I) (hB : ¬ C → T P r B Q nt D fr0 I) : T P r (.seq reg (.cond c A B)) Q nt D fr I := by
  subst hc
  refine t_seq (h _ fun fr' b hk hb hC => ?_)
  refine xt_then (t_cond hb (fun e => ?_) (fun e => ?_))
  · exact t_weak (keep_fle _ _ hk) (fun _ h => h) (hA (hC.1 e))
  · exact t_weak (keep_fle _ _ hk) (fun _ h => h) (hB fun hc => by have := hC.2 hc; rw [e] at this; cases this)
theorem tl_if {A B : Code} {t : Nat} {fr0 : Fr} (ks : List Nat) (C : Prop) (hks : keep fr ks = some fr0) (h : ∀ Q', (∀ fr' b, keep fr' ks = some fr0 → flook fr' t = some (.bool b) → (b = true ↔ C) → Xt P .normal Q' nt D fr' I) → TL P r ops Q' nt D rest fr I) (hA : C → T P r A Q nt D fr0 I) (hB : ¬ C → T P r B Q nt D fr0 I) : TL P r ops (Kt P r (.cond (.tmp t) A B) Q) nt D rest fr I := by
  refine h _ fun fr' b hk hb hC => ?_
  refine xt_then (t_cond hb (fun e => ?_) (fun e => ?_))
  · exact t_weak (keep_fle _ _ hk) (fun _ h => h) (hA (hC.1 e))
  · exact t_weak (keep_fle _ _ hk) (fun _ h => h) (hB fun hc => by have := hC.2 hc; rw [e] at this; cases this)
theorem t_keep {cd : Code} {fr0 : Fr} (ks : List Nat) (hk : keep fr ks = some fr0) (h : T P r cd Q nt D fr0 I) : T P r cd Q nt D fr I := t_weak (keep_fle _ _ hk) (fun _ h => h) h

section
variable {l : List Oper} {n0 : Nat} {k j : Nat} {s : Sk} {sk : SkL} {acc : Fr} {Hn : HL} {want b : Bool} {o : Oper}
theorem ok_congr : ∀ (pl : Pl) (sk : SkL) (acc acc' : Fr) (L Hn : HL), (∀ i, lv acc i = lv acc' i) → Ok P l fr w0 X (finW P r l n0 Q nt D fr w0 X) pl sk acc L Hn → Ok P l fr w0 X (finW P r l n0 Q nt D fr w0 X) pl sk acc' L Hn
  | .fin, sk, acc, acc', L, Hn, he, h => by
    refine ⟨h.1, ?_⟩
    have := h.2
    unfold finW at *
    rw [show lv acc' = lv acc from funext fun i => (he i).symm]
    exact this
  | .val k u nx, sk, acc, acc', L, Hn, he, h => by
    obtain ⟨s, r', o, h1, h2, h3, h4, h5, h6⟩ := h
    refine ⟨s, r', o, h1, h2, h3, h4, ?_, ok_congr nx r' _ _ L Hn (fun i => by rw [lv_cons, lv_cons, he i]) h6⟩
    unfold VSpec at *
    rw [show lv acc' = lv acc from funext fun i => (he i).symm]
    exact h5
  | .eff k hd c α C u N M nx, sk, acc, acc', L, Hn, he, h => by
    obtain ⟨r', o, h1, h2, h3, h4, h5, h6, h7⟩ := h
    refine ⟨r', o, h1, h2, ?_, h4, h5, ?_, fun x hx => ok_congr (nx x) r' _ _ _ _ (fun i => by rw [lv_cons, lv_cons, he i]) (h7 x hx)⟩
    · unfold GOk at *
      rw [show lv acc' = lv acc from funext fun i => (he i).symm]
      exact h3
    · rw [show lv acc' = lv acc from funext fun i => (he i).symm]
      exact h6
  | .alo k nx, sk, acc, acc', L, Hn, he, h => by
    obtain ⟨r', h1, h2⟩ := h
    exact ⟨r', h1, fun x => ok_congr (nx x) r' _ _ _ _ (fun i => by rw [lv_cons, lv_cons, he i]) (h2 x)⟩
theorem dw_guard (hj : lv acc j = .bool b) (ht : b = want → DW1 P l fr w0 X (finW P r l n0 Q nt D fr w0 X) k s o sk ((j, .bool want) :: acc) L Hn) (hf : b = !want → DW1 P l fr w0 X (finW P r l n0 Q nt D fr w0 X) k s o sk ((j, .bool (!want)) :: acc) L Hn) : DW1 P l fr w0 X (finW P r l n0 Q nt D fr w0 X) k s o sk acc L Hn := fun ho => by
  by_cases e : b = want
  · obtain ⟨pl, hp⟩ := ht e ho
    refine ⟨pl, ok_congr pl _ _ _ L Hn (fun i => ?_) hp⟩
    rw [lv_cons]
    by_cases h : j = i
    · subst h; rw [if_pos rfl, hj, e]
    · rw [if_neg h]
  · have e' : b = !want := by cases b <;> cases want <;> simp_all
    obtain ⟨pl, hp⟩ := hf e' ho
    refine ⟨pl, ok_congr pl _ _ _ L Hn (fun i => ?_) hp⟩
    rw [lv_cons]
    by_cases h : j = i
    · subst h; rw [if_pos rfl, hj, e']
    · rw [if_neg h]
end
end Go.Proofs.Ytbgolbkolcmldaa
