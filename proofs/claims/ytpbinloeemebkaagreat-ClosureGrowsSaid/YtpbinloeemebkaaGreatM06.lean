/-
  Steps that find their own facts.
-/
import Derived.Test.YtpbinloeemebkaaGreatM05
namespace Go.Proofs.YtpbinloeemebkaaGreat
open Go.RowKit
section
variable {P : Program} {r : Option Nat} {ops : Array Oper} {Q : Exit → Act → World → Prop} {nt : Nat} {D : List Deferred} {fr : AFr} {B : Bs} {L : AL} {rest : List Oper}
/-- as far as it goes -/
def runA (tt : TT) (nt : Nat) : List Oper → AFr → List Oper × AFr
  | [], fr => ([], fr)
  | o :: rest, fr => match o.guard with
    | some _ => (o :: rest, fr)
    | none => match o.dst with
      | none => (o :: rest, fr)
      | some d => match stepB tt fr o.op with
        | none => (o :: rest, fr)
        | some u => bif Nat.ble nt d then (o :: rest, fr) else runA tt nt rest ((d, u) :: fr)
theorem runA_spec {tt : TT} (ok : TOk P tt) : ∀ (l : List Oper) (fr : AFr) {rest' : List Oper} {fr' : AFr}, runA tt nt l fr = (rest', fr') → ATL P r ops Q nt D rest' fr' B L → ATL P r ops Q nt D l fr B L
  | [], fr, _, _, h, hn => by cases h; exact hn
  | o :: rest, fr, rest', fr', h, hn => by
    obtain ⟨dst, op, ty, pos, af, g⟩ := o
    simp only [runA] at h
    cases g with
    | some _ => cases h; exact hn
    | none =>
      cases dst with
      | none => cases h; exact hn
      | some d =>
        simp only at h
        cases hs : stepB tt fr op with
        | none => rw [hs] at h; cases h; exact hn
        | some u =>
          rw [hs] at h
          cases hb : Nat.ble nt d with
          | true => rw [hb] at h; cases h; exact hn
          | false =>
            rw [hb] at h
            have hnd : Oper.noDefer ⟨some d, op, ty, pos, af, none⟩ = true := by
              cases op <;> first | rfl | (simp [stepB, stepA] at hs)
            exact atl_val (stepB_spec ok hs) hb hnd (runA_spec ok rest _ h hn)
end
section
variable {P : Program} {tt : TT} {r : Option Nat} {ops : Array Oper} {Q : Exit → Act → World → Prop} {nt : Nat} {D : List Deferred} {fr fr' : AFr} {B : Bs} {L : AL} {rest rest' : List Oper}
variable {d : Nat} {ty t t' : TypeId} {pos : String} {af : Array Edge} {g : Option (Nat × Bool)} {x y z c : Operand} {u : AV}
theorem n_run (ok : TOk P tt) {op : Op} (_h1 : stepB tt fr op = some u) (h : runA tt nt (⟨some d, op, ty, pos, af, none⟩ :: rest) fr = (rest', fr')) (hn : ATL P r ops Q nt D rest' fr' B L) : ATL P r ops Q nt D (⟨some d, op, ty, pos, af, none⟩ :: rest) fr B L := runA_spec ok _ _ h hn
/-! numbers -/
theorem s_bin {op : BinOp} (h : ATL P r ops Q nt D (⟨some d, .binOp op t x y t', ty, pos, af, none⟩ :: rest) fr B L) : ATL P r ops Q nt D (⟨some d, .binOp op t x y t', ty, pos, af, none⟩ :: rest) fr B L := h
theorem n_bin {op : BinOp} (h : ATL P r ops Q nt D rest ((d, u) :: fr) B L) (ho : Av P ⟨some d, .binOp op t x y t', ty, pos, af, none⟩ fr u := by first | exact a_add64 rfl rfl (by omega) | exact a_sub64 rfl rfl (by omega) | exact a_mul64 rfl rfl (by omega)) (hd : Nat.ble nt d = false := by rfl) : ATL P r ops Q nt D (⟨some d, .binOp op t x y t', ty, pos, af, none⟩ :: rest) fr B L := atl_val ho hd rfl h
/-! places -/
def slI (tt : TT) (t : Nat) : Option (Nat × Nat × Nat) := match tlook tt t with
  | some ⟨.slice e sz by_, _, _⟩ => some (e, sz, by_)
  | _ => none
theorem slI_spec (ok : TOk P tt) {e sz by_ : Nat} (h : slI tt t = some (e, sz, by_)) : CSl P t e sz by_ ∧ 0 < sz := by
  unfold slI at h
  split at h
  · rename_i e' sz' by' _ _ ht
    cases h
    exact ok.isSl ht rfl
  · cases h
theorem s_index (h : ATL P r ops Q nt D (⟨some d, .indexAddr t x y, ty, pos, af, none⟩ :: rest) fr B L) : ATL P r ops Q nt D (⟨some d, .indexAddr t x y, ty, pos, af, none⟩ :: rest) fr B L := h
def immO (u : AV) : Option (Nat × List (List AV)) := match u with
  | .imm s l => some (s, l)
  | .vec _ s l => some (s, l)
  | _ => none
theorem immO_spec {s : Nat} {l : List (List AV)} (h : immO u = some (s, l)) : u.im = .imm s l := by
  unfold immO at h
  split at h <;> cases h <;> rfl
theorem n_index (ok : TOk P tt) {e sz by_ s : Nat} {l : List (List AV)} {k : IntKind} {i : Int} {es : List AV} (h : ATL P r ops Q nt D rest ((d, .iptr es) :: fr) B L) (ht : slI tt t = some (e, sz, by_) := by rfl) (hx : aev fr x = some u := by rfl) (hu : immO u = some (s, l) := by rfl) (hs : Nat.beq s sz = true := by rfl) (hy : aev fr y = some (.sc (.int k i)) := by rfl) (h0 : 0 ≤ i := by omega) (hl : l[i.toNat]? = some es := by first | assumption | (simp only [Int.toNat_natCast]; assumption)) (hd : Nat.ble nt d = false := by rfl) :
    ATL P r ops Q nt D (⟨some d, .indexAddr t x y, ty, pos, af, none⟩ :: rest) fr B L := atl_val (a_index (slI_spec ok ht).1 hx (immO_spec hu) hs hy h0 hl) hd rfl h
theorem n_indexP (ok : TOk P tt) {e sz by_ b off n cap : Nat} {k : IntKind} {i : Int} (h : ATL P r ops Q nt D rest ((d, .sc (.pointer (some ⟨b, off + i.toNat * sz, none⟩))) :: fr) B L) (ht : slI tt t = some (e, sz, by_) := by rfl) (hx : aev fr x = some (.sc (.slice (some ⟨b, off, none⟩) n cap)) := by rfl) (hy : aev fr y = some (.sc (.int k i)) := by rfl) (h0 : 0 ≤ i ∧ i < n := by omega) (hd : Nat.ble nt d = false := by rfl) :
    ATL P r ops Q nt D (⟨some d, .indexAddr t x y, ty, pos, af, none⟩ :: rest) fr B L := atl_val (a_indexP (slI_spec ok ht).1 hx hy h0) hd rfl h
/-! own memory -/
def scI (tt : TT) (t : Nat) : Bool := match tlook tt t with | some ti => !ti.k.agg | none => false
def agI (tt : TT) (t : Nat) : Option Nat := match tlook tt t with | some ti => bif ti.k.agg then some ti.size else none | none => none
theorem scI_spec (ok : TOk P tt) (h : scI tt t = true) : CSc P t := by
  unfold scI at h
  split at h
  · rename_i ti ht
    exact ok.sc ht (by simpa using h)
  · cases h
theorem agI_spec (ok : TOk P tt) {n : Nat} (h : agI tt t = some n) : CAg P t n := by
  unfold agI at h
  split at h
  · rename_i ti ht
    cases hk : ti.k.agg with
    | true => rw [hk] at h; cases h; exact ok.ag ht hk
    | false => rw [hk] at h; cases h
  · cases h
def szI (tt : TT) (t : Nat) : Option Nat := match tlook tt t with | some ti => some ti.size | none => none
theorem szI_spec (ok : TOk P tt) {n : Nat} (h : szI tt t = some n) : (P.info? t).map (·.size) = some n := by
  unfold szI at h
  split at h
  · rename_i ti ht
    cases h
    exact ok.size ht
  · cases h
def zI (tt : TT) (t : Nat) : Option (List Value) := match tlook tt t with | some ti => some ti.zero | none => none
theorem zI_spec (ok : TOk P tt) {zs : List Value} (h : zI tt t = some zs) : CZ P t zs := by
  unfold zI at h
  split at h
  · rename_i ti ht
    cases h
    exact ok.zero ht
  · cases h
theorem s_load (h : ATL P r ops Q nt D (⟨some d, .load t x, ty, pos, af, none⟩ :: rest) fr B L) : ATL P r ops Q nt D (⟨some d, .load t x, ty, pos, af, none⟩ :: rest) fr B L := h
theorem n_load (ok : TOk P tt) (i : Nat) {b k : Nat} {cs : List AV} {e : TypeId} (ht : scI tt t = true) (hx : aev fr x = some (.sc (.pointer (some ⟨b, k, none⟩)))) (hL : L[i]? = some (b, .box cs e)) (hc : cs[k]? = some u) (hd : Nat.ble nt d = false) (h : ATL P r ops Q nt D rest ((d, u) :: fr) B L) :
    ATL P r ops Q nt D (⟨some d, .load t x, ty, pos, af, none⟩ :: rest) fr B L := atl_op hd rfl (ao_load i (scI_spec ok ht) hx hL hc) fun c L' ⟨h1, h2⟩ => by subst h1; subst h2; exact h
theorem n_loadA (ok : TOk P tt) (i : Nat) {b k n : Nat} {cs : List AV} {e : TypeId} (ht : agI tt t = some n) (hx : aev fr x = some (.sc (.pointer (some ⟨b, k, none⟩)))) (hL : L[i]? = some (b, .box cs e)) (hc : Nat.ble (k + n) cs.length = true) (hd : Nat.ble nt d = false) (h : ATL P r ops Q nt D rest ((d, .agg ((cs.drop k).take n)) :: fr) B L) :
    ATL P r ops Q nt D (⟨some d, .load t x, ty, pos, af, none⟩ :: rest) fr B L := atl_op hd rfl (ao_loadA i (agI_spec ok ht) hx hL hc) fun c L' ⟨h1, h2⟩ => by subst h1; subst h2; exact h
theorem s_store (h : ATL P r ops Q nt D (⟨none, .store t x y, ty, pos, af, none⟩ :: rest) fr B L) : ATL P r ops Q nt D (⟨none, .store t x y, ty, pos, af, none⟩ :: rest) fr B L := h
theorem n_store (ok : TOk P tt) (i : Nat) {b k n : Nat} {cs ys : List AV} {e : TypeId} (ht : szI tt t = some n) (hx : aev fr x = some (.sc (.pointer (some ⟨b, k, none⟩)))) (hy : aev fr y = some u) (hu : u.cells = some ys) (hL : L[i]? = some (b, .box cs e)) (hn : Nat.beq ys.length n = true) (hk : Nat.ble (k + n) cs.length = true) (h : ATL P r ops Q nt D rest fr B (aput L i (.box (putA cs k ys) e))) :
    ATL P r ops Q nt D (⟨none, .store t x y, ty, pos, af, none⟩ :: rest) fr B L := atl_unit rfl (ao_store i (szI_spec ok ht) hx hy hu hL hn hk) fun c L' h1 => by subst h1; exact h
theorem n_box {cs : List AV} (h : ∀ b, ATL P r ops Q nt D rest ((d, .sc (.pointer (some ⟨b, 0, none⟩))) :: fr) B ((b, .box cs t) :: L)) (hx : aev fr x = some u := by rfl) (hc : u.cells = some cs := by rfl) (hd : Nat.ble nt d = false := by rfl) :
    ATL P r ops Q nt D (⟨some d, .box t x, ty, pos, af, none⟩ :: rest) fr B L := atl_op hd rfl (ao_box hx hc) fun c L' hh => by obtain ⟨b, h1, h2⟩ := hh; subst h1; subst h2; exact h b
theorem n_boxI {cs : List AV} (h : ATL P r ops Q nt D rest ((d, .iptr cs) :: fr) B L) (hx : aev fr x = some u := by rfl) (hc : u.cells = some cs := by rfl) (hn : Nat.ble cs.length 1000000 = true := by rfl) (hd : Nat.ble nt d = false := by rfl) :
    ATL P r ops Q nt D (⟨some d, .box t x, ty, pos, af, none⟩ :: rest) fr B L := atl_op hd rfl (ao_boxI hx hc hn) fun c L' hh => by obtain ⟨h1, h2⟩ := hh; subst h1; subst h2; exact h
/-- a box that is filled, and then only read -/
theorem n_storeF (tm : Nat) (ok : TOk P tt) (i : Nat) {b n : Nat} {cs ys : List AV} {e : TypeId} (ht : szI tt t = some n) (hx : alook fr tm = some (.sc (.pointer (some ⟨b, 0, none⟩)))) (hy : aev fr y = some u) (hu : u.cells = some ys) (hL : L[i]? = some (b, .box cs e)) (hn : Nat.beq ys.length n = true) (hk : Nat.beq n cs.length = true) (hn6 : Nat.ble ys.length 1000000 = true) (h : ATL P r ops Q nt D rest ((tm, .iptr ys) :: fr) B (L.eraseIdx i)) :
    ATL P r ops Q nt D (⟨none, .store t (.tmp tm) y, ty, pos, af, none⟩ :: rest) fr B L := by
  have hn' : ys.length = n := by rwa [Nat.beq_eq] at hn
  have hk' : n = cs.length := by rwa [Nat.beq_eq] at hk
  refine atl_unit rfl (ao_store i (szI_spec ok ht) hx hy hu hL hn (by rw [Nat.ble_eq]; omega)) fun c L' h1 => ?_
  subst h1
  have hput : putA cs 0 ys = ys := by
    apply List.ext_getElem?
    intro j
    rw [putA_get _ _ _ _ (by omega)]
    by_cases hj : j < ys.length
    · rw [if_pos (by omega), Nat.sub_zero]
    · rw [if_neg (by omega), List.getElem?_eq_none (by omega), List.getElem?_eq_none (by omega)]
  rw [hput]
  have hgi : (aput L i (.box ys e))[i]? = some (b, .box ys e) := by
    clear h
    induction L generalizing i with
    | nil => simp at hL
    | cons p q ih =>
      cases i with
      | zero => simp at hL; subst hL; rfl
      | succ i => simp only [List.getElem?_cons_succ] at hL; simp only [aput, List.getElem?_cons_succ]; exact ih i hL
  have her : (aput L i (.box ys e)).eraseIdx i = L.eraseIdx i := by
    clear h hgi
    induction L generalizing i with
    | nil => simp at hL
    | cons p q ih =>
      cases i with
      | zero => rfl
      | succ i => simp only [List.getElem?_cons_succ] at hL; simp only [aput, List.eraseIdx_cons_succ]; rw [ih i hL]
  have := turn_ptr (nt := nt) (D := D) (B := B) (fr := fr) i hx hgi hn6
  rw [her] at this
  exact atl_turn this h
theorem n_alloc (ok : TOk P tt) {zs : List Value} (h : ∀ b, ATL P r ops Q nt D rest ((d, .sc (.pointer (some ⟨b, 0, none⟩))) :: fr) B ((b, .box (zs.map .sc) t) :: L)) (hz : zI tt t = some zs := by rfl) (h1 : zs.all (·.oneCell') = true := by rfl) (hd : Nat.ble nt d = false := by rfl) :
    ATL P r ops Q nt D (⟨some d, .alloc t, ty, pos, af, none⟩ :: rest) fr B L := by
  have hz' := zI_spec ok hz
  refine atl_op hd rfl (ao_alloc hz' h1) fun c L' hh => ?_
  obtain ⟨b, h1, h2⟩ := hh
  subst h1; subst h2
  exact h b
theorem n_lit (ok : TOk P tt) {e sz by_ n : Nat} {parts : Array (Nat × Operand)} {vs : List AV} {xs : List (List AV)} (h : ∀ b, ATL P r ops Q nt D rest ((d, .vec (some (b, n)) sz xs) :: fr) B ((b, .vec e sz n n) :: L)) (ht : slI tt t = some (e, sz, by_) := by rfl) (hv : aevs fr (parts.toList.map (·.2)) = some vs := by rfl) (hxs : acells vs = some xs := by rfl) (hn : Nat.beq xs.length n = true := by rfl) (hi : parts.toList.map (·.1) = List.range' 0 n := by rfl) (hz : xs.all (fun q => Nat.beq q.length sz) = true := by rfl) (h24 : Nat.ble (n * sz) 16777216 = true := by rfl) (hd : Nat.ble nt d = false := by rfl) :
    ATL P r ops Q nt D (⟨some d, .buildSlice t n parts, ty, pos, af, none⟩ :: rest) fr B L := by
  obtain ⟨h1, h2⟩ := slI_spec ok ht
  refine atl_op hd rfl (ao_lit h1 h2 hv hxs hn hi hz h24) fun c L' hh => ?_
  obtain ⟨b, h1, h2⟩ := hh
  subst h1; subst h2
  exact h b
theorem n_append (ok : TOk P tt) (L0 : AL) {e sz by_ : Nat} {k : Option (Nat × Nat)} {l l2 : List (List AV)} (ht : slI tt t = some (e, sz, by_)) (hx : aev fr x = some (.vec k sz l)) (hy : aev fr y = some u) (hu : immO u = some (sz, l2)) (hL : L.Perm (_root_.Go.Proofs.YtpbinloeemebkaaGreat.tok k e sz l.length ++ L0)) (h63 : l.length + l2.length ≤ 9223372036854775807) (hby : (l.length + l2.length) * by_ ≤ 140737488355328) (hd : Nat.ble nt d = false)
    (h : ∀ k', ATL P r ops Q nt D rest ((d, .vec k' sz (l ++ l2)) :: fr) B (_root_.Go.Proofs.YtpbinloeemebkaaGreat.tok k' e sz (l ++ l2).length ++ L0)) :
    ATL P r ops Q nt D (⟨some d, .call ⟨.builtin .append, #[x, y], #[t, t]⟩, ty, pos, af, none⟩ :: rest) fr B L := atl_op hd rfl (ao_append L0 (slI_spec ok ht).1 (slI_spec ok ht).2 hx hy (immO_spec hu) hL h63 hby) fun c L' ⟨k', h1, h2⟩ => by subst h1; subst h2; exact h k'
/-! calls -/
class AD (P : Program) (f : FuncId) (args : List AV) (u : outParam AV) : Prop where
  det : ADet P f args u
theorem s_call {f : FuncId} {args : Array Operand} {ts : Array TypeId} (h : ATL P r ops Q nt D (⟨some d, .call ⟨.value (.func f), args, ts⟩, ty, pos, af, none⟩ :: rest) fr B L) : ATL P r ops Q nt D (⟨some d, .call ⟨.value (.func f), args, ts⟩, ty, pos, af, none⟩ :: rest) fr B L := h
theorem n_call {f : FuncId} {args : Array Operand} {ts : Array TypeId} {cs ds : List AV} [CFn P f] (h : ATL P r ops Q nt D rest ((d, u) :: fr) B L) (hv : aevs fr args.toList = some cs := by rfl) (hi : imsF cs = some ds := by rfl) (hc : AD P f ds u := by infer_instance) (hd : Nat.ble nt d = false := by rfl) :
    ATL P r ops Q nt D (⟨some d, .call ⟨.value (.func f), args, ts⟩, ty, pos, af, none⟩ :: rest) fr B L := atl_op hd rfl (ao_det (u := u) hv (by rw [imsF_eq hi]; exact hc.det)) fun c L' hh => by obtain ⟨h1, h2⟩ := hh; subst h1; subst h2; exact h
theorem n_condT {cd : Operand} {xx yy : Code} (hc : aev fr cd = some (.sc (.bool true))) (h : AT P r xx Q nt D fr B L) : AT P r (.cond cd xx yy) Q nt D fr B L := at_cond hc (fun _ => h) (fun e => by cases e)
theorem n_condF {cd : Operand} {xx yy : Code} (hc : aev fr cd = some (.sc (.bool false))) (h : AT P r yy Q nt D fr B L) : AT P r (.cond cd xx yy) Q nt D fr B L := at_cond hc (fun e => by cases e) (fun _ => h)
end
/-! ### loops that keep what they do not write -/
def akeep (fr : AFr) : List Nat → Option AFr
  | [] => some []
  | t :: r => match alook fr t with
    | some v => match akeep fr r with
      | some q => some ((t, v) :: q)
      | none => none
    | none => none
theorem akeep_afle {fr : AFr} : ∀ (ks : List Nat) {fr0 : AFr}, akeep fr ks = some fr0 → afle fr0 fr
  | [], fr0, h => by simp [akeep] at h; subst h; trivial
  | t :: r, fr0, h => by
    simp only [akeep] at h
    split at h
    · rename_i v hv
      split at h
      · rename_i q hq
        cases h
        exact ⟨hv, akeep_afle r hq⟩
      · cases h
    · cases h
theorem afle_app {a b fr : AFr} (ha : afle a fr) (hb : afle b fr) : afle (a ++ b) fr := by
  induction a with
  | nil => exact hb
  | cons p r ih => obtain ⟨i, v⟩ := p; exact ⟨ha.1, ih ha.2⟩
section
variable {P : Program} {r : Option Nat} {Q : Exit → Act → World → Prop} {nt : Nat} {D : List Deferred} {fr : AFr} {B : Bs} {L : AL} {cd : Code}
def ALoopQ (nt : Nat) (D : List Deferred) (B : Bs) {α : Type} (Inv : α → AFr) (J : α → AL → Prop) (μ : α → Nat) (x : α) (Q : Exit → Act → World → Prop) : Exit → Act → World → Prop := Exit.then (fun a w => ∃ σ x' L', AAg σ nt D (Inv x') a ∧ J x' L' ∧ ASt B σ L' w ∧ μ x' < μ x) Q
def ALoopK (nt : Nat) (D : List Deferred) (B : Bs) {α : Type} (V : α → AFr) (fr0 : AFr) (C : α → Prop) (Lx : α → AL) (μ : α → Nat) (x : α) (Q : Exit → Act → World → Prop) : Exit → Act → World → Prop := ALoopQ nt D B (fun x => V x ++ fr0) (fun x L' => C x ∧ L' = Lx x) μ x Q
/-- a loop: kept slots, changed ones, a condition, blocks, a measure -/
theorem at_loopK (ks : List Nat) {α : Type} (V : α → AFr) (C : α → Prop) (Lx : α → AL) (μ : α → Nat) (x0 : α) {fr0 : AFr} (hk : akeep fr ks = some fr0) (hV : afle (V x0) fr) (hC : C x0) (hL : ∀ σ w, ASt B σ L w → ASt B σ (Lx x0) w)
    (hb : ∀ x, C x → AT P r cd (ALoopK nt D B V fr0 C Lx μ x Q) nt D (V x ++ fr0) B (Lx x)) : AT P r (.loop cd) Q nt D fr B L :=
  at_loop (fun x => V x ++ fr0) (fun x L' => C x ∧ L' = Lx x) μ x0 (Lx x0) (afle_app hV (akeep_afle ks hk)) ⟨hC, rfl⟩ hL fun x L' ⟨h1, h2⟩ => by subst h2; exact hb x h1
theorem ax_roundK {α : Type} {V : α → AFr} {fr0 : AFr} {C : α → Prop} {Lx : α → AL} {μ : α → Nat} {x : α} (x' : α) (hk : akeep fr (fr0.map (·.1)) = some fr0) (hV : afle (V x') fr) (hC : C x') (hm : μ x' < μ x) (hL : ∀ σ w, ASt B σ L w → ASt B σ (Lx x') w) :
    AX P .normal (ALoopK nt D B V fr0 C Lx μ x Q) nt D fr B L :=
  ax_round x' (Lx x') (afle_app hV (akeep_afle _ hk)) ⟨hC, rfl⟩ hL hm
theorem ax_loop_exit {α : Type} {V : α → AFr} {fr0 : AFr} {C : α → Prop} {Lx : α → AL} {μ : α → Nat} {x : α} {id : Nat} (h : AX P (.exit id) Q nt D fr B L) : AX P (.exit id) (ALoopK nt D B V fr0 C Lx μ x Q) nt D fr B L := fun σ a w ha hw => h σ a w ha hw
theorem ax_loop_ret {α : Type} {V : α → AFr} {fr0 : AFr} {C : α → Prop} {Lx : α → AL} {μ : α → Nat} {x : α} (h : AX P .ret Q nt D fr B L) : AX P .ret (ALoopK nt D B V fr0 C Lx μ x Q) nt D fr B L := fun σ a w ha hw => h σ a w ha hw
theorem at_keep {fr0 : AFr} (ks : List Nat) (hk : akeep fr ks = some fr0) (h : AT P r cd Q nt D fr0 B L) : AT P r cd Q nt D fr B L := at_weak (akeep_afle ks hk) (fun _ _ h => h) h
end
/-! ### tests of several parts -/
theorem atl_if {P : Program} {r : Option Nat} {ops : Array Oper} {Q : Exit → Act → World → Prop} {nt : Nat} {D : List Deferred} {fr fr0 : AFr} {B : Bs} {L : AL} {rest : List Oper} {A A' : Code} {t : Nat} (ks : List Nat) (C : Prop) (hks : akeep fr ks = some fr0) (h : ∀ Q', (∀ fr' b, akeep fr' ks = some fr0 → alook fr' t = some (.sc (.bool b)) → (b = true ↔ C) → AX P .normal Q' nt D fr' B L) → ATL P r ops Q' nt D rest fr B L) (hA : C → AT P r A Q nt D fr0 B L) (hB : ¬ C → AT P r A' Q nt D fr0 B L) : ATL P r ops (Kt P r (.cond (.tmp t) A A') Q) nt D rest fr B L := by
  refine h _ fun fr' b hk hb hC => ?_
  refine ax_then (at_cond hb (fun e => ?_) (fun e => ?_))
  · exact at_weak (akeep_afle _ hk) (fun _ _ h => h) (hA (hC.1 e))
  · exact at_weak (akeep_afle _ hk) (fun _ _ h => h) (hB fun hc => by have := hC.2 hc; rw [e] at this; cases this)
end Go.Proofs.YtpbinloeemebkaaGreat
