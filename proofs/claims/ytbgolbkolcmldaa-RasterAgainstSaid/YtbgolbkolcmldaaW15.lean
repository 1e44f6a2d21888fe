/-
  Edges that are left out of a slice.
-/
import Derived.Test.YtbgolbkolcmldaaK2
namespace Go.Proofs.Ytbgolbkolcmldaa
open Go.RowKit
attribute [local irreducible] T TL Xt O Op1 Kt DV ObsB DE DW DW1 LoopQ LoopJ

section
variable {P : Program} {r : Option Nat} {Q : Exit → Act → World → Prop} {nt : Nat} {D : List Deferred} {fr : Fr} {I : World → Prop}
variable {w0 : World} {X : List Nat} {L : HL} {ops : Array Oper} {rest : List Oper} {d : Nat}
variable {dd : Option Tmp} {ty t t' : TypeId} {pos : String} {af : Array Edge} {g : Option (Nat × Bool)} {x y c : Operand} {u : Value}

/-- an element of a slice of the call's own -/
theorem o_loadRow (i : Nat) {b k e sz n cap m : Nat} {xs cs : List Value} [CAg P t m] (hx : fev fr x = some (.pointer (some ⟨b, k, none⟩))) (hL : L[i]? = some (b, row e sz n cap xs)) (hl : cs.length = m) (hc : ∀ j v, cs[j]? = some v → xs[k + j]? = some v) : Pv P ⟨dd, .load t x, ty, pos, af, g⟩ fr (St w0 X L) (.agg cs.toArray) :=
  o_loadA hx hl fun w hw j v hj => hw.rowCell (List.mem_of_getElem? hL) (hc j v hj)

theorem putL_get (cs : List Value) : ∀ (z : List Value) (off j : Nat), off + cs.length ≤ z.length → (putL z off cs)[j]? = if off ≤ j ∧ j < off + cs.length then cs[j - off]? else z[j]? := by
  induction cs with
  | nil => intro z off j _; simp [putL]; omega
  | cons c cs ih =>
    intro z off j h
    simp only [List.length_cons] at h ⊢
    rw [putL, ih _ _ _ (by simp; omega)]
    by_cases h1 : off + 1 ≤ j ∧ j < off + 1 + cs.length
    · rw [if_pos h1, if_pos (by omega), show j - off = (j - (off + 1)) + 1 by omega, List.getElem?_cons_succ]
    · rw [if_neg h1]
      by_cases h2 : j = off
      · subst h2
        rw [List.getElem?_set_self (by omega), if_pos (by omega)]
        simp
      · rw [List.getElem?_set_ne (by omega), if_neg (by omega)]

theorem row_put {e sz n cap k : Nat} {xs vs : List Value} {cur cs' : Array Value} (hr : row e sz n cap xs (.cells cur e (0, 0))) (hk : k + vs.length ≤ n * sz) (hs : cs'.size = cur.size) (hj : ∀ j, cs'[j]? = if k ≤ j ∧ j < k + vs.length ∧ j < cur.size then vs[j - k]? else cur[j]?) : row e sz n cap (putL xs k vs) (.cells cs' e (0, 0)) := by
  obtain ⟨cur', he, h1, h2, h3, h4, h5⟩ := hr
  injection he with he
  subst he
  have hle : n * sz ≤ cap * sz := Nat.mul_le_mul_right _ h4
  refine ⟨cs', rfl, by rw [hs, h1], ?_, by rw [putL_length, h3], h4, h5⟩
  apply List.ext_getElem?
  intro j
  rw [putL_get vs xs k j (by omega)]
  by_cases hjn : j < n * sz
  · rw [List.getElem?_take_of_lt hjn, Array.getElem?_toList, hj j]
    by_cases hc : k ≤ j ∧ j < k + vs.length
    · rw [if_pos (by omega), if_pos hc]
    · rw [if_neg (by omega), if_neg hc, ← h2, List.getElem?_take_of_lt hjn, Array.getElem?_toList]
  · rw [List.getElem?_eq_none (by rw [List.length_take]; omega), if_neg (by omega), List.getElem?_eq_none (by omega)]

theorem o_storeRow (i : Nat) {b k e sz n cap m : Nat} {xs vs : List Value} [CAg P t m] (hx : fev fr x = some (.pointer (some ⟨b, k, none⟩))) (hy : fev fr y = some (.agg vs.toArray)) (hL : L[i]? = some (b, row e sz n cap xs)) (hl : vs.length = m) (h1 : vs.all (·.oneCell') = true) (hk : k + m ≤ n * sz) :
    O P ⟨dd, .store t x y, ty, pos, af, g⟩ fr (St w0 X L) (fun _ w => St w0 X (lput L i (row e sz n cap (putL xs k vs))) w) :=
  o_ofu fun ρ w hρ hw => by
    obtain ⟨o, ho, hr⟩ := hw.here _ (List.mem_of_getElem? hL)
    obtain ⟨cur, rfl, hcs, _, _, hnc, _⟩ := id hr
    have hle : n * sz ≤ cap * sz := Nat.mul_le_mul_right _ hnc
    refine ⟨w.setCells b k vs, ?_, ?_⟩
    · have := run_storeVar_ag (P := P) (t := t) (w := w) (b := b) (k := k) hl (fun v hv => List.all_eq_true.1 h1 v hv) (fun j hj => by rw [cell_of ho]; simp; omega) (fun j _ => frozen_of ho)
      simp [execOp, hρ _ _ hx, hρ _ _ hy, Instr.storeAt, Instr.sureAddr, this]
    · obtain ⟨hgr, cs', hh, hs, hj⟩ := setCells_heap b vs k w _ e (0, 0) ho
      exact hw.putAt hL hgr hh (row_put hr (by omega) hs hj)

/-- the rest of a slice of the call's own is cleared -/
theorem o_clear (i : Nat) {b e sz by_ n cap m cp : Nat} {xs z : List Value} [hc : CSl P t e sz by_] [hz : CZ P e z] (hsz : Nat.blt 0 sz = true) (hz1 : z.all (·.oneCell') = true) (hx : fev fr x = some (.slice (some ⟨b, m * sz, none⟩) (n - m) cp)) (hL : L[i]? = some (b, row e sz n cap xs)) (hm : m < n) :
    O P ⟨dd, .call ⟨.builtin .clear, #[x], #[t]⟩, ty, pos, af, g⟩ fr (St w0 X L) (fun v w => v = .tuple #[] ∧ St w0 X (lput L i (row e sz m cap (xs.take (m * sz)))) w) :=
  o_of fun ρ w hρ hw => by
    obtain ⟨i0, zv, hi0, hs1, hs2, hzv, hzs⟩ := hc.info
    obtain ⟨zv', hz2, hz3⟩ := hz.run
    have hzz : zv = zv' := by
      have := hz3 w
      simp [zeroValue, typeInfo, hi0, hzv] at this
      exact this
    subst hzz
    have hsz' : 0 < sz := by simpa [Nat.blt_eq] using hsz
    obtain ⟨o, ho, cur, rfl, hcs, htk, hlen, hnc, hcm⟩ := hw.here _ (List.mem_of_getElem? hL)
    have hle : n * sz ≤ cap * sz := Nat.mul_le_mul_right _ hnc
    have hzl : (Builtin.zeroCells zv.cells (n - m)).toList.length = (n - m) * sz := by simp [Builtin.zeroCells, hzs]
    have hmn : m * sz + (n - m) * sz = n * sz := by rw [← Nat.add_mul]; congr 1; omega
    have hone : ∀ v ∈ (Builtin.zeroCells zv.cells (n - m)).toList, v.oneCell' = true := by
      intro v hv
      simp only [Builtin.zeroCells, Array.toList_map, List.mem_map] at hv
      obtain ⟨j, _, rfl⟩ := hv
      have hlt : j % zv.cells.size < zv.cells.size := Nat.mod_lt _ (by omega)
      rw [getElem!_pos zv.cells (j % zv.cells.size) hlt]
      refine List.all_eq_true.1 hz1 _ ?_
      have hzl2 : zv.cells.toList = z := by rw [hz2]
      rw [← hzl2]
      exact Array.getElem_mem_toList hlt
    have hrun := run_storeCells_cells (P := P) b (m * sz) (Builtin.zeroCells zv.cells (n - m)).toList 0 w (fun j hj => by rw [Nat.add_zero, cell_of ho]; rw [hzl] at hj; simp; omega) (fun j hj => frozen_of ho) hone
    simp only [Nat.add_zero] at hrun
    obtain ⟨hgr, cs', hh, hs, hj⟩ := setCells_heap b (Builtin.zeroCells zv.cells (n - m)).toList (m * sz) w cur e (0, 0) ho
    refine ⟨.tuple #[], w.setCells b (m * sz) (Builtin.zeroCells zv.cells (n - m)).toList, ?_, rfl, hw.putAt hL hgr hh ?_⟩
    · have hnm : n - m ≠ 0 := by omega
      obtain ⟨q, hq⟩ : ∃ q, n - m = q + 1 := ⟨n - m - 1, by omega⟩
      rw [hq] at hx hrun ⊢
      simp [execOp, resolve, hρ _ _ hx, invoke, builtin, Builtin.clear_, run_underlying hc.under, hz3, hrun]
    · have hlm : m * sz ≤ n * sz := Nat.mul_le_mul_right _ (by omega)
      refine ⟨cs', rfl, by rw [hs, hcs], ?_, by rw [List.length_take]; omega, by omega, hcm⟩
      apply List.ext_getElem?
      intro j
      by_cases hjm : j < m * sz
      · rw [List.getElem?_take_of_lt hjm, List.getElem?_take_of_lt hjm, Array.getElem?_toList, hj j, if_neg (by omega), ← htk, List.getElem?_take_of_lt (by omega), Array.getElem?_toList]
      · rw [List.getElem?_eq_none (by rw [List.length_take]; omega), List.getElem?_eq_none (by rw [List.length_take]; omega)]
end

def edCells (e : Edg) : List Value := [.int .i64 e.1, .int .i64 e.2.1, .int .i64 e.2.2.1, .int .i64 e.2.2.2.1, .int .i64 e.2.2.2.2]
/-- does an edge cross a height? -/
def crB (y : Int) (e : Edg) : Bool := decide (e.2.1 ≤ y) && decide (y < e.2.2.2.1)

theorem del_calls (e : Edg) (y : Int) (by_ : Nat) (w : World) (hy : Cl w by_ 0 (.int .i64 y)) : Calls Try.prog 62 #[.agg (edCells e).toArray, .pointer (some ⟨by_, 0, none⟩)] w (Ret w fun v _ => v = .bool (!crB y e)) := by
  have hi : CDet Try.prog 43 [edg e.1 e.2.1 e.2.2.1 e.2.2.2.1 e.2.2.2.2, .int .i64 y] (.bool (crB y e)) := ⟨crosses_det _ _ _ _ _ _⟩
  refine calls_S (vs := [.agg (edCells e).toArray, .pointer (some ⟨by_, 0, none⟩)]) Try.func62 rfl Try.ntmps62 rfl ?_
  (repeat' (first|refine Za ?_|refine Zb ?_|refine Zc ?_|refine Zd ?_|refine Ze ?_|refine Zf ?_|refine Zg ?_|refine Zh ?_|refine Zi ?_|refine Zj ?_|refine Zk ?_|refine Zl ?_|refine Zm ?_|refine Zn rfl ?_|refine Zo ?_|refine Zp ?_|refine Zq ?_|refine Zr ?_|refine Zs ?_|refine Zt ?_|refine Zu tab rfl rfl ?_|refine Zv rfl rfl ?_|refine Zw rfl rfl rfl rfl ?_|refine Zx rfl rfl rfl ?_|(apply Zy;refine Zz ?_)|(apply Ya;refine Yb ?_)|(apply Yc;refine Yd ?_)|(apply Ye;refine Yf ?_)|(apply Yg; first|refine Yh fun _=>?_|refine Yi (Yj rfl rfl) rfl fun _=>?_)|refine Yk rfl fun _=>?_|(apply Yl;refine Ym ?_)|(apply Yn;refine Yo ?_)|(apply Yp;refine Yq ?_)|(apply Yr;refine Ys ?_)|(apply Yt;refine Yu ?_)|(apply Yv;refine Yw fun _=>?_)|refine Yx rfl ?_|refine Yy rfl ?_|refine Yz rfl ?_|(apply Va; first|refine Vb ?_|refine Vc ?_)|refine Vd tab ?_|refine Ve fun _=>?_|(apply Vf;refine Vg ?_)|(apply Vh;refine Vi ?_)|(apply Vj;refine Vk ?_)|(apply Vl;refine Vm ?_)|(apply Vn;refine Vo ?_)|(apply Vp;refine Vq ?_)|(apply Vr;refine Vs ?_)|(apply Vt;refine Vu ?_)|(apply Vv;refine Vw ?_)|(apply Vx;refine Vy ?_)|(apply Vz;refine Ua fun _=>?_)))
  exact xt_ret1S rfl rfl fun _ _ => rfl

theorem ed_get {es : List Edg} {k : Nat} {e : Edg} (h : es[k]? = some e) : ∀ j v, (edCells e)[j]? = some v → (es.flatMap edCells)[0 + (k : Int).toNat * 5 + j]? = some v := fun j v hj => by
  rw [Nat.zero_add, Int.toNat_natCast]
  exact flatMap_get edCells 5 (fun _ => rfl) es k j e v h hj
theorem ed_len (es : List Edg) : (es.flatMap edCells).length = es.length * 5 := flatMap_len edCells 5 (fun _ => rfl) es
theorem ed_put {es : List Edg} {k : Nat} {e : Edg} (h : k < es.length) : putL (es.flatMap edCells) (0 + (k : Int).toNat * 5) (edCells e) = (es.set k e).flatMap edCells := by
  rw [Nat.zero_add, Int.toNat_natCast]
  apply List.ext_getElem?
  intro j
  have hle : k * 5 + 5 ≤ es.length * 5 := by omega
  rw [putL_get _ _ _ _ (by rw [ed_len]; simp [edCells]; omega)]
  have hl5 : (edCells e).length = 5 := rfl
  rw [hl5]
  by_cases hj : j < es.length * 5
  · obtain ⟨a, ha⟩ : ∃ a, es[j / 5]? = some a := ⟨_, List.getElem?_eq_getElem (by omega)⟩
    have hr : j % 5 < 5 := Nat.mod_lt _ (by omega)
    have hjq : j / 5 * 5 + j % 5 = j := by omega
    by_cases hc : k * 5 ≤ j ∧ j < k * 5 + 5
    · rw [if_pos hc]
      have hk : j / 5 = k := by omega
      have := flatMap_get edCells 5 (fun _ => rfl) (es.set k e) k (j % 5) e ((edCells e)[j % 5]'(by simpa [edCells] using hr)) (by rw [List.getElem?_set_self h]) (List.getElem?_eq_getElem _)
      rw [← hk, hjq, hk] at this
      rw [this, show j - k * 5 = j % 5 by omega]
      exact List.getElem?_eq_getElem _
    · rw [if_neg hc]
      have h1 := flatMap_get edCells 5 (fun _ => rfl) es (j / 5) (j % 5) a ((edCells a)[j % 5]'(by simpa [edCells] using hr)) ha (List.getElem?_eq_getElem _)
      have h2 := flatMap_get edCells 5 (fun _ => rfl) (es.set k e) (j / 5) (j % 5) a ((edCells a)[j % 5]'(by simpa [edCells] using hr)) (by rw [List.getElem?_set_ne (by omega)]; exact ha) (List.getElem?_eq_getElem _)
      rw [hjq] at h1 h2
      rw [h1, h2]
  · rw [if_neg (by omega), List.getElem?_eq_none (by rw [ed_len]; omega), List.getElem?_eq_none (by rw [ed_len, List.length_set]; omega)]

theorem edg_cells (e : Edg) : edg e.1 e.2.1 e.2.2.1 e.2.2.2.1 e.2.2.2.2 = .agg (edCells e).toArray := rfl

/-- the first that is to be left out, or -1 -/
def firstOut (y : Int) : List Edg → Nat → Int
  | [], _ => -1
  | e :: es, k => if crB y e then firstOut y es (k + 1) else k
theorem firstOut_spec (y : Int) : ∀ (es : List Edg) (k : Nat), (firstOut y es k = -1 ∧ ∀ e ∈ es, crB y e = true) ∨ ∃ j e, firstOut y es k = ((k + j : Nat) : Int) ∧ es[j]? = some e ∧ crB y e = false ∧ ∀ i a, i < j → es[i]? = some a → crB y a = true
  | [], k => .inl ⟨rfl, by simp⟩
  | e :: es, k => by
    cases he : crB y e with
    | false => exact .inr ⟨0, e, by simp [firstOut, he], rfl, he, fun i a hi => by omega⟩
    | true =>
      rcases firstOut_spec y es (k + 1) with ⟨h1, h2⟩ | ⟨j, a, h1, h2, h3, h4⟩
      · refine .inl ⟨by simp [firstOut, he, h1], fun a ha => ?_⟩
        rcases List.mem_cons.1 ha with rfl | ha
        · exact he
        · exact h2 a ha
      · refine .inr ⟨j + 1, a, by simp only [firstOut, he, if_true]; rw [h1]; congr 1; omega, by simpa using h2, h3, fun i b hi hb => ?_⟩
        cases i with
        | zero => simp at hb; subst hb; exact he
        | succ i => exact h4 i b (by omega) (by simpa using hb)

set_option maxHeartbeats 1000000 in
theorem indexFunc_calls (es : List Edg) (y : Int) (by_ b cap : Nat) (w : World) (hes : es.length ≤ 1000000000) (hy : Cl w by_ 0 (.int .i64 y)) (o : Obj) (ho : w.heap[b]? = some o) (hq : row 83 5 es.length cap (es.flatMap edCells) o) :
    Calls Try.prog 80 #[.slice (some ⟨b, 0, none⟩) es.length cap, .func (.func 62) #[] #[.pointer (some ⟨by_, 0, none⟩)]] w (Ret w fun v _ => v = .int .i64 (firstOut y es 0)) := by
  have hc : ∀ (k : Nat) (e : Edg), es[k]? = some e → ClA w b (0 + (k : Int).toNat * 5) (edCells e) := fun k e he => by
    refine ⟨(Array.getElem?_eq_some_iff.1 ho).1, fun j v hj => ?_⟩
    obtain ⟨cur, rfl, _, htk, _⟩ := hq
    have := ed_get he j v hj
    rw [cell_of ho]
    rw [← htk, List.getElem?_take] at this
    split at this
    · simpa using this
    · cases this
  refine calls_S (vs := [.slice (some ⟨b, 0, none⟩) es.length cap, .func (.func 62) #[] #[.pointer (some ⟨by_, 0, none⟩)]]) Try.func80 rfl Try.ntmps80 rfl ?_
  (repeat' (first|refine Za ?_|refine Zb ?_|refine Zc ?_|refine Zd ?_|refine Ze ?_|refine Zf ?_|refine Zg ?_|refine Zh ?_|refine Zi ?_|refine Zj ?_|refine Zk ?_|refine Zl ?_|refine Zm ?_|refine Zn rfl ?_|refine Zo ?_|refine Zp ?_|refine Zq ?_|refine Zr ?_|refine Zs ?_|refine Zt ?_|refine Zu tab rfl rfl ?_|refine Zv rfl rfl ?_|refine Zw rfl rfl rfl rfl ?_|refine Zx rfl rfl rfl ?_|(apply Zy;refine Zz ?_)|(apply Ya;refine Yb ?_)|(apply Yc;refine Yd ?_)|(apply Ye;refine Yf ?_)|(apply Yg; first|refine Yh fun _=>?_|refine Yi (Yj rfl rfl) rfl fun _=>?_)|refine Yk rfl fun _=>?_|(apply Yl;refine Ym ?_)|(apply Yn;refine Yo ?_)|(apply Yp;refine Yq ?_)|(apply Yr;refine Ys ?_)|(apply Yt;refine Yu ?_)|(apply Yv;refine Yw fun _=>?_)|refine Yx rfl ?_|refine Yy rfl ?_|refine Yz rfl ?_|(apply Va; first|refine Vb ?_|refine Vc ?_)|refine Vd tab ?_|refine Ve fun _=>?_|(apply Vf;refine Vg ?_)|(apply Vh;refine Vi ?_)|(apply Vj;refine Vk ?_)|(apply Vl;refine Vm ?_)|(apply Vn;refine Vo ?_)|(apply Vp;refine Vq ?_)|(apply Vr;refine Vs ?_)|(apply Vt;refine Vu ?_)|(apply Vv;refine Vw ?_)|(apply Vx;refine Vy ?_)|(apply Vz;refine Ua fun _=>?_)))
  refine t_loopK [0, 1, 7] (α := Nat) (fun k => [(8, .int .i64 k)]) (fun k => k ≤ es.length ∧ firstOut y es 0 = firstOut y (es.drop k) k) (fun _ => []) (fun k => es.length - k) 0 rfl ⟨rfl, trivial⟩ ⟨by simp, by simp⟩ (fun _ h => h) ?_
  rintro k ⟨hk, hfo⟩
  try dsimp only [List.cons_append, List.nil_append, List.map_cons, List.map_nil]
  (repeat' (first|refine Za ?_|refine Zb ?_|refine Zc ?_|refine Zd ?_|refine Ze ?_|refine Zf ?_|refine Zg ?_|refine Zh ?_|refine Zi ?_|refine Zj ?_|refine Zk ?_|refine Zl ?_|refine Zm ?_|refine Zn rfl ?_|refine Zo ?_|refine Zp ?_|refine Zq ?_|refine Zr ?_|refine Zs ?_|refine Zt ?_|refine Zu tab rfl rfl ?_|refine Zv rfl rfl ?_|refine Zw rfl rfl rfl rfl ?_|refine Zx rfl rfl rfl ?_|(apply Zy;refine Zz ?_)|(apply Ya;refine Yb ?_)|(apply Yc;refine Yd ?_)|(apply Ye;refine Yf ?_)|(apply Yg; first|refine Yh fun _=>?_|refine Yi (Yj rfl rfl) rfl fun _=>?_)|refine Yk rfl fun _=>?_|(apply Yl;refine Ym ?_)|(apply Yn;refine Yo ?_)|(apply Yp;refine Yq ?_)|(apply Yr;refine Ys ?_)|(apply Yt;refine Yu ?_)|(apply Yv;refine Yw fun _=>?_)|refine Yx rfl ?_|refine Yy rfl ?_|refine Yz rfl ?_|(apply Va; first|refine Vb ?_|refine Vc ?_)|refine Vd tab ?_|refine Ve fun _=>?_|(apply Vf;refine Vg ?_)|(apply Vh;refine Vi ?_)|(apply Vj;refine Vk ?_)|(apply Vl;refine Vm ?_)|(apply Vn;refine Vo ?_)|(apply Vp;refine Vq ?_)|(apply Vr;refine Vs ?_)|(apply Vt;refine Vu ?_)|(apply Vv;refine Vw ?_)|(apply Vx;refine Vy ?_)|(apply Vz;refine Ua fun _=>?_)))
  refine t_cond rfl (fun h => ?_) (fun h => ?_)
  · have hlt : k < es.length := by have := of_decide_eq_true h; omega
    obtain ⟨e, he⟩ : ∃ e, es[k]? = some e := ⟨_, List.getElem?_eq_getElem hlt⟩
    have hcl := hc k e he
    have hdr : es.drop k = e :: es.drop (k + 1) := by rw [List.drop_eq_getElem_cons hlt, (List.getElem?_eq_some_iff.1 he).2]
    rw [hdr, firstOut] at hfo
    (repeat' (first|refine Za ?_|refine Zb ?_|refine Zc ?_|refine Zd ?_|refine Ze ?_|refine Zf ?_|refine Zg ?_|refine Zh ?_|refine Zi ?_|refine Zj ?_|refine Zk ?_|refine Zl ?_|refine Zm ?_|refine Zn rfl ?_|refine Zo ?_|refine Zp ?_|refine Zq ?_|refine Zr ?_|refine Zs ?_|refine Zt ?_|refine Zu tab rfl rfl ?_|refine Zv rfl rfl ?_|refine Zw rfl rfl rfl rfl ?_|refine Zx rfl rfl rfl ?_|(apply Zy;refine Zz ?_)|(apply Ya;refine Yb ?_)|(apply Yc;refine Yd ?_)|(apply Ye;refine Yf ?_)|(apply Yg; first|refine Yh fun _=>?_|refine Yi (Yj rfl rfl) rfl fun _=>?_)|refine Yk rfl fun _=>?_|(apply Yl;refine Ym ?_)|(apply Yn;refine Yo ?_)|(apply Yp;refine Yq ?_)|(apply Yr;refine Ys ?_)|(apply Yt;refine Yu ?_)|(apply Yv;refine Yw fun _=>?_)|refine Yx rfl ?_|refine Yy rfl ?_|refine Yz rfl ?_|(apply Va; first|refine Vb ?_|refine Vc ?_)|refine Vd tab ?_|refine Ve fun _=>?_|(apply Vf;refine Vg ?_)|(apply Vh;refine Vi ?_)|(apply Vj;refine Vk ?_)|(apply Vl;refine Vm ?_)|(apply Vn;refine Vo ?_)|(apply Vp;refine Vq ?_)|(apply Vr;refine Vs ?_)|(apply Vt;refine Vu ?_)|(apply Vv;refine Vw ?_)|(apply Vx;refine Vy ?_)|(apply Vz;refine Ua fun _=>?_)))
    refine tl_call (u := .bool (!crB y e)) (I' := St w [] []) (o_callv [.agg (edCells e).toArray] [.pointer (some ⟨by_, 0, none⟩)] rfl rfl (fun w1 hw1 => (del_calls e y by_ w1 ⟨Nat.lt_of_lt_of_le hy.1 hw1.size, by rw [hw1.oldCell (a := ⟨by_, 0, none⟩) hy.1 (by simp)]; exact hy.2⟩).mono fun r w2 ⟨v, hr, hx, hv⟩ => ⟨v, hr, hv, hw1.ext hx⟩)) rfl ?_
    (repeat' (first|refine Za ?_|refine Zb ?_|refine Zc ?_|refine Zd ?_|refine Ze ?_|refine Zf ?_|refine Zg ?_|refine Zh ?_|refine Zi ?_|refine Zj ?_|refine Zk ?_|refine Zl ?_|refine Zm ?_|refine Zn rfl ?_|refine Zo ?_|refine Zp ?_|refine Zq ?_|refine Zr ?_|refine Zs ?_|refine Zt ?_|refine Zu tab rfl rfl ?_|refine Zv rfl rfl ?_|refine Zw rfl rfl rfl rfl ?_|refine Zx rfl rfl rfl ?_|(apply Zy;refine Zz ?_)|(apply Ya;refine Yb ?_)|(apply Yc;refine Yd ?_)|(apply Ye;refine Yf ?_)|(apply Yg; first|refine Yh fun _=>?_|refine Yi (Yj rfl rfl) rfl fun _=>?_)|refine Yk rfl fun _=>?_|(apply Yl;refine Ym ?_)|(apply Yn;refine Yo ?_)|(apply Yp;refine Yq ?_)|(apply Yr;refine Ys ?_)|(apply Yt;refine Yu ?_)|(apply Yv;refine Yw fun _=>?_)|refine Yx rfl ?_|refine Yy rfl ?_|refine Yz rfl ?_|(apply Va; first|refine Vb ?_|refine Vc ?_)|refine Vd tab ?_|refine Ve fun _=>?_|(apply Vf;refine Vg ?_)|(apply Vh;refine Vi ?_)|(apply Vj;refine Vk ?_)|(apply Vl;refine Vm ?_)|(apply Vn;refine Vo ?_)|(apply Vp;refine Vq ?_)|(apply Vr;refine Vs ?_)|(apply Vt;refine Vu ?_)|(apply Vv;refine Vw ?_)|(apply Vx;refine Vy ?_)|(apply Vz;refine Ua fun _=>?_)))
    refine t_cond rfl (fun h => ?_) (fun h => ?_)
    · have hcr : crB y e = false := by simpa using h
      rw [hcr, if_neg (by simp)] at hfo
      (repeat' (first|refine Za ?_|refine Zb ?_|refine Zc ?_|refine Zd ?_|refine Ze ?_|refine Zf ?_|refine Zg ?_|refine Zh ?_|refine Zi ?_|refine Zj ?_|refine Zk ?_|refine Zl ?_|refine Zm ?_|refine Zn rfl ?_|refine Zo ?_|refine Zp ?_|refine Zq ?_|refine Zr ?_|refine Zs ?_|refine Zt ?_|refine Zu tab rfl rfl ?_|refine Zv rfl rfl ?_|refine Zw rfl rfl rfl rfl ?_|refine Zx rfl rfl rfl ?_|(apply Zy;refine Zz ?_)|(apply Ya;refine Yb ?_)|(apply Yc;refine Yd ?_)|(apply Ye;refine Yf ?_)|(apply Yg; first|refine Yh fun _=>?_|refine Yi (Yj rfl rfl) rfl fun _=>?_)|refine Yk rfl fun _=>?_|(apply Yl;refine Ym ?_)|(apply Yn;refine Yo ?_)|(apply Yp;refine Yq ?_)|(apply Yr;refine Ys ?_)|(apply Yt;refine Yu ?_)|(apply Yv;refine Yw fun _=>?_)|refine Yx rfl ?_|refine Yy rfl ?_|refine Yz rfl ?_|(apply Va; first|refine Vb ?_|refine Vc ?_)|refine Vd tab ?_|refine Ve fun _=>?_|(apply Vf;refine Vg ?_)|(apply Vh;refine Vi ?_)|(apply Vj;refine Vk ?_)|(apply Vl;refine Vm ?_)|(apply Vn;refine Vo ?_)|(apply Vp;refine Vq ?_)|(apply Vr;refine Vs ?_)|(apply Vt;refine Vu ?_)|(apply Vv;refine Vw ?_)|(apply Vx;refine Vy ?_)|(apply Vz;refine Ua fun _=>?_)))
      exact xt_ret1S rfl rfl fun _ _ => by rw [hfo]
    · have hcr : crB y e = true := by simpa using h
      rw [hcr, if_pos rfl] at hfo
      (repeat' (first|refine Za ?_|refine Zb ?_|refine Zc ?_|refine Zd ?_|refine Ze ?_|refine Zf ?_|refine Zg ?_|refine Zh ?_|refine Zi ?_|refine Zj ?_|refine Zk ?_|refine Zl ?_|refine Zm ?_|refine Zn rfl ?_|refine Zo ?_|refine Zp ?_|refine Zq ?_|refine Zr ?_|refine Zs ?_|refine Zt ?_|refine Zu tab rfl rfl ?_|refine Zv rfl rfl ?_|refine Zw rfl rfl rfl rfl ?_|refine Zx rfl rfl rfl ?_|(apply Zy;refine Zz ?_)|(apply Ya;refine Yb ?_)|(apply Yc;refine Yd ?_)|(apply Ye;refine Yf ?_)|(apply Yg; first|refine Yh fun _=>?_|refine Yi (Yj rfl rfl) rfl fun _=>?_)|refine Yk rfl fun _=>?_|(apply Yl;refine Ym ?_)|(apply Yn;refine Yo ?_)|(apply Yp;refine Yq ?_)|(apply Yr;refine Ys ?_)|(apply Yt;refine Yu ?_)|(apply Yv;refine Yw fun _=>?_)|refine Yx rfl ?_|refine Yy rfl ?_|refine Yz rfl ?_|(apply Va; first|refine Vb ?_|refine Vc ?_)|refine Vd tab ?_|refine Ve fun _=>?_|(apply Vf;refine Vg ?_)|(apply Vh;refine Vi ?_)|(apply Vj;refine Vk ?_)|(apply Vl;refine Vm ?_)|(apply Vn;refine Vo ?_)|(apply Vp;refine Vq ?_)|(apply Vr;refine Vs ?_)|(apply Vt;refine Vu ?_)|(apply Vv;refine Vw ?_)|(apply Vx;refine Vy ?_)|(apply Vz;refine Ua fun _=>?_)))
      exact xt_roundK (k + 1) rfl ⟨rfl, trivial⟩ ⟨by omega, hfo⟩ (by omega) (fun _ h => h)
  · have hkn : k = es.length := by have := of_decide_eq_false h; omega
    subst hkn
    rw [List.drop_of_length_le (Nat.le_refl _), firstOut] at hfo
    (repeat' (first|refine Za ?_|refine Zb ?_|refine Zc ?_|refine Zd ?_|refine Ze ?_|refine Zf ?_|refine Zg ?_|refine Zh ?_|refine Zi ?_|refine Zj ?_|refine Zk ?_|refine Zl ?_|refine Zm ?_|refine Zn rfl ?_|refine Zo ?_|refine Zp ?_|refine Zq ?_|refine Zr ?_|refine Zs ?_|refine Zt ?_|refine Zu tab rfl rfl ?_|refine Zv rfl rfl ?_|refine Zw rfl rfl rfl rfl ?_|refine Zx rfl rfl rfl ?_|(apply Zy;refine Zz ?_)|(apply Ya;refine Yb ?_)|(apply Yc;refine Yd ?_)|(apply Ye;refine Yf ?_)|(apply Yg; first|refine Yh fun _=>?_|refine Yi (Yj rfl rfl) rfl fun _=>?_)|refine Yk rfl fun _=>?_|(apply Yl;refine Ym ?_)|(apply Yn;refine Yo ?_)|(apply Yp;refine Yq ?_)|(apply Yr;refine Ys ?_)|(apply Yt;refine Yu ?_)|(apply Yv;refine Yw fun _=>?_)|refine Yx rfl ?_|refine Yy rfl ?_|refine Yz rfl ?_|(apply Va; first|refine Vb ?_|refine Vc ?_)|refine Vd tab ?_|refine Ve fun _=>?_|(apply Vf;refine Vg ?_)|(apply Vh;refine Vi ?_)|(apply Vj;refine Vk ?_)|(apply Vl;refine Vm ?_)|(apply Vn;refine Vo ?_)|(apply Vp;refine Vq ?_)|(apply Vr;refine Vs ?_)|(apply Vt;refine Vu ?_)|(apply Vv;refine Vw ?_)|(apply Vx;refine Vy ?_)|(apply Vz;refine Ua fun _=>?_)))
    exact xt_ret1S rfl rfl fun _ _ => by rw [hfo]

/-- a call that writes one block of the caller's, and returns a value -/
def WroteV (w : World) (b : Nat) (q : Obj → Prop) (u : Value) : Ending → World → Prop := fun e w' => e = .returned u ∧ w.grownBy w' (some b) ∧ ∃ o, w'.heap[b]? = some o ∧ q o
theorem St.wroteV {w w' : World} {b : Nat} {q : Obj → Prop} {L : HL} {u : Value} (h : St w [b] ((b, q) :: L) w') : WroteV w b q u (.returned u) w' :=
  ⟨rfl, ⟨h.os, h.tape, h.output, h.size, fun k hk hne => h.old k hk (by simpa using hne)⟩, h.here _ (List.mem_cons_self ..)⟩

def keptE (y : Int) (es : List Edg) : List Edg := es.filter (crB y)
theorem kept_le (y : Int) (es : List Edg) : (keptE y es).length ≤ es.length := List.length_filter_le ..
theorem kept_snoc (y : Int) {es : List Edg} {j : Nat} {e : Edg} (h : es[j]? = some e) : keptE y (es.take (j + 1)) = keptE y (es.take j) ++ (if crB y e then [e] else []) := by
  rw [keptE, List.take_add_one, h, List.filter_append]
  cases hc : crB y e <;> simp [keptE, hc]

set_option maxHeartbeats 1000000 in
theorem deleteFunc_calls (es : List Edg) (y : Int) (by_ b cap : Nat) (w : World) (hes : es.length ≤ 1000000000) (hcap : es.length ≤ cap) (hby : by_ ≠ b) (hy : Cl w by_ 0 (.int .i64 y)) (o : Obj) (ho : w.heap[b]? = some o) (hq : row 83 5 es.length cap (es.flatMap edCells) o) :
    Calls Try.prog 61 #[.slice (some ⟨b, 0, none⟩) es.length cap, .func (.func 62) #[] #[.pointer (some ⟨by_, 0, none⟩)]] w (WroteV w b (row 83 5 (keptE y es).length cap ((keptE y es).flatMap edCells)) (.slice (some ⟨b, 0, none⟩) (keptE y es).length cap)) := by
  have hyw : ∀ {L : HL} {w1 : World}, St w [b] L w1 → Cl w1 by_ 0 (.int .i64 y) := fun hw1 => ⟨Nat.lt_of_lt_of_le hy.1 hw1.size, by rw [hw1.oldCell (a := ⟨by_, 0, none⟩) hy.1 (by simpa using hby)]; exact hy.2⟩
  refine calls_W (vs := [.slice (some ⟨b, 0, none⟩) es.length cap, .func (.func 62) #[] #[.pointer (some ⟨by_, 0, none⟩)]]) ho hq Try.func61 rfl Try.ntmps61 rfl ?_
  (repeat' (first|refine Za ?_|refine Zb ?_|refine Zc ?_|refine Zd ?_|refine Ze ?_|refine Zf ?_|refine Zg ?_|refine Zh ?_|refine Zi ?_|refine Zj ?_|refine Zk ?_|refine Zl ?_|refine Zm ?_|refine Zn rfl ?_|refine Zo ?_|refine Zp ?_|refine Zq ?_|refine Zr ?_|refine Zs ?_|refine Zt ?_|refine Zu tab rfl rfl ?_|refine Zv rfl rfl ?_|refine Zw rfl rfl rfl rfl ?_|refine Zx rfl rfl rfl ?_|(apply Zy;refine Zz ?_)|(apply Ya;refine Yb ?_)|(apply Yc;refine Yd ?_)|(apply Ye;refine Yf ?_)|(apply Yg; first|refine Yh fun _=>?_|refine Yi (Yj rfl rfl) rfl fun _=>?_)|refine Yk rfl fun _=>?_|(apply Yl;refine Ym ?_)|(apply Yn;refine Yo ?_)|(apply Yp;refine Yq ?_)|(apply Yr;refine Ys ?_)|(apply Yt;refine Yu ?_)|(apply Yv;refine Yw fun _=>?_)|refine Yx rfl ?_|refine Yy rfl ?_|refine Yz rfl ?_|(apply Va; first|refine Vb ?_|refine Vc ?_)|refine Vd tab ?_|refine Ve fun _=>?_|(apply Vf;refine Vg ?_)|(apply Vh;refine Vi ?_)|(apply Vj;refine Vk ?_)|(apply Vl;refine Vm ?_)|(apply Vn;refine Vo ?_)|(apply Vp;refine Vq ?_)|(apply Vr;refine Vs ?_)|(apply Vt;refine Vu ?_)|(apply Vv;refine Vw ?_)|(apply Vx;refine Vy ?_)|(apply Vz;refine Ua fun _=>?_)))
  refine tl_callV (u := .int .i64 (firstOut y es 0)) (fun w1 hw1 => ?_) rfl rfl ?_
  · obtain ⟨o1, ho1, hq1⟩ := hw1.here _ (List.mem_cons_self ..)
    exact indexFunc_calls es y by_ b cap w1 hes (hyw hw1) o1 ho1 hq1
  rcases firstOut_spec y es 0 with ⟨h1, h2⟩ | ⟨j0, e0, h1, h2, h3, h4⟩
  · rw [h1]
    have hk : keptE y es = es := by rw [keptE, List.filter_eq_self]; exact h2
    (repeat' (first|refine Za ?_|refine Zb ?_|refine Zc ?_|refine Zd ?_|refine Ze ?_|refine Zf ?_|refine Zg ?_|refine Zh ?_|refine Zi ?_|refine Zj ?_|refine Zk ?_|refine Zl ?_|refine Zm ?_|refine Zn rfl ?_|refine Zo ?_|refine Zp ?_|refine Zq ?_|refine Zr ?_|refine Zs ?_|refine Zt ?_|refine Zu tab rfl rfl ?_|refine Zv rfl rfl ?_|refine Zw rfl rfl rfl rfl ?_|refine Zx rfl rfl rfl ?_|(apply Zy;refine Zz ?_)|(apply Ya;refine Yb ?_)|(apply Yc;refine Yd ?_)|(apply Ye;refine Yf ?_)|(apply Yg; first|refine Yh fun _=>?_|refine Yi (Yj rfl rfl) rfl fun _=>?_)|refine Yk rfl fun _=>?_|(apply Yl;refine Ym ?_)|(apply Yn;refine Yo ?_)|(apply Yp;refine Yq ?_)|(apply Yr;refine Ys ?_)|(apply Yt;refine Yu ?_)|(apply Yv;refine Yw fun _=>?_)|refine Yx rfl ?_|refine Yy rfl ?_|refine Yz rfl ?_|(apply Va; first|refine Vb ?_|refine Vc ?_)|refine Vd tab ?_|refine Ve fun _=>?_|(apply Vf;refine Vg ?_)|(apply Vh;refine Vi ?_)|(apply Vj;refine Vk ?_)|(apply Vl;refine Vm ?_)|(apply Vn;refine Vo ?_)|(apply Vp;refine Vq ?_)|(apply Vr;refine Vs ?_)|(apply Vt;refine Vu ?_)|(apply Vv;refine Vw ?_)|(apply Vx;refine Vy ?_)|(apply Vz;refine Ua fun _=>?_)))
    refine xt_ret1 rfl rfl fun w' hw' => ?_
    rw [hk]
    exact hw'.wroteV
  · rw [h1, Nat.zero_add]
    have hj0 : j0 < es.length := (List.getElem?_eq_some_iff.1 h2).1
    have ht0 : keptE y (es.take j0) = es.take j0 := by
      rw [keptE, List.filter_eq_self]
      intro a ha
      obtain ⟨i, hi, rfl⟩ := List.mem_iff_getElem.1 ha
      simp only [List.length_take] at hi
      exact h4 i _ (by omega) (by rw [List.getElem_take]; exact List.getElem?_eq_getElem _)
    have ht1 : keptE y (es.take (j0 + 1)) = es.take j0 := by rw [kept_snoc y h2, h3, ht0]; simp
    (repeat' (first|refine Za ?_|refine Zb ?_|refine Zc ?_|refine Zd ?_|refine Ze ?_|refine Zf ?_|refine Zg ?_|refine Zh ?_|refine Zi ?_|refine Zj ?_|refine Zk ?_|refine Zl ?_|refine Zm ?_|refine Zn rfl ?_|refine Zo ?_|refine Zp ?_|refine Zq ?_|refine Zr ?_|refine Zs ?_|refine Zt ?_|refine Zu tab rfl rfl ?_|refine Zv rfl rfl ?_|refine Zw rfl rfl rfl rfl ?_|refine Zx rfl rfl rfl ?_|(apply Zy;refine Zz ?_)|(apply Ya;refine Yb ?_)|(apply Yc;refine Yd ?_)|(apply Ye;refine Yf ?_)|(apply Yg; first|refine Yh fun _=>?_|refine Yi (Yj rfl rfl) rfl fun _=>?_)|refine Yk rfl fun _=>?_|(apply Yl;refine Ym ?_)|(apply Yn;refine Yo ?_)|(apply Yp;refine Yq ?_)|(apply Yr;refine Ys ?_)|(apply Yt;refine Yu ?_)|(apply Yv;refine Yw fun _=>?_)|refine Yx rfl ?_|refine Yy rfl ?_|refine Yz rfl ?_|(apply Va; first|refine Vb ?_|refine Vc ?_)|refine Vd tab ?_|refine Ve fun _=>?_|(apply Vf;refine Vg ?_)|(apply Vh;refine Vi ?_)|(apply Vj;refine Vk ?_)|(apply Vl;refine Vm ?_)|(apply Vn;refine Vo ?_)|(apply Vp;refine Vq ?_)|(apply Vr;refine Vs ?_)|(apply Vt;refine Vu ?_)|(apply Vv;refine Vw ?_)|(apply Vx;refine Vy ?_)|(apply Vz;refine Ua fun _=>?_)))
    refine t_loopK [0, 1] (α := Nat × List Edg) (fun x => [(5, .int .i64 (keptE y (es.take x.1)).length), (6, .int .i64 x.1)]) (fun x => x.1 ≤ es.length ∧ x.2.length = es.length ∧ (keptE y (es.take x.1)).length < x.1 ∧ x.2.take (keptE y (es.take x.1)).length = keptE y (es.take x.1) ∧ x.2.drop x.1 = es.drop x.1) (fun x => [(b, row 83 5 es.length cap (x.2.flatMap edCells))]) (fun x => es.length - x.1) (j0 + 1, es) rfl ⟨?_, rfl, trivial⟩ ⟨by simp only; omega, rfl, ?_, ?_, rfl⟩ (fun _ h => h) ?_
    · rw [ht1, List.length_take, Nat.min_eq_left (by omega)]; rfl
    · simp only
      rw [ht1, List.length_take]; omega
    · simp only
      rw [ht1, List.length_take, Nat.min_eq_left (by omega)]
    rintro ⟨j, cu⟩ ⟨hj, hcl, hij, htk, hdr⟩
    simp only at hj hcl hij htk hdr
    try dsimp only [List.cons_append, List.nil_append, List.map_cons, List.map_nil]
    (repeat' (first|refine Za ?_|refine Zb ?_|refine Zc ?_|refine Zd ?_|refine Ze ?_|refine Zf ?_|refine Zg ?_|refine Zh ?_|refine Zi ?_|refine Zj ?_|refine Zk ?_|refine Zl ?_|refine Zm ?_|refine Zn rfl ?_|refine Zo ?_|refine Zp ?_|refine Zq ?_|refine Zr ?_|refine Zs ?_|refine Zt ?_|refine Zu tab rfl rfl ?_|refine Zv rfl rfl ?_|refine Zw rfl rfl rfl rfl ?_|refine Zx rfl rfl rfl ?_|(apply Zy;refine Zz ?_)|(apply Ya;refine Yb ?_)|(apply Yc;refine Yd ?_)|(apply Ye;refine Yf ?_)|(apply Yg; first|refine Yh fun _=>?_|refine Yi (Yj rfl rfl) rfl fun _=>?_)|refine Yk rfl fun _=>?_|(apply Yl;refine Ym ?_)|(apply Yn;refine Yo ?_)|(apply Yp;refine Yq ?_)|(apply Yr;refine Ys ?_)|(apply Yt;refine Yu ?_)|(apply Yv;refine Yw fun _=>?_)|refine Yx rfl ?_|refine Yy rfl ?_|refine Yz rfl ?_|(apply Va; first|refine Vb ?_|refine Vc ?_)|refine Vd tab ?_|refine Ve fun _=>?_|(apply Vf;refine Vg ?_)|(apply Vh;refine Vi ?_)|(apply Vj;refine Vk ?_)|(apply Vl;refine Vm ?_)|(apply Vn;refine Vo ?_)|(apply Vp;refine Vq ?_)|(apply Vr;refine Vs ?_)|(apply Vt;refine Vu ?_)|(apply Vv;refine Vw ?_)|(apply Vx;refine Vy ?_)|(apply Vz;refine Ua fun _=>?_)))
    refine t_cond rfl (fun h => ?_) (fun h => ?_)
    · have hlt : j < es.length := by have := of_decide_eq_true h; omega
      obtain ⟨e, he⟩ : ∃ e, es[j]? = some e := ⟨_, List.getElem?_eq_getElem hlt⟩
      have hcu : cu[j]? = some e := by
        have := congrArg (fun l => l[0]?) hdr
        simp only [List.getElem?_drop, Nat.add_zero] at this
        rw [this, he]
      have hsn := kept_snoc y he
      (repeat' (first|refine Za ?_|refine Zb ?_|refine Zc ?_|refine Zd ?_|refine Ze ?_|refine Zf ?_|refine Zg ?_|refine Zh ?_|refine Zi ?_|refine Zj ?_|refine Zk ?_|refine Zl ?_|refine Zm ?_|refine Zn rfl ?_|refine Zo ?_|refine Zp ?_|refine Zq ?_|refine Zr ?_|refine Zs ?_|refine Zt ?_|refine Zu tab rfl rfl ?_|refine Zv rfl rfl ?_|refine Zw rfl rfl rfl rfl ?_|refine Zx rfl rfl rfl ?_|(apply Zy;refine Zz ?_)|(apply Ya;refine Yb ?_)|(apply Yc;refine Yd ?_)|(apply Ye;refine Yf ?_)|(apply Yg; first|refine Yh fun _=>?_|refine Yi (Yj rfl rfl) rfl fun _=>?_)|refine Yk rfl fun _=>?_|(apply Yl;refine Ym ?_)|(apply Yn;refine Yo ?_)|(apply Yp;refine Yq ?_)|(apply Yr;refine Ys ?_)|(apply Yt;refine Yu ?_)|(apply Yv;refine Yw fun _=>?_)|refine Yx rfl ?_|refine Yy rfl ?_|refine Yz rfl ?_|(apply Va; first|refine Vb ?_|refine Vc ?_)|refine Vd tab ?_|refine Ve fun _=>?_|(apply Vf;refine Vg ?_)|(apply Vh;refine Vi ?_)|(apply Vj;refine Vk ?_)|(apply Vl;refine Vm ?_)|(apply Vn;refine Vo ?_)|(apply Vp;refine Vq ?_)|(apply Vr;refine Vs ?_)|(apply Vt;refine Vu ?_)|(apply Vv;refine Vw ?_)|(apply Vx;refine Vy ?_)|(apply Vz;refine Ua fun _=>?_)))
      refine tl_load (o_loadRow 0 (cs := edCells e) rfl rfl rfl (ed_get hcu)) rfl ?_
      (repeat' (first|refine Za ?_|refine Zb ?_|refine Zc ?_|refine Zd ?_|refine Ze ?_|refine Zf ?_|refine Zg ?_|refine Zh ?_|refine Zi ?_|refine Zj ?_|refine Zk ?_|refine Zl ?_|refine Zm ?_|refine Zn rfl ?_|refine Zo ?_|refine Zp ?_|refine Zq ?_|refine Zr ?_|refine Zs ?_|refine Zt ?_|refine Zu tab rfl rfl ?_|refine Zv rfl rfl ?_|refine Zw rfl rfl rfl rfl ?_|refine Zx rfl rfl rfl ?_|(apply Zy;refine Zz ?_)|(apply Ya;refine Yb ?_)|(apply Yc;refine Yd ?_)|(apply Ye;refine Yf ?_)|(apply Yg; first|refine Yh fun _=>?_|refine Yi (Yj rfl rfl) rfl fun _=>?_)|refine Yk rfl fun _=>?_|(apply Yl;refine Ym ?_)|(apply Yn;refine Yo ?_)|(apply Yp;refine Yq ?_)|(apply Yr;refine Ys ?_)|(apply Yt;refine Yu ?_)|(apply Yv;refine Yw fun _=>?_)|refine Yx rfl ?_|refine Yy rfl ?_|refine Yz rfl ?_|(apply Va; first|refine Vb ?_|refine Vc ?_)|refine Vd tab ?_|refine Ve fun _=>?_|(apply Vf;refine Vg ?_)|(apply Vh;refine Vi ?_)|(apply Vj;refine Vk ?_)|(apply Vl;refine Vm ?_)|(apply Vn;refine Vo ?_)|(apply Vp;refine Vq ?_)|(apply Vr;refine Vs ?_)|(apply Vt;refine Vu ?_)|(apply Vv;refine Vw ?_)|(apply Vx;refine Vy ?_)|(apply Vz;refine Ua fun _=>?_)))
      refine tl_call (u := .bool (!crB y e)) (I' := St w [b] _) (o_callv [.agg (edCells e).toArray] [.pointer (some ⟨by_, 0, none⟩)] rfl rfl (fun w1 hw1 => (del_calls e y by_ w1 (hyw hw1)).mono fun r w2 ⟨v, hr, hx, hv⟩ => ⟨v, hr, hv, hw1.ext hx⟩)) rfl ?_
      (repeat' (first|refine Za ?_|refine Zb ?_|refine Zc ?_|refine Zd ?_|refine Ze ?_|refine Zf ?_|refine Zg ?_|refine Zh ?_|refine Zi ?_|refine Zj ?_|refine Zk ?_|refine Zl ?_|refine Zm ?_|refine Zn rfl ?_|refine Zo ?_|refine Zp ?_|refine Zq ?_|refine Zr ?_|refine Zs ?_|refine Zt ?_|refine Zu tab rfl rfl ?_|refine Zv rfl rfl ?_|refine Zw rfl rfl rfl rfl ?_|refine Zx rfl rfl rfl ?_|(apply Zy;refine Zz ?_)|(apply Ya;refine Yb ?_)|(apply Yc;refine Yd ?_)|(apply Ye;refine Yf ?_)|(apply Yg; first|refine Yh fun _=>?_|refine Yi (Yj rfl rfl) rfl fun _=>?_)|refine Yk rfl fun _=>?_|(apply Yl;refine Ym ?_)|(apply Yn;refine Yo ?_)|(apply Yp;refine Yq ?_)|(apply Yr;refine Ys ?_)|(apply Yt;refine Yu ?_)|(apply Yv;refine Yw fun _=>?_)|refine Yx rfl ?_|refine Yy rfl ?_|refine Yz rfl ?_|(apply Va; first|refine Vb ?_|refine Vc ?_)|refine Vd tab ?_|refine Ve fun _=>?_|(apply Vf;refine Vg ?_)|(apply Vh;refine Vi ?_)|(apply Vj;refine Vk ?_)|(apply Vl;refine Vm ?_)|(apply Vn;refine Vo ?_)|(apply Vp;refine Vq ?_)|(apply Vr;refine Vs ?_)|(apply Vt;refine Vu ?_)|(apply Vv;refine Vw ?_)|(apply Vx;refine Vy ?_)|(apply Vz;refine Ua fun _=>?_)))
      refine t_cond rfl (fun h => ?_) (fun h => ?_)
      · have hcr : crB y e = true := by simpa using h
        rw [hcr, if_pos rfl] at hsn
        (repeat' (first|refine Za ?_|refine Zb ?_|refine Zc ?_|refine Zd ?_|refine Ze ?_|refine Zf ?_|refine Zg ?_|refine Zh ?_|refine Zi ?_|refine Zj ?_|refine Zk ?_|refine Zl ?_|refine Zm ?_|refine Zn rfl ?_|refine Zo ?_|refine Zp ?_|refine Zq ?_|refine Zr ?_|refine Zs ?_|refine Zt ?_|refine Zu tab rfl rfl ?_|refine Zv rfl rfl ?_|refine Zw rfl rfl rfl rfl ?_|refine Zx rfl rfl rfl ?_|(apply Zy;refine Zz ?_)|(apply Ya;refine Yb ?_)|(apply Yc;refine Yd ?_)|(apply Ye;refine Yf ?_)|(apply Yg; first|refine Yh fun _=>?_|refine Yi (Yj rfl rfl) rfl fun _=>?_)|refine Yk rfl fun _=>?_|(apply Yl;refine Ym ?_)|(apply Yn;refine Yo ?_)|(apply Yp;refine Yq ?_)|(apply Yr;refine Ys ?_)|(apply Yt;refine Yu ?_)|(apply Yv;refine Yw fun _=>?_)|refine Yx rfl ?_|refine Yy rfl ?_|refine Yz rfl ?_|(apply Va; first|refine Vb ?_|refine Vc ?_)|refine Vd tab ?_|refine Ve fun _=>?_|(apply Vf;refine Vg ?_)|(apply Vh;refine Vi ?_)|(apply Vj;refine Vk ?_)|(apply Vl;refine Vm ?_)|(apply Vn;refine Vo ?_)|(apply Vp;refine Vq ?_)|(apply Vr;refine Vs ?_)|(apply Vt;refine Vu ?_)|(apply Vv;refine Vw ?_)|(apply Vx;refine Vy ?_)|(apply Vz;refine Ua fun _=>?_)))
        refine tl_store (o_storeRow 1 (m := 5) (vs := edCells e) rfl rfl rfl rfl rfl (by omega)) ?_
        rw [ed_put (by omega)]
        (repeat' (first|refine Za ?_|refine Zb ?_|refine Zc ?_|refine Zd ?_|refine Ze ?_|refine Zf ?_|refine Zg ?_|refine Zh ?_|refine Zi ?_|refine Zj ?_|refine Zk ?_|refine Zl ?_|refine Zm ?_|refine Zn rfl ?_|refine Zo ?_|refine Zp ?_|refine Zq ?_|refine Zr ?_|refine Zs ?_|refine Zt ?_|refine Zu tab rfl rfl ?_|refine Zv rfl rfl ?_|refine Zw rfl rfl rfl rfl ?_|refine Zx rfl rfl rfl ?_|(apply Zy;refine Zz ?_)|(apply Ya;refine Yb ?_)|(apply Yc;refine Yd ?_)|(apply Ye;refine Yf ?_)|(apply Yg; first|refine Yh fun _=>?_|refine Yi (Yj rfl rfl) rfl fun _=>?_)|refine Yk rfl fun _=>?_|(apply Yl;refine Ym ?_)|(apply Yn;refine Yo ?_)|(apply Yp;refine Yq ?_)|(apply Yr;refine Ys ?_)|(apply Yt;refine Yu ?_)|(apply Yv;refine Yw fun _=>?_)|refine Yx rfl ?_|refine Yy rfl ?_|refine Yz rfl ?_|(apply Va; first|refine Vb ?_|refine Vc ?_)|refine Vd tab ?_|refine Ve fun _=>?_|(apply Vf;refine Vg ?_)|(apply Vh;refine Vi ?_)|(apply Vj;refine Vk ?_)|(apply Vl;refine Vm ?_)|(apply Vn;refine Vo ?_)|(apply Vp;refine Vq ?_)|(apply Vr;refine Vs ?_)|(apply Vt;refine Vu ?_)|(apply Vv;refine Vw ?_)|(apply Vx;refine Vy ?_)|(apply Vz;refine Ua fun _=>?_)))
        refine xt_roundK (j + 1, cu.set (keptE y (es.take j)).length e) rfl ⟨?_, rfl, trivial⟩ ⟨by simp only; omega, by simpa using hcl, ?_, ?_, ?_⟩ (by simp only; omega) (fun _ h => h.pick [1] (by decide) rfl)
        · rw [hsn, List.length_append]; rfl
        · simp only
          rw [hsn, List.length_append]; simp; omega
        · simp only
          rw [hsn, List.length_append, List.length_singleton, List.take_add_one, List.take_set_of_le (Nat.le_refl _), htk, List.getElem?_set_self (by omega)]
          rfl
        · simp only
          rw [List.drop_set_of_lt (by omega)]
          have := congrArg (List.drop 1) hdr
          simpa [List.drop_drop] using this
      · have hcr : crB y e = false := by simpa using h
        rw [hcr, if_neg (by simp), List.append_nil] at hsn
        (repeat' (first|refine Za ?_|refine Zb ?_|refine Zc ?_|refine Zd ?_|refine Ze ?_|refine Zf ?_|refine Zg ?_|refine Zh ?_|refine Zi ?_|refine Zj ?_|refine Zk ?_|refine Zl ?_|refine Zm ?_|refine Zn rfl ?_|refine Zo ?_|refine Zp ?_|refine Zq ?_|refine Zr ?_|refine Zs ?_|refine Zt ?_|refine Zu tab rfl rfl ?_|refine Zv rfl rfl ?_|refine Zw rfl rfl rfl rfl ?_|refine Zx rfl rfl rfl ?_|(apply Zy;refine Zz ?_)|(apply Ya;refine Yb ?_)|(apply Yc;refine Yd ?_)|(apply Ye;refine Yf ?_)|(apply Yg; first|refine Yh fun _=>?_|refine Yi (Yj rfl rfl) rfl fun _=>?_)|refine Yk rfl fun _=>?_|(apply Yl;refine Ym ?_)|(apply Yn;refine Yo ?_)|(apply Yp;refine Yq ?_)|(apply Yr;refine Ys ?_)|(apply Yt;refine Yu ?_)|(apply Yv;refine Yw fun _=>?_)|refine Yx rfl ?_|refine Yy rfl ?_|refine Yz rfl ?_|(apply Va; first|refine Vb ?_|refine Vc ?_)|refine Vd tab ?_|refine Ve fun _=>?_|(apply Vf;refine Vg ?_)|(apply Vh;refine Vi ?_)|(apply Vj;refine Vk ?_)|(apply Vl;refine Vm ?_)|(apply Vn;refine Vo ?_)|(apply Vp;refine Vq ?_)|(apply Vr;refine Vs ?_)|(apply Vt;refine Vu ?_)|(apply Vv;refine Vw ?_)|(apply Vx;refine Vy ?_)|(apply Vz;refine Ua fun _=>?_)))
        refine xt_roundK (j + 1, cu) rfl ⟨?_, rfl, trivial⟩ ⟨by simp only; omega, hcl, ?_, ?_, ?_⟩ (by simp only; omega) (fun _ h => h.pick [1] (by decide) rfl)
        · rw [hsn]; rfl
        · simp only
          rw [hsn]; omega
        · simp only
          rw [hsn]; exact htk
        · simp only
          have := congrArg (List.drop 1) hdr
          simpa [List.drop_drop] using this
    · have hjn : j = es.length := by have := of_decide_eq_false h; omega
      subst hjn
      rw [List.take_of_length_le (Nat.le_refl _)] at hij htk
      rw [List.take_of_length_le (Nat.le_refl _)]
      (repeat' (first|refine Za ?_|refine Zb ?_|refine Zc ?_|refine Zd ?_|refine Ze ?_|refine Zf ?_|refine Zg ?_|refine Zh ?_|refine Zi ?_|refine Zj ?_|refine Zk ?_|refine Zl ?_|refine Zm ?_|refine Zn rfl ?_|refine Zo ?_|refine Zp ?_|refine Zq ?_|refine Zr ?_|refine Zs ?_|refine Zt ?_|refine Zu tab rfl rfl ?_|refine Zv rfl rfl ?_|refine Zw rfl rfl rfl rfl ?_|refine Zx rfl rfl rfl ?_|(apply Zy;refine Zz ?_)|(apply Ya;refine Yb ?_)|(apply Yc;refine Yd ?_)|(apply Ye;refine Yf ?_)|(apply Yg; first|refine Yh fun _=>?_|refine Yi (Yj rfl rfl) rfl fun _=>?_)|refine Yk rfl fun _=>?_|(apply Yl;refine Ym ?_)|(apply Yn;refine Yo ?_)|(apply Yp;refine Yq ?_)|(apply Yr;refine Ys ?_)|(apply Yt;refine Yu ?_)|(apply Yv;refine Yw fun _=>?_)|refine Yx rfl ?_|refine Yy rfl ?_|refine Yz rfl ?_|(apply Va; first|refine Vb ?_|refine Vc ?_)|refine Vd tab ?_|refine Ve fun _=>?_|(apply Vf;refine Vg ?_)|(apply Vh;refine Vi ?_)|(apply Vj;refine Vk ?_)|(apply Vl;refine Vm ?_)|(apply Vn;refine Vo ?_)|(apply Vp;refine Vq ?_)|(apply Vr;refine Vs ?_)|(apply Vt;refine Vu ?_)|(apply Vv;refine Vw ?_)|(apply Vx;refine Vy ?_)|(apply Vz;refine Ua fun _=>?_)))
      refine tl_val (o_sliceL (n := (keptE y es).length) rfl rfl (by omega) (by omega)) rfl rfl ?_
      rw [show 0 + (keptE y es).length * 5 = (keptE y es).length * 5 by omega]
      refine tl_unit (o_clear 0 (m := (keptE y es).length) rfl rfl rfl rfl hij |>.mono fun v w h => h.2) rfl ?_
      (repeat' (first|refine Za ?_|refine Zb ?_|refine Zc ?_|refine Zd ?_|refine Ze ?_|refine Zf ?_|refine Zg ?_|refine Zh ?_|refine Zi ?_|refine Zj ?_|refine Zk ?_|refine Zl ?_|refine Zm ?_|refine Zn rfl ?_|refine Zo ?_|refine Zp ?_|refine Zq ?_|refine Zr ?_|refine Zs ?_|refine Zt ?_|refine Zu tab rfl rfl ?_|refine Zv rfl rfl ?_|refine Zw rfl rfl rfl rfl ?_|refine Zx rfl rfl rfl ?_|(apply Zy;refine Zz ?_)|(apply Ya;refine Yb ?_)|(apply Yc;refine Yd ?_)|(apply Ye;refine Yf ?_)|(apply Yg; first|refine Yh fun _=>?_|refine Yi (Yj rfl rfl) rfl fun _=>?_)|refine Yk rfl fun _=>?_|(apply Yl;refine Ym ?_)|(apply Yn;refine Yo ?_)|(apply Yp;refine Yq ?_)|(apply Yr;refine Ys ?_)|(apply Yt;refine Yu ?_)|(apply Yv;refine Yw fun _=>?_)|refine Yx rfl ?_|refine Yy rfl ?_|refine Yz rfl ?_|(apply Va; first|refine Vb ?_|refine Vc ?_)|refine Vd tab ?_|refine Ve fun _=>?_|(apply Vf;refine Vg ?_)|(apply Vh;refine Vi ?_)|(apply Vj;refine Vk ?_)|(apply Vl;refine Vm ?_)|(apply Vn;refine Vo ?_)|(apply Vp;refine Vq ?_)|(apply Vr;refine Vs ?_)|(apply Vt;refine Vu ?_)|(apply Vv;refine Vw ?_)|(apply Vx;refine Vy ?_)|(apply Vz;refine Ua fun _=>?_)))
      refine tl_val (o_sliceH (n := (keptE y es).length) rfl rfl (by omega)) rfl rfl ?_
      (repeat' (first|refine Za ?_|refine Zb ?_|refine Zc ?_|refine Zd ?_|refine Ze ?_|refine Zf ?_|refine Zg ?_|refine Zh ?_|refine Zi ?_|refine Zj ?_|refine Zk ?_|refine Zl ?_|refine Zm ?_|refine Zn rfl ?_|refine Zo ?_|refine Zp ?_|refine Zq ?_|refine Zr ?_|refine Zs ?_|refine Zt ?_|refine Zu tab rfl rfl ?_|refine Zv rfl rfl ?_|refine Zw rfl rfl rfl rfl ?_|refine Zx rfl rfl rfl ?_|(apply Zy;refine Zz ?_)|(apply Ya;refine Yb ?_)|(apply Yc;refine Yd ?_)|(apply Ye;refine Yf ?_)|(apply Yg; first|refine Yh fun _=>?_|refine Yi (Yj rfl rfl) rfl fun _=>?_)|refine Yk rfl fun _=>?_|(apply Yl;refine Ym ?_)|(apply Yn;refine Yo ?_)|(apply Yp;refine Yq ?_)|(apply Yr;refine Ys ?_)|(apply Yt;refine Yu ?_)|(apply Yv;refine Yw fun _=>?_)|refine Yx rfl ?_|refine Yy rfl ?_|refine Yz rfl ?_|(apply Va; first|refine Vb ?_|refine Vc ?_)|refine Vd tab ?_|refine Ve fun _=>?_|(apply Vf;refine Vg ?_)|(apply Vh;refine Vi ?_)|(apply Vj;refine Vk ?_)|(apply Vl;refine Vm ?_)|(apply Vn;refine Vo ?_)|(apply Vp;refine Vq ?_)|(apply Vr;refine Vs ?_)|(apply Vt;refine Vu ?_)|(apply Vv;refine Vw ?_)|(apply Vx;refine Vy ?_)|(apply Vz;refine Ua fun _=>?_)))
      refine xt_ret1 rfl rfl fun w' hw' => ?_
      have e1 : (cu.flatMap edCells).take ((keptE y es).length * 5) = (keptE y es).flatMap edCells := by
        have : cu = keptE y es ++ cu.drop (keptE y es).length := by conv => lhs; rw [← List.take_append_drop (keptE y es).length cu, htk]
        rw [this, List.flatMap_append, List.take_append_of_le_length (by rw [ed_len]; exact Nat.le_refl _), List.take_of_length_le (by rw [ed_len]; exact Nat.le_refl _)]
      rw [e1] at hw'
      exact St.wroteV hw'
theorem indexFunc_nil (w : World) (c : Value) : Calls Try.prog 80 #[.slice none 0 0, c] w (Ret w fun v _ => v = .int .i64 (-1)) := by
  refine calls_S (vs := [.slice none 0 0, c]) Try.func80 rfl Try.ntmps80 rfl ?_
  (repeat' (first|refine Za ?_|refine Zb ?_|refine Zc ?_|refine Zd ?_|refine Ze ?_|refine Zf ?_|refine Zg ?_|refine Zh ?_|refine Zi ?_|refine Zj ?_|refine Zk ?_|refine Zl ?_|refine Zm ?_|refine Zn rfl ?_|refine Zo ?_|refine Zp ?_|refine Zq ?_|refine Zr ?_|refine Zs ?_|refine Zt ?_|refine Zu tab rfl rfl ?_|refine Zv rfl rfl ?_|refine Zw rfl rfl rfl rfl ?_|refine Zx rfl rfl rfl ?_|(apply Zy;refine Zz ?_)|(apply Ya;refine Yb ?_)|(apply Yc;refine Yd ?_)|(apply Ye;refine Yf ?_)|(apply Yg; first|refine Yh fun _=>?_|refine Yi (Yj rfl rfl) rfl fun _=>?_)|refine Yk rfl fun _=>?_|(apply Yl;refine Ym ?_)|(apply Yn;refine Yo ?_)|(apply Yp;refine Yq ?_)|(apply Yr;refine Ys ?_)|(apply Yt;refine Yu ?_)|(apply Yv;refine Yw fun _=>?_)|refine Yx rfl ?_|refine Yy rfl ?_|refine Yz rfl ?_|(apply Va; first|refine Vb ?_|refine Vc ?_)|refine Vd tab ?_|refine Ve fun _=>?_|(apply Vf;refine Vg ?_)|(apply Vh;refine Vi ?_)|(apply Vj;refine Vk ?_)|(apply Vl;refine Vm ?_)|(apply Vn;refine Vo ?_)|(apply Vp;refine Vq ?_)|(apply Vr;refine Vs ?_)|(apply Vt;refine Vu ?_)|(apply Vv;refine Vw ?_)|(apply Vx;refine Vy ?_)|(apply Vz;refine Ua fun _=>?_)))
  refine t_loopK [0, 1, 7] (α := Unit) (fun _ => [(8, .int .i64 0)]) (fun _ => True) (fun _ => []) (fun _ => 0) () rfl ⟨rfl, trivial⟩ trivial (fun _ h => h) ?_
  intro _ _
  try dsimp only [List.cons_append, List.nil_append, List.map_cons, List.map_nil]
  (repeat' (first|refine Za ?_|refine Zb ?_|refine Zc ?_|refine Zd ?_|refine Ze ?_|refine Zf ?_|refine Zg ?_|refine Zh ?_|refine Zi ?_|refine Zj ?_|refine Zk ?_|refine Zl ?_|refine Zm ?_|refine Zn rfl ?_|refine Zo ?_|refine Zp ?_|refine Zq ?_|refine Zr ?_|refine Zs ?_|refine Zt ?_|refine Zu tab rfl rfl ?_|refine Zv rfl rfl ?_|refine Zw rfl rfl rfl rfl ?_|refine Zx rfl rfl rfl ?_|(apply Zy;refine Zz ?_)|(apply Ya;refine Yb ?_)|(apply Yc;refine Yd ?_)|(apply Ye;refine Yf ?_)|(apply Yg; first|refine Yh fun _=>?_|refine Yi (Yj rfl rfl) rfl fun _=>?_)|refine Yk rfl fun _=>?_|(apply Yl;refine Ym ?_)|(apply Yn;refine Yo ?_)|(apply Yp;refine Yq ?_)|(apply Yr;refine Ys ?_)|(apply Yt;refine Yu ?_)|(apply Yv;refine Yw fun _=>?_)|refine Yx rfl ?_|refine Yy rfl ?_|refine Yz rfl ?_|(apply Va; first|refine Vb ?_|refine Vc ?_)|refine Vd tab ?_|refine Ve fun _=>?_|(apply Vf;refine Vg ?_)|(apply Vh;refine Vi ?_)|(apply Vj;refine Vk ?_)|(apply Vl;refine Vm ?_)|(apply Vn;refine Vo ?_)|(apply Vp;refine Vq ?_)|(apply Vr;refine Vs ?_)|(apply Vt;refine Vu ?_)|(apply Vv;refine Vw ?_)|(apply Vx;refine Vy ?_)|(apply Vz;refine Ua fun _=>?_)))
  exact xt_ret1S rfl rfl fun _ _ => rfl
theorem deleteFunc_nil (w : World) (c : Value) : Calls Try.prog 61 #[.slice none 0 0, c] w (Ret w fun v _ => v = .slice none 0 0) := by
  refine calls_S (vs := [.slice none 0 0, c]) Try.func61 rfl Try.ntmps61 rfl ?_
  (repeat' (first|refine Za ?_|refine Zb ?_|refine Zc ?_|refine Zd ?_|refine Ze ?_|refine Zf ?_|refine Zg ?_|refine Zh ?_|refine Zi ?_|refine Zj ?_|refine Zk ?_|refine Zl ?_|refine Zm ?_|refine Zn rfl ?_|refine Zo ?_|refine Zp ?_|refine Zq ?_|refine Zr ?_|refine Zs ?_|refine Zt ?_|refine Zu tab rfl rfl ?_|refine Zv rfl rfl ?_|refine Zw rfl rfl rfl rfl ?_|refine Zx rfl rfl rfl ?_|(apply Zy;refine Zz ?_)|(apply Ya;refine Yb ?_)|(apply Yc;refine Yd ?_)|(apply Ye;refine Yf ?_)|(apply Yg; first|refine Yh fun _=>?_|refine Yi (Yj rfl rfl) rfl fun _=>?_)|refine Yk rfl fun _=>?_|(apply Yl;refine Ym ?_)|(apply Yn;refine Yo ?_)|(apply Yp;refine Yq ?_)|(apply Yr;refine Ys ?_)|(apply Yt;refine Yu ?_)|(apply Yv;refine Yw fun _=>?_)|refine Yx rfl ?_|refine Yy rfl ?_|refine Yz rfl ?_|(apply Va; first|refine Vb ?_|refine Vc ?_)|refine Vd tab ?_|refine Ve fun _=>?_|(apply Vf;refine Vg ?_)|(apply Vh;refine Vi ?_)|(apply Vj;refine Vk ?_)|(apply Vl;refine Vm ?_)|(apply Vn;refine Vo ?_)|(apply Vp;refine Vq ?_)|(apply Vr;refine Vs ?_)|(apply Vt;refine Vu ?_)|(apply Vv;refine Vw ?_)|(apply Vx;refine Vy ?_)|(apply Vz;refine Ua fun _=>?_)))
  refine tl_callV (u := .int .i64 (-1)) (fun w1 _ => indexFunc_nil w1 c) rfl rfl ?_
  (repeat' (first|refine Za ?_|refine Zb ?_|refine Zc ?_|refine Zd ?_|refine Ze ?_|refine Zf ?_|refine Zg ?_|refine Zh ?_|refine Zi ?_|refine Zj ?_|refine Zk ?_|refine Zl ?_|refine Zm ?_|refine Zn rfl ?_|refine Zo ?_|refine Zp ?_|refine Zq ?_|refine Zr ?_|refine Zs ?_|refine Zt ?_|refine Zu tab rfl rfl ?_|refine Zv rfl rfl ?_|refine Zw rfl rfl rfl rfl ?_|refine Zx rfl rfl rfl ?_|(apply Zy;refine Zz ?_)|(apply Ya;refine Yb ?_)|(apply Yc;refine Yd ?_)|(apply Ye;refine Yf ?_)|(apply Yg; first|refine Yh fun _=>?_|refine Yi (Yj rfl rfl) rfl fun _=>?_)|refine Yk rfl fun _=>?_|(apply Yl;refine Ym ?_)|(apply Yn;refine Yo ?_)|(apply Yp;refine Yq ?_)|(apply Yr;refine Ys ?_)|(apply Yt;refine Yu ?_)|(apply Yv;refine Yw fun _=>?_)|refine Yx rfl ?_|refine Yy rfl ?_|refine Yz rfl ?_|(apply Va; first|refine Vb ?_|refine Vc ?_)|refine Vd tab ?_|refine Ve fun _=>?_|(apply Vf;refine Vg ?_)|(apply Vh;refine Vi ?_)|(apply Vj;refine Vk ?_)|(apply Vl;refine Vm ?_)|(apply Vn;refine Vo ?_)|(apply Vp;refine Vq ?_)|(apply Vr;refine Vs ?_)|(apply Vt;refine Vu ?_)|(apply Vv;refine Vw ?_)|(apply Vx;refine Vy ?_)|(apply Vz;refine Ua fun _=>?_)))
  exact xt_ret1S rfl rfl fun _ _ => rfl

end Go.Proofs.Ytbgolbkolcmldaa
