/-
  Outlines: a contour's ring.
-/
import Derived.Test.YtbgolbkolcmldaaW43
import Derived.ArgAppend
namespace Go.Proofs.Ytbgolbkolcmldaa
open Go.RowKit
section
variable {P : Program} {I : World → Prop} {fr : Fr} {w0 : World} {X : List Nat} {L : HL} {d : Option Tmp} {ty t t' : TypeId} {pos : String} {af : Array Edge} {g : Option (Nat × Bool)} {x y z q : Operand}
/-- a cut at both ends, without room for more -/
theorem o_sliceLHM {e sz by_ : Nat} {b off len cap m n : Nat} {k k' k'' : IntKind} [hc : CSl P t e sz by_] (hx : fev fr x = some (.slice (some ⟨b, off, none⟩) len cap)) (hy : fev fr y = some (.int k (m : Int))) (hz : fev fr z = some (.int k' (n : Int))) (hq : fev fr q = some (.int k'' (n : Int))) (h : m < n) (h' : n ≤ cap) : Pv P ⟨d, .slice t x (some y) (some z) (some q), ty, pos, af, g⟩ fr I (.slice (some ⟨b, off + m * sz, none⟩) (n - m) (n - m)) :=
  pv_of fun ρ w hρ _ => by
    have h3 : (m : Int) ≤ n := by omega
    have h4 : (n : Int) ≤ cap := by omega
    have h5 : ¬ n = m := by omega
    simp [execOp, hρ _ _ hx, hρ _ _ hy, hρ _ _ hz, hρ _ _ hq, Instr.sliceAt, Instr.slice, Instr.sliceBounds, Instr.sliceBound, asIntOf, run_underlying hc.under, run_sizeOf (t := t), h3, h4, h5, add_mk]
    rw [if_pos h', if_pos (by omega)]
/-- what is known of all worlds that may be -/
theorem t_get {r : Option Nat} {Q : Exit → Act → World → Prop} {nt : Nat} {D : List Deferred} {cd : Code} {φ : Prop} (hI : ∀ w, I w → φ) (h : φ → T P r cd Q nt D fr I) : T P r cd Q nt D fr I := fun a w ha hw => h (hI w hw) a w ha hw
theorem tl_get {r : Option Nat} {Q : Exit → Act → World → Prop} {nt : Nat} {D : List Deferred} {ops : Array Oper} {rest : List Oper} {φ : Prop} (hI : ∀ w, I w → φ) (h : φ → TL P r ops Q nt D rest fr I) : TL P r ops Q nt D rest fr I := fun a w ha hw => h (hI w hw) a w ha hw
theorem St.rowLe {b e sz n cap : Nat} {xs : List Value} {w : World} (h : St w0 X L w) (hm : (b, row e sz n cap xs) ∈ L) : n ≤ cap ∧ cap ≤ 9223372036854775807 := by
  obtain ⟨o, _, cur, _, _, _, _, h1, h2⟩ := h.here _ hm
  unfold maxLen at h2
  exact ⟨h1, by omega⟩
/-- a part of a box -/
theorem o_loadBP (i : Nat) {b k n : Nat} {cs vs : List Value} {e : TypeId} [CAg P t n] (hx : fev fr x = some (.pointer (some ⟨b, k, none⟩))) (hL : L[i]? = some (b, bx cs e)) (hp : (cs.drop k).take n = vs) (hl : vs.length = n) : Pv P ⟨d, .load t x, ty, pos, af, g⟩ fr (St w0 X L) (.agg vs.toArray) :=
  o_loadA hx hl fun w hw j v hj => by
    rw [hw.cell (List.mem_of_getElem? hL)]
    rw [← hp, List.getElem?_take] at hj
    split at hj
    · rwa [List.getElem?_drop] at hj
    · cases hj
/-- what comes of an append onto a slice without room -/
def AppF (b off e sz n m : Nat) (xs : List Value) (v : Value) (Lv : HL) : Prop := (m = 0 ∧ v = .slice (some ⟨b, off, none⟩) n n ∧ Lv = []) ∨ ∃ b' cap, v = .slice (some ⟨b', 0, none⟩) (n + m) cap ∧ Lv = [(b', row e sz (n + m) cap xs)]
theorem o_appF {e sz by_ n m c1 b off : Nat} {A : Option Addr} {xs news : List Value} [hc : CSl P t e sz by_] (hx : fev fr x = some (.slice (some ⟨b, off, none⟩) n n)) (hy : fev fr y = some (.slice A m c1)) (hl0 : xs.length = n * sz) (ho : ∀ w, St w0 X L w → ∀ j u, xs[j]? = some u → w.cell? ⟨b, off + j, none⟩ = some u) (hn : 0 < m → ∃ a, A = some a ∧ ∀ w, St w0 X L w → ∀ j u, news[j]? = some u → w.cell? (a.add j) = some u) (hsz : Nat.blt 0 sz = true) (hl : news.length = m * sz) (h63 : n + m ≤ 9223372036854775807) (hby : (n + m) * by_ ≤ 140737488355328) :
    O P ⟨d, .call ⟨.builtin .append, #[x, y], #[t, t]⟩, ty, pos, af, g⟩ fr (St w0 X L) (fun v' w => ∃ Lv', AppF b off e sz n m (xs ++ news) v' Lv' ∧ St w0 X (Lv' ++ L) w) := by
  have hsz' : 0 < sz := by simpa [Nat.blt_eq] using hsz
  refine o_of fun ρ w hρ hw => ?_
  by_cases hm : m = 0
  · subst hm
    refine ⟨_, w, ?_, [], .inl ⟨rfl, rfl, rfl⟩, hw⟩
    simp [execOp, resolve, hρ _ _ hx, hρ _ _ hy, invoke, builtin, run_append_none (P := P) (t := t) (ty := ty) (Nat.le_refl n)]
  · obtain ⟨a, rfl, hcell⟩ := hn (by omega)
    obtain ⟨i, zv, hi, hs1, hs2, hz, hzs⟩ := hc.info
    obtain ⟨v', w', hr, hown, hgr⟩ := run_append_arg_grows (P := P) w t ty e i zv sz by_ hc.under hi hz hs1 hs2 hzs hsz' ⟨b, off, none⟩ n n xs hl0 (fun j u hj => by rw [add_mk]; exact ho w hw j u hj) a m c1 news hl (hcell w hw) (by omega) (by unfold maxLen; omega) hby
    obtain ⟨hlen, hv⟩ := hown
    rcases hv with ⟨_, h0⟩ | ⟨b', cap, cur, rfl, hb', hb, hnc, hcm, hcs, htk⟩
    · omega
    have he : Ext w w' := ⟨hgr.os, hgr.tape, hgr.output, hgr.size, fun k hk => hgr.block k hk (by simp)⟩
    refine ⟨_, w', ?_, [(b', row e sz (n + m) cap (xs ++ news))], .inr ⟨b', cap, rfl, rfl⟩, hw.addNew he hb' hb ⟨cur, rfl, hcs, htk, hlen, hnc, hcm⟩⟩
    simp [execOp, resolve, hρ _ _ hx, hρ _ _ hy, invoke, builtin, hr]
theorem tl_appF {r : Option Nat} {Q : Exit → Act → World → Prop} {nt dn : Nat} {D : List Deferred} {ops : Array Oper} {rest : List Oper} {e sz by_ n m c1 b off : Nat} {A : Option Addr} {xs news : List Value} [hc : CSl P t e sz by_] (hx : fev fr x = some (.slice (some ⟨b, off, none⟩) n n)) (hy : fev fr y = some (.slice A m c1)) (hl0 : xs.length = n * sz) (ho : ∀ w, St w0 X L w → ∀ j u, xs[j]? = some u → w.cell? ⟨b, off + j, none⟩ = some u) (hn : 0 < m → ∃ a, A = some a ∧ ∀ w, St w0 X L w → ∀ j u, news[j]? = some u → w.cell? (a.add j) = some u) (hsz : Nat.blt 0 sz = true) (hl : news.length = m * sz) (h63 : n + m ≤ 9223372036854775807) (hby : (n + m) * by_ ≤ 140737488355328) (hd : Nat.ble nt dn = false)
    (h : ∀ v Lv, AppF b off e sz n m (xs ++ news) v Lv → TL P r ops Q nt D rest ((dn, v) :: fr) (St w0 X (Lv ++ L))) : TL P r ops Q nt D (⟨some dn, .call ⟨.builtin .append, #[x, y], #[t, t]⟩, ty, pos, af, none⟩ :: rest) fr (St w0 X L) :=
  tl_op hd rfl (o_appF hx hy hl0 ho hn hsz hl h63 hby) fun v' a w' ha hw => by
    obtain ⟨Lv', h1, h2⟩ := hw
    exact h v' Lv' h1 a w' ha h2
end

/-! ### a contour's ring -/
abbrev Spt := (Int × Int) × Bool
def spC (s : Spt) : List Value := [.int .i64 s.1.1, .int .i64 s.1.2, .bool s.2]
def ringAt (c : List Spt) (k : Nat) : List Spt := match c[k]?, c[(k + 1) % c.length]? with
  | some s, some t => s :: (if s.2 = false ∧ t.2 = false then [(midP s.1 t.1, true)] else [])
  | _, _ => []
def ringTo (c : List Spt) (k : Nat) : List Spt := (List.range k).flatMap (ringAt c)
theorem ringTo_succ (c : List Spt) (k : Nat) : ringTo c (k + 1) = ringTo c k ++ ringAt c k := by simp [ringTo, List.range_succ]
def firstTo (c : List Spt) : Nat → Int
  | 0 => -1
  | k + 1 => if (c[k]?.map (·.2)) = some true ∧ firstTo c k < 0 then (ringTo c k).length else firstTo c k
def ringF (c : List Spt) : Nat := if firstTo c c.length < 0 then (ringTo c c.length).length - 1 else (firstTo c c.length).toNat
def ringOf (c : List Spt) : List Spt := (ringTo c c.length).drop (ringF c) ++ (ringTo c c.length).take (ringF c)
def InC (c : List Spt) : Prop := ∀ s ∈ c, InP s.1
theorem ringTo_len (c : List Spt) : ∀ k, k ≤ c.length → k ≤ (ringTo c k).length ∧ (ringTo c k).length ≤ 2 * k
  | 0, _ => by simp [ringTo]
  | k + 1, h => by
    have ih := ringTo_len c k (by omega)
    have hk : c[k]? = some c[k] := List.getElem?_eq_getElem (by omega)
    have hm : (k + 1) % c.length < c.length := Nat.mod_lt _ (by omega)
    have hk2 : c[(k + 1) % c.length]? = some c[(k + 1) % c.length] := List.getElem?_eq_getElem hm
    have : 1 ≤ (ringAt c k).length ∧ (ringAt c k).length ≤ 2 := by
      simp only [ringAt, hk, hk2]
      split <;> simp
    rw [ringTo_succ, List.length_append]
    omega
theorem firstTo_bd (c : List Spt) : ∀ k, k ≤ c.length → -1 ≤ firstTo c k ∧ firstTo c k < (ringTo c k).length
  | 0, _ => by simp [firstTo, ringTo]
  | k + 1, h => by
    have ih := firstTo_bd c k (by omega)
    have hk : c[k]? = some c[k] := List.getElem?_eq_getElem (by omega)
    have hm : (k + 1) % c.length < c.length := Nat.mod_lt _ (by omega)
    have hk2 : c[(k + 1) % c.length]? = some c[(k + 1) % c.length] := List.getElem?_eq_getElem hm
    have h1 : 1 ≤ (ringAt c k).length := by simp [ringAt, hk, hk2]
    rw [ringTo_succ, List.length_append]
    unfold firstTo
    split <;> omega
theorem ringF_lt {c : List Spt} (h : 0 < c.length) : ringF c < (ringTo c c.length).length := by
  have h1 := firstTo_bd c c.length (Nat.le_refl _)
  have h2 := ringTo_len c c.length (Nat.le_refl _)
  unfold ringF
  split <;> omega
theorem ringTo_in {c : List Spt} (h : InC c) (k : Nat) : InC (ringTo c k) := by
  intro s hs
  obtain ⟨j, _, hs⟩ := List.mem_flatMap.1 hs
  unfold ringAt at hs
  split at hs
  · rename_i a b ha hb
    have h1 := h a (List.mem_of_getElem? ha)
    have h2 := h b (List.mem_of_getElem? hb)
    rcases List.mem_cons.1 hs with rfl | hs
    · exact h1
    · split at hs
      · simp only [List.mem_singleton] at hs
        subst hs
        exact mid_in h1 h2
      · cases hs
  · cases hs
theorem ringOf_in {c : List Spt} (h : InC c) : InC (ringOf c) := by
  intro s hs
  rcases List.mem_append.1 hs with hs | hs
  · exact ringTo_in h _ s (List.mem_of_mem_drop hs)
  · exact ringTo_in h _ s (List.mem_of_mem_take hs)
theorem ringOf_len (c : List Spt) : (ringOf c).length = (ringTo c c.length).length := by
  unfold ringOf
  rw [List.length_append, List.length_drop, List.length_take]
  omega
theorem sp_cl {w : World} {cs : List Spt} {A : Option Addr} {n cap k : Nat} {c : Spt} (h : Rd w 3 (.slice A n cap) (cs.flatMap spC)) (hs : cs[k]? = some c) : ∃ b off, A = some ⟨b, off, none⟩ ∧ ClA w b (off + k * 3) [.int .i64 c.1.1, .int .i64 c.1.2, .bool c.2] := by
  obtain ⟨A', n', cap', he, hl, _, _, hr⟩ := h
  cases he
  rw [flatMap_len spC 3 (fun _ => rfl)] at hl
  have hk : k < cs.length := (List.getElem?_eq_some_iff.1 hs).1
  obtain ⟨b, off, rfl, hb, hc⟩ := hr (by omega)
  refine ⟨b, off, rfl, hb, fun j v hj => ?_⟩
  have := hc _ _ (flatMap_get spC 3 (fun _ => rfl) cs k j c v hs hj)
  rwa [← Nat.add_assoc] at this
theorem sp_len {w : World} {cs : List Spt} {A : Option Addr} {n cap : Nat} (h : Rd w 3 (.slice A n cap) (cs.flatMap spC)) : n = cs.length ∧ n ≤ 9223372036854775807 := by
  obtain ⟨A', n', cap', he, hl, h1, h2, _⟩ := h
  cases he
  rw [flatMap_len spC 3 (fun _ => rfl)] at hl
  unfold maxLen at h2
  omega
theorem spC_drop (l : List Spt) (k : Nat) : (l.drop k).flatMap spC = (l.flatMap spC).drop (k * 3) := by
  have h1 : l.flatMap spC = (l.take k).flatMap spC ++ (l.drop k).flatMap spC := by rw [← List.flatMap_append, List.take_append_drop]
  rcases Nat.le_total k l.length with h | h
  · have h2 : ((l.take k).flatMap spC).length = k * 3 := by rw [flatMap_len spC 3 (fun _ => rfl), List.length_take, Nat.min_eq_left h]
    rw [h1, ← h2, List.drop_left]
  · rw [List.drop_eq_nil_of_le h, List.drop_eq_nil_of_le (by rw [flatMap_len spC 3 (fun _ => rfl)]; omega)]; rfl
theorem spC_take (l : List Spt) (k : Nat) : (l.take k).flatMap spC = (l.flatMap spC).take (k * 3) := by
  have h1 : l.flatMap spC = (l.take k).flatMap spC ++ (l.drop k).flatMap spC := by rw [← List.flatMap_append, List.take_append_drop]
  rcases Nat.le_total k l.length with h | h
  · have h2 : ((l.take k).flatMap spC).length = k * 3 := by rw [flatMap_len spC 3 (fun _ => rfl), List.length_take, Nat.min_eq_left h]
    rw [h1, ← h2, List.take_left]
  · rw [List.take_of_length_le h, List.take_of_length_le (by rw [flatMap_len spC 3 (fun _ => rfl)]; omega)]
end Go.Proofs.Ytbgolbkolcmldaa
namespace Go.Proofs.Ytbgolbkolcmldaa
open Go.RowKit
attribute [local irreducible] T TL Xt O Op1 Kt DV ObsB DE DW DW1 LoopQ LoopJ

set_option maxHeartbeats 1000000 in
theorem ring_calls (w : World) (A : Option Addr) (n cap : Nat) (c : List Spt) (hR : Rd w 3 (.slice A n cap) (c.flatMap spC)) (hc : InC c) (h0 : 0 < c.length) (h1 : c.length ≤ 1000) : Calls Try.prog 77 #[.slice A n cap] w (Ret w fun v w' => RdI w.heap.size w'.heap.size w' 3 v ((ringOf c).flatMap spC)) := by
  obtain ⟨hn, hn'⟩ := sp_len hR
  subst hn
  refine calls_S (vs := [.slice A c.length cap]) Try.func77 rfl Try.ntmps77 rfl ?_
  (repeat' (first|refine Za ?_|refine Zb ?_|refine Zc ?_|refine Zd ?_|refine Ze ?_|refine Zu tab rfl rfl ?_|fail))
  refine t_loopK [0, 8, 9] (α := Nat × Value × HL) (fun x => [(3, x.2.1), (4, .int .i64 (firstTo c x.1)), (10, .int .i64 x.1)]) (fun x => x.1 ≤ c.length ∧ OwnsV x.2.1 123 3 (ringTo c x.1).length ((ringTo c x.1).flatMap spC) x.2.2) (fun x => x.2.2) (fun x => c.length - x.1) (0, .slice none 0 0, []) rfl ⟨rfl, rfl, rfl, trivial⟩ ⟨Nat.zero_le _, OwnsV.nil⟩ (fun w h => h) ?_
  rintro ⟨i, v, Lv⟩ ⟨hi, hv⟩
  dsimp only at hi hv ⊢
  obtain ⟨hrl1, hrl2⟩ := ringTo_len c i hi
  obtain ⟨hf1, hf2⟩ := firstTo_bd c i hi
  obtain ⟨Av, cv, rfl⟩ := hv.shape
  try dsimp only [List.cons_append, List.nil_append, List.map_cons, List.map_nil]
  (repeat' (first|refine Za ?_|refine Zb ?_|refine Zc ?_|refine Zd ?_|refine Zu tab rfl rfl ?_|fail))
  refine t_cond rfl (fun h => ?_) (fun h => ?_)
  · have hil : i < c.length := by have := of_decide_eq_true h; omega
    obtain ⟨s, hs⟩ : ∃ s, c[i]? = some s := ⟨_, List.getElem?_eq_getElem hil⟩
    have hmod : (i + 1) % c.length < c.length := Nat.mod_lt _ (by omega)
    obtain ⟨t, ht⟩ : ∃ t, c[(i + 1) % c.length]? = some t := ⟨_, List.getElem?_eq_getElem hmod⟩
    obtain ⟨b, off, rfl, hcs⟩ := sp_cl hR hs
    obtain ⟨b', off', he, hct⟩ := sp_cl hR ht
    cases he
    have hsin := hc s (List.mem_of_getElem? hs)
    have htin := hc t (List.mem_of_getElem? ht)
    have hrem : ((i : Int) + 1).tmod (c.length : Int) = (((i + 1) % c.length : Nat) : Int) := by
      rw [Int.tmod_eq_emod_of_nonneg (by omega)]; simp
    have hfs : firstTo c (i + 1) = if s.2 = true ∧ firstTo c i < 0 then ((ringTo c i).length : Int) else firstTo c i := by
      show (if (c[i]?.map (·.2)) = some true ∧ firstTo c i < 0 then ((ringTo c i).length : Int) else firstTo c i) = _
      rw [hs]
      simp
    have hra : ringAt c i = s :: (if s.2 = false ∧ t.2 = false then [(midP s.1 t.1, true)] else []) := by simp only [ringAt, hs, ht]
    have hsucc := ringTo_succ c i
    generalize firstTo c i = F0 at *
    (repeat' (first|refine Za ?_|refine Zb ?_|refine Zc ?_|refine Zd ?_|refine Ze ?_|refine Zf ?_|refine Zu tab rfl rfl ?_|(apply Zy;refine Zz ?_)|(apply Ye;refine Yf ?_)|refine Yk rfl fun _=>?_|(apply Yn;refine Yo ?_)|fail))
    rename_i b6
    refine tl_if [0, 3, 4, 5, 6, 8, 9, 10] (s.2 = true ∧ F0 < 0) rfl (fun Q' K => ?_) (fun hC => ?_) (fun hC => ?_)
    · (repeat' (first|refine Zd ?_|refine Zu tab rfl rfl ?_|refine Zv rfl rfl ?_|refine Zw rfl rfl rfl rfl ?_|(apply Ya;refine Yb ?_)|refine tl_guard rfl rfl rfl (fun _ => ?_) (fun _ => ?_)|fail))
      all_goals exact K _ _ rfl rfl (by simp_all <;> omega)
    rw [if_pos hC] at hfs
    rotate_left
    rw [if_neg hC] at hfs
    all_goals
      (repeat' (first|refine Za ?_|refine Zb ?_|refine Zc ?_|refine Zd ?_|refine Zf ?_|refine Zu tab rfl rfl ?_|(apply Zy;refine Zz ?_)|(apply Yv;refine Yw fun _=>?_)|fail))
      rename_i b25
      refine tl_app [(b6, bx [.int .i64 s.1.1, .int .i64 s.1.2, .bool s.2] 123)] rfl rfl hv rfl rfl rfl rfl rfl rfl (by omega) (by omega) fun b26 cap26 => ?_
      (repeat' (first|refine Za ?_|refine Zb ?_|refine Zc ?_|refine Zd ?_|refine Zu tab rfl rfl ?_|(apply Yc;refine Yd ?_)|fail))
      refine tl_bin (o_rem rfl rfl (by omega)) rfl ?_
      rw [hrem]
      (repeat' (first|refine Za ?_|refine Zb ?_|refine Zc ?_|refine Zd ?_|refine Zu tab rfl rfl ?_|(apply Zy;refine Zz ?_)|(apply Ye;refine Yf ?_)|refine Yk rfl fun _=>?_|(apply Yn;refine Yo ?_)|fail))
      rename_i b7
      refine tl_if [0, 3, 4, 6, 7, 8, 9, 10] (s.2 = false ∧ t.2 = false) rfl (fun Q' K => ?_) (fun hD => ?_) (fun hD => ?_)
      · (repeat' (first|refine Zd ?_|refine Zu tab rfl rfl ?_|refine Zv rfl rfl ?_|refine Zw rfl rfl rfl rfl ?_|(apply Zy;refine Zz ?_)|(apply Ya;refine Yb ?_)|refine tl_guard rfl rfl rfl (fun _ => ?_) (fun _ => ?_)|fail))
        all_goals exact K _ _ rfl rfl (by simp_all <;> omega)
      · rw [if_pos hD] at hra
        have hi : CDet Try.prog 90 [pt s.1.1 s.1.2, pt t.1.1 t.1.2] _ := ⟨between_det s.1 t.1 hsin htin⟩
        (repeat' (first|refine Zb ?_|refine Zu tab rfl rfl ?_|fail))
        refine tl_load (o_loadBP 1 (vs := [.int .i64 s.1.1, .int .i64 s.1.2]) rfl rfl rfl rfl) rfl ?_
        (repeat' (first|refine Zu tab rfl rfl ?_|fail))
        refine tl_load (o_loadBP 0 (vs := [.int .i64 t.1.1, .int .i64 t.1.2]) rfl rfl rfl rfl) rfl ?_
        (repeat' (first|(apply Yl;refine Ym ?_)|(apply Yt;refine Yu ?_)|(apply Yv;refine Yw fun _=>?_)|fail))
        rename_i b50
        have hv2 : OwnsV (.slice (some ⟨b26, 0, none⟩) ((ringTo c i).length + 1) cap26) 123 3 ((ringTo c i).length + 1) ((ringTo c i).flatMap spC ++ [Value.int .i64 s.1.1, .int .i64 s.1.2, .bool s.2]) [(b26, row 123 3 ((ringTo c i).length + 1) cap26 ((ringTo c i).flatMap spC ++ [Value.int .i64 s.1.1, .int .i64 s.1.2, .bool s.2]))] := OwnsV.at_
        refine tl_app [(b7, bx [.int .i64 t.1.1, .int .i64 t.1.2, .bool t.2] 123), (b6, bx [.int .i64 s.1.1, .int .i64 s.1.2, .bool s.2] 123)] rfl rfl hv2 rfl rfl rfl rfl rfl rfl (by omega) (by omega) fun b51 cap51 => ?_
        (repeat' (first|refine Zb ?_|refine Zc ?_|refine Zd ?_|refine Zi ?_|refine Zu tab rfl rfl ?_|(apply Yc;refine Yd ?_)|fail))
        refine xt_roundK (i + 1, .slice (some ⟨b51, 0, none⟩) ((ringTo c i).length + 1 + 1) cap51, [(b51, row 123 3 ((ringTo c i).length + 1 + 1) cap51 ((ringTo c i).flatMap spC ++ [Value.int .i64 s.1.1, .int .i64 s.1.2, .bool s.2] ++ [Value.int .i64 (midP s.1 t.1).1, .int .i64 (midP s.1 t.1).2, .bool true]))]) rfl ⟨rfl, by dsimp only; rw [hfs]; rfl, rfl, trivial⟩ ⟨by dsimp only; omega, ?_⟩ (by dsimp only; omega) (fun _ h => h.sublist (.cons _ (.cons _ (List.Sublist.refl _))))
        dsimp only
        have e3 : (ringTo c (i + 1)).length = (ringTo c i).length + 1 + 1 := by rw [hsucc, hra]; simp
        have e4 : (ringTo c (i + 1)).flatMap spC = (ringTo c i).flatMap spC ++ [Value.int .i64 s.1.1, .int .i64 s.1.2, .bool s.2] ++ [Value.int .i64 (midP s.1 t.1).1, .int .i64 (midP s.1 t.1).2, .bool true] := by rw [hsucc, hra]; simp [spC]
        rw [e3, e4]
        exact OwnsV.at_
      · rw [if_neg hD] at hra
        (repeat' (first|refine Zb ?_|refine Zc ?_|refine Zd ?_|refine Zf ?_|refine Zi ?_|refine Zu tab rfl rfl ?_|(apply Yc;refine Yd ?_)|fail))
        refine xt_roundK (i + 1, .slice (some ⟨b26, 0, none⟩) ((ringTo c i).length + 1) cap26, [(b26, row 123 3 ((ringTo c i).length + 1) cap26 ((ringTo c i).flatMap spC ++ [Value.int .i64 s.1.1, .int .i64 s.1.2, .bool s.2]))]) rfl ⟨rfl, by dsimp only; rw [hfs]; rfl, rfl, trivial⟩ ⟨by dsimp only; omega, ?_⟩ (by dsimp only; omega) (fun _ h => h.sublist (.cons _ (.cons _ (List.Sublist.refl _))))
        dsimp only
        have e3 : (ringTo c (i + 1)).length = (ringTo c i).length + 1 := by rw [hsucc, hra]; simp
        have e4 : (ringTo c (i + 1)).flatMap spC = (ringTo c i).flatMap spC ++ [Value.int .i64 s.1.1, .int .i64 s.1.2, .bool s.2] := by rw [hsucc, hra]; simp [spC]
        rw [e3, e4]
        exact OwnsV.at_
  · have hil : i = c.length := by have := of_decide_eq_false h; omega
    subst hil
    have hlt := ringF_lt h0
    obtain ⟨bR, cR, hvR⟩ : ∃ bR cR, Value.slice Av (ringTo c c.length).length cv = .slice (some ⟨bR, 0, none⟩) (ringTo c c.length).length cR ∧ Lv = [(bR, row 123 3 (ringTo c c.length).length cR ((ringTo c c.length).flatMap spC))] := by
      rcases hv with ⟨_, h2, _, _⟩ | ⟨bo, co, h1, h2⟩
      · omega
      · exact ⟨bo, co, h1, h2⟩
    obtain ⟨hvR, rfl⟩ := hvR
    injection hvR with e1 _ e2
    subst e1 e2
    have hro : ringOf c = (ringTo c c.length).drop (ringF c) ++ (ringTo c c.length).take (ringF c) := rfl
    have hrf : ringF c = if firstTo c c.length < 0 then (ringTo c c.length).length - 1 else (firstTo c c.length).toNat := rfl
    generalize ringF c = F at *
    generalize ringTo c c.length = R at *
    generalize firstTo c c.length = F0 at *
    generalize ringOf c = O at *
    (repeat' (first|refine Za ?_|refine Zb ?_|refine Zc ?_|refine Zd ?_|refine Zh ?_|refine Zj ?_|refine Zl ?_|refine Zq ?_|refine Zu tab rfl rfl ?_|fail))
    refine t_get (φ := R.length ≤ cv ∧ cv ≤ 9223372036854775807) (fun w hw => hw.rowLe (List.mem_singleton.2 rfl)) fun hcv => ?_
    have hll : (R.flatMap spC).length = R.length * 3 := flatMap_len spC 3 (fun _ => rfl) R
    refine t_cond rfl (fun h2 => ?_) (fun h2 => ?_)
    · have h3 := of_decide_eq_true h2
      rw [if_pos h3] at hrf
      have e5 : (R.length : Int) - 1 = (F : Int) := by omega
      (repeat' (first|refine Za ?_|refine Zb ?_|refine Zc ?_|refine Zd ?_|refine Zu tab rfl rfl ?_|(apply Yc;refine Yd ?_)|fail))
      rw [e5]
      refine t_drawW 10 [(0, .v), (1, .v), (2, .v), (3, .v), (4, .v), (5, .v), (6, .v), (7, .v), (8, .v), (9, .v)] ?_ rfl (by kernel_rfl) (by kernel_rfl) rfl (by kernel_rfl) mixed (by kernel_rfl) rfl
      (repeat' (first|refine Yz rfl ?_|refine Vd tab ?_|fail))
      refine dw_opN rfl rfl (fun _ => o_sliceLHM rfl rfl rfl rfl hlt (by omega)) ?_
      (repeat' (first|refine Yz rfl ?_|refine Vd tab ?_|fail))
      refine dw_opN rfl rfl (fun _ => o_sliceH rfl rfl (by omega)) ?_
      (repeat' (first|fail))
      refine dw_end [64, 67] (rest := []) rfl ?_
      refine tl_appF (xs := (R.drop F).flatMap spC) (news := (R.take F).flatMap spC) rfl rfl ?_ (fun w hw j u hj => ?_) (fun h0 => ⟨_, rfl, fun w hw j u hj => ?_⟩) rfl ?_ ?_ ?_ rfl fun v' Lv' hv' => ?_
      · rw [flatMap_len spC 3 (fun _ => rfl), List.length_drop]
      · rw [spC_drop, List.getElem?_drop] at hj
        rw [Nat.zero_add]
        exact hw.rowCell (List.mem_singleton.2 rfl) hj
      · rw [spC_take, List.getElem?_take] at hj
        split at hj
        · rw [add_mk, Nat.zero_add]
          exact hw.rowCell (List.mem_singleton.2 rfl) hj
        · cases hj
      · rw [flatMap_len spC 3 (fun _ => rfl), List.length_take, Nat.min_eq_left (by omega)]
      · omega
      · omega
      (repeat' (first|refine Zc ?_|refine Zd ?_|refine Zg ?_|refine Zu tab rfl rfl ?_|fail))
      refine xt_ret1S rfl rfl fun w1 hw1 => ?_
      rw [hro, List.flatMap_append]
      rcases hv' with ⟨hF0, rfl, rfl⟩ | ⟨b', cap', rfl, rfl⟩
      · subst hF0
        rw [List.take_zero, List.flatMap_nil, List.append_nil, List.drop_zero]
        have := (OwnsV.at_ (e := 123) (sz := 3) (b := bR) (n := R.length) (cap := cv) (xs := R.flatMap spC)).rdI hw1 (fun p hp => by simpa using hp)
        obtain ⟨A', n', c', he, a1, a2, a3, a4⟩ := this
        cases he
        exact ⟨_, _, _, rfl, a1, Nat.le_refl _, Nat.le_trans a2 a3, a4⟩
      · have e6 : R.length - F + F = R.length := by omega
        exact (OwnsV.at_ (e := 123)).rdI hw1 (fun p hp => by simp only [List.mem_singleton] at hp; rw [hp]; simp)
    · have h3 := of_decide_eq_false h2
      rw [if_neg h3] at hrf
      obtain rfl : F0 = (F : Int) := by omega
      (repeat' (first|refine Za ?_|refine Zc ?_|refine Zf ?_|fail))
      refine t_drawW 10 [(0, .v), (1, .v), (2, .v), (3, .v), (4, .v), (5, .v), (6, .v), (7, .v), (8, .v), (9, .v)] ?_ rfl (by kernel_rfl) (by kernel_rfl) rfl (by kernel_rfl) mixed (by kernel_rfl) rfl
      (repeat' (first|refine Yz rfl ?_|refine Vd tab ?_|fail))
      refine dw_opN rfl rfl (fun _ => o_sliceLHM rfl rfl rfl rfl hlt (by omega)) ?_
      (repeat' (first|refine Yz rfl ?_|refine Vd tab ?_|fail))
      refine dw_opN rfl rfl (fun _ => o_sliceH rfl rfl (by omega)) ?_
      (repeat' (first|fail))
      refine dw_end [64, 67] (rest := []) rfl ?_
      refine tl_appF (xs := (R.drop F).flatMap spC) (news := (R.take F).flatMap spC) rfl rfl ?_ (fun w hw j u hj => ?_) (fun h0 => ⟨_, rfl, fun w hw j u hj => ?_⟩) rfl ?_ ?_ ?_ rfl fun v' Lv' hv' => ?_
      · rw [flatMap_len spC 3 (fun _ => rfl), List.length_drop]
      · rw [spC_drop, List.getElem?_drop] at hj
        rw [Nat.zero_add]
        exact hw.rowCell (List.mem_singleton.2 rfl) hj
      · rw [spC_take, List.getElem?_take] at hj
        split at hj
        · rw [add_mk, Nat.zero_add]
          exact hw.rowCell (List.mem_singleton.2 rfl) hj
        · cases hj
      · rw [flatMap_len spC 3 (fun _ => rfl), List.length_take, Nat.min_eq_left (by omega)]
      · omega
      · omega
      (repeat' (first|refine Zc ?_|refine Zd ?_|refine Zg ?_|refine Zu tab rfl rfl ?_|fail))
      refine xt_ret1S rfl rfl fun w1 hw1 => ?_
      rw [hro, List.flatMap_append]
      rcases hv' with ⟨hF0, rfl, rfl⟩ | ⟨b', cap', rfl, rfl⟩
      · subst hF0
        rw [List.take_zero, List.flatMap_nil, List.append_nil, List.drop_zero]
        have := (OwnsV.at_ (e := 123) (sz := 3) (b := bR) (n := R.length) (cap := cv) (xs := R.flatMap spC)).rdI hw1 (fun p hp => by simpa using hp)
        obtain ⟨A', n', c', he, a1, a2, a3, a4⟩ := this
        cases he
        exact ⟨_, _, _, rfl, a1, Nat.le_refl _, Nat.le_trans a2 a3, a4⟩
      · have e6 : R.length - F + F = R.length := by omega
        exact (OwnsV.at_ (e := 123)).rdI hw1 (fun p hp => by simp only [List.mem_singleton] at hp; rw [hp]; simp)

end Go.Proofs.Ytbgolbkolcmldaa
