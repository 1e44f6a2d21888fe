/-
  Slices of the call's own: append, literals, make, cuts, copies.
-/
import Derived.Test.YtbgolbkolcmldaaRange
import Derived.Maps.AppendAt
import Derived.Laws.MakeOwn
import Derived.Laws.OwnMore
import Derived.Laws.CopyRow
import Derived.Laws.IdiomCopy
import Derived.Great.BuildSlice
namespace Go.Proofs.Ytbgolbkolcmldaa
open Go.RowKit

variable {P : Program} {r : Option Nat} {Q : Exit → Act → World → Prop} {nt : Nat} {D : List Deferred} {fr : Fr} {I : World → Prop}
variable {w0 : World} {X : List Nat} {L : HL}
variable {d : Option Tmp} {ty t t' : TypeId} {pos : String} {af : Array Edge} {g : Option (Nat × Bool)} {x y : Operand}

/-- a slice of the call's own: nil, or at the head of a known block -/
def OwnsV (v : Value) (e sz n : Nat) (xs : List Value) (Lv : HL) : Prop :=
  (v = .slice none 0 0 ∧ n = 0 ∧ xs = [] ∧ Lv = []) ∨ ∃ b cap, v = .slice (some ⟨b, 0, none⟩) n cap ∧ Lv = [(b, row e sz n cap xs)]

theorem OwnsV.nil {e sz : Nat} : OwnsV (.slice none 0 0) e sz 0 [] [] := .inl ⟨rfl, rfl, rfl, rfl⟩
theorem OwnsV.at_ {e sz b n cap : Nat} {xs : List Value} : OwnsV (.slice (some ⟨b, 0, none⟩) n cap) e sz n xs [(b, row e sz n cap xs)] := .inr ⟨b, cap, rfl, rfl⟩

theorem OwnsV.owns {v : Value} {e sz n : Nat} {xs : List Value} {Lv : HL} {w : World} (h : OwnsV v e sz n xs Lv) (hs : St w0 X (Lv ++ L) w) : w.ownsRow 0 e sz v n xs := by
  rcases h with ⟨rfl, rfl, rfl, rfl⟩ | ⟨b, cap, rfl, rfl⟩
  · exact ⟨by simp, .inl ⟨rfl, rfl⟩⟩
  · obtain ⟨o, ho, cur, rfl, h1, h2, h3, h4, h5⟩ := hs.here (b, row e sz n cap xs) (by simp)
    exact ⟨h3, .inr ⟨b, cap, cur, rfl, Nat.zero_le _, ho, h4, h5, h1, h2⟩⟩

theorem run_append_st {e sz by_ : Nat} [hc : CSl P t e sz by_] (hsz : 0 < sz) {v : Value} {n : Nat} {xs : List Value} {Lv : HL} (ho : OwnsV v e sz n xs Lv) {a : Addr} {m c : Nat} {news : List Value} (hl : news.length = m * sz) (h1 : ∀ u ∈ news, u.oneCell' = true) (hm : 0 < m) (h63 : n + m ≤ maxLen) (hby : (n + m) * by_ ≤ 140737488355328)
    {w : World} (hs : St w0 X (Lv ++ L) w) (hn : ∀ j u, news[j]? = some u → w.cell? (a.add j) = some u) : ∃ b cap w', (Builtin.append_ #[t, t] ty #[v, .slice (some a) m c]).run P w = .ok (.slice (some ⟨b, 0, none⟩) (n + m) cap) w' ∧ St w0 X ((b, row e sz (n + m) cap (xs ++ news)) :: L) w' := by
  obtain ⟨i, z, hi, hs1, hs2, hz, hzs⟩ := hc.info
  obtain ⟨v', w', hr, hown, hgrow, hnil, hblk⟩ := run_append_own_at (P := P) w 0 t ty e i z sz by_ hc.under hi hz hs1 hs2 hzs hsz v n xs (ho.owns hs) a m c news hl hn h1 h63 hby (Nat.zero_le _)
  obtain ⟨hlen, hv⟩ := hown
  rcases hv with ⟨_, h0⟩ | ⟨b, cap, cur, rfl, _, hb, hnc, hcm, hcs, htk⟩
  · omega
  refine ⟨b, cap, w', hr, ?_⟩
  have hq : row e sz (n + m) cap (xs ++ news) (.cells cur e (0, 0)) := ⟨cur, rfl, hcs, htk, hlen, hnc, hcm⟩
  rcases ho with ⟨rfl, rfl, rfl, rfl⟩ | ⟨b0, cap0, rfl, rfl⟩
  · -- it was nil: a new block
    rcases hblk with h | h
    · simp [Value.ownBlock] at h
    · have hb' : b = w.heap.size := by simpa [Value.ownBlock] using h
      subst hb'
      have he : Ext w w' := ⟨hgrow.os, hgrow.tape, hgrow.output, hgrow.size, fun k hk => hgrow.block k hk (by simp [Value.ownBlock])⟩
      exact hs.addNew he (Nat.le_refl _) hb hq
  · rcases hblk with h | h
    · have hb' : b = b0 := by simpa [Value.ownBlock] using h
      subst hb'
      exact St.put hs (by simpa [Value.ownBlock] using hgrow) hb hq
    · have hb' : b = w.heap.size := by simpa [Value.ownBlock] using h
      subst hb'
      -- the old block is let go
      have hL : St w0 X L w := hs.sublist (List.sublist_append_right ..)
      have hmine := hs.mine (b0, row e sz n cap0 xs) (by simp)
      have hnot : b0 ∉ L.map (·.1) := by
        have := hs.apart
        simp only [List.cons_append, List.nil_append, List.map_cons, List.nodup_cons] at this
        exact this.1
      have hL' : St w0 X L w' := hL.away (by simpa [Value.ownBlock] using hgrow) hmine hnot
      refine ⟨hL'.os, hL'.tape, hL'.output, hL'.size, hL'.old, ?_, ?_, ?_⟩
      · intro p hp
        rcases List.mem_cons.1 hp with rfl | hp
        · exact ⟨_, hb, hq⟩
        · exact hL'.here p hp
      · intro p hp
        rcases List.mem_cons.1 hp with rfl | hp
        · exact .inl hs.size
        · exact hL'.mine p hp
      · simp only [List.map_cons, List.nodup_cons]
        refine ⟨fun hm' => ?_, hL'.apart⟩
        obtain ⟨p, hp, he⟩ := List.mem_map.1 hm'
        have := hL.lt hp
        omega

/-- append onto a slice of the call's own, of a source that is not empty -/
theorem tl_append {ops : Array Oper} {rest : List Oper} {d : Nat} {e sz by_ : Nat} {v : Value} {n : Nat} {xs : List Value} {Lv : HL} {a : Addr} {m c : Nat} {news : List Value} [hc : CSl P t e sz by_] (hx : fev fr x = some v) (hy : fev fr y = some (.slice (some a) m c)) (ho : OwnsV v e sz n xs Lv) (hsz : Nat.blt 0 sz = true) (hL : ∀ w, I w → St w0 X (Lv ++ L) w) (hn : ∀ w, I w → ∀ j u, news[j]? = some u → w.cell? (a.add j) = some u)
    (hl : news.length = m * sz) (h1 : ∀ u ∈ news, u.oneCell' = true) (hm : 0 < m) (h63 : n + m ≤ maxLen) (hby : (n + m) * by_ ≤ 140737488355328) (hd : Nat.ble nt d = false)
    (h : ∀ b cap, TL P r ops Q nt D rest ((d, .slice (some ⟨b, 0, none⟩) (n + m) cap) :: fr) (St w0 X ((b, row e sz (n + m) cap (xs ++ news)) :: L))) : TL P r ops Q nt D (⟨some d, .call ⟨.builtin .append, #[x, y], #[t, t]⟩, ty, pos, af, none⟩ :: rest) fr I := by
  have hsz' : 0 < sz := by simpa [Nat.blt_eq] using hsz
  refine tl_op hd rfl (R := fun v' w' => ∃ b cap, v' = .slice (some ⟨b, 0, none⟩) (n + m) cap ∧ St w0 X ((b, row e sz (n + m) cap (xs ++ news)) :: L) w') (o_of fun ρ w hρ hw => ?_) ?_
  · obtain ⟨b, cap, w', hr, hs⟩ := run_append_st (P := P) (t := t) (ty := ty) (c := c) hsz' ho hl h1 hm h63 hby (hL w hw) (hn w hw)
    refine ⟨_, w', ?_, b, cap, rfl, hs⟩
    have e1 : (#[x, y] : Array Operand).map ρ = #[v, .slice (some a) m c] := by simp [hρ _ _ hx, hρ _ _ hy]
    simp [execOp, resolve, hρ _ _ hx, hρ _ _ hy, invoke, builtin, hr]
  · rintro v' a' w' ha ⟨b, cap, rfl, hs⟩
    exact h b cap a' w' ha hs

/-- a literal of a slice -/
theorem tl_buildSlice {ops : Array Oper} {rest : List Oper} {d n : Nat} {parts : Array (Nat × Operand)} {e : TypeId} (vs cs : List Value) (hv : fevs fr (parts.toList.map (·.2)) = some vs) (hrun : ∀ w, (Instr.buildSlice t n ((parts.toList.map (·.1)).zip vs).toArray).run P w = .ok (.slice (some ⟨w.heap.size, 0, none⟩) n n) (w.alloc (.cells cs.toArray e))) (hd : Nat.ble nt d = false)
    (h : ∀ b, TL P r ops Q nt D rest ((d, .slice (some ⟨b, 0, none⟩) n n) :: fr) (St w0 X ((b, bx cs e) :: L))) : TL P r ops Q nt D (⟨some d, .buildSlice t n parts, ty, pos, af, none⟩ :: rest) fr (St w0 X L) := by
  refine tl_op hd rfl (R := fun v' w' => ∃ b, v' = .slice (some ⟨b, 0, none⟩) n n ∧ St w0 X ((b, bx cs e) :: L) w') (o_of fun ρ w hρ hw => ?_) ?_
  · have key : ∀ (l : List (Nat × Operand)) (vs : List Value), fevs fr (l.map (·.2)) = some vs → l.map (fun p => (p.1, ρ p.2)) = (l.map (·.1)).zip vs := by
      intro l
      induction l with
      | nil => intro vs h; simp
      | cons p l ih =>
        intro vs h
        simp only [List.map_cons, fevs] at h
        split at h
        · cases h
        · rename_i v hv
          split at h
          · cases h
          · rename_i vs' hvs
            cases h
            simp [ih _ hvs, hρ _ _ hv]
    have e1 : parts.map (fun p => (p.1, ρ p.2)) = ((parts.toList.map (·.1)).zip vs).toArray := by
      apply Array.toList_inj.1
      simp [key parts.toList vs hv]
    refine ⟨_, _, ?_, w.heap.size, rfl, hw.alloc _ rfl⟩
    simp only [execOp]
    rw [e1]
    simp [hrun w]
  · rintro v' a' w' ha ⟨b, rfl, hs⟩
    exact h b a' w' ha hs

theorem flat_get (l : List Value) (hl : 0 < l.length) : ∀ (n j : Nat), j < n * l.length → (List.replicate n l).flatten[j]? = l[j % l.length]?
  | 0, j, h => by simp at h
  | n + 1, j, h => by
    rw [List.replicate_succ, List.flatten_cons]
    by_cases hj : j < l.length
    · rw [List.getElem?_append_left hj, Nat.mod_eq_of_lt hj]
    · rw [List.getElem?_append_right (by omega), flat_get l hl n (j - l.length) (by rw [Nat.add_mul] at h; omega)]
      rw [Nat.mod_eq_sub_mod (a := j) (by omega)]
theorem madeCells_flat (z : Array Value) (n : Nat) (hz : 0 < z.size) : (madeCells z (n * z.size)).toList = (List.replicate n z.toList).flatten := by
  apply List.ext_getElem?
  intro j
  by_cases hj : j < n * z.size
  · rw [flat_get z.toList (by simpa using hz) n j (by simpa using hj)]
    have hm : j % z.size < z.size := Nat.mod_lt _ hz
    simp [madeCells, hj, hm]
  · rw [List.getElem?_eq_none (by simp [madeCells]; omega), List.getElem?_eq_none (by simp; omega)]

/-- make of n elements -/
theorem tl_make {ops : Array Oper} {rest : List Oper} {d n : Nat} {e sz by_ : Nat} {k k' : IntKind} {z : List Value} [hc : CSl P t e sz by_] [hz : CZ P e z] (hsz : Nat.blt 0 sz = true) (hx : fev fr x = some (.int k (n : Int))) (hy : fev fr y = some (.int k' (n : Int))) (hby : by_ * n ≤ 281474976710656) (h63 : n ≤ 9223372036854775807) (hd : Nat.ble nt d = false)
    (h : ∀ b, TL P r ops Q nt D rest ((d, .slice (some ⟨b, 0, none⟩) n n) :: fr) (St w0 X ((b, bx ((List.replicate n z).flatten) e) :: L))) : TL P r ops Q nt D (⟨some d, .makeSlice t x y, ty, pos, af, none⟩ :: rest) fr (St w0 X L) := by
  refine tl_op hd rfl (R := fun v' w' => ∃ b, v' = .slice (some ⟨b, 0, none⟩) n n ∧ St w0 X ((b, bx ((List.replicate n z).flatten) e) :: L) w') (o_of fun ρ w hρ hw => ?_) ?_
  · obtain ⟨i, zv, hi, hs1, hs2, hzv, hzs⟩ := hc.info
    obtain ⟨zv', hz1, hz2⟩ := hz.run
    have hzz : zv = zv' := by
      have := hz2 w
      simp [zeroValue, typeInfo, hi, hzv] at this
      exact this
    subst hzz
    have hb : (i.bytes : Int) * (n : Int) ≤ 281474976710656 := by
      rw [hs2]
      have h : ((by_ * n : Nat) : Int) ≤ 281474976710656 := by omega
      rwa [Int.natCast_mul] at h
    have hr := run_make (P := P) w t e i zv hc.under hi hzv k k' n n (by omega) (by omega) hb (by omega)
    simp only [Int.toNat_natCast] at hr
    refine ⟨_, _, ?_, w.heap.size, rfl, hw.alloc (.cells (madeCells zv.cells (n * i.size)) e) ?_⟩
    · simp [execOp, hρ _ _ hx, hρ _ _ hy, hr]
    · have hsz' : 0 < sz := by simpa [Nat.blt_eq] using hsz
      have := madeCells_flat zv.cells n (by omega)
      rw [hzs] at this
      have hl : zv.cells.toList = z := by rw [hz1]
      rw [hl] at this
      simp only [bx]
      rw [hs1, ← this]
  · rintro v' a' w' ha ⟨b, rfl, hs⟩
    exact h b a' w' ha hs

/-! ### cuts -/
theorem map_add0 (A : Option Addr) (sz : Nat) : A.map (·.add (0 * sz)) = A := by
  cases A with
  | none => rfl
  | some a => simp [Addr.add]

theorem o_sliceH {e sz by_ : Nat} {A : Option Addr} {len cap n : Nat} {k : IntKind} [hc : CSl P t e sz by_] (hx : fev fr x = some (.slice A len cap)) (hy : fev fr y = some (.int k (n : Int))) (h : n ≤ cap) : Pv P ⟨d, .slice t x none (some y) none, ty, pos, af, g⟩ fr I (.slice A n cap) :=
  pv_of fun ρ w hρ _ => by
    have h1 : (n : Int) ≤ cap := by omega
    simp [execOp, hρ _ _ hx, hρ _ _ hy, Instr.sliceAt, Instr.slice, Instr.sliceBounds, Instr.sliceBound, asIntOf, run_underlying hc.under, run_sizeOf (t := t), h1]
    have := map_add0 A sz
    simp at this
    split <;> simp [this]
theorem o_sliceHM {e sz by_ : Nat} {A : Option Addr} {len cap n m : Nat} {k k' : IntKind} {z : Operand} [hc : CSl P t e sz by_] (hx : fev fr x = some (.slice A len cap)) (hy : fev fr y = some (.int k (n : Int))) (hz : fev fr z = some (.int k' (m : Int))) (h : n ≤ m) (h' : m ≤ cap) : Pv P ⟨d, .slice t x none (some y) (some z), ty, pos, af, g⟩ fr I (.slice A n m) :=
  pv_of fun ρ w hρ _ => by
    have h1 : (n : Int) ≤ m := by omega
    have h2 : (m : Int) ≤ cap := by omega
    simp [execOp, hρ _ _ hx, hρ _ _ hy, hρ _ _ hz, Instr.sliceAt, Instr.slice, Instr.sliceBounds, Instr.sliceBound, asIntOf, run_underlying hc.under, run_sizeOf (t := t), h1, h2]
    have := map_add0 A sz
    simp at this
    split <;> simp [this]
theorem o_sliceL {e sz by_ : Nat} {b off len cap n : Nat} {k : IntKind} [hc : CSl P t e sz by_] (hx : fev fr x = some (.slice (some ⟨b, off, none⟩) len cap)) (hy : fev fr y = some (.int k (n : Int))) (h : n ≤ len) (h' : n < cap) : Pv P ⟨d, .slice t x (some y) none none, ty, pos, af, g⟩ fr I (.slice (some ⟨b, off + n * sz, none⟩) (len - n) (cap - n)) :=
  pv_of fun ρ w hρ _ => by
    have h1 : (n : Int) ≤ len := by omega
    have h2 : ¬ cap = n := by omega
    simp [execOp, hρ _ _ hx, hρ _ _ hy, Instr.sliceAt, Instr.slice, Instr.sliceBounds, Instr.sliceBound, asIntOf, run_underlying hc.under, run_sizeOf (t := t), h1, h2, add_mk]
    intro hlt
    omega
theorem o_sliceS {s : ByteArray} {i j : Nat} {k k' : IntKind} {z : Operand} [hc : CStr P t] (hx : fev fr x = some (.string s)) (hy : fev fr y = some (.int k (i : Int))) (hz : fev fr z = some (.int k' (j : Int))) (h : i ≤ j) (h' : j ≤ s.size) : Pv P ⟨d, .slice t x (some y) (some z) none, ty, pos, af, g⟩ fr I (.string (s.extract i j)) :=
  pv_of fun ρ w hρ _ => by
    have h1 : (i : Int) ≤ j := by omega
    have h2 : (j : Int) ≤ s.size := by omega
    simp [execOp, hρ _ _ hx, hρ _ _ hy, hρ _ _ hz, Instr.sliceAt, Instr.slice, Instr.sliceBounds, Instr.sliceBound, asIntOf, run_underlying hc.under, h1, h2]
    rw [if_pos h', if_pos h]

/-- the first cells of a block -/
def hdr (e : TypeId) (cs : List Value) : Obj → Prop := fun o => ∃ cur : Array Value, o = .cells cur e (0, 0) ∧ cs <+: cur.toList

theorem hdr_cell {w : World} {b : Nat} {e : TypeId} {cs : List Value} (h : St w0 X L w) (hb : (b, hdr e cs) ∈ L) {j : Nat} {v : Value} (hv : cs[j]? = some v) : w.cell? ⟨b, j, none⟩ = some v := by
  obtain ⟨o, ho, cur, rfl, hp⟩ := h.here _ hb
  rw [cell_of ho, ← Array.getElem?_toList]
  obtain ⟨s, hs⟩ := hp
  rw [← hs, List.getElem?_append_left (List.getElem?_eq_some_iff.1 hv).1]
  exact hv

/-- the first cells of a block that has at least n -/
def pre (e : TypeId) (n : Nat) (cs : List Value) : Obj → Prop := fun o => ∃ cur : Array Value, o = .cells cur e (0, 0) ∧ n ≤ cur.size ∧ cs <+: cur.toList

theorem pre_cell {w : World} {b n : Nat} {e : TypeId} {cs : List Value} (h : St w0 X L w) (hb : (b, pre e n cs) ∈ L) {j : Nat} {v : Value} (hv : cs[j]? = some v) : w.cell? ⟨b, j, none⟩ = some v := by
  obtain ⟨o, ho, cur, rfl, _, hp⟩ := h.here _ hb
  rw [cell_of ho, ← Array.getElem?_toList]
  obtain ⟨s, hs⟩ := hp
  rw [← hs, List.getElem?_append_left (List.getElem?_eq_some_iff.1 hv).1]
  exact hv

/-- a copy behind the known cells of a block of the call's own -/
theorem o_copyP {e by_ : Nat} {b n off dLen dCap sLen sCap : Nat} {a : Addr} {cs0 cs : List Value} [hc : CSl P t e 1 by_] (hx : fev fr x = some (.slice (some ⟨b, off, none⟩) dLen dCap)) (hy : fev fr y = some (.slice (some a) sLen sCap)) (hoff : off = cs0.length) (hlen : cs.length = Nat.min sLen dLen) (hn : off + cs.length ≤ n) (h1 : ∀ v ∈ cs, v.oneCell' = true)
    (hsrc : ∀ w, St w0 X ((b, pre e n cs0) :: L) w → ∀ j v, cs[j]? = some v → w.cell? (a.add j) = some v) : O P ⟨d, .call ⟨.builtin .copy, #[x, y], #[t, t]⟩, ty, pos, af, g⟩ fr (St w0 X ((b, pre e n cs0) :: L)) (fun v w => v = .int .i64 (cs.length : Int) ∧ St w0 X ((b, pre e n (cs0 ++ cs)) :: L) w) :=
  o_of fun ρ w hρ hw => by
    obtain ⟨i, z, hi, hs1, hs2, hz, hzs⟩ := hc.info
    obtain ⟨o, ho, cur, rfl, hn', hp⟩ := hw.here (b, pre e n cs0) (by simp)
    have hr := run_copy_cells (P := P) w t t ty e b off dLen dCap a sLen sCap cs hc.under (by simp [hi, hs1]) hlen (hsrc w hw) (fun j hj => by rw [cell_of ho]; simp; omega) (fun j hj => frozen_of ho) h1
    obtain ⟨hg, cs', hb', hsz, hj⟩ := setCells_heap b cs off w cur e (0, 0) ho
    refine ⟨_, _, ?_, rfl, hw.put hg hb' ⟨cs', rfl, by omega, ?_⟩⟩
    · simp [execOp, resolve, hρ _ _ hx, hρ _ _ hy, invoke, builtin, hr, goInt]
    · obtain ⟨s, hs⟩ := hp
      rw [List.prefix_iff_eq_take]
      apply List.ext_getElem?
      intro j
      have hl : cur.size = cs0.length + s.length := by rw [← Array.length_toList, ← hs, List.length_append]
      by_cases h : j < (cs0 ++ cs).length
      · rw [List.getElem?_take_of_lt h, Array.getElem?_toList (xs := cs'), hj]
        rw [List.length_append] at h
        by_cases h2 : j < cs0.length
        · rw [if_neg (by omega), List.getElem?_append_left h2, ← Array.getElem?_toList, ← hs, List.getElem?_append_left h2]
        · rw [if_pos (by omega), List.getElem?_append_right (by omega), hoff]
      · rw [List.getElem?_eq_none (by omega), List.getElem?_eq_none (by rw [List.length_take]; omega)]

/-! ### literals of slices, all of whose elements are given -/
theorem foldl_put (off : Nat) : ∀ (cs : List Value) (m : Nat) (A : Array Value), ((cs.zipIdx m).foldl (fun (a : Array Value) (p : Value × Nat) => a.setIfInBounds (off + p.2) p.1) A).size = A.size ∧
    ∀ j, ((cs.zipIdx m).foldl (fun (a : Array Value) (p : Value × Nat) => a.setIfInBounds (off + p.2) p.1) A)[j]? = if off + m ≤ j ∧ j < off + m + cs.length ∧ j < A.size then cs[j - (off + m)]? else A[j]?
  | [], m, A => ⟨rfl, fun j => by rw [if_neg]; · rfl
                                  · simp; omega⟩
  | c :: cs, m, A => by
    obtain ⟨h1, h2⟩ := foldl_put off cs (m + 1) (A.setIfInBounds (off + m) c)
    refine ⟨by simpa using h1, fun j => ?_⟩
    simp only [List.zipIdx_cons, List.foldl_cons]
    rw [h2, Array.size_setIfInBounds, Array.getElem?_setIfInBounds]
    simp only [List.length_cons]
    by_cases hj : j = off + m
    · subst hj
      rw [if_neg (by omega), if_pos rfl]
      by_cases hA : off + m < A.size
      · rw [if_pos hA, if_pos (by omega)]
        simp
      · rw [if_neg hA, if_neg (by omega), Array.getElem?_eq_none (by omega)]
    · rw [if_neg (Ne.symm hj)]
      by_cases hc : off + (m + 1) ≤ j ∧ j < off + (m + 1) + cs.length ∧ j < A.size
      · rw [if_pos hc, if_pos (by omega)]
        have e : j - (off + m) = (j - (off + (m + 1))) + 1 := by omega
        rw [e, List.getElem?_cons_succ]
      · rw [if_neg hc, if_neg (by omega)]

theorem fill_all (sz n : Nat) (hsz : 0 < sz) : ∀ (vs : List Value) (k : Nat) (A : Array Value) (done : List Value), k + vs.length = n → A.size = n * sz → done.length = k * sz → (∀ v ∈ vs, v.cells.size = sz) → A.toList.take (k * sz) = done →
    Instr.fill (fun i => some (i * sz, sz)) A ((List.range' k vs.length).zip vs) = some (done ++ vs.flatMap (·.cells.toList)).toArray
  | [], k, A, done, hk, hA, hd, hv, ht => by
    simp only [List.length_nil, Nat.add_zero] at hk
    subst hk
    simp only [List.length_nil, List.range'_zero, List.zip_nil_left, Instr.fill, List.flatMap_nil, List.append_nil]
    rw [← ht, List.take_of_length_le (by simp [hA])]
  | v :: vs, k, A, done, hk, hA, hd, hv, ht => by
    simp only [List.length_cons] at hk
    have hv0 := hv v (by simp)
    have hle : (k + 1) * sz ≤ n * sz := Nat.mul_le_mul_right _ (by omega)
    have e1 : (k + 1) * sz = k * sz + sz := by rw [Nat.add_mul, Nat.one_mul]
    obtain ⟨h1, h2⟩ := foldl_put (k * sz) v.cells.toList 0 A
    simp only [List.length_cons, List.range'_succ, List.zip_cons_cons, Instr.fill]
    rw [if_neg (by simp [hv0]; omega)]
    have ef : v.cells.zipIdx.foldl (fun (cs : Array Value) (x : Value × Nat) => cs.setIfInBounds (k * sz + x.2) x.1) A = (v.cells.toList.zipIdx 0).foldl (fun (a : Array Value) (p : Value × Nat) => a.setIfInBounds (k * sz + p.2) p.1) A := by
      rw [← Array.foldl_toList, Array.toList_zipIdx]
    have := fill_all sz n hsz vs (k + 1) _ (done ++ v.cells.toList) (by omega) (h1.trans hA) (by simp [hd, hv0, e1]) (fun u hu => hv u (by simp [hu])) ?_
    · rw [← ef] at this
      simpa [List.append_assoc] using this
    · apply List.ext_getElem?
      intro j
      by_cases hj : j < (k + 1) * sz
      · rw [List.getElem?_take_of_lt hj, Array.getElem?_toList, h2]
        by_cases hj2 : j < k * sz
        · rw [if_neg (by omega), List.getElem?_append_left (by omega), ← ht, List.getElem?_take_of_lt hj2, Array.getElem?_toList]
        · rw [if_pos (by simp [hv0]; omega), List.getElem?_append_right (by omega), hd, Nat.add_zero]
      · rw [List.getElem?_eq_none (by rw [List.length_take]; omega), List.getElem?_eq_none (by simp [hd, hv0]; omega)]

/-- a literal, run: all elements are given -/
theorem run_bs {e sz by_ : Nat} [hc : CSl P t e sz by_] (hsz : Nat.blt 0 sz = true) (vs : List Value) (hv : ∀ v ∈ vs, v.cells.size = sz) (h24 : Nat.ble (vs.length * sz) 16777216 = true) (w : World) :
    (Instr.buildSlice t vs.length ((List.range' 0 vs.length).zip vs).toArray).run P w = .ok (.slice (some ⟨w.heap.size, 0, none⟩) vs.length vs.length) (w.alloc (.cells (vs.flatMap (·.cells.toList)).toArray e)) := by
  obtain ⟨i, z, hi, hs1, hs2, hz, hzs⟩ := hc.info
  have hsz' : 0 < sz := by simpa [Nat.blt_eq] using hsz
  have h24' : vs.length * sz ≤ 16777216 := by simpa [Nat.ble_eq] using h24
  have hf : ∀ A : Array Value, A.size = vs.length * sz → Instr.fill (fun i => some (i * sz, sz)) A ((List.range' 0 vs.length).zip vs) = some (vs.flatMap (·.cells.toList)).toArray := fun A hA => by
    have := fill_all sz vs.length hsz' vs 0 A [] (by simp) hA (by simp) hv (by simp)
    simpa using this
  by_cases h0 : vs.length * sz = 0
  · have := hf #[] (by simp [h0])
    have hl : vs.length = 0 := by
      rcases Nat.mul_eq_zero.1 h0 with h | h
      · exact h
      · omega
    have hvs : vs = [] := List.length_eq_zero_iff.1 hl
    subst hvs
    simp [Instr.buildSlice, run_underlying hc.under, sizeOf, typeInfo, hi, newRow, Instr.fill]
    have e0 : ∀ A : Array Value, A.size = 0 → A = #[] := fun A h => Array.eq_empty_of_size_eq_zero h
    have e1 : ∀ A : Array Value, A.size = 0 → w.alloc (.cells A e) = w.alloc (.cells #[] e) := fun A h => by rw [e0 A h]
    exact e1 _ (by simp)
  · have := hf ((Array.range (vs.length * sz)).map (z.cells[· % z.cells.size]!)) (by simp)
    have h1 : ¬ vs.length * i.size > 2 ^ 24 := by rw [hs1]; omega
    have h2 : ¬ vs.length * i.size = 0 := by rw [hs1]; exact h0
    subst hs1
    exact run_buildSlice w t e vs.length _ _ i z hc.under hi hz h1 h2 this

end Go.Proofs.Ytbgolbkolcmldaa
