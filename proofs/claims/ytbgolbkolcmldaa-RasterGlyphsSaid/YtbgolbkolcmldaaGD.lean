/-
  Slices of the call's own: append, literals, make, cuts, copies.
-/
import Derived.Test.YtbgolbkolcmldaaGC
import Derived.Maps.AppendAt
import Derived.Laws.MakeOwn
import Derived.Laws.OwnMore
import Derived.Laws.CopyRow
import Derived.Laws.IdiomCopy
import Derived.Great.BuildSlice
import Derived.Lib.MakeNoZero
import Derived.Laws.Externs
import Derived.Laws.IdiomStrings

namespace Go.Proofs.Ytbgolbkolcmldaa
open Go.RowKit

variable {P : Program} {r : Option Nat} {Q : Exit → Act → World → Prop} {nt : Nat} {D : List Deferred} {fr : Fr} {I : World → Prop}
variable {w0 : World} {X : List Nat} {L : HL}
variable {d : Option Tmp} {ty t t' : TypeId} {pos : String} {af : Array Edge} {g : Option (Nat × Bool)} {x y : Operand}

/-- a slice of the call's own: nil, or at the head of a known block -/
def OwnsV (v : Value) (e sz n : Nat) (xs : List Value) (Lv : HL) : Prop :=
  (v = .slice none 0 0 ∧ n = 0 ∧ xs = [] ∧ Lv = []) ∨ ∃ b cap, v = .slice (some ⟨b, 0, none⟩) n cap ∧ Lv = [(b, row e sz n cap xs)]

theorem OwnsV.nil {e sz : Nat} : OwnsV (.slice none 0 0) e sz 0 [] [] := .inl ⟨rfl, rfl, rfl, rfl⟩
theorem OwnsV.at_ {e sz b n cap : Nat} {xs : List Value} : OwnsV (.slice (some ⟨b, 0, none⟩) n cap) e sz n xs [(b, row e sz n cap xs)] := .inr ⟨b, cap, rfl, rfl⟩

theorem OwnsV.owns {v : Value} {e sz n : Nat} {xs : List Value} {Lv : HL} {w : World} (h : OwnsV v e sz n xs Lv) (hs : St w0 X (Lv ++ L) w) : w.ownsRow 0 e sz v n xs := by
  rcases h with ⟨rfl, rfl, rfl, rfl⟩ | ⟨b, cap, rfl, rfl⟩
  · exact ⟨by simp, .inl ⟨rfl, rfl⟩⟩
  · obtain ⟨o, ho, cur, rfl, h1, h2, h3, h4, h5⟩ := hs.here (b, row e sz n cap xs) (by simp)
    exact ⟨h3, .inr ⟨b, cap, cur, rfl, Nat.zero_le _, ho, h4, h5, h1, h2⟩⟩

theorem run_append_st {e sz by_ : Nat} [hc : CSl P t e sz by_] (hsz : 0 < sz) {v : Value} {n : Nat} {xs : List Value} {Lv : HL} (ho : OwnsV v e sz n xs Lv) {a : Addr} {m c : Nat} {news : List Value} (hl : news.length = m * sz) (h1 : ∀ u ∈ news, u.oneCell' = true) (hm : 0 < m) (h63 : n + m ≤ maxLen) (hby : (n + m) * by_ ≤ 140737488355328)
    {w : World} (hs : St w0 X (Lv ++ L) w) (hn : ∀ j u, news[j]? = some u → w.cell? (a.add j) = some u) : ∃ b cap w', (Builtin.append_ #[t, t] ty #[v, .slice (some a) m c]).run P w = .ok (.slice (some ⟨b, 0, none⟩) (n + m) cap) w' ∧ St w0 X ((b, row e sz (n + m) cap (xs ++ news)) :: L) w' := by
  obtain ⟨i, z, hi, hs1, hs2, hz, hzs⟩ := hc.info
  obtain ⟨v', w', hr, hown, hgrow, hnil, hblk⟩ := run_append_own_at (P := P) w 0 t ty e i z sz by_ hc.under hi hz hs1 hs2 hzs hsz v n xs (ho.owns hs) a m c news hl hn h1 h63 hby (Nat.zero_le _)
  obtain ⟨hlen, hv⟩ := hown
  rcases hv with ⟨_, h0⟩ | ⟨b, cap, cur, rfl, _, hb, hnc, hcm, hcs, htk⟩
  · omega
  refine ⟨b, cap, w', hr, ?_⟩
  have hq : row e sz (n + m) cap (xs ++ news) (.cells cur e (0, 0)) := ⟨cur, rfl, hcs, htk, hlen, hnc, hcm⟩
  rcases ho with ⟨rfl, rfl, rfl, rfl⟩ | ⟨b0, cap0, rfl, rfl⟩
  · -- it was nil: a new block
    rcases hblk with h | h
    · simp [Value.ownBlock] at h
    · have hb' : b = w.heap.size := by simpa [Value.ownBlock] using h
      subst hb'
      have he : Ext w w' := ⟨hgrow.os, hgrow.tape, hgrow.output, hgrow.size, fun k hk => hgrow.block k hk (by simp [Value.ownBlock])⟩
      exact hs.addNew he (Nat.le_refl _) hb hq
  · rcases hblk with h | h
    · have hb' : b = b0 := by simpa [Value.ownBlock] using h
      subst hb'
      exact St.put hs (by simpa [Value.ownBlock] using hgrow) hb hq
    · have hb' : b = w.heap.size := by simpa [Value.ownBlock] using h
      subst hb'
      -- the old block is let go
      have hL : St w0 X L w := hs.sublist (List.sublist_append_right ..)
      have hmine := hs.mine (b0, row e sz n cap0 xs) (by simp)
      have hnot : b0 ∉ L.map (·.1) := by
        have := hs.apart
        simp only [List.cons_append, List.nil_append, List.map_cons, List.nodup_cons] at this
        exact this.1
      have hL' : St w0 X L w' := hL.away (by simpa [Value.ownBlock] using hgrow) hmine hnot
      refine ⟨hL'.os, hL'.tape, hL'.output, hL'.size, hL'.old, ?_, ?_, ?_⟩
      · intro p hp
        rcases List.mem_cons.1 hp with rfl | hp
        · exact ⟨_, hb, hq⟩
        · exact hL'.here p hp
      · intro p hp
        rcases List.mem_cons.1 hp with rfl | hp
        · exact .inl hs.size
        · exact hL'.mine p hp
      · simp only [List.map_cons, List.nodup_cons]
        refine ⟨fun hm' => ?_, hL'.apart⟩
        obtain ⟨p, hp, he⟩ := List.mem_map.1 hm'
        have := hL.lt hp
        omega

/-- append onto a slice of the call's own, of a source that is not empty -/
theorem tl_append {ops : Array Oper} {rest : List Oper} {d : Nat} {e sz by_ : Nat} {v : Value} {n : Nat} {xs : List Value} {Lv : HL} {a : Addr} {m c : Nat} {news : List Value} [hc : CSl P t e sz by_] (hx : fev fr x = some v) (hy : fev fr y = some (.slice (some a) m c)) (ho : OwnsV v e sz n xs Lv) (hsz : Nat.blt 0 sz = true) (hL : ∀ w, I w → St w0 X (Lv ++ L) w) (hn : ∀ w, I w → ∀ j u, news[j]? = some u → w.cell? (a.add j) = some u)
    (hl : news.length = m * sz) (h1 : ∀ u ∈ news, u.oneCell' = true) (hm : 0 < m) (h63 : n + m ≤ maxLen) (hby : (n + m) * by_ ≤ 140737488355328) (hd : Nat.ble nt d = false)
    (h : ∀ b cap, TL P r ops Q nt D rest ((d, .slice (some ⟨b, 0, none⟩) (n + m) cap) :: fr) (St w0 X ((b, row e sz (n + m) cap (xs ++ news)) :: L))) : TL P r ops Q nt D (⟨some d, .call ⟨.builtin .append, #[x, y], #[t, t]⟩, ty, pos, af, none⟩ :: rest) fr I := by
  have hsz' : 0 < sz := by simpa [Nat.blt_eq] using hsz
  refine tl_op hd rfl (R := fun v' w' => ∃ b cap, v' = .slice (some ⟨b, 0, none⟩) (n + m) cap ∧ St w0 X ((b, row e sz (n + m) cap (xs ++ news)) :: L) w') (o_of fun ρ w hρ hw => ?_) ?_
  · obtain ⟨b, cap, w', hr, hs⟩ := run_append_st (P := P) (t := t) (ty := ty) (c := c) hsz' ho hl h1 hm h63 hby (hL w hw) (hn w hw)
    refine ⟨_, w', ?_, b, cap, rfl, hs⟩
    have e1 : (#[x, y] : Array Operand).map ρ = #[v, .slice (some a) m c] := by simp [hρ _ _ hx, hρ _ _ hy]
    simp [execOp, resolve, hρ _ _ hx, hρ _ _ hy, invoke, builtin, hr]
  · rintro v' a' w' ha ⟨b, cap, rfl, hs⟩
    exact h b cap a' w' ha hs

/-- a literal of a slice -/
theorem tl_buildSlice {ops : Array Oper} {rest : List Oper} {d n : Nat} {parts : Array (Nat × Operand)} {e : TypeId} (vs cs : List Value) (hv : fevs fr (parts.toList.map (·.2)) = some vs) (hrun : ∀ w, (Instr.buildSlice t n ((parts.toList.map (·.1)).zip vs).toArray).run P w = .ok (.slice (some ⟨w.heap.size, 0, none⟩) n n) (w.alloc (.cells cs.toArray e))) (hd : Nat.ble nt d = false)
    (h : ∀ b, TL P r ops Q nt D rest ((d, .slice (some ⟨b, 0, none⟩) n n) :: fr) (St w0 X ((b, bx cs e) :: L))) : TL P r ops Q nt D (⟨some d, .buildSlice t n parts, ty, pos, af, none⟩ :: rest) fr (St w0 X L) := by
  refine tl_op hd rfl (R := fun v' w' => ∃ b, v' = .slice (some ⟨b, 0, none⟩) n n ∧ St w0 X ((b, bx cs e) :: L) w') (o_of fun ρ w hρ hw => ?_) ?_
  · have key : ∀ (l : List (Nat × Operand)) (vs : List Value), fevs fr (l.map (·.2)) = some vs → l.map (fun p => (p.1, ρ p.2)) = (l.map (·.1)).zip vs := by
      intro l
      induction l with
      | nil => intro vs h; simp
      | cons p l ih =>
        intro vs h
        simp only [List.map_cons, fevs] at h
        split at h
        · cases h
        · rename_i v hv
          split at h
          · cases h
          · rename_i vs' hvs
            cases h
            simp [ih _ hvs, hρ _ _ hv]
    have e1 : parts.map (fun p => (p.1, ρ p.2)) = ((parts.toList.map (·.1)).zip vs).toArray := by
      apply Array.toList_inj.1
      simp [key parts.toList vs hv]
    refine ⟨_, _, ?_, w.heap.size, rfl, hw.alloc _ rfl⟩
    simp only [execOp]
    rw [e1]
    simp [hrun w]
  · rintro v' a' w' ha ⟨b, rfl, hs⟩
    exact h b a' w' ha hs

theorem flat_get (l : List Value) (hl : 0 < l.length) : ∀ (n j : Nat), j < n * l.length → (List.replicate n l).flatten[j]? = l[j % l.length]?
  | 0, j, h => by simp at h
  | n + 1, j, h => by
    rw [List.replicate_succ, List.flatten_cons]
    by_cases hj : j < l.length
    · rw [List.getElem?_append_left hj, Nat.mod_eq_of_lt hj]
    · rw [List.getElem?_append_right (by omega), flat_get l hl n (j - l.length) (by rw [Nat.add_mul] at h; omega)]
      rw [Nat.mod_eq_sub_mod (a := j) (by omega)]
theorem madeCells_flat (z : Array Value) (n : Nat) (hz : 0 < z.size) : (madeCells z (n * z.size)).toList = (List.replicate n z.toList).flatten := by
  apply List.ext_getElem?
  intro j
  by_cases hj : j < n * z.size
  · rw [flat_get z.toList (by simpa using hz) n j (by simpa using hj)]
    have hm : j % z.size < z.size := Nat.mod_lt _ hz
    simp [madeCells, hj, hm]
  · rw [List.getElem?_eq_none (by simp [madeCells]; omega), List.getElem?_eq_none (by simp; omega)]

/-- make of n elements -/
theorem tl_make {ops : Array Oper} {rest : List Oper} {d n : Nat} {e sz by_ : Nat} {k k' : IntKind} {z : List Value} [hc : CSl P t e sz by_] [hz : CZ P e z] (hsz : Nat.blt 0 sz = true) (hx : fev fr x = some (.int k (n : Int))) (hy : fev fr y = some (.int k' (n : Int))) (hby : by_ * n ≤ 281474976710656) (h63 : n ≤ 9223372036854775807) (hd : Nat.ble nt d = false)
    (h : ∀ b, TL P r ops Q nt D rest ((d, .slice (some ⟨b, 0, none⟩) n n) :: fr) (St w0 X ((b, bx ((List.replicate n z).flatten) e) :: L))) : TL P r ops Q nt D (⟨some d, .makeSlice t x y, ty, pos, af, none⟩ :: rest) fr (St w0 X L) := by
  refine tl_op hd rfl (R := fun v' w' => ∃ b, v' = .slice (some ⟨b, 0, none⟩) n n ∧ St w0 X ((b, bx ((List.replicate n z).flatten) e) :: L) w') (o_of fun ρ w hρ hw => ?_) ?_
  · obtain ⟨i, zv, hi, hs1, hs2, hzv, hzs⟩ := hc.info
    obtain ⟨zv', hz1, hz2⟩ := hz.run
    have hzz : zv = zv' := by
      have := hz2 w
      simp [zeroValue, typeInfo, hi, hzv] at this
      exact this
    subst hzz
    have hb : (i.bytes : Int) * (n : Int) ≤ 281474976710656 := by
      rw [hs2]
      have h : ((by_ * n : Nat) : Int) ≤ 281474976710656 := by omega
      rwa [Int.natCast_mul] at h
    have hr := run_make (P := P) w t e i zv hc.under hi hzv k k' n n (by omega) (by omega) hb (by omega)
    simp only [Int.toNat_natCast] at hr
    refine ⟨_, _, ?_, w.heap.size, rfl, hw.alloc (.cells (madeCells zv.cells (n * i.size)) e) ?_⟩
    · simp [execOp, hρ _ _ hx, hρ _ _ hy, hr]
    · have hsz' : 0 < sz := by simpa [Nat.blt_eq] using hsz
      have := madeCells_flat zv.cells n (by omega)
      rw [hzs] at this
      have hl : zv.cells.toList = z := by rw [hz1]
      rw [hl] at this
      simp only [bx]
      rw [hs1, ← this]
  · rintro v' a' w' ha ⟨b, rfl, hs⟩
    exact h b a' w' ha hs

/-! ### cuts -/
theorem map_add0 (A : Option Addr) (sz : Nat) : A.map (·.add (0 * sz)) = A := by
  cases A with
  | none => rfl
  | some a => simp [Addr.add]

theorem o_sliceH {e sz by_ : Nat} {A : Option Addr} {len cap n : Nat} {k : IntKind} [hc : CSl P t e sz by_] (hx : fev fr x = some (.slice A len cap)) (hy : fev fr y = some (.int k (n : Int))) (h : n ≤ cap) : Pv P ⟨d, .slice t x none (some y) none, ty, pos, af, g⟩ fr I (.slice A n cap) :=
  pv_of fun ρ w hρ _ => by
    have h1 : (n : Int) ≤ cap := by omega
    simp [execOp, hρ _ _ hx, hρ _ _ hy, Instr.sliceAt, Instr.slice, Instr.sliceBounds, Instr.sliceBound, asIntOf, run_underlying hc.under, run_sizeOf (t := t), h1]
    have := map_add0 A sz
    simp at this
    split <;> simp [this]
theorem o_sliceHM {e sz by_ : Nat} {A : Option Addr} {len cap n m : Nat} {k k' : IntKind} {z : Operand} [hc : CSl P t e sz by_] (hx : fev fr x = some (.slice A len cap)) (hy : fev fr y = some (.int k (n : Int))) (hz : fev fr z = some (.int k' (m : Int))) (h : n ≤ m) (h' : m ≤ cap) : Pv P ⟨d, .slice t x none (some y) (some z), ty, pos, af, g⟩ fr I (.slice A n m) :=
  pv_of fun ρ w hρ _ => by
    have h1 : (n : Int) ≤ m := by omega
    have h2 : (m : Int) ≤ cap := by omega
    simp [execOp, hρ _ _ hx, hρ _ _ hy, hρ _ _ hz, Instr.sliceAt, Instr.slice, Instr.sliceBounds, Instr.sliceBound, asIntOf, run_underlying hc.under, run_sizeOf (t := t), h1, h2]
    have := map_add0 A sz
    simp at this
    split <;> simp [this]
theorem o_sliceL {e sz by_ : Nat} {b off len cap n : Nat} {k : IntKind} [hc : CSl P t e sz by_] (hx : fev fr x = some (.slice (some ⟨b, off, none⟩) len cap)) (hy : fev fr y = some (.int k (n : Int))) (h : n ≤ len) (h' : n < cap) : Pv P ⟨d, .slice t x (some y) none none, ty, pos, af, g⟩ fr I (.slice (some ⟨b, off + n * sz, none⟩) (len - n) (cap - n)) :=
  pv_of fun ρ w hρ _ => by
    have h1 : (n : Int) ≤ len := by omega
    have h2 : ¬ cap = n := by omega
    simp [execOp, hρ _ _ hx, hρ _ _ hy, Instr.sliceAt, Instr.slice, Instr.sliceBounds, Instr.sliceBound, asIntOf, run_underlying hc.under, run_sizeOf (t := t), h1, h2, add_mk]
    intro hlt
    omega
theorem o_sliceS {s : ByteArray} {i j : Nat} {k k' : IntKind} {z : Operand} [hc : CStr P t] (hx : fev fr x = some (.string s)) (hy : fev fr y = some (.int k (i : Int))) (hz : fev fr z = some (.int k' (j : Int))) (h : i ≤ j) (h' : j ≤ s.size) : Pv P ⟨d, .slice t x (some y) (some z) none, ty, pos, af, g⟩ fr I (.string (s.extract i j)) :=
  pv_of fun ρ w hρ _ => by
    have h1 : (i : Int) ≤ j := by omega
    have h2 : (j : Int) ≤ s.size := by omega
    simp [execOp, hρ _ _ hx, hρ _ _ hy, hρ _ _ hz, Instr.sliceAt, Instr.slice, Instr.sliceBounds, Instr.sliceBound, asIntOf, run_underlying hc.under, h1, h2]
    rw [if_pos h', if_pos h]

/-- the first cells of a block -/
def hdr (e : TypeId) (cs : List Value) : Obj → Prop := fun o => ∃ cur : Array Value, o = .cells cur e (0, 0) ∧ cs <+: cur.toList

theorem hdr_cell {w : World} {b : Nat} {e : TypeId} {cs : List Value} (h : St w0 X L w) (hb : (b, hdr e cs) ∈ L) {j : Nat} {v : Value} (hv : cs[j]? = some v) : w.cell? ⟨b, j, none⟩ = some v := by
  obtain ⟨o, ho, cur, rfl, hp⟩ := h.here _ hb
  rw [cell_of ho, ← Array.getElem?_toList]
  obtain ⟨s, hs⟩ := hp
  rw [← hs, List.getElem?_append_left (List.getElem?_eq_some_iff.1 hv).1]
  exact hv

/-- the first cells of a block that has at least n -/
def pre (e : TypeId) (n : Nat) (cs : List Value) : Obj → Prop := fun o => ∃ cur : Array Value, o = .cells cur e (0, 0) ∧ n ≤ cur.size ∧ cs <+: cur.toList

theorem pre_cell {w : World} {b n : Nat} {e : TypeId} {cs : List Value} (h : St w0 X L w) (hb : (b, pre e n cs) ∈ L) {j : Nat} {v : Value} (hv : cs[j]? = some v) : w.cell? ⟨b, j, none⟩ = some v := by
  obtain ⟨o, ho, cur, rfl, _, hp⟩ := h.here _ hb
  rw [cell_of ho, ← Array.getElem?_toList]
  obtain ⟨s, hs⟩ := hp
  rw [← hs, List.getElem?_append_left (List.getElem?_eq_some_iff.1 hv).1]
  exact hv

/-- a copy behind the known cells of a block of the call's own -/
theorem o_copyP {e by_ : Nat} {b n off dLen dCap sLen sCap : Nat} {a : Addr} {cs0 cs : List Value} [hc : CSl P t e 1 by_] (hx : fev fr x = some (.slice (some ⟨b, off, none⟩) dLen dCap)) (hy : fev fr y = some (.slice (some a) sLen sCap)) (hoff : off = cs0.length) (hlen : cs.length = Nat.min sLen dLen) (hn : off + cs.length ≤ n) (h1 : ∀ v ∈ cs, v.oneCell' = true)
    (hsrc : ∀ w, St w0 X ((b, pre e n cs0) :: L) w → ∀ j v, cs[j]? = some v → w.cell? (a.add j) = some v) : O P ⟨d, .call ⟨.builtin .copy, #[x, y], #[t, t]⟩, ty, pos, af, g⟩ fr (St w0 X ((b, pre e n cs0) :: L)) (fun v w => v = .int .i64 (cs.length : Int) ∧ St w0 X ((b, pre e n (cs0 ++ cs)) :: L) w) :=
  o_of fun ρ w hρ hw => by
    obtain ⟨i, z, hi, hs1, hs2, hz, hzs⟩ := hc.info
    obtain ⟨o, ho, cur, rfl, hn', hp⟩ := hw.here (b, pre e n cs0) (by simp)
    have hr := run_copy_cells (P := P) w t t ty e b off dLen dCap a sLen sCap cs hc.under (by simp [hi, hs1]) hlen (hsrc w hw) (fun j hj => by rw [cell_of ho]; simp; omega) (fun j hj => frozen_of ho) h1
    obtain ⟨hg, cs', hb', hsz, hj⟩ := setCells_heap b cs off w cur e (0, 0) ho
    refine ⟨_, _, ?_, rfl, hw.put hg hb' ⟨cs', rfl, by omega, ?_⟩⟩
    · simp [execOp, resolve, hρ _ _ hx, hρ _ _ hy, invoke, builtin, hr, goInt]
    · obtain ⟨s, hs⟩ := hp
      rw [List.prefix_iff_eq_take]
      apply List.ext_getElem?
      intro j
      have hl : cur.size = cs0.length + s.length := by rw [← Array.length_toList, ← hs, List.length_append]
      by_cases h : j < (cs0 ++ cs).length
      · rw [List.getElem?_take_of_lt h, Array.getElem?_toList (xs := cs'), hj]
        rw [List.length_append] at h
        by_cases h2 : j < cs0.length
        · rw [if_neg (by omega), List.getElem?_append_left h2, ← Array.getElem?_toList, ← hs, List.getElem?_append_left h2]
        · rw [if_pos (by omega), List.getElem?_append_right (by omega), hoff]
      · rw [List.getElem?_eq_none (by omega), List.getElem?_eq_none (by rw [List.length_take]; omega)]

/-! ### literals of slices, all of whose elements are given -/
theorem foldl_put (off : Nat) : ∀ (cs : List Value) (m : Nat) (A : Array Value), ((cs.zipIdx m).foldl (fun (a : Array Value) (p : Value × Nat) => a.setIfInBounds (off + p.2) p.1) A).size = A.size ∧
    ∀ j, ((cs.zipIdx m).foldl (fun (a : Array Value) (p : Value × Nat) => a.setIfInBounds (off + p.2) p.1) A)[j]? = if off + m ≤ j ∧ j < off + m + cs.length ∧ j < A.size then cs[j - (off + m)]? else A[j]?
  | [], m, A => ⟨rfl, fun j => by rw [if_neg]; · rfl
                                  · simp; omega⟩
  | c :: cs, m, A => by
    obtain ⟨h1, h2⟩ := foldl_put off cs (m + 1) (A.setIfInBounds (off + m) c)
    refine ⟨by simpa using h1, fun j => ?_⟩
    simp only [List.zipIdx_cons, List.foldl_cons]
    rw [h2, Array.size_setIfInBounds, Array.getElem?_setIfInBounds]
    simp only [List.length_cons]
    by_cases hj : j = off + m
    · subst hj
      rw [if_neg (by omega), if_pos rfl]
      by_cases hA : off + m < A.size
      · rw [if_pos hA, if_pos (by omega)]
        simp
      · rw [if_neg hA, if_neg (by omega), Array.getElem?_eq_none (by omega)]
    · rw [if_neg (Ne.symm hj)]
      by_cases hc : off + (m + 1) ≤ j ∧ j < off + (m + 1) + cs.length ∧ j < A.size
      · rw [if_pos hc, if_pos (by omega)]
        have e : j - (off + m) = (j - (off + (m + 1))) + 1 := by omega
        rw [e, List.getElem?_cons_succ]
      · rw [if_neg hc, if_neg (by omega)]

theorem fill_all (sz n : Nat) (hsz : 0 < sz) : ∀ (vs : List Value) (k : Nat) (A : Array Value) (done : List Value), k + vs.length = n → A.size = n * sz → done.length = k * sz → (∀ v ∈ vs, v.cells.size = sz) → A.toList.take (k * sz) = done →
    Instr.fill (fun i => some (i * sz, sz)) A ((List.range' k vs.length).zip vs) = some (done ++ vs.flatMap (·.cells.toList)).toArray
  | [], k, A, done, hk, hA, hd, hv, ht => by
    simp only [List.length_nil, Nat.add_zero] at hk
    subst hk
    simp only [List.length_nil, List.range'_zero, List.zip_nil_left, Instr.fill, List.flatMap_nil, List.append_nil]
    rw [← ht, List.take_of_length_le (by simp [hA])]
  | v :: vs, k, A, done, hk, hA, hd, hv, ht => by
    simp only [List.length_cons] at hk
    have hv0 := hv v (by simp)
    have hle : (k + 1) * sz ≤ n * sz := Nat.mul_le_mul_right _ (by omega)
    have e1 : (k + 1) * sz = k * sz + sz := by rw [Nat.add_mul, Nat.one_mul]
    obtain ⟨h1, h2⟩ := foldl_put (k * sz) v.cells.toList 0 A
    simp only [List.length_cons, List.range'_succ, List.zip_cons_cons, Instr.fill]
    rw [if_neg (by simp [hv0]; omega)]
    have ef : v.cells.zipIdx.foldl (fun (cs : Array Value) (x : Value × Nat) => cs.setIfInBounds (k * sz + x.2) x.1) A = (v.cells.toList.zipIdx 0).foldl (fun (a : Array Value) (p : Value × Nat) => a.setIfInBounds (k * sz + p.2) p.1) A := by
      rw [← Array.foldl_toList, Array.toList_zipIdx]
    have := fill_all sz n hsz vs (k + 1) _ (done ++ v.cells.toList) (by omega) (h1.trans hA) (by simp [hd, hv0, e1]) (fun u hu => hv u (by simp [hu])) ?_
    · rw [← ef] at this
      simpa [List.append_assoc] using this
    · apply List.ext_getElem?
      intro j
      by_cases hj : j < (k + 1) * sz
      · rw [List.getElem?_take_of_lt hj, Array.getElem?_toList, h2]
        by_cases hj2 : j < k * sz
        · rw [if_neg (by omega), List.getElem?_append_left (by omega), ← ht, List.getElem?_take_of_lt hj2, Array.getElem?_toList]
        · rw [if_pos (by simp [hv0]; omega), List.getElem?_append_right (by omega), hd, Nat.add_zero]
      · rw [List.getElem?_eq_none (by rw [List.length_take]; omega), List.getElem?_eq_none (by simp [hd, hv0]; omega)]

/-- a literal, run: all elements are given -/
theorem run_bs {e sz by_ : Nat} [hc : CSl P t e sz by_] (hsz : Nat.blt 0 sz = true) (vs : List Value) (hv : ∀ v ∈ vs, v.cells.size = sz) (h24 : Nat.ble (vs.length * sz) 16777216 = true) (w : World) :
    (Instr.buildSlice t vs.length ((List.range' 0 vs.length).zip vs).toArray).run P w = .ok (.slice (some ⟨w.heap.size, 0, none⟩) vs.length vs.length) (w.alloc (.cells (vs.flatMap (·.cells.toList)).toArray e)) := by
  obtain ⟨i, z, hi, hs1, hs2, hz, hzs⟩ := hc.info
  have hsz' : 0 < sz := by simpa [Nat.blt_eq] using hsz
  have h24' : vs.length * sz ≤ 16777216 := by simpa [Nat.ble_eq] using h24
  have hf : ∀ A : Array Value, A.size = vs.length * sz → Instr.fill (fun i => some (i * sz, sz)) A ((List.range' 0 vs.length).zip vs) = some (vs.flatMap (·.cells.toList)).toArray := fun A hA => by
    have := fill_all sz vs.length hsz' vs 0 A [] (by simp) hA (by simp) hv (by simp)
    simpa using this
  by_cases h0 : vs.length * sz = 0
  · have := hf #[] (by simp [h0])
    have hl : vs.length = 0 := by
      rcases Nat.mul_eq_zero.1 h0 with h | h
      · exact h
      · omega
    have hvs : vs = [] := List.length_eq_zero_iff.1 hl
    subst hvs
    simp [Instr.buildSlice, run_underlying hc.under, sizeOf, typeInfo, hi, newRow, Instr.fill]
    have e0 : ∀ A : Array Value, A.size = 0 → A = #[] := fun A h => Array.eq_empty_of_size_eq_zero h
    have e1 : ∀ A : Array Value, A.size = 0 → w.alloc (.cells A e) = w.alloc (.cells #[] e) := fun A h => by rw [e0 A h]
    exact e1 _ (by simp)
  · have := hf ((Array.range (vs.length * sz)).map (z.cells[· % z.cells.size]!)) (by simp)
    have h1 : ¬ vs.length * i.size > 2 ^ 24 := by rw [hs1]; omega
    have h2 : ¬ vs.length * i.size = 0 := by rw [hs1]; exact h0
    subst hs1
    exact run_buildSlice w t e vs.length _ _ i z hc.under hi hz h1 h2 this

end Go.Proofs.Ytbgolbkolcmldaa

/-
  Rows of pixels: bytes, repeated.
-/
namespace Go.Proofs.Ytbgolbkolcmldaa
open Go.RowKit
attribute [local irreducible] T TL Xt O Op1 Kt DV ObsB DE

section
variable {P : Program} {fr : Fr} {I : World → Prop} {d : Option Tmp} {ty t t' : TypeId} {pos : String} {af : Array Edge} {g : Option (Nat × Bool)} {x y : Operand}
theorem fitsU {n : Int} (h : 0 ≤ n ∧ n ≤ 18446744073709551615) : IntKind.u64.wrap n = n := by
  rw [IntKind.wrap_u64]; omega
theorem o_addU {a b : Int} (hx : fev fr x = some (.int .u64 a)) (hy : fev fr y = some (.int .u64 b)) (h : 0 ≤ a + b ∧ a + b ≤ 18446744073709551615) : Pv P ⟨d, .binOp .add t x y t', ty, pos, af, g⟩ fr I (.int .u64 (a + b)) := by
  have := o_add (P := P) (I := I) (d := d) (ty := ty) (t := t) (t' := t') (pos := pos) (af := af) (g := g) hx hy
  rwa [fitsU h] at this
theorem o_mulU {a b : Int} (hx : fev fr x = some (.int .u64 a)) (hy : fev fr y = some (.int .u64 b)) (h : 0 ≤ a * b ∧ a * b ≤ 18446744073709551615) : Pv P ⟨d, .binOp .mul t x y t', ty, pos, af, g⟩ fr I (.int .u64 (a * b)) := by
  have := o_mul (P := P) (I := I) (d := d) (ty := ty) (t := t) (t' := t') (pos := pos) (af := af) (g := g) hx hy
  rwa [fitsU h] at this
theorem o_convertU {k : IntKind} {a : Int} (hx : fev fr x = some (.int k a)) [hs : CInt P t k] [hd : CInt P t' .u64] (h : 0 ≤ a ∧ a ≤ 18446744073709551615) : Pv P ⟨d, .convert t t' x, ty, pos, af, g⟩ fr I (.int .u64 a) := by
  have := o_convert (P := P) (I := I) (d := d) (ty := ty) (t := t) (t' := t') (pos := pos) (af := af) (g := g) hx
  rwa [fitsU h] at this
theorem o_convertI {k : IntKind} {a : Int} (hx : fev fr x = some (.int k a)) [hs : CInt P t k] [hd : CInt P t' .i64] (h : -9223372036854775808 ≤ a ∧ a ≤ 9223372036854775807) : Pv P ⟨d, .convert t t' x, ty, pos, af, g⟩ fr I (.int .i64 a) := by
  have := o_convert (P := P) (I := I) (d := d) (ty := ty) (t := t) (t' := t') (pos := pos) (af := af) (g := g) hx
  rwa [fits64 h] at this
theorem o_and32 {a : Int} (hx : fev fr x = some (.int .u64 a)) (hy : fev fr y = some (.int .u64 4294967295)) (h : 0 ≤ a ∧ a < 18446744073709551616) : Pv P ⟨d, .binOp .and t x y t', ty, pos, af, g⟩ fr I (.int .u64 (a % 4294967296)) := by
  have := o_and (P := P) (I := I) (d := d) (ty := ty) (t := t) (t' := t') (pos := pos) (af := af) (g := g) hx hy
  rwa [and_low32 a h.1 h.2] at this
theorem o_shr32 {a : Int} {k : IntKind} (hx : fev fr x = some (.int .u64 a)) (hy : fev fr y = some (.int k 32)) : Pv P ⟨d, .binOp .shr t x y t', ty, pos, af, g⟩ fr I (.int .u64 (a / 4294967296)) :=
  pv_of fun ρ w hρ _ => by
    simp [execOp, hρ _ _ hx, hρ _ _ hy, eqGuard, binOp, shift_shr_u64]
end

theorem mul64_det (c : Int) (hc : 0 ≤ c ∧ c ≤ 1000000000) : Det Try.prog 104 [.int .u64 1, .int .u64 c] (.tuple #[.int .u64 0, .int .u64 c]) := by
  intro w
  refine calls_S Try.func104 rfl Try.ntmps104 rfl ?_
  (repeat' (first
    |refine t_seq ?_|refine t_region ?_|refine xt_then ?_|refine tl_nil ?_|refine tl_run tab rfl rfl ?_|fail))
  refine tl_bin (o_and32 rfl rfl (by omega)) rfl ?_
  (repeat' (first
    |refine t_seq ?_|refine t_region ?_|refine xt_then ?_|refine tl_nil ?_|refine tl_run tab rfl rfl ?_|fail))
  refine tl_bin (o_shr32 rfl rfl) rfl ?_
  (repeat' (first
    |refine t_seq ?_|refine t_region ?_|refine xt_then ?_|refine tl_nil ?_|refine tl_run tab rfl rfl ?_|fail))
  refine tl_bin (o_and32 rfl rfl (by omega)) rfl ?_
  (repeat' (first
    |refine t_seq ?_|refine t_region ?_|refine xt_then ?_|refine tl_nil ?_|refine tl_run tab rfl rfl ?_|fail))
  refine tl_bin (o_shr32 rfl rfl) rfl ?_
  have e1 : c % 4294967296 = c := by omega
  have e2 : c / 4294967296 = 0 := by omega
  have e3 : (1 : Int) % 4294967296 = 1 := by omega
  have e4 : (1 : Int) / 4294967296 = 0 := by omega
  rw [e1, e2, e3, e4]
  (repeat' (first
    |refine t_seq ?_|refine t_region ?_|refine xt_then ?_|refine tl_nil ?_|refine tl_run tab rfl rfl ?_|fail))
  refine tl_bin (o_mulU rfl rfl (by omega)) rfl ?_
  (repeat' (first
    |refine t_seq ?_|refine t_region ?_|refine xt_then ?_|refine tl_nil ?_|refine tl_run tab rfl rfl ?_|fail))
  refine tl_bin (o_mulU rfl rfl (by omega)) rfl ?_
  (repeat' (first
    |refine tl_run tab rfl rfl ?_|fail))
  refine tl_bin (o_shr32 rfl rfl) rfl ?_
  refine tl_bin (o_addU rfl rfl (by omega)) rfl ?_
  have e5 : 0 * c + 1 * c / 4294967296 = 0 := by omega
  rw [e5]
  (repeat' (first
    |refine t_seq ?_|refine t_region ?_|refine xt_then ?_|refine tl_nil ?_|refine tl_run tab rfl rfl ?_|fail))
  refine tl_bin (o_and32 rfl rfl (by omega)) rfl ?_
  (repeat' (first
    |refine t_seq ?_|refine t_region ?_|refine xt_then ?_|refine tl_nil ?_|refine tl_run tab rfl rfl ?_|fail))
  refine tl_bin (o_shr32 rfl rfl) rfl ?_
  (repeat' (first
    |refine t_seq ?_|refine t_region ?_|refine xt_then ?_|refine tl_nil ?_|refine tl_run tab rfl rfl ?_|fail))
  refine tl_bin (o_mulU rfl rfl (by omega)) rfl ?_
  refine tl_bin (o_addU rfl rfl (by omega)) rfl ?_
  (repeat' (first
    |refine t_seq ?_|refine t_region ?_|refine xt_then ?_|refine tl_nil ?_|refine tl_run tab rfl rfl ?_|fail))
  refine tl_bin (o_mulU rfl rfl (by omega)) rfl ?_
  (repeat' (first
    |refine tl_run tab rfl rfl ?_|fail))
  refine tl_bin (o_addU rfl rfl (by omega)) rfl ?_
  (repeat' (first
    |refine tl_run tab rfl rfl ?_|fail))
  refine tl_bin (o_shr32 rfl rfl) rfl ?_
  refine tl_bin (o_addU rfl rfl (by omega)) rfl ?_
  (repeat' (first
    |refine t_seq ?_|refine t_region ?_|refine xt_then ?_|refine tl_nil ?_|refine tl_run tab rfl rfl ?_|fail))
  refine tl_bin (o_mulU rfl rfl (by omega)) rfl ?_
  (repeat' (first
    |refine xt_then ?_|refine tl_nil ?_|refine t_ret ?_|refine tl_run tab rfl rfl ?_|fail))
  refine xt_ret2S rfl rfl rfl fun _ _ => ?_
  have e6 : (0 : Int) * 0 + 0 / 4294967296 + (0 % 4294967296 + 1 * 0) / 4294967296 = 0 := by omega
  have e7 : 1 * c = c := by omega
  rw [e6, e7]

theorem mul_det (c : Int) (hc : 0 ≤ c ∧ c ≤ 1000000000) : Det Try.prog 83 [.int .u64 1, .int .u64 c] (.tuple #[.int .u64 0, .int .u64 c]) := by
  intro w
  refine calls_S Try.func83 rfl Try.ntmps83 rfl ?_
  (repeat' (first
    |refine t_seq ?_|refine t_region ?_|refine xt_then ?_|refine tl_nil ?_|refine tl_run tab rfl rfl ?_|fail))
  refine t_cond rfl (fun h => by cases h) (fun _ => ?_)
  (repeat' (first
    |refine t_seq ?_|refine t_region ?_|refine xt_then ?_|refine t_skip ?_|refine tl_run tab rfl rfl ?_|fail))
  refine tl_call (o_det (mul64_det c hc) rfl) rfl ?_
  (repeat' (first
    |refine t_seq ?_|refine t_region ?_|refine xt_then ?_|refine tl_nil ?_|refine t_ret ?_|refine tl_run tab rfl rfl ?_|fail))
  exact xt_ret2S rfl rfl rfl fun _ _ => rfl

/-- MakeNoZero: a new block of whatever bytes -/
theorem tl_makeNoZero {r : Option Nat} {Q : Exit → Act → World → Prop} {nt : Nat} {D : List Deferred} {fr : Fr} {w0 : World} {X : List Nat} {L : HL} {ops : Array Oper} {rest : List Oper} {d n : Nat} {ty t : TypeId} {pos : String} {af : Array Edge} {x : Operand} (hx : fev fr x = some (.int .i64 (n : Int))) (hn : n ≤ 281474976710656) (hd : Nat.ble nt d = false)
    (h : ∀ b cap, n ≤ cap → TL Try.prog r ops Q nt D rest ((d, .slice (some ⟨b, 0, none⟩) n cap) :: fr) (St w0 X ((b, pre 5 n []) :: L))) : TL Try.prog r ops Q nt D (⟨some d, .call ⟨.value (.func 84), #[x], #[t]⟩, ty, pos, af, none⟩ :: rest) fr (St w0 X L) := by
  refine tl_op hd rfl (R := fun v' w' => ∃ b cap, v' = .slice (some ⟨b, 0, none⟩) n cap ∧ n ≤ cap ∧ St w0 X ((b, pre 5 n []) :: L) w') (o_of fun ρ w hρ hw => ?_) ?_
  · obtain ⟨cs, hr, hsz, _⟩ := Go.Lib.run_makeNoZero (P := Try.prog) w #[3] 65 5 Try.underlying65 n hn
    have hcall : (callFunc 84 #[.int .i64 (n : Int)]).run Try.prog w = .ok (.value (.slice (some ⟨w.heap.size, 0, none⟩) n cs.size)) (w.drew.drew.alloc (.cells cs 5)) := by
      have := run_callFunc_extern (P := Try.prog) (f := 84) (e := Extern.BytealgMakeNoZero.makeNoZero #[3] #[65]) Try.func84 rfl rfl rfl rfl #[.int .i64 (n : Int)] w
      rw [this, hr]
      rfl
    refine ⟨.slice (some ⟨w.heap.size, 0, none⟩) n cs.size, w.drew.drew.alloc (.cells cs 5), ?_, w.heap.size, cs.size, rfl, hsz, ?_⟩
    · have hfv : ρ (.func 84) = .func (.func 84) #[] #[] := hρ _ _ rfl
      simp [execOp, resolve, hfv, Deferred.ofValue, hρ _ _ hx, invoke, hcall]
    · have h1 : St w0 X L w.drew.drew := (hw.drew _).drew _
      exact h1.alloc (.cells cs 5) ⟨cs, rfl, hsz, List.nil_prefix⟩
  · intro v'
    unfold TL
    rintro a' w' ha ⟨b, cap, rfl, hcap, hs⟩
    have h' := h b cap hcap
    unfold TL at h'
    exact h' a' w' ha hs

theorem repeat_calls (n : Nat) (hn : 1 ≤ n ∧ n ≤ 8192) (w : World) (b0 c0 : Nat) (hb0 : b0 < w.heap.size) (hc0 : w.cell? ⟨b0, 0, none⟩ = some (.int .u8 46)) : Calls Try.prog 65 #[.slice (some ⟨b0, 0, none⟩) 1 c0, .int .i64 (n : Int)] w (Ret w fun v w' => ∃ b o, v = .slice (some ⟨b, 0, none⟩) n n ∧ w.heap.size ≤ b ∧ w'.heap[b]? = some o ∧ pre 5 n (List.replicate n (.int .u8 46)) o) := by
  refine calls_S (vs := [.slice (some ⟨b0, 0, none⟩) 1 c0, .int .i64 (n : Int)]) Try.func65 rfl Try.ntmps65 rfl ?_
  (repeat' (first
    |refine t_seq ?_|refine t_region ?_|refine xt_then ?_|refine tl_nil ?_|refine tl_run tab rfl rfl ?_|fail))
  refine t_cond rfl (fun h => ?_) (fun _ => ?_)
  · simp at h; omega
  (repeat' (first
    |refine t_seq ?_|refine t_region ?_|refine xt_then ?_|refine tl_nil ?_|refine t_skip ?_|refine tl_run tab rfl rfl ?_|fail))
  refine t_cond rfl (fun h => ?_) (fun _ => ?_)
  · simp at h; omega
  (repeat' (first
    |refine t_seq ?_|refine t_region ?_|refine xt_then ?_|refine t_skip ?_|refine tl_run tab rfl rfl ?_|fail))
  refine tl_val (o_convertU (a := 1) rfl (by omega)) rfl rfl ?_
  (repeat' (first
    |refine tl_run tab rfl rfl ?_|fail))
  refine tl_val (o_convertU (a := (n : Int)) rfl (by omega)) rfl rfl ?_
  refine tl_call (o_det (mul_det (n : Int) (by omega)) rfl) rfl ?_
  (repeat' (first
    |refine t_seq ?_|refine t_region ?_|refine xt_then ?_|refine tl_nil ?_|refine tl_run tab rfl rfl ?_|refine tl_guard_yes rfl rfl ?_|refine tl_pick (by first | exact o_pick_t rfl rfl | exact o_pick_f rfl rfl) rfl ?_|fail))
  refine t_cond rfl (fun h => ?_) (fun _ => ?_)
  · simp at h; omega
  (repeat' (first
    |refine t_seq ?_|refine t_region ?_|refine xt_then ?_|refine t_skip ?_|refine tl_run tab rfl rfl ?_|fail))
  refine tl_val (o_convertI (a := (n : Int)) rfl (by omega)) rfl rfl ?_
  (repeat' (first
    |refine t_seq ?_|refine t_region ?_|refine xt_then ?_|refine tl_nil ?_|refine tl_run tab rfl rfl ?_|fail))
  refine t_cond rfl (fun h => ?_) (fun _ => ?_)
  · simp at h
  (repeat' (first
    |refine t_seq ?_|refine t_region ?_|refine xt_then ?_|refine tl_nil ?_|refine t_skip ?_|refine tl_run tab rfl rfl ?_|fail))
  refine t_cond rfl (fun h => ?_) (fun _ => ?_)
  · simp at h; omega
  (repeat' (first
    |refine t_seq ?_|refine t_region ?_|refine xt_then ?_|refine t_skip ?_|refine tl_run tab rfl rfl ?_|fail))
  refine tl_makeNoZero rfl (by omega) rfl fun b cap hcap => ?_
  (repeat' (first
    |refine tl_run tab rfl rfl ?_|fail))
  refine tl_val (o_sliceHM rfl rfl rfl (Nat.le_refl _) hcap) rfl rfl ?_
  (repeat' (first
    |refine t_seq ?_|refine t_region ?_|refine xt_then ?_|refine tl_nil ?_|refine tl_run tab rfl rfl ?_|fail))
  refine tl_call (o_copyP (cs0 := []) (cs := [.int .u8 46]) rfl rfl rfl (by show 1 = min 1 n; omega) (by show 0 + 1 ≤ n; omega) (by simp [Value.oneCell']) ?_) rfl ?_
  · intro w' hw' j v hj
    cases j with
    | succ j => simp at hj
    | zero =>
      simp at hj
      subst hj
      rw [add_mk, hw'.oldCell hb0 (by simp)]
      exact hc0
  (repeat' (first
    |refine t_seq ?_|refine xt_then ?_|refine tl_nil ?_|refine t_block ?_|refine tl_run tab rfl rfl ?_|fail))
  refine t_loopC (α := Nat) (fun k => [(10, .int .i64 (k : Int)), (9, .slice (some ⟨b, 0, none⟩) n n), (8, .int .i64 (n : Int)), (7, .int .i64 (n : Int))]) (fun k => 1 ≤ k ∧ k ≤ n) (fun k => St w [] [(b, pre 5 n (List.replicate k (.int .u8 46)))]) (fun k => n - k) 1 (by omega) ⟨rfl, rfl, rfl, rfl, trivial⟩ (fun _ h => h) fun k hk => ?_
  (repeat' (first
    |refine t_seq ?_|refine t_region ?_|refine xt_then ?_|refine tl_nil ?_|refine tl_run tab rfl rfl ?_|fail))
  refine t_cond rfl (fun h => ?_) (fun h => ?_)
  · simp at h
    (repeat' (first
      |refine t_seq ?_|refine t_region ?_|refine xt_then ?_|refine tl_nil ?_|refine t_block ?_|refine t_skip ?_|refine tl_run tab rfl rfl ?_|fail))
    have em : min (k : Int) (n : Int) = (k : Int) := by omega
    rw [em]
    refine t_drawE 8 7 (Bf := St w [] [(b, pre 5 n (List.replicate k (.int .u8 46)))]) (Af := St w [] [(b, pre 5 n (List.replicate (k + min k (n - k)) (.int .u8 46)))]) (fun _ _ h => h.drew _) ?_ rfl rfl (by kernel_rfl) mixed (by kernel_rfl) rfl
    (repeat' (first
      | refine de_p tab rfl rfl ?_))
    apply de_v rfl
    · intro _ _
      exact o_sliceL rfl rfl (n := k) (by omega) (by omega)
    (repeat' (first
      | refine de_p tab rfl rfl ?_))
    apply de_v rfl
    · intro _ _
      exact o_sliceH rfl rfl (n := k) (by omega)
    (repeat' (first
      | refine de_p tab rfl rfl ?_))
    apply de_e
    · rw [← List.replicate_append_replicate]
      exact o_copyP (cs := List.replicate (min k (n - k)) (.int .u8 46)) rfl rfl (by simp) (by simp) (by simp; omega) (fun v hv => by rw [List.eq_of_mem_replicate hv]; rfl) (fun w' hw' j v hj => by rw [add_mk]; refine pre_cell hw' (List.mem_cons_self ..) ?_; rw [List.getElem?_replicate] at hj ⊢; split at hj <;> rename_i hh <;> simp at hj; rw [if_pos (by omega), hj])
    refine de_tail ?_
    simp only [List.length_replicate]
    refine tl_bin (o_add64 rfl rfl (by omega)) rfl ?_
    (repeat' (first
      |refine tl_nil ?_|refine xt_blk ?_|refine tl_run tab rfl rfl ?_|fail))
    refine xt_roundC (k + min k (n - k)) ⟨?_, rfl, rfl, rfl, trivial⟩ (by omega) (fun _ h => h) (by omega)
    show some _ = some _
    congr
  · simp at h
    (repeat' (first
      |refine t_seq ?_|refine t_region ?_|refine xt_then ?_|refine tl_nil ?_|refine t_ret ?_|refine t_exit ?_|refine xt_blk_exit ?_|refine xt_then_exit ?_|refine xt_round_exit ?_|refine tl_run tab rfl rfl ?_|fail))
    have e : k = n := by omega
    subst e
    refine xt_ret1S rfl rfl fun w' hw' => ?_
    obtain ⟨o, ho, hq⟩ := hw'.here _ (List.mem_cons_self ..)
    refine ⟨b, o, rfl, ?_, ho, hq⟩
    have := hw'.mine _ (List.mem_cons_self ..)
    simpa using this

theorem blank_calls (n : Nat) (hn : 1 ≤ n ∧ n ≤ 8192) (w : World) : Calls Try.prog 37 #[.int .i64 (n : Int)] w (Ret w fun v w' => ∃ b o, v = .slice (some ⟨b, 0, none⟩) n n ∧ w.heap.size ≤ b ∧ w'.heap[b]? = some o ∧ pre 5 n (List.replicate n (.int .u8 46)) o) := by
  refine calls_S (vs := [.int .i64 (n : Int)]) Try.func37 rfl Try.ntmps37 rfl ?_
  (repeat' (first
    |refine t_seq ?_|refine t_region ?_|refine xt_then ?_|refine tl_nil ?_|refine tl_run tab rfl rfl ?_|fail))
  refine tl_buildSlice (e := 5) [.int .u8 46] [.int .u8 46] rfl (fun w => run_bs (t := 65) (P := Try.prog) rfl [.int .u8 46] (by simp [Value.cells]) rfl w) rfl fun b => ?_
  (repeat' (first
    |refine tl_run tab rfl rfl ?_|fail))
  refine tl_ret (fun b => .slice (some ⟨b, 0, none⟩) n n) (fun b => [(b, pre 5 n (List.replicate n (.int .u8 46)))]) (fun w' hw' => repeat_calls n hn w' b 1 (hw'.lt (List.mem_cons_self ..)) (hw'.cell (List.mem_cons_self ..) 0)) rfl (fun w1 v w2 hs he ⟨b, o, hv, hb, hh, hq⟩ => ⟨b, hv, hs.addNew he hb hh hq⟩) rfl fun b2 => ?_
  (repeat' (first
    |refine xt_then ?_|refine tl_nil ?_|refine t_ret ?_|refine tl_run tab rfl rfl ?_|fail))
  refine xt_ret1S rfl rfl fun w' hw' => ?_
  obtain ⟨o, ho, hq⟩ := hw'.here _ (List.mem_cons_self ..)
  refine ⟨b2, o, rfl, ?_, ho, hq⟩
  have := hw'.mine _ (List.mem_cons_self ..)
  simpa using this

end Go.Proofs.Ytbgolbkolcmldaa

/-
  Bytes in strings; strips; pixels blackened.
-/
namespace Go.Proofs.Ytbgolbkolcmldaa
open Go.RowKit
attribute [local irreducible] T TL Xt O Op1 Kt DV ObsB DE

section
variable {P : Program} {fr : Fr} {I : World → Prop} {d : Option Tmp} {ty t t' : TypeId} {pos : String} {af : Array Edge} {g : Option (Nat × Bool)} {x y : Operand}
/-- a call of a function of the model's own that only reads -/
theorem o_ext {f : FuncId} {args : Array Operand} {ts : Array TypeId} {vs : List Value} {u : Value} (hv : fevs fr args.toList = some vs) (hc : ∀ w, (callFunc f vs.toArray).run P w = .ok (.value u) w) : Pv P ⟨d, .call ⟨.value (.func f), args, ts⟩, ty, pos, af, g⟩ fr I u :=
  pv_of fun ρ w hρ hw => by
    have e : args.map ρ = vs.toArray := by
      apply Array.toList_inj.1
      simp [fevs_map hρ _ _ hv]
    have hfv : ρ (.func f) = .func (.func f) #[] #[] := hρ _ _ rfl
    simp [execOp, resolve, hfv, Deferred.ofValue, e, invoke, hc]
end

/-- is there a black pixel at i? -/
def bk (s : ByteArray) (i : Nat) : Bool := s[i]? == some 35

theorem indexByteString_run (s : ByteArray) (w : World) : (callFunc 105 #[.string s, .int .u8 35]).run Try.prog w = .ok (.value (.int .i64 (firstIdx s 35))) w := by
  have := run_callFunc_extern (P := Try.prog) (f := 105) (e := Extern.BytealgIndexByte.indexByte) Try.func105 rfl rfl rfl rfl #[.string s, .int .u8 35] w
  rw [this, run_indexByte_string]
  rfl

theorem index85_det (s : ByteArray) : Det Try.prog 85 [.string s, .int .u8 35] (.int .i64 (firstIdx s 35)) := by
  intro w
  refine calls_S Try.func85 rfl Try.ntmps85 rfl ?_
  (repeat' (first
    |refine t_seq ?_|refine t_region ?_|refine xt_then ?_|refine tl_nil ?_|refine tl_run tab rfl rfl ?_|fail))
  refine tl_call (o_ext (vs := [.string s, .int .u8 35]) rfl (indexByteString_run s)) rfl ?_
  (repeat' (first
    |refine xt_then ?_|refine tl_nil ?_|refine t_ret ?_|refine tl_run tab rfl rfl ?_|fail))
  exact xt_ret1S rfl rfl fun _ _ => rfl

theorem index_det (s : ByteArray) : Det Try.prog 69 [.string s, .int .u8 35] (.int .i64 (firstIdx s 35)) := by
  intro w
  refine calls_S Try.func69 rfl Try.ntmps69 rfl ?_
  (repeat' (first
    |refine t_seq ?_|refine t_region ?_|refine xt_then ?_|refine tl_nil ?_|refine tl_run tab rfl rfl ?_|fail))
  refine tl_call (o_det (index85_det s) rfl) rfl ?_
  (repeat' (first
    |refine xt_then ?_|refine tl_nil ?_|refine t_ret ?_|refine tl_run tab rfl rfl ?_|fail))
  exact xt_ret1S rfl rfl fun _ _ => rfl

/-- the last black one below n, or -1 -/
def lastTo (s : ByteArray) : Nat → Int
  | 0 => -1
  | n + 1 => if bk s n then n else lastTo s n
def lastIdx (s : ByteArray) : Int := lastTo s s.size

theorem u35 {u : UInt8} (h : (u.toNat : Int) = 35) : u = 35 := by
  have : u.toNat = 35 := by omega
  exact UInt8.toNat_inj.1 this

theorem lastTo_spec (s : ByteArray) : ∀ n, (lastTo s n = -1 ∧ ∀ i, i < n → bk s i = false) ∨ ∃ l : Nat, lastTo s n = l ∧ l < n ∧ bk s l = true ∧ ∀ i, l < i → i < n → bk s i = false
  | 0 => .inl ⟨rfl, fun i h => absurd h (Nat.not_lt_zero i)⟩
  | n + 1 => by
    rw [lastTo]
    by_cases h : bk s n = true
    · rw [if_pos h]
      exact .inr ⟨n, rfl, Nat.lt_succ_self _, h, fun i h1 h2 => by omega⟩
    · rw [if_neg h]
      have h' : bk s n = false := by simpa using h
      rcases lastTo_spec s n with ⟨h1, h2⟩ | ⟨l, h1, h2, h3, h4⟩
      · refine .inl ⟨h1, fun i hi => ?_⟩
        by_cases e : i = n
        · rw [e]; exact h'
        · exact h2 i (by omega)
      · refine .inr ⟨l, h1, by omega, h3, fun i hi hn => ?_⟩
        by_cases e : i = n
        · rw [e]; exact h'
        · exact h4 i hi (by omega)

theorem bk_lt {s : ByteArray} {i : Nat} (h : bk s i = true) : i < s.size := by
  simp only [bk, beq_iff_eq] at h
  by_cases hi : i < s.size
  · exact hi
  · rw [getElem?_neg s i (by omega)] at h
    cases h

theorem lastIdx_spec (s : ByteArray) : (lastIdx s = -1 ∧ ∀ i, bk s i = false) ∨ ∃ l : Nat, lastIdx s = l ∧ l < s.size ∧ bk s l = true ∧ ∀ i, l < i → bk s i = false := by
  rcases lastTo_spec s s.size with ⟨h1, h2⟩ | ⟨l, h1, h2, h3, h4⟩
  · refine .inl ⟨h1, fun i => ?_⟩
    rw [Bool.eq_false_iff]
    intro hb
    have := h2 i (bk_lt hb)
    rw [hb] at this
    cases this
  · refine .inr ⟨l, h1, h2, h3, fun i hi => ?_⟩
    rw [Bool.eq_false_iff]
    intro hb
    have := h4 i hi (bk_lt hb)
    rw [hb] at this
    cases this

theorem firstIdx_spec (s : ByteArray) : (firstIdx s 35 = -1 ∧ ∀ i, bk s i = false) ∨ ∃ f : Nat, firstIdx s 35 = f ∧ f < s.size ∧ bk s f = true ∧ ∀ i, i < f → bk s i = false := by
  have key : ∀ i, i < s.size → (s[i]! == 35) = bk s i := fun i hi => by
    rw [bk, getElem?_pos s i hi, getElem!_pos s i hi]
    rfl
  unfold firstIdx
  cases hf : (List.range s.size).find? (fun i => s[i]! == 35) with
  | none =>
    refine .inl ⟨rfl, fun i => ?_⟩
    rw [Bool.eq_false_iff]
    intro hb
    have := List.find?_eq_none.1 hf i (by simpa using bk_lt hb)
    rw [key i (bk_lt hb)] at this
    exact this hb
  | some f =>
    have hm : f < s.size := by simpa using List.mem_of_find?_eq_some hf
    have hp := List.find?_some hf
    refine .inr ⟨f, rfl, hm, by rw [← key f hm]; exact hp, fun i hi => ?_⟩
    obtain ⟨_, us, vs, hab, hno⟩ := List.find?_eq_some_iff_append.1 hf
    have hl : us.length = f := by
      have e1 : (List.range s.size)[us.length]? = some f := by rw [hab]; simp
      rw [List.getElem?_range (by
        by_cases hlt : us.length < s.size
        · exact hlt
        · rw [List.getElem?_eq_none (by simpa using hlt)] at e1; cases e1)] at e1
      exact Option.some.inj e1
    have hi' : i ∈ us := by
      have e1 : (List.range s.size)[i]? = some i := List.getElem?_range (by omega)
      rw [hab, List.getElem?_append_left (by omega)] at e1
      exact List.mem_of_getElem? e1
    have := hno i hi'
    rw [key i (by omega)] at this
    simpa using this

theorem last86_det (s : ByteArray) (hs : s.size ≤ 1000000000) : Det Try.prog 86 [.string s, .int .u8 35] (.int .i64 (lastIdx s)) := by
  intro w
  refine calls_S Try.func86 rfl Try.ntmps86 rfl ?_
  (repeat' (first
    |refine t_seq ?_|refine t_region ?_|refine xt_then ?_|refine tl_nil ?_|refine t_block ?_|refine tl_run tab rfl rfl ?_|refine tl_bin (by first | exact o_add64 rfl rfl (by omega) | exact o_sub64 rfl rfl (by omega) | exact o_mul64 rfl rfl (by first | assumption | omega)) rfl ?_|fail))
  refine t_loopC (α := Nat) (fun k => [(0, .string s), (1, .int .u8 35), (4, .int .i64 0), (5, .int .i64 ((k : Int) - 1))]) (fun k => k ≤ s.size ∧ lastIdx s = lastTo s k) (fun _ => St w [] []) (fun k => k) s.size ⟨Nat.le_refl _, rfl⟩ ⟨rfl, rfl, rfl, rfl, trivial⟩ (fun _ h => h) fun k hk => ?_
  (repeat' (first
    |refine t_seq ?_|refine t_region ?_|refine xt_then ?_|refine tl_nil ?_|refine tl_run tab rfl rfl ?_|fail))
  refine t_cond rfl (fun h => ?_) (fun h => ?_)
  · simp at h
    obtain ⟨m, rfl⟩ : ∃ m, k = m + 1 := ⟨k - 1, by omega⟩
    have e1 : (((m + 1 : Nat) : Int) - 1) = (m : Int) := by omega
    rw [e1]
    obtain ⟨u, hu⟩ : ∃ u, s[m]? = some u := ⟨_, getElem?_pos s m (by omega)⟩
    (repeat' (first
      |refine t_seq ?_|refine t_region ?_|refine xt_then ?_|refine t_block ?_|refine t_skip ?_|refine tl_run tab rfl rfl ?_|fail))
    refine tl_val (o_index rfl rfl (by omega) hu) rfl rfl ?_
    (repeat' (first
      |refine xt_then ?_|refine tl_nil ?_|refine tl_run tab rfl rfl ?_|fail))
    refine t_cond rfl (fun h => ?_) (fun h => ?_)
    · simp at h
      (repeat' (first
        |refine t_seq ?_|refine t_region ?_|refine xt_then ?_|refine tl_nil ?_|refine t_ret ?_|refine xt_then_ret ?_|refine xt_blk_ret ?_|refine xt_round_ret ?_|refine tl_run tab rfl rfl ?_|fail))
      refine xt_ret1S rfl rfl fun _ _ => ?_
      rw [hk.2, lastTo, if_pos (by rw [bk, hu, u35 h]; rfl)]
    · simp at h
      (repeat' (first
        |refine t_region ?_|refine xt_then ?_|refine tl_nil ?_|refine t_skip ?_|refine xt_blk ?_|refine tl_run tab rfl rfl ?_|refine tl_bin (by first | exact o_add64 rfl rfl (by omega) | exact o_sub64 rfl rfl (by omega) | exact o_mul64 rfl rfl (by first | assumption | omega)) rfl ?_|fail))
      refine xt_roundC m ⟨rfl, rfl, rfl, rfl, trivial⟩ ⟨by omega, ?_⟩ (fun _ h => h) (by omega)
      rw [hk.2, lastTo, if_neg]
      rw [bk, hu]
      simp only [beq_iff_eq, Option.some.injEq]
      rintro rfl
      exact h rfl
  · simp at h
    obtain rfl : k = 0 := by omega
    (repeat' (first
      |refine t_seq ?_|refine t_region ?_|refine xt_then ?_|refine tl_nil ?_|refine t_ret ?_|refine t_exit ?_|refine xt_blk_exit ?_|refine xt_then_exit ?_|refine xt_round_exit ?_|refine tl_run tab rfl rfl ?_|fail))
    exact xt_ret1S rfl rfl fun _ _ => by rw [hk.2]; rfl

theorem last_det (s : ByteArray) (hs : s.size ≤ 1000000000) : Det Try.prog 70 [.string s, .int .u8 35] (.int .i64 (lastIdx s)) := by
  intro w
  refine calls_S Try.func70 rfl Try.ntmps70 rfl ?_
  (repeat' (first
    |refine t_seq ?_|refine t_region ?_|refine xt_then ?_|refine tl_nil ?_|refine tl_run tab rfl rfl ?_|fail))
  refine tl_call (o_det (last86_det s hs) rfl) rfl ?_
  (repeat' (first
    |refine xt_then ?_|refine tl_nil ?_|refine t_ret ?_|refine tl_run tab rfl rfl ?_|fail))
  exact xt_ret1S rfl rfl fun _ _ => rfl

/-- a strip, as a value -/
def stripV (x y : Int) (s : ByteArray) : Value := .agg #[.int .i64 x, .int .i64 y, .string s]
/-- from the first black byte up to the last one -/
def trim (s : ByteArray) : ByteArray := s.extract (firstIdx s 35).toNat ((lastIdx s).toNat + 1)
def trimV (x y : Int) (s : ByteArray) : Value := if firstIdx s 35 < 0 then .tuple #[stripV 0 0 ByteArray.empty, .bool false] else .tuple #[stripV (x + firstIdx s 35) y (trim s), .bool true]

theorem build75 (x y : Int) (s : ByteArray) (w : World) : (Instr.build 75 #[(0, .int .i64 x), (1, .int .i64 y), (2, .string s)]).run Try.prog w = .ok (stripV x y s) w := by kernel_rfl
theorem build75z (w : World) : (Instr.build 75 #[]).run Try.prog w = .ok (stripV 0 0 ByteArray.empty) w := by kernel_rfl

theorem trimmed_det (x y : Int) (s : ByteArray) (hs : s.size ≤ 1000000000) (hx : -1000000000000 ≤ x ∧ x ≤ 1000000000000) : Det Try.prog 40 [.int .i64 x, .int .i64 y, .string s] (trimV x y s) := by
  intro w
  refine calls_S Try.func40 rfl Try.ntmps40 rfl ?_
  (repeat' (first
    |refine t_seq ?_|refine t_region ?_|refine xt_then ?_|refine tl_nil ?_|refine tl_run tab rfl rfl ?_|refine tl_alloc rfl (fun _ => ?_)|fail))
  refine tl_call (o_det (index_det s) rfl) rfl ?_
  (repeat' (first
    |refine t_seq ?_|refine t_region ?_|refine xt_then ?_|refine tl_nil ?_|refine tl_run tab rfl rfl ?_|fail))
  refine t_cond rfl (fun h => ?_) (fun h => ?_)
  · have h := of_decide_eq_true h
    (repeat' (first
      |refine t_seq ?_|refine t_region ?_|fail))
    refine tl_val (o_build [] rfl build75z) rfl rfl ?_
    (repeat' (first
      |refine xt_then ?_|refine tl_nil ?_|refine t_ret ?_|refine xt_then_ret ?_|refine tl_run tab rfl rfl ?_|refine tl_store (by first | exact o_storeB 0 rfl rfl rfl rfl rfl | exact o_storeB 1 rfl rfl rfl rfl rfl | exact o_storeB 2 rfl rfl rfl rfl rfl | exact o_storeBA 0 rfl rfl rfl rfl rfl rfl | exact o_storeBA 1 rfl rfl rfl rfl rfl rfl | exact o_storeBA 2 rfl rfl rfl rfl rfl rfl) ?_|fail))
    refine xt_retCT 0 rfl rfl rfl rfl rfl fun _ _ => ?_
    rw [trimV, if_pos h]; rfl
  · have h := of_decide_eq_false h
    have hf : ∃ f : Nat, firstIdx s 35 = f ∧ f < s.size ∧ bk s f = true ∧ ∀ i, i < f → bk s i = false := by
      rcases firstIdx_spec s with h1 | h1
      · omega
      · exact h1
    obtain ⟨f, hf1, hf2, hf3, hf4⟩ := hf
    have hl : ∃ l : Nat, lastIdx s = l ∧ l < s.size ∧ f ≤ l := by
      rcases lastIdx_spec s with h1 | ⟨l, h1, h2, h3, h4⟩
      · rw [h1.2 f] at hf3; cases hf3
      · refine ⟨l, h1, h2, ?_⟩
        by_cases hfl : f ≤ l
        · exact hfl
        · rw [h4 f (by omega)] at hf3; cases hf3
    obtain ⟨l, hl1, hl2, hl3⟩ := hl
    have et : trimV x y s = .tuple #[stripV (x + f) y (s.extract f (l + 1)), .bool true] := by
      rw [trimV, if_neg (by omega), trim, hf1, hl1]; simp
    rw [et, hf1]
    (repeat' (first
      |refine t_seq ?_|refine t_region ?_|refine xt_then ?_|refine t_skip ?_|refine tl_run tab rfl rfl ?_|fail))
    refine tl_call (o_det (last_det s hs) rfl) rfl ?_
    rw [hl1]
    (repeat' (first
      |refine t_seq ?_|refine t_region ?_|refine xt_then ?_|refine tl_nil ?_|refine tl_run tab rfl rfl ?_|refine tl_bin (by first | exact o_add64 rfl rfl (by omega) | exact o_sub64 rfl rfl (by omega) | exact o_mul64 rfl rfl (by first | assumption | omega)) rfl ?_|fail))
    refine tl_val (o_sliceS (i := f) (j := l + 1) rfl rfl rfl (by omega) (by omega)) rfl rfl ?_
    refine tl_val (o_build [.int .i64 (x + f), .int .i64 y, .string (s.extract f (l + 1))] rfl (build75 _ _ _)) rfl rfl ?_
    (repeat' (first
      |refine xt_then ?_|refine tl_nil ?_|refine t_ret ?_|refine tl_run tab rfl rfl ?_|refine tl_store (by first | exact o_storeB 0 rfl rfl rfl rfl rfl | exact o_storeB 1 rfl rfl rfl rfl rfl | exact o_storeB 2 rfl rfl rfl rfl rfl | exact o_storeBA 0 rfl rfl rfl rfl rfl rfl | exact o_storeBA 1 rfl rfl rfl rfl rfl rfl | exact o_storeBA 2 rfl rfl rfl rfl rfl rfl) ?_|fail))
    exact xt_retCT 0 rfl rfl rfl rfl rfl fun _ _ => rfl

end Go.Proofs.Ytbgolbkolcmldaa

/-
  Rows of pixels in memory; calls that write one block of the caller's.
-/
namespace Go.Proofs.Ytbgolbkolcmldaa
open Go.RowKit

variable {P : Program} {r : Option Nat} {Q : Exit → Act → World → Prop} {nt : Nat} {D : List Deferred} {fr : Fr} {I : World → Prop}
variable {w0 : World} {X : List Nat} {L : HL}
variable {d : Option Tmp} {ty t t' : TypeId} {pos : String} {af : Array Edge} {g : Option (Nat × Bool)} {x y : Operand}

def pixV (p : Bool) : Value := .int .u8 (if p then 35 else 46)

/-- n pixels at the head of a block -/
def px (e : TypeId) (n : Nat) (p : Nat → Bool) : Obj → Prop := fun o => ∃ cur : Array Value, o = .cells cur e (0, 0) ∧ n ≤ cur.size ∧ ∀ j, j < n → cur[j]? = some (pixV (p j))

theorem px_blank {e : TypeId} {n : Nat} {o : Obj} (h : pre e n (List.replicate n (.int .u8 46)) o) : px e n (fun _ => false) o := by
  obtain ⟨cur, rfl, hn, s, hs⟩ := h
  refine ⟨cur, rfl, hn, fun j hj => ?_⟩
  rw [← Array.getElem?_toList, ← hs, List.getElem?_append_left (by simpa using hj), List.getElem?_replicate, if_pos hj]
  rfl

theorem px_congr {e : TypeId} {n : Nat} {p q : Nat → Bool} {o : Obj} (h : px e n p o) (hpq : ∀ j, j < n → p j = q j) : px e n q o := by
  obtain ⟨cur, rfl, hn, hc⟩ := h
  exact ⟨cur, rfl, hn, fun j hj => by rw [← hpq j hj]; exact hc j hj⟩

theorem o_storePx (i : Nat) {b k n : Nat} {p : Nat → Bool} {e : TypeId} [CSc P t] (hx : fev fr x = some (.pointer (some ⟨b, k, none⟩))) (hy : fev fr y = some (.int .u8 35)) (hL : L[i]? = some (b, px e n p)) (hk : k < n) :
    O P ⟨d, .store t x y, ty, pos, af, g⟩ fr (St w0 X L) (fun _ w => St w0 X (lput L i (px e n fun j => p j || decide (j = k))) w) :=
  o_ofu fun ρ w hρ hw => by
    obtain ⟨o, ho, cur, rfl, hn, hc⟩ := hw.here _ (List.mem_of_getElem? hL)
    simp only at ho
    refine ⟨w.setCell ⟨b, k, none⟩ (.int .u8 35), ?_, ?_⟩
    · have := run_storeVar_sc (P := P) (t := t) (w := w) (b := b) (k := k) (v := .int .u8 35) rfl (by rw [cell_of ho]; simp; omega) (frozen_of ho)
      simp [execOp, hρ _ _ hx, hρ _ _ hy, Instr.storeAt, Instr.sureAddr, this]
    · refine hw.putAt hL (grownBy_setCell w b k _) (heap_setCell_same ho) ⟨_, rfl, by simpa using hn, fun j hj => ?_⟩
      rw [Array.getElem?_setIfInBounds]
      by_cases h : k = j
      · subst h
        rw [if_pos rfl, if_pos (by omega)]
        simp [pixV]
      · rw [if_neg h, hc j hj]
        have : decide (j = k) = false := by simp; omega
        simp [this]

def rowB (W : Nat) (p : Nat → Bool) : ByteArray := ⟨((List.range W).map fun j => if p j then (35 : UInt8) else 46).toArray⟩

/-- a row of pixels as a string -/
theorem o_convPx {b n cap e by_ : Nat} {p : Nat → Bool} [hs : CSl P t e 1 by_] [he : CInt P e .u8] [hd : CStr P t'] (hx : fev fr x = some (.slice (some ⟨b, 0, none⟩) n cap)) (hL : ∀ w, I w → ∃ o, w.heap[b]? = some o ∧ px e n p o) : Pv P ⟨d, .convert t t' x, ty, pos, af, g⟩ fr I (.string (rowB n p)) :=
  pv_of fun ρ w hρ hw => by
    obtain ⟨o, ho, cur, rfl, hn, hc⟩ := hL w hw
    have := run_convert_bytes_back (P := P) w t t' e ⟨b, 0, none⟩ cap ((List.range n).map fun j => if p j then (35 : UInt8) else 46) hs.under he.under hd.under (fun j hj => by
      have hj' : j < n := by simpa using hj
      rw [add_mk, cell_of ho, Nat.zero_add, hc j hj']
      simp only [List.getElem_map, List.getElem_range, pixV]
      cases p j <;> rfl)
    simp only [List.length_map, List.length_range] at this
    simp [execOp, hρ _ _ hx, this, rowB]

/-- a call that writes one block of the caller's -/
def Wrote (w : World) (b : Nat) (q : Obj → Prop) : Ending → World → Prop := fun e w' => e = .returned (.tuple #[]) ∧ w.grownBy w' (some b) ∧ ∃ o, w'.heap[b]? = some o ∧ q o

theorem calls_W {f : FuncId} {fn : Func} {c : Code} {vs : List Value} {w : World} {R : Ending → World → Prop} {b : Nat} {o : Obj} {q : Obj → Prop} (ho : w.heap[b]? = some o) (hq : q o) (hf : P.funcs[f]? = some fn) (hb : fn.body = some c) (hn : fn.ntmps = nt) (hs : Nat.ble vs.length nt = true)
    (h : T P none c (bodyPost P fn R) nt [] (fargs 0 vs) (St w [b] [(b, q)])) : Calls P f vs.toArray w R :=
  calls_T hf hb hn hs fun a w' ha hw => by
    subst hw
    exact h a _ ha ⟨rfl, rfl, rfl, Nat.le_refl _, fun _ _ _ => rfl, by simpa using ⟨o, ho, hq⟩, by simp, by simp⟩

theorem St.wrote {w w' : World} {b : Nat} {q : Obj → Prop} {L : HL} (h : St w [b] ((b, q) :: L) w') : Wrote w b q (.returned (.tuple #[])) w' :=
  ⟨rfl, ⟨h.os, h.tape, h.output, h.size, fun k hk hne => h.old k hk (by simpa using hne)⟩, h.here _ (List.mem_cons_self ..)⟩

theorem o_wrote (i : Nat) {f : FuncId} {args : Array Operand} {ts : Array TypeId} {vs : List Value} {b : Nat} {q q' : Obj → Prop} [CFn P f] (hv : fevs fr args.toList = some vs) (hL : L[i]? = some (b, q)) (hc : ∀ w o, w.heap[b]? = some o → q o → Calls P f vs.toArray w (Wrote w b q')) :
    O P ⟨d, .call ⟨.value (.func f), args, ts⟩, ty, pos, af, g⟩ fr (St w0 X L) (fun v w => v = .tuple #[] ∧ St w0 X (lput L i q') w) :=
  o_call vs hv fun w hw => by
    obtain ⟨o, ho, hq⟩ := hw.here _ (List.mem_of_getElem? hL)
    exact (hc w o ho hq).mono fun e w' ⟨he, hg, o', ho', hq'⟩ => ⟨_, he, rfl, hw.putAt hL hg ho' hq'⟩

theorem lput_get (q : Obj → Prop) : ∀ (L : HL) (i j : Nat), (lput L i q)[j]? = if j = i then (L[j]?).map fun p => (p.1, q) else L[j]?
  | [], i, j => by cases i <;> simp [lput]
  | p :: L, 0, 0 => by simp [lput]
  | p :: L, 0, j + 1 => by simp [lput]
  | p :: L, i + 1, 0 => by simp [lput]
  | p :: L, i + 1, j + 1 => by
    simp only [lput, List.getElem?_cons_succ]
    rw [lput_get q L i j]
    simp

theorem St.imps {L L' : HL} {w : World} (h : St w0 X L w) (himp : ∀ i : Nat, match L[i]?, L'[i]? with | some p, some q => p.1 = q.1 ∧ ∀ o, p.2 o → q.2 o | none, none => True | _, _ => False) : St w0 X L' w := by
  have hl : L.map (·.1) = L'.map (·.1) := by
    apply List.ext_getElem?
    intro i
    have := himp i
    rw [List.getElem?_map, List.getElem?_map]
    cases h1 : L[i]? <;> cases h2 : L'[i]? <;> simp [h1, h2] at this ⊢
    exact this.1
  have hm : ∀ q ∈ L', ∃ p ∈ L, p.1 = q.1 ∧ ∀ o, p.2 o → q.2 o := by
    intro q hq
    obtain ⟨i, hi⟩ := List.mem_iff_getElem?.1 hq
    have := himp i
    cases h1 : L[i]? with
    | none => simp [h1, hi] at this
    | some p =>
      simp [h1, hi] at this
      exact ⟨p, List.mem_of_getElem? h1, this.1, this.2⟩
  refine ⟨h.os, h.tape, h.output, h.size, h.old, ?_, ?_, ?_⟩
  · intro q hq
    obtain ⟨p, hp, h1, h2⟩ := hm q hq
    obtain ⟨o, ho, hpo⟩ := h.here p hp
    exact ⟨o, by rw [← h1]; exact ho, h2 o hpo⟩
  · intro q hq
    obtain ⟨p, hp, h1, h2⟩ := hm q hq
    rw [← h1]
    exact h.mine p hp
  · rw [← hl]; exact h.apart

end Go.Proofs.Ytbgolbkolcmldaa

/-
  Pixels, blackened.
-/
namespace Go.Proofs.Ytbgolbkolcmldaa
open Go.RowKit
attribute [local irreducible] T TL Xt O Op1 Kt DV ObsB DE

/-- what was black, and what is so in a text that begins at off -/
def ink (p : Nat → Bool) (off : Nat) (s : ByteArray) (k : Nat) (j : Nat) : Bool := p j || (decide (off ≤ j) && decide (j < off + k) && bk s (j - off))

theorem ink_yes {p : Nat → Bool} {off : Nat} {s : ByteArray} {k : Nat} (h : bk s k = true) (j : Nat) : (ink p off s k j || decide (j = off + k)) = ink p off s (k + 1) j := by
  unfold ink
  by_cases hj : j = off + k
  · subst hj
    simp [h]
  · have e1 : decide (j = off + k) = false := by simpa using hj
    have e2 : decide (j < off + (k + 1)) = decide (j < off + k) := by
      rw [decide_eq_decide]; omega
    rw [e1, e2, Bool.or_false]
theorem ink_no {p : Nat → Bool} {off : Nat} {s : ByteArray} {k : Nat} (h : bk s k = false) (j : Nat) : ink p off s k j = ink p off s (k + 1) j := by
  unfold ink
  by_cases hj : j = off + k
  · subst hj
    simp [h]
  · have e2 : decide (j < off + (k + 1)) = decide (j < off + k) := by
      rw [decide_eq_decide]; omega
    rw [e2]

theorem blacken_calls (b off len cap n : Nat) (p : Nat → Bool) (s : ByteArray) (h1 : s.size ≤ cap) (h2 : off + s.size ≤ n) (h3 : n ≤ 1000000000) (w : World) (o : Obj) (ho : w.heap[b]? = some o) (hq : px 5 n p o) :
    Calls Try.prog 71 #[.slice (some ⟨b, off, none⟩) len cap, .string s] w (Wrote w b (px 5 n (ink p off s s.size))) := by
  refine calls_W (vs := [.slice (some ⟨b, off, none⟩) len cap, .string s]) ho hq Try.func71 rfl Try.ntmps71 rfl ?_
  (repeat' (first
    |refine t_seq ?_|refine t_region ?_|refine tl_run tab rfl rfl ?_|fail))
  refine tl_val (o_sliceH (n := s.size) rfl rfl h1) rfl rfl ?_
  (repeat' (first
    |refine t_seq ?_|refine t_region ?_|refine xt_then ?_|refine tl_nil ?_|refine t_block ?_|refine tl_run tab rfl rfl ?_|fail))
  refine t_loopC (α := Nat) (fun k => [(0, .slice (some ⟨b, off, none⟩) s.size cap), (1, .string s), (10, .int .i64 (s.size : Int)), (11, .int .i64 (k : Int))]) (fun k => k ≤ s.size) (fun k => St w [b] [(b, px 5 n (ink p off s k))]) (fun k => s.size - k) 0 (by omega) ⟨rfl, rfl, rfl, rfl, trivial⟩ (fun _ h => h.imp fun o ho => px_congr ho fun j _ => by simp [ink]; omega) fun k hk => ?_
  (repeat' (first
    |refine t_seq ?_|refine t_region ?_|refine xt_then ?_|refine tl_nil ?_|refine tl_run tab rfl rfl ?_|fail))
  refine t_cond rfl (fun h => ?_) (fun h => ?_)
  · simp at h
    obtain ⟨u, hu⟩ : ∃ u, s[k]? = some u := ⟨_, getElem?_pos s k (by omega)⟩
    (repeat' (first
      |refine t_seq ?_|refine t_region ?_|refine xt_then ?_|refine tl_nil ?_|refine t_block ?_|refine t_skip ?_|refine tl_run tab rfl rfl ?_|fail))
    refine tl_val (o_index rfl rfl (by omega) hu) rfl rfl ?_
    (repeat' (first
      |refine xt_then ?_|refine tl_nil ?_|refine tl_run tab rfl rfl ?_|fail))
    refine t_cond rfl (fun h => ?_) (fun h => ?_)
    · simp at h
      (repeat' (first
        |refine t_region ?_|refine tl_run tab rfl rfl ?_|fail))
      refine tl_indexAddr (o_indexAddr rfl rfl (by omega)) rfl ?_
      refine tl_store (o_storePx 0 rfl rfl rfl (by simp; omega)) ?_
      (repeat' (first
        |refine t_region ?_|refine xt_then ?_|refine tl_nil ?_|refine xt_blk ?_|refine tl_run tab rfl rfl ?_|refine tl_bin (by first | exact o_add64 rfl rfl (by omega) | exact o_sub64 rfl rfl (by omega) | exact o_mul64 rfl rfl (by first | assumption | omega)) rfl ?_|fail))
      refine xt_roundC (k + 1) ⟨rfl, rfl, rfl, rfl, trivial⟩ (by omega) (fun _ h' => h'.imp fun o ho => px_congr ho fun j _ => ?_) (by omega)
      have e1 : (off + (k : Int).toNat * 1) = off + k := by omega
      rw [e1]
      exact ink_yes (by rw [bk, hu, u35 h]; rfl) j
    · simp at h
      (repeat' (first
        |refine t_region ?_|refine xt_then ?_|refine tl_nil ?_|refine t_skip ?_|refine xt_blk ?_|refine tl_run tab rfl rfl ?_|refine tl_bin (by first | exact o_add64 rfl rfl (by omega) | exact o_sub64 rfl rfl (by omega) | exact o_mul64 rfl rfl (by first | assumption | omega)) rfl ?_|fail))
      refine xt_roundC (k + 1) ⟨rfl, rfl, rfl, rfl, trivial⟩ (by omega) (fun _ h' => h'.imp fun o ho => px_congr ho fun j _ => ?_) (by omega)
      refine ink_no ?_ j
      rw [bk, hu]
      simp only [beq_eq_false_iff_ne, ne_eq, Option.some.injEq]
      rintro rfl
      exact h rfl
  · simp at h
    obtain rfl : k = s.size := by omega
    (repeat' (first
      |refine t_exit ?_|refine xt_blk_exit ?_|refine xt_then_exit ?_|refine xt_round_exit ?_|fail))
    refine xt_end0 rfl fun w' h' => h'.wrote

end Go.Proofs.Ytbgolbkolcmldaa
