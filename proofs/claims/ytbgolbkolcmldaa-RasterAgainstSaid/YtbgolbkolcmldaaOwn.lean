/-
  Slices of the call's own, at the end of the list of known blocks: literals, one more element, all of another slice.
-/
import Derived.Test.YtbgolbkolcmldaaAuto
namespace Go.Proofs.Ytbgolbkolcmldaa
open Go.RowKit

variable {P : Program} {r : Option Nat} {Q : Exit → Act → World → Prop} {nt : Nat} {D : List Deferred} {fr : Fr} {I : World → Prop}
variable {w0 : World} {X : List Nat} {L : HL} {ops : Array Oper} {rest : List Oper} {d : Nat}
variable {dd : Option Tmp} {ty t t' : TypeId} {pos : String} {af : Array Edge} {g : Option (Nat × Bool)} {x y c : Operand} {u : Value}

def takeF : Nat → HL → Option HL
  | 0, _ => some []
  | _ + 1, [] => none
  | n + 1, p :: r => match takeF n r with
    | some q => some (p :: q)
    | none => none
theorem takeF_eq : ∀ {n : Nat} {L F : HL}, takeF n L = some F → L = F ++ L.drop n
  | 0, L, F, h => by simp [takeF] at h; subst h; rfl
  | n + 1, [], F, h => by simp [takeF] at h
  | n + 1, p :: r, F, h => by
    simp only [takeF] at h
    cases hr : takeF n r with
    | none => rw [hr] at h; cases h
    | some q =>
      rw [hr] at h
      injection h with h
      rw [← h, List.cons_append, List.drop_succ_cons, ← takeF_eq hr]

/-- cells of values, one behind the other -/
def flatF : List Value → Option (List Value)
  | [] => some []
  | v :: r => match cellsO v with
    | none => none
    | some cs => match flatF r with
      | none => none
      | some q => forceL (cs ++ q)
theorem flatF_eq : ∀ {vs cs : List Value}, flatF vs = some cs → vs.flatMap (·.cells.toList) = cs
  | [], cs, h => by simp [flatF] at h; subst h; rfl
  | v :: r, cs, h => by
    simp only [flatF] at h
    cases hv : cellsO v with
    | none => rw [hv] at h; cases h
    | some c1 =>
      rw [hv] at h
      cases hr : flatF r with
      | none => rw [hr] at h; cases h
      | some q =>
        rw [hr] at h
        rw [forceL_eq h, List.flatMap_cons, cellsO_eq hv, flatF_eq hr]
def sizesOk (sz : Nat) : List Value → Bool
  | [] => true
  | v :: r => (match cellsO v with | some cs => Nat.beq cs.length sz | none => false) && sizesOk sz r
theorem sizesOk_eq {sz : Nat} : ∀ {vs : List Value}, sizesOk sz vs = true → ∀ v ∈ vs, v.cells.size = sz
  | [], _, v, h => by simp at h
  | u :: r, h, v, hv => by
    simp only [sizesOk, Bool.and_eq_true] at h
    rcases List.mem_cons.1 hv with rfl | hv
    · cases hc : cellsO v with
      | none => rw [hc] at h; cases h.1
      | some cs =>
        rw [hc] at h
        have := cellsO_eq hc
        simp only [Nat.beq_eq] at h
        rw [← h.1, ← this]; simp
    · exact sizesOk_eq h.2 v hv

theorem run_lit {e sz by_ n : Nat} {parts : List (Nat × Operand)} {vs cs : List Value} [hc : CSl P t e sz by_] (hn : vs.length = n) (hi : parts.map (·.1) = List.range' 0 n) (hz : sizesOk sz vs = true) (hf : flatF vs = some cs) (hsz : Nat.blt 0 sz = true) (h24 : Nat.ble (n * sz) 16777216 = true) (w : World) :
    (Instr.buildSlice t n ((parts.map (·.1)).zip vs).toArray).run P w = .ok (.slice (some ⟨w.heap.size, 0, none⟩) n n) (w.alloc (.cells cs.toArray e)) := by
  subst hn
  rw [hi, run_bs hsz vs (sizesOk_eq hz) h24 w, flatF_eq hf]
theorem s_lit {n : Nat} {parts : Array (Nat × Operand)} (h : TL P r ops Q nt D (⟨some d, .buildSlice t n parts, ty, pos, af, none⟩ :: rest) fr I) : TL P r ops Q nt D (⟨some d, .buildSlice t n parts, ty, pos, af, none⟩ :: rest) fr I := h
/-- a literal of a slice -/
theorem g_lit {e sz by_ n : Nat} {parts : Array (Nat × Operand)} {vs cs : List Value} [hc : CSl P t e sz by_] (h : ∀ b, TL P r ops Q nt D rest ((d, .slice (some ⟨b, 0, none⟩) n n) :: fr) (St w0 X ((b, bx cs e) :: L))) (hv : fevs fr (parts.toList.map (·.2)) = some vs := by rfl) (hn : vs.length = n := by rfl) (hi : parts.toList.map (·.1) = List.range' 0 n := by rfl) (hz : sizesOk sz vs = true := by rfl) (hf : flatF vs = some cs := by rfl) (hsz : Nat.blt 0 sz = true := by rfl) (h24 : Nat.ble (n * sz) 16777216 = true := by rfl) (hd : Nat.ble nt d = false := by rfl) :
    TL P r ops Q nt D (⟨some d, .buildSlice t n parts, ty, pos, af, none⟩ :: rest) fr (St w0 X L) :=
  tl_buildSlice vs cs hv (run_lit hn hi hz hf hsz h24) hd h
section
variable {l : List Oper} {fin : Fr → HL → Prop} {k j : Nat} {s : Sk} {sk : SkL} {acc : Fr} {Hn : HL}
theorem sw_lit {n : Nat} {parts : Array (Nat × Operand)} (h : DW1 P l fr w0 X fin k s ⟨dd, .buildSlice t n parts, ty, pos, af, g⟩ sk acc L Hn) : DW1 P l fr w0 X fin k s ⟨dd, .buildSlice t n parts, ty, pos, af, g⟩ sk acc L Hn := h
theorem o_lit {e sz by_ n : Nat} {parts : Array (Nat × Operand)} {vs cs : List Value} [hc : CSl P t e sz by_] (hv : fevs fr (parts.toList.map (·.2)) = some vs) (hn : vs.length = n) (hi : parts.toList.map (·.1) = List.range' 0 n) (hz : sizesOk sz vs = true) (hf : flatF vs = some cs) (hsz : Nat.blt 0 sz = true) (h24 : Nat.ble (n * sz) 16777216 = true) :
    O P ⟨dd, .buildSlice t n parts, ty, pos, af, g⟩ fr (St w0 X L) (fun v w => ∃ b, v = .slice (some ⟨b, 0, none⟩) n n ∧ St w0 X ((b, bx cs e) :: L) w) :=
  o_of fun ρ w hρ hw => by
    have key : ∀ (l : List (Nat × Operand)) (vs : List Value), fevs fr (l.map (·.2)) = some vs → l.map (fun p => (p.1, ρ p.2)) = (l.map (·.1)).zip vs := by
      intro l
      induction l with
      | nil => intro vs h; simp
      | cons p l ih =>
        intro vs h
        simp only [List.map_cons, fevs] at h
        split at h
        · cases h
        · rename_i v hv
          split at h
          · cases h
          · rename_i vs' hvs
            cases h
            simp [ih _ hvs, hρ _ _ hv]
    have e1 : parts.map (fun p => (p.1, ρ p.2)) = ((parts.toList.map (·.1)).zip vs).toArray := by
      apply Array.toList_inj.1
      simp [key parts.toList vs hv]
    refine ⟨_, _, ?_, w.heap.size, rfl, hw.alloc _ rfl⟩
    simp only [execOp]
    rw [e1]
    have := run_lit (P := P) (t := t) hn hi hz hf hsz h24 w
    simp [this]
/-- a literal within a region that draws its order; it may be turned next -/
theorem w_lit {e sz by_ n : Nat} {parts : Array (Nat × Operand)} {vs cs : List Value} [hc : CSl P t e sz by_] (h : ∀ b, DW P l fr w0 X fin sk ((k, .slice (some ⟨b, 0, none⟩) n n) :: acc) ((b, bx cs e) :: L) Hn) (hv : fevs (frkN l.toArray acc fr af.toList) (parts.toList.map (·.2)) = some vs := by rfl) (hn : vs.length = n := by rfl) (hi : parts.toList.map (·.1) = List.range' 0 n := by rfl) (hz : sizesOk sz vs = true := by rfl) (hf : flatF vs = some cs := by rfl) (hsz : Nat.blt 0 sz = true := by rfl) (h24 : Nat.ble (n * sz) 16777216 = true := by rfl) (hg : GOk ⟨dd, .buildSlice t n parts, ty, pos, af, g⟩ acc := by first | trivial | rfl) :
    DW1 P l fr w0 X fin k .e ⟨dd, .buildSlice t n parts, ty, pos, af, g⟩ sk acc L Hn := by
  rw [frkN_eq] at hv
  exact dw_effN (α := Nat) (fun _ => True) (fun b => .slice (some ⟨b, 0, none⟩) n n) (fun b => [(b, bx cs e)]) (by simp) hg (fun L' => (o_lit hv hn hi hz hf hsz h24).mono fun v w ⟨b, h1, h2⟩ => ⟨b, trivial, h1, h2⟩) fun b _ => h b
end

/-- one more, out of a literal: the slice's own blocks are the last ones known -/
theorem tl_app1 (nf : Nat) {e e1 sz by_ b1 n m c1 : Nat} {v : Value} {xs news : List Value} {Lv F : HL} [hc : CSl P t e sz by_] (hx : fev fr x = some v) (hy : fev fr y = some (.slice (some ⟨b1, 0, none⟩) m c1)) (ho : OwnsV v e sz n xs Lv) (h0 : L[0]? = some (b1, bx news e1)) (hF : takeF nf L.tail = some F) (hLv : L.tail.drop nf = Lv) (hsz : Nat.blt 0 sz = true) (hl : news.length = m * sz) (h1 : news.all (·.oneCell') = true) (hm : Nat.blt 0 m = true) (hd : Nat.ble nt d = false) (h63 : n + m ≤ 9223372036854775807) (hby : (n + m) * by_ ≤ 140737488355328)
    (h : ∀ b cap, TL P r ops Q nt D rest ((d, .slice (some ⟨b, 0, none⟩) (n + m) cap) :: fr) (St w0 X (F ++ [(b, row e sz (n + m) cap (xs ++ news))]))) : TL P r ops Q nt D (⟨some d, .call ⟨.builtin .append, #[x, y], #[t, t]⟩, ty, pos, af, none⟩ :: rest) fr (St w0 X L) := by
  have hL : L = (b1, bx news e1) :: (F ++ Lv) := by
    cases L with
    | nil => simp at h0
    | cons p tl =>
      simp only [List.getElem?_cons_zero, Option.some.injEq] at h0
      simp only [List.tail_cons] at hF hLv
      rw [h0, takeF_eq hF, hLv]
  subst hL
  refine tl_append (L := F) hx hy ho hsz (fun w hw => (hw.sublist (.cons _ (List.Sublist.refl _))).perm List.perm_append_comm) (fun w hw j v hj => by rw [add_mk, hw.cell (List.mem_cons_self ..), Nat.zero_add, hj]) hl (fun u hu => List.all_eq_true.1 h1 u hu) (by simpa [Nat.blt_eq] using hm) (by unfold maxLen; omega) hby hd fun b cap => ?_
  exact tl_imp (fun w hw => hw.perm (List.perm_append_comm (l₁ := [_]))) (h b cap)

theorem tl_app (F : HL) {e e1 sz by_ b1 n m c1 : Nat} {v : Value} {xs news : List Value} {Lv : HL} [hc : CSl P t e sz by_] (hx : fev fr x = some v) (hy : fev fr y = some (.slice (some ⟨b1, 0, none⟩) m c1)) (ho : OwnsV v e sz n xs Lv) (hL : L = (b1, bx news e1) :: (F ++ Lv)) (hsz : Nat.blt 0 sz = true) (hl : news.length = m * sz) (h1 : news.all (·.oneCell') = true) (hm : Nat.blt 0 m = true) (hd : Nat.ble nt d = false) (h63 : n + m ≤ 9223372036854775807) (hby : (n + m) * by_ ≤ 140737488355328)
    (h : ∀ b cap, TL P r ops Q nt D rest ((d, .slice (some ⟨b, 0, none⟩) (n + m) cap) :: fr) (St w0 X (F ++ [(b, row e sz (n + m) cap (xs ++ news))]))) : TL P r ops Q nt D (⟨some d, .call ⟨.builtin .append, #[x, y], #[t, t]⟩, ty, pos, af, none⟩ :: rest) fr (St w0 X L) := by
  subst hL
  refine tl_append (L := F) hx hy ho hsz (fun w hw => (hw.sublist (.cons _ (List.Sublist.refl _))).perm List.perm_append_comm) (fun w hw j v hj => by rw [add_mk, hw.cell (List.mem_cons_self ..), Nat.zero_add, hj]) hl (fun u hu => List.all_eq_true.1 h1 u hu) (by simpa [Nat.blt_eq] using hm) (by unfold maxLen; omega) hby hd fun b cap => ?_
  exact tl_imp (fun w hw => hw.perm (List.perm_append_comm (l₁ := [_]))) (h b cap)
/-- a slice that a callee has made, with its spare room -/
def Own (w w' : World) (v : Value) (e sz n : Nat) (xs : List Value) : Prop := (v = .slice none 0 0 ∧ n = 0 ∧ xs = []) ∨ ∃ b cap o, v = .slice (some ⟨b, 0, none⟩) n cap ∧ w.heap.size ≤ b ∧ w'.heap[b]? = some o ∧ row e sz n cap xs o
theorem OwnsV.own {v : Value} {e sz n : Nat} {xs : List Value} {Lv L' : HL} {w w' : World} (h : OwnsV v e sz n xs Lv) (hs : St w [] L' w') (hm : ∀ p ∈ Lv, p ∈ L') : Own w w' v e sz n xs := by
  rcases h with ⟨rfl, rfl, rfl, rfl⟩ | ⟨b, cap, rfl, rfl⟩
  · exact .inl ⟨rfl, rfl, rfl⟩
  · have hb := hm (b, row e sz n cap xs) (by simp)
    obtain ⟨o, ho, hq⟩ := hs.here _ hb
    have hmine := hs.mine _ hb
    simp at hmine
    exact .inr ⟨b, cap, o, rfl, hmine, ho, hq⟩
theorem Own.owns {w w' : World} {v : Value} {e sz n : Nat} {xs : List Value} (h : Own w w' v e sz n xs) (hs : St w0 X L w) (he : Ext w w') : ∃ Lv, OwnsV v e sz n xs Lv ∧ St w0 X (L ++ Lv) w' := by
  rcases h with ⟨rfl, rfl, rfl⟩ | ⟨b, cap, o, rfl, hb, ho, hq⟩
  · exact ⟨[], OwnsV.nil, by rw [List.append_nil]; exact hs.ext he⟩
  · exact ⟨[(b, row e sz n cap xs)], OwnsV.at_, (hs.addNew he hb ho hq).perm (List.perm_append_comm (l₁ := [_]))⟩
theorem Own.rdI {w w' : World} {v : Value} {e sz n : Nat} {xs : List Value} (h : Own w w' v e sz n xs) : RdI w.heap.size w'.heap.size w' sz v xs := by
  rcases h with ⟨rfl, rfl, rfl⟩ | ⟨b, cap, o, rfl, hb, ho, cur, rfl, h1, h2, h3, h4, h5⟩
  · exact nil_rdI _ _ _ _
  · have hlt := (Array.getElem?_eq_some_iff.1 ho).1
    refine ⟨_, n, cap, rfl, h3, h4, h5, fun _ => ⟨b, 0, rfl, hb, hlt, hlt, fun j u hj => ?_⟩⟩
    rw [Nat.zero_add, cell_of ho]
    rw [← h2, List.getElem?_take] at hj
    split at hj
    · simpa using hj
    · cases hj
/-- a call whose result is a slice of its own -/
theorem tl_callO {f : FuncId} {args : Array Operand} {ts : Array TypeId} {vs : List Value} {e sz n : Nat} {xs : List Value} [CFn P f] (hc : ∀ w, St w0 X L w → Calls P f vs.toArray w (Ret w fun v w' => Own w w' v e sz n xs)) (hv : fevs fr args.toList = some vs) (hd : Nat.ble nt d = false)
    (h : ∀ v Lv, OwnsV v e sz n xs Lv → TL P r ops Q nt D rest ((d, v) :: fr) (St w0 X (L ++ Lv))) : TL P r ops Q nt D (⟨some d, .call ⟨.value (.func f), args, ts⟩, ty, pos, af, none⟩ :: rest) fr (St w0 X L) :=
  tl_op hd rfl (o_ret (Post := fun w v w' => Own w w' v e sz n xs) hv hc) fun v a w' ha hw => by
    obtain ⟨w, hw, he, hpost⟩ := hw
    obtain ⟨Lv, h1, h2⟩ := hpost.owns hw he
    exact h v Lv h1 a w' ha h2
section
variable {l : List Oper} {fin : Fr → HL → Prop} {k j : Nat} {s : Sk} {sk : SkL} {acc : Fr} {Hn : HL}
theorem dw_callO {f : FuncId} {args : Array Operand} {ts : Array TypeId} {vs : List Value} {e sz n : Nat} {xs : List Value} [CFn P f] (hc : ∀ L' w, St w0 X (L ++ L') w → Calls P f vs.toArray w (Ret w fun v w' => Own w w' v e sz n xs)) (hv : fevs (frkN l.toArray acc fr af.toList) args.toList = some vs) (hg : GOk ⟨dd, .call ⟨.value (.func f), args, ts⟩, ty, pos, af, g⟩ acc) (hh : hdF sk = true)
    (h : ∀ v Lv, OwnsV v e sz n xs Lv → DW P l fr w0 X fin sk ((k, v) :: acc) (L ++ Lv) Hn) : DW1 P l fr w0 X fin k .e ⟨dd, .call ⟨.value (.func f), args, ts⟩, ty, pos, af, g⟩ sk acc L Hn := by
  rw [frkN_eq] at hv
  refine dw_eff (α := Value × HL) (fun x => OwnsV x.1 e sz n xs x.2) (fun x => x.1) (fun x => x.2) (fun x => L ++ x.2) hh hg (fun L' => (o_ret (Post := fun w v w' => Own w w' v e sz n xs) hv (hc L')).mono ?_) (fun x _ => List.perm_append_comm) fun x hx => h x.1 x.2 hx
  rintro v w' ⟨w, hw, he, hpost⟩
  obtain ⟨Lv, h1, h2⟩ := hpost.owns hw he
  exact ⟨(v, Lv), h1, rfl, h2.perm (by rw [List.append_assoc, List.append_assoc]; exact List.perm_append_comm.append_left L)⟩
end

theorem o_min3 {k : IntKind} {a b e : Int} {x1 x2 x3 : Operand} {ts : Array TypeId} (h1 : fev fr x1 = some (.int k a)) (h2 : fev fr x2 = some (.int k b)) (h3 : fev fr x3 = some (.int k e)) : Pv P ⟨dd, .call ⟨.builtin .min, #[x1, x2, x3], ts⟩, ty, pos, af, g⟩ fr I (.int k (min (min a b) e)) :=
  o_builtin [.int k a, .int k b, .int k e] (by simp [fevs, h1, h2, h3]) fun w c _ => by
    simp [builtin, Builtin.min_, Builtin.min2]; omega
theorem o_max3 {k : IntKind} {a b e : Int} {x1 x2 x3 : Operand} {ts : Array TypeId} (h1 : fev fr x1 = some (.int k a)) (h2 : fev fr x2 = some (.int k b)) (h3 : fev fr x3 = some (.int k e)) : Pv P ⟨dd, .call ⟨.builtin .max, #[x1, x2, x3], ts⟩, ty, pos, af, g⟩ fr I (.int k (max (max a b) e)) :=
  o_builtin [.int k a, .int k b, .int k e] (by simp [fevs, h1, h2, h3]) fun w c _ => by
    simp [builtin, Builtin.max_, Builtin.max2]; omega
theorem o_min4 {k : IntKind} {a b e f : Int} {x1 x2 x3 x4 : Operand} {ts : Array TypeId} (h1 : fev fr x1 = some (.int k a)) (h2 : fev fr x2 = some (.int k b)) (h3 : fev fr x3 = some (.int k e)) (h4 : fev fr x4 = some (.int k f)) : Pv P ⟨dd, .call ⟨.builtin .min, #[x1, x2, x3, x4], ts⟩, ty, pos, af, g⟩ fr I (.int k (min (min (min a b) e) f)) :=
  o_builtin [.int k a, .int k b, .int k e, .int k f] (by simp [fevs, h1, h2, h3, h4]) fun w c _ => by
    simp [builtin, Builtin.min_, Builtin.min2]; omega

/-- append of nothing -/
theorem run_append_none {e sz by_ : Nat} [hc : CSl P t e sz by_] {A : Option Addr} {n c : Nat} (hn : n ≤ c) {A' : Option Addr} {c' : Nat} (w : World) : (Builtin.append_ #[t, t] ty #[.slice A n c, .slice A' 0 c']).run P w = .ok (.slice A n c) w := by
  have e1 : (Builtin.lenOf (.slice A' 0 c')).run P w = .ok 0 w := by simp [Builtin.lenOf]
  have e2 : (Builtin.firstCells sz 0 (.slice A' 0 c')).run P w = .ok #[] w := by
    cases A' <;> simp [Builtin.firstCells, loadCells, loadCellsFrom]
  simp [Builtin.append_, run_underlying hc.under, run_sizeOf (t := t), e1, e2, hn]
  cases A <;> simp [storeCells]
theorem OwnsV.cap {v : Value} {e sz n : Nat} {xs : List Value} {Lv : HL} {w : World} (h : OwnsV v e sz n xs Lv) (hs : St w0 X (Lv ++ L) w) : ∃ A c, v = .slice A n c ∧ n ≤ c := by
  rcases h with ⟨rfl, rfl, rfl, rfl⟩ | ⟨b, cap, rfl, rfl⟩
  · exact ⟨none, 0, rfl, Nat.le_refl _⟩
  · obtain ⟨o, ho, cur, rfl, h1, h2, h3, h4, h5⟩ := hs.here (b, row e sz n cap xs) (by simp)
    exact ⟨_, _, rfl, h4⟩
/-- append of all of another slice -/
theorem o_appA (L0 : HL) {e sz by_ n m c1 : Nat} {v : Value} {A : Option Addr} {xs news : List Value} {Lv : HL} [hc : CSl P t e sz by_] (hx : fev fr x = some v) (hy : fev fr y = some (.slice A m c1)) (ho : OwnsV v e sz n xs Lv) (hL : ∀ w, I w → St w0 X (Lv ++ L0) w) (hn : 0 < m → ∃ a, A = some a ∧ ∀ w, I w → ∀ j u, news[j]? = some u → w.cell? (a.add j) = some u) (hsz : Nat.blt 0 sz = true) (hl : news.length = m * sz) (h1 : ∀ u ∈ news, u.oneCell' = true) (h63 : n + m ≤ 9223372036854775807) (hby : (n + m) * by_ ≤ 140737488355328) :
    O P ⟨dd, .call ⟨.builtin .append, #[x, y], #[t, t]⟩, ty, pos, af, g⟩ fr I (fun v' w => ∃ Lv', OwnsV v' e sz (n + m) (xs ++ news) Lv' ∧ St w0 X (L0 ++ Lv') w) := by
  have hsz' : 0 < sz := by simpa [Nat.blt_eq] using hsz
  refine o_of fun ρ w hρ hw => ?_
  by_cases hm : m = 0
  · subst hm
    have hnil : news = [] := List.length_eq_zero_iff.1 (by omega)
    subst hnil
    obtain ⟨A1, c, rfl, hle⟩ := ho.cap (hL w hw)
    refine ⟨_, w, ?_, Lv, by simpa using ho, (hL w hw).perm List.perm_append_comm⟩
    simp [execOp, resolve, hρ _ _ hx, hρ _ _ hy, invoke, builtin, run_append_none (P := P) (t := t) (ty := ty) hle]
  · obtain ⟨a, rfl, hcell⟩ := hn (by omega)
    obtain ⟨b, cap, w', hr, hs⟩ := run_append_st (P := P) (t := t) (ty := ty) (c := c1) hsz' ho hl h1 (by omega) (by unfold maxLen; omega) hby (hL w hw) (hcell w hw)
    refine ⟨_, w', ?_, _, OwnsV.at_, hs.perm (List.perm_append_comm (l₁ := [_]))⟩
    simp [execOp, resolve, hρ _ _ hx, hρ _ _ hy, invoke, builtin, hr]
theorem tl_appA (L0 : HL) {e sz by_ n m c1 : Nat} {v : Value} {A : Option Addr} {xs news : List Value} {Lv : HL} [hc : CSl P t e sz by_] (hx : fev fr x = some v) (hy : fev fr y = some (.slice A m c1)) (ho : OwnsV v e sz n xs Lv) (hL : ∀ w, I w → St w0 X (Lv ++ L0) w) (hn : 0 < m → ∃ a, A = some a ∧ ∀ w, I w → ∀ j u, news[j]? = some u → w.cell? (a.add j) = some u) (hsz : Nat.blt 0 sz = true) (hl : news.length = m * sz) (h1 : ∀ u ∈ news, u.oneCell' = true) (h63 : n + m ≤ 9223372036854775807) (hby : (n + m) * by_ ≤ 140737488355328) (hd : Nat.ble nt d = false)
    (h : ∀ v' Lv', OwnsV v' e sz (n + m) (xs ++ news) Lv' → TL P r ops Q nt D rest ((d, v') :: fr) (St w0 X (L0 ++ Lv'))) : TL P r ops Q nt D (⟨some d, .call ⟨.builtin .append, #[x, y], #[t, t]⟩, ty, pos, af, none⟩ :: rest) fr I :=
  tl_op hd rfl (o_appA L0 hx hy ho hL hn hsz hl h1 h63 hby) fun v' a w' ha hw => by
    obtain ⟨Lv', h1, h2⟩ := hw
    exact h v' Lv' h1 a w' ha h2
theorem fle_nil (fr : Fr) : fle [] fr := trivial

end Go.Proofs.Ytbgolbkolcmldaa
