/-
  The rows of pixels that lines cross, one by one, with their crossings.
-/
import Derived.Test.YtbgolbkolcmldaaW15
namespace Go.Proofs.Ytbgolbkolcmldaa
open Go.RowKit
theorem t_perm {P : Program} {r : Option Nat} {Q : Exit → Act → World → Prop} {nt : Nat} {D : List Deferred} {fr : Fr} {w0 : World} {X : List Nat} {L L' : HL} {cd : Code} (hL : ∀ w, St w0 X L w → St w0 X L' w) (h : T P r cd Q nt D fr (St w0 X L')) : T P r cd Q nt D fr (St w0 X L) := fun a w ha hw => h a w ha (hL w hw)
section
variable {P : Program} {nt : Nat} {fr : Fr} {w0 : World} {X : List Nat} {L : HL}
theorem xt_endM0 {fn : Func} {R : Ending → World → Prop} {db : Nat} (hr : fn.results = #[]) (h : ∀ w', St w0 X L w' → R (.returned (.tuple #[])) w') :
    Xt P .normal (bodyPostM Fence.wide 0 P fn R) nt [{ target := .collected db, args := #[] }] fr (St w0 X (L ++ [(db, defO)])) := by
  intro a w' ha hw
  obtain ⟨o, ho, hq⟩ := hw.here (db, defO) (by simp)
  rw [hq] at ho
  have hL : St w0 X L (w'.putObj db (.deferred none)) := (hw.turn (q' := fun _ => True) trivial).sublist (List.sublist_append_left ..)
  show LeavesInM _ _ _ _ _ _ a.defers _ _
  rw [ha.defers]
  refine ⟨by simp, .inl ⟨_, _, rfl, run_takeDeferred ho, ?_⟩⟩
  exact ⟨_, results_none hr _ _ _, h _ hL⟩
end
section
variable {P : Program} {fr : Fr} {w0 : World} {X : List Nat} {L Hn : HL} {l : List Oper} {fin : Fr → HL → Prop} {k : Nat} {sk : SkL} {acc : Fr} {dd : Option Tmp} {ty t : TypeId} {pos : String} {af : Array Edge} {g : Option (Nat × Bool)} {x y : Operand}
theorem bx_put {k : Nat} {xs vs : List Value} {e : TypeId} {cs' : Array Value} (hk : k + vs.length ≤ xs.length) (hs : cs'.size = xs.toArray.size) (hj : ∀ j, cs'[j]? = if k ≤ j ∧ j < k + vs.length ∧ j < xs.toArray.size then vs[j - k]? else xs.toArray[j]?) : bx (putL xs k vs) e (.cells cs' e (0, 0)) := by
  have : cs' = (putL xs k vs).toArray := by
    apply Array.ext'
    apply List.ext_getElem?
    intro j
    rw [Array.getElem?_toList, hj j, putL_get vs xs k j hk]
    by_cases hc : k ≤ j ∧ j < k + vs.length
    · rw [if_pos hc, if_pos ⟨hc.1, hc.2, by simp; omega⟩]
    · rw [if_neg hc, if_neg (by omega)]; simp
  unfold bx
  rw [this]
/-- cells of a block are overwritten -/
theorem o_storeBk (i : Nat) {b k e m : Nat} {xs vs : List Value} [CAg P t m] (hx : fev fr x = some (.pointer (some ⟨b, k, none⟩))) (hy : fev fr y = some (.agg vs.toArray)) (hL : L[i]? = some (b, bx xs e)) (hl : vs.length = m) (h1 : vs.all (·.oneCell') = true) (hk : k + m ≤ xs.length) :
    O P ⟨dd, .store t x y, ty, pos, af, g⟩ fr (St w0 X L) (fun _ w => St w0 X (lput L i (bx (putL xs k vs) e)) w) :=
  o_ofu fun ρ w hρ hw => by
    obtain ⟨o, ho, hr⟩ := hw.here _ (List.mem_of_getElem? hL)
    rw [hr] at ho
    refine ⟨w.setCells b k vs, ?_, ?_⟩
    · have := run_storeVar_ag (P := P) (t := t) (w := w) (b := b) (k := k) hl (fun v hv => List.all_eq_true.1 h1 v hv) (fun j hj => by rw [cell_of ho]; simp; omega) (fun j _ => frozen_of ho)
      simp [execOp, hρ _ _ hx, hρ _ _ hy, Instr.storeAt, Instr.sureAddr, this]
    · obtain ⟨hgr, cs', hh, hs, hj⟩ := setCells_heap b vs k w _ e (0, 0) ho
      exact hw.putAt hL hgr hh (bx_put (by omega) hs hj)
/-- what does not cross is left out -/
theorem tl_delete {w0 : World} {r : Option Nat} {Q : Exit → Act → World → Prop} {nt : Nat} {D : List Deferred} {I : World → Prop} {ops : Array Oper} {rest : List Oper} {d by_ : Nat} {args : Array Operand} {ts : Array TypeId} {L0 Lv : HL} {v : Value} {es : List Edg} {yy : Int} (ho : OwnsV v 83 5 es.length (es.flatMap edCells) Lv) (hes : es.length ≤ 1000000000) (hL : ∀ w, I w → St w0 X (Lv ++ L0) w) (hby : (by_, bx [.int .i64 yy] 2) ∈ L0) (hv : fevs fr args.toList = some [v, .func (.func 62) #[] #[.pointer (some ⟨by_, 0, none⟩)]]) (hd : Nat.ble nt d = false)
    (h : ∀ v' Lv', OwnsV v' 83 5 (keptE yy es).length ((keptE yy es).flatMap edCells) Lv' → TL Try.prog r ops Q nt D rest ((d, v') :: fr) (St w0 X (L0 ++ Lv'))) : TL Try.prog r ops Q nt D (⟨some d, .call ⟨.value (.func 61), args, ts⟩, ty, pos, af, none⟩ :: rest) fr I := by
  refine tl_op hd rfl (R := fun v' w => ∃ Lv', OwnsV v' 83 5 (keptE yy es).length ((keptE yy es).flatMap edCells) Lv' ∧ St w0 X (L0 ++ Lv') w) (o_call _ hv fun w hw => ?_) fun v' a w ha ⟨Lv', h1, h2⟩ => h v' Lv' h1 a w ha h2
  have hs := hL w hw
  rcases ho with ⟨rfl, hn, _, rfl⟩ | ⟨b, cap, rfl, rfl⟩
  · obtain rfl : es = [] := List.length_eq_zero_iff.1 hn
    refine (deleteFunc_nil w _).mono ?_
    rintro e w' ⟨u, rfl, hx, rfl⟩
    exact ⟨_, rfl, [], OwnsV.nil, by rw [List.append_nil]; exact hs.ext hx⟩
  · obtain ⟨o, ho, hq⟩ := hs.here (b, row 83 5 es.length cap (es.flatMap edCells)) (by simp)
    have hcap : es.length ≤ cap := by obtain ⟨cur, _, _, _, _, h4, _⟩ := id hq; exact h4
    have hne : by_ ≠ b := by
      have := hs.apart
      simp only [List.singleton_append, List.map_cons, List.nodup_cons] at this
      rintro rfl
      exact this.1 (List.mem_map.2 ⟨_, hby, rfl⟩)
    refine (deleteFunc_calls es yy by_ b cap w hes hcap hne ⟨hs.lt (p := (by_, bx [.int .i64 yy] 2)) (by simp [hby]), hs.cell (List.mem_cons_of_mem _ hby) 0⟩ o ho hq).mono ?_
    rintro e w' ⟨rfl, hg, o', ho', hq'⟩
    exact ⟨_, rfl, _, OwnsV.at_, (hs.put hg ho' hq').perm (List.perm_append_comm (l₁ := [_]))⟩
theorem xt_beginK {nt : Nat} {D : List Deferred} {l : Nat} {body : Code} {Qb : Exit → Act → World → Prop} {rec : Loop} (ks : List Nat) (L' : HL) {fr0 : Fr} (hk : keep fr ks = some fr0) (h : T P (some l) body Qb nt D fr0 (St w0 X (L' ++ [(l, recO rec .busy)]))) : Xt P .normal (Qbegin P l body Qb) nt D fr (St w0 X (L' ++ [(l, recO rec .ready)])) := xt_begin (t_keep ks hk h)
/-- one more, out of a literal, behind a slice that is hidden -/
theorem dw_appH {e e1 sz by_ n m c1 b1 : Nat} {v : Value} {xs news : List Value} [hc : CSl P t e sz by_] (hx : fev (frkN l.toArray acc fr af.toList) x = some v) (hy : fev (frkN l.toArray acc fr af.toList) y = some (.slice (some ⟨b1, 0, none⟩) m c1)) (ho : OwnsV v e sz n xs Hn) (hsz : Nat.blt 0 sz = true) (hl : news.length = m * sz) (h1 : news.all (·.oneCell') = true) (h63 : n + m ≤ 9223372036854775807) (hby : (n + m) * by_ ≤ 140737488355328) (hh : hdF sk = true) (hg : GOk ⟨dd, .call ⟨.builtin .append, #[x, y], #[t, t]⟩, ty, pos, af, g⟩ acc)
    (h : ∀ v' Lv', OwnsV v' e sz (n + m) (xs ++ news) Lv' → DW P l fr w0 X fin sk ((k, v') :: acc) (Lv' ++ L)) : DW1 P l fr w0 X fin k .h ⟨dd, .call ⟨.builtin .append, #[x, y], #[t, t]⟩, ty, pos, af, g⟩ sk acc ((b1, bx news e1) :: L) Hn := by
  rw [frkN_eq] at hx hy
  refine dw_hdH (α := Value × HL) (fun x => OwnsV x.1 e sz (n + m) (xs ++ news) x.2) (fun x => x.1) (fun x => x.2) hh hg (fun L' => ?_) fun x hx => h x.1 x.2 hx
  refine (o_appA (w0 := w0) (X := X) (L ++ L') hx hy ho (fun w hw => ?_) (fun _ => ⟨_, rfl, fun w hw j u hj => ?_⟩) hsz hl (fun u hu => List.all_eq_true.1 h1 u hu) h63 hby).mono ?_
  · have h2 : St w0 X (L ++ Hn ++ L') w := hw.sublist (.cons _ (List.Sublist.refl _))
    exact h2.perm (by rw [← List.append_assoc]; exact List.perm_append_comm.append_right _)
  · rw [add_mk, hw.cell (List.mem_cons_self ..), Nat.zero_add, hj]
  · rintro v' w ⟨Lv', h2, h3⟩
    exact ⟨(v', Lv'), h2, rfl, h3.perm (by rw [List.append_assoc Lv']; exact List.perm_append_comm)⟩
end
end Go.Proofs.Ytbgolbkolcmldaa
namespace Go.Proofs.Ytbgolbkolcmldaa
open Go.RowKit
attribute [local irreducible] T TL Xt O Op1 Kt DV ObsB DE DW DW1 LoopQ LoopJ

/-- the first row of pixels whose centres are not below y -/
def rowOf (y : Int) : Int := -((32 - y) / 64)
/-- edges that begin to count at a row -/
def begF (first : Int) (i : Nat) (e : Edg) : Bool := decide (rowOf e.2.1 = first + i) && decide (rowOf e.2.1 < rowOf e.2.2.2.1)
def begE (first : Int) (es : List Edg) (i : Nat) : List Edg := es.filter (begF first i)
def rowY (first : Int) (i : Nat) : Int := (first + i) * 64 + 32
/-- the edges that count, ahead of a row -/
def actE (first : Int) (es : List Edg) : Nat → List Edg
  | 0 => []
  | i + 1 => keptE (rowY first i) (actE first es i) ++ begE first es i
def crOf (y : Int) (e : Edg) : Cr := ⟨atN e y, atD e, e.2.2.2.2⟩
noncomputable def rowX (first : Int) (es : List Edg) (i : Nat) : Int × List Cr := (first + i, sortCr ((actE first es (i + 1)).map (crOf (rowY first i))))
noncomputable def rowsX (first : Int) (N : Nat) (es : List Edg) : List (Int × List Cr) := (List.range N).map (rowX first es)

theorem begE_snoc (first : Int) (es : List Edg) (e : Edg) (i : Nat) : begE first (es ++ [e]) i = begE first es i ++ (if begF first i e then [e] else []) := by
  rw [begE, begE, List.filter_append]
  congr 1
  cases h : begF first i e <;> simp [h]
theorem begE_le (first : Int) (es : List Edg) (i : Nat) : (begE first es i).length ≤ es.length := List.length_filter_le ..

/-- blocks of slices, one behind the other -/
def BL (N : Nat) (Lb : Nat → HL) : HL := (List.range N).flatMap Lb
theorem BL_mem {N : Nat} {Lb : Nat → HL} {i : Nat} (hi : i < N) {p : Nat × (Obj → Prop)} (hp : p ∈ Lb i) : p ∈ BL N Lb := List.mem_flatMap.2 ⟨i, List.mem_range.2 hi, hp⟩
theorem flatMap_congr' {α β : Type} {l : List α} {f g : α → List β} (h : ∀ x ∈ l, f x = g x) : l.flatMap f = l.flatMap g := by
  induction l with
  | nil => rfl
  | cons a l ih => rw [List.flatMap_cons, List.flatMap_cons, h a (by simp), ih fun x hx => h x (by simp [hx])]
theorem BL_split {N : Nat} {Lb : Nat → HL} {i : Nat} (hi : i < N) : ∃ Lr, (BL N Lb).Perm (Lb i ++ Lr) ∧ ∀ Li, (BL N fun j => if j = i then Li else Lb j).Perm (Li ++ Lr) := by
  have h1 : List.range N = List.range i ++ i :: List.range' (i + 1) (N - (i + 1)) := by
    rw [List.range_eq_range', List.range_eq_range', ← List.range'_succ, show N - (i + 1) + 1 = N - i by omega]
    have := List.range'_append (s := 0) (m := i) (n := N - i) (step := 1)
    simp only [Nat.zero_add, Nat.one_mul] at this
    rw [this]; congr 1; omega
  refine ⟨(List.range i).flatMap Lb ++ (List.range' (i + 1) (N - (i + 1))).flatMap Lb, ?_, fun Li => ?_⟩
  · unfold BL
    rw [h1, List.flatMap_append, List.flatMap_cons, ← List.append_assoc, ← List.append_assoc]
    exact List.perm_append_comm.append_right _
  · have e1 : (List.range i).flatMap (fun j => if j = i then Li else Lb j) = (List.range i).flatMap Lb := flatMap_congr' fun j hj => by rw [if_neg (by have := List.mem_range.1 hj; omega)]
    have e2 : (List.range' (i + 1) (N - (i + 1))).flatMap (fun j => if j = i then Li else Lb j) = (List.range' (i + 1) (N - (i + 1))).flatMap Lb := flatMap_congr' fun j hj => by
      have := List.mem_range'_1.1 hj
      rw [if_neg (by omega)]
    unfold BL
    rw [h1, List.flatMap_append, List.flatMap_cons, e1, e2, if_pos rfl, ← List.append_assoc, ← List.append_assoc]
    exact List.perm_append_comm.append_right _

/-- ahead of the rows: which edges begin at which row -/
def LB (b7 b5 R bl N : Nat) (first : Int) (A : Option Addr) (n cap : Nat) (bv : Nat → Value) (Lb : Nat → HL) : HL := (b7, bx [.slice (some ⟨R, 0, none⟩) N N] 103) :: (b5, bx [.int .i64 first] 2) :: (R, bx ((List.range N).map bv) 104) :: (bl, bx [.slice A n cap] 22) :: BL N Lb
def OwnsB (N : Nat) (first : Int) (es : List Edg) (bv : Nat → Value) (Lb : Nat → HL) : Prop := ∀ i, i < N → OwnsV (bv i) 83 5 (begE first es i).length ((begE first es i).flatMap edCells) (Lb i)
theorem perm_out {B Lbi Lr Pf T1 T2 : HL} (h : B.Perm (Lbi ++ Lr)) : (Pf ++ (B ++ T1 ++ T2)).Perm ((Pf ++ (Lr ++ T1 ++ T2)) ++ Lbi) := by
  rw [List.append_assoc Pf]
  refine List.Perm.append_left Pf ?_
  rw [List.append_assoc, List.append_assoc Lr]
  refine (h.append_right _).trans ?_
  rw [List.append_assoc]
  exact List.perm_append_comm
theorem OwnsB.snoc {N : Nat} {first : Int} {es : List Edg} {e : Edg} {bv : Nat → Value} {Lb : Nat → HL} (h : OwnsB N first es bv Lb) {i : Nat} {v : Value} {Lv : HL} (hi : begF first i e = true) (hv : OwnsV v 83 5 ((begE first es i).length + 1) ((begE first es i).flatMap edCells ++ edCells e) Lv) : OwnsB N first (es ++ [e]) (fun j => if j = i then v else bv j) (fun j => if j = i then Lv else Lb j) := fun j hj => by
  rw [begE_snoc]
  by_cases hji : j = i
  · subst hji
    simp only [if_true, hi, List.length_append, List.flatMap_append, List.flatMap_cons, List.flatMap_nil, List.append_nil]
    exact hv
  · have : begF first j e = false := by
      simp only [begF, Bool.and_eq_true, decide_eq_true_eq] at hi
      simp only [begF, Bool.and_eq_false_iff, decide_eq_false_iff_not]
      omega
    simp only [if_neg hji, this, Bool.false_eq_true, if_false, List.append_nil]
    exact h j hj
theorem OwnsB.same {N : Nat} {first : Int} {es : List Edg} {e : Edg} {bv : Nat → Value} {Lb : Nat → HL} (h : OwnsB N first es bv Lb) (hi : ∀ i, begF first i e = false) : OwnsB N first (es ++ [e]) bv Lb := fun j hj => by
  rw [begE_snoc, hi j]
  simp only [Bool.false_eq_true, if_false, List.append_nil]
  exact h j hj
theorem map_set {N i : Nat} {bv : Nat → Value} {v : Value} : ((List.range N).map bv).set i v = (List.range N).map (fun j => if j = i then v else bv j) := by
  apply List.ext_getElem?
  intro j
  rw [List.getElem?_set]
  by_cases h : i = j
  · subst h
    by_cases hN : i < N <;> simp [hN]
  · rw [if_neg h]
    by_cases hN : j < N <;> simp [hN]
    intro h'; omega

theorem perm_tl {A B C Pf : HL} : (Pf ++ (A ++ B ++ C)).Perm (A ++ (Pf ++ (B ++ C))) := by
  rw [← List.append_assoc A, List.append_assoc A B C, ← List.append_assoc]
  exact (List.perm_append_comm.append_right _)
theorem actE_le (first : Int) (es : List Edg) : ∀ i, (actE first es i).length ≤ i * es.length
  | 0 => by simp [actE]
  | i + 1 => by
    rw [actE, List.length_append, Nat.add_mul, Nat.one_mul]
    have h1 := actE_le first es i
    have h2 := kept_le (rowY first i) (actE first es i)
    have h3 := begE_le first es i
    omega

theorem cr_len (cs : List Cr) : (cs.flatMap crCells).length = cs.length * 3 := flatMap_len crCells 3 (fun _ => rfl) cs
theorem cr_put {es : List Cr} {k : Nat} {e : Cr} (h : k < es.length) : putL (es.flatMap crCells) (0 + (k : Int).toNat * 3) (crCells e) = (es.set k e).flatMap crCells := by
  rw [Nat.zero_add, Int.toNat_natCast]
  apply List.ext_getElem?
  intro j
  have hle : k * 3 + 3 ≤ es.length * 3 := by omega
  rw [putL_get _ _ _ _ (by rw [cr_len]; simp [crCells]; omega)]
  have hl5 : (crCells e).length = 3 := rfl
  rw [hl5]
  by_cases hj : j < es.length * 3
  · obtain ⟨a, ha⟩ : ∃ a, es[j / 3]? = some a := ⟨_, List.getElem?_eq_getElem (by omega)⟩
    have hr : j % 3 < 3 := Nat.mod_lt _ (by omega)
    have hjq : j / 3 * 3 + j % 3 = j := by omega
    by_cases hc : k * 3 ≤ j ∧ j < k * 3 + 3
    · rw [if_pos hc]
      have hk : j / 3 = k := by omega
      have := flatMap_get crCells 3 (fun _ => rfl) (es.set k e) k (j % 3) e ((crCells e)[j % 3]'(by simpa [crCells] using hr)) (by rw [List.getElem?_set_self h]) (List.getElem?_eq_getElem _)
      rw [← hk, hjq, hk] at this
      rw [this, show j - k * 3 = j % 3 by omega]
      exact List.getElem?_eq_getElem _
    · rw [if_neg hc]
      have h1 := flatMap_get crCells 3 (fun _ => rfl) es (j / 3) (j % 3) a ((crCells a)[j % 3]'(by simpa [crCells] using hr)) ha (List.getElem?_eq_getElem _)
      have h2 := flatMap_get crCells 3 (fun _ => rfl) (es.set k e) (j / 3) (j % 3) a ((crCells a)[j % 3]'(by simpa [crCells] using hr)) (by rw [List.getElem?_set_ne (by omega)]; exact ha) (List.getElem?_eq_getElem _)
      rw [hjq] at h1 h2
      rw [h1, h2]
  · rw [if_neg (by omega), List.getElem?_eq_none (by rw [cr_len]; omega), List.getElem?_eq_none (by rw [cr_len, List.length_set]; omega)]
theorem zeros_eq (n : Nat) : (List.replicate n [Value.int .i64 0, Value.int .i64 0, Value.int .i64 0]).flatten = (List.replicate n (⟨0, 0, 0⟩ : Cr)).flatMap crCells := by
  simp [List.flatMap, crCells]
/-- the first crossings are there -/
def crsT (y : Int) (ac : List Edg) (j : Nat) : List Cr := (ac.map (crOf y)).take j ++ List.replicate (ac.length - j) ⟨0, 0, 0⟩
theorem crsT_len (y : Int) (ac : List Edg) (j : Nat) (h : j ≤ ac.length) : (crsT y ac j).length = ac.length := by
  simp [crsT]; omega
theorem crsT_set (y : Int) (ac : List Edg) (j : Nat) (e : Edg) (h : ac[j]? = some e) : (crsT y ac j).set j (crOf y e) = crsT y ac (j + 1) := by
  have hj := (List.getElem?_eq_some_iff.1 h).1
  unfold crsT
  rw [List.set_append_right _ _ (by rw [List.length_take]; omega), List.take_add_one, List.getElem?_map, h, List.append_assoc]
  congr 1
  rw [List.length_take, List.length_map, Nat.min_eq_left (by omega), Nat.sub_self, show ac.length - j = (ac.length - (j + 1)) + 1 by omega, List.replicate_succ]
  rfl

theorem crsT_all (y : Int) (ac : List Edg) : crsT y ac ac.length = ac.map (crOf y) := by
  unfold crsT
  rw [Nat.sub_self, List.take_of_length_le (by simp)]
  simp
theorem rowsX_succ (first : Int) {N i : Nat} (es : List Edg) (h : i < N) : (rowsX first N es).take (i + 1) = (rowsX first N es).take i ++ [rowX first es i] := by
  rw [List.take_add_one]
  congr 1
  simp [rowsX, h]
theorem perm_back {A B C Pf : HL} : (Pf ++ (A ++ B ++ C)).Perm (Pf ++ (C ++ A ++ B)) := by
  refine List.Perm.append_left Pf ?_
  rw [List.append_assoc C]
  exact List.perm_append_comm

theorem rowOf_bd {y : Int} (h : -268435456 ≤ y ∧ y ≤ 268435456) : -4194305 ≤ rowOf y ∧ rowOf y ≤ 4194305 := by unfold rowOf; omega
theorem rowOf_mono {x y : Int} (h : x ≤ y) : rowOf x ≤ rowOf y := by unfold rowOf; omega

/-- what is yielded: the row, and a slice of its crossings -/
def EncR (B : Nat) (ids : List Nat) (w : World) (x : Int × List Cr) (vs : List Value) : Prop := ∃ b, vs = [.int .i64 x.1, .slice (some ⟨b, 0, none⟩) x.2.length x.2.length] ∧ B ≤ b ∧ b ∉ ids ∧ w.heap[b]? = some (.cells (x.2.flatMap crCells).toArray 108 (0, 0))

theorem beg_cross {first : Int} {i : Nat} {e : Edg} (h : begF first i e = true) : crB (rowY first i) e = true := by
  simp only [begF, Bool.and_eq_true, decide_eq_true_eq] at h
  simp only [crB, rowY, Bool.and_eq_true, decide_eq_true_eq]
  unfold rowOf at h
  refine ⟨decide_eq_true ?_, decide_eq_true ?_⟩ <;> omega
theorem actE_cross {first : Int} {es : List Edg} {i : Nat} {e : Edg} (h : e ∈ actE first es (i + 1)) : crB (rowY first i) e = true := by
  rw [actE, List.mem_append] at h
  rcases h with h | h
  · exact (List.mem_filter.1 h).2
  · exact beg_cross (List.mem_filter.1 h).2
theorem actE_mem {first : Int} {es : List Edg} : ∀ {i : Nat} {e : Edg}, e ∈ actE first es i → e ∈ es
  | 0, e, h => by simp [actE] at h
  | i + 1, e, h => by
    rw [actE, List.mem_append] at h
    rcases h with h | h
    · exact actE_mem (List.mem_filter.1 h).1
    · exact (List.mem_filter.1 h).1
theorem crOf_ok {y : Int} {e : Edg} (hok : EdgeOk e) (hc : crB y e = true) (hd : e.2.2.2.1 - e.2.1 ≤ 65536) : CrOk (crOf y e) := by
  simp only [crB, Bool.and_eq_true, decide_eq_true_eq] at hc
  have hx0 := hok.x0; have hx1 := hok.x1; have hup := hok.up
  refine ⟨⟨by show 0 < atD e ∧ atD e ≤ 65536; unfold atD; omega, ?_⟩, hok.turn⟩
  show -35184372088832 ≤ atN e y ∧ atN e y ≤ 35184372088832
  have a := mul_bd (a := e.1) (b := e.2.2.2.1 - y) (A := 268435456) (B := 65536) hx0 (by omega)
  have b := mul_bd (a := e.2.2.1) (b := y - e.2.1) (A := 268435456) (B := 65536) hx1 (by omega)
  have : atN e y = e.1 * (e.2.2.2.1 - y) + e.2.2.1 * (y - e.2.1) := by
    unfold atN
    simp only [Int.mul_sub, Int.sub_mul]
    omega
  omega

theorem Keeps.st {wd w w' : World} {L : HL} (h : Keeps wd w) (hs : St w [] L w') : Keeps wd w' := ⟨Nat.le_trans h.size hs.size, fun k hk => (hs.old k (Nat.lt_of_lt_of_le hk h.size) (by simp)).trans (h.block k hk)⟩

theorem nils_eq (N : Nat) : ((List.replicate N [Value.slice none 0 0]).flatten) = (List.range N).map fun _ => Value.slice none 0 0 := by
  induction N with
  | zero => rfl
  | succ N ih => rw [List.replicate_succ, List.flatten_cons, ih, List.range_succ_eq_map, List.map_cons, List.map_map]; rfl

set_option maxHeartbeats 4000000 in
theorem rows_iter (wd : World) (b1 b2 b3 : Nat) (low high : Int) (A : Option Addr) (n cap N : Nat) (ls : List Pts) (hL : Lines wd (.slice A n cap) ls) (hl1 : -268435456 ≤ low) (hl2 : low ≤ high) (hl3 : high ≤ 268435456) (hhl : high - low ≤ 65536) (hN : (N : Int) = rowOf high - rowOf low) (hes : (edgesAll ls).length ≤ 100000) (heb : ∀ e ∈ edgesAll ls, low ≤ e.2.1 ∧ e.2.2.2.1 ≤ high) :
    Iter2 Try.prog 59 [.pointer (some ⟨b1, 0, none⟩), .pointer (some ⟨b2, 0, none⟩), .pointer (some ⟨b3, 0, none⟩)] EncR (rowsX (rowOf low) N (edgesAll ls)) (fun w => Keeps wd w ∧ Cl w b1 0 (.int .i64 low) ∧ Cl w b2 0 (.int .i64 high) ∧ Cl w b3 0 (.slice A n cap)) := by
  intro l B J W hB hloc hdata hY h0
  obtain ⟨_, _, hk0, hc1, hc2, hc3⟩ := hdata [] [] W h0
  have hr1 := rowOf_bd (y := low) ⟨hl1, by omega⟩
  have hr2 := rowOf_bd (y := high) ⟨by omega, hl3⟩
  have hr3 := rowOf_mono hl2
  have i1 : CDet Try.prog 60 [.int .i64 low] (.int .i64 (rowOf low)) := ⟨row_det low (by omega)⟩
  have i2 : CDet Try.prog 60 [.int .i64 high] (.int .i64 (rowOf high)) := ⟨row_det high (by omega)⟩
  refine calls_M Try.func59 rfl Try.ntmps59 rfl ?_
  (repeat' (first|refine Za ?_|refine Zb ?_|refine Zc ?_|refine Zd ?_|refine Ze ?_|refine Zf ?_|refine Zg ?_|refine Zh ?_|refine Zi ?_|refine Zj ?_|refine Zk ?_|refine Zl ?_|refine Zm ?_|refine Zn rfl ?_|refine Zo ?_|refine Zp ?_|refine Zq ?_|refine Zr ?_|refine Zs ?_|refine Zt ?_|refine Zu tab rfl rfl ?_|refine Zv rfl rfl ?_|refine Zw rfl rfl rfl rfl ?_|refine Zx rfl rfl rfl ?_|(apply Zy;refine Zz ?_)|(apply Ya;refine Yb ?_)|(apply Yc;refine Yd ?_)|(apply Ye;refine Yf ?_)|(apply Yg; first|refine Yh fun _=>?_|refine Yi (Yj rfl rfl) rfl fun _=>?_)|refine Yk rfl fun _=>?_|(apply Yl;refine Ym ?_)|(apply Yn;refine Yo ?_)|(apply Yp;refine Yq ?_)|(apply Yr;refine Ys ?_)|(apply Yt;refine Yu ?_)|(apply Yv;refine Yw fun _=>?_)|refine Yx rfl ?_|refine Yy rfl ?_|refine Yz rfl ?_|(apply Va; first|refine Vb ?_|refine Vc ?_)|refine Vd tab ?_|refine Ve fun _=>?_|(apply Vf;refine Vg ?_)|(apply Vh;refine Vi ?_)|(apply Vj;refine Vk ?_)|(apply Vl;refine Vm ?_)|(apply Vn;refine Vo ?_)|(apply Vp;refine Vq ?_)|(apply Vr;refine Vs ?_)|(apply Vt;refine Vu ?_)|(apply Vv;refine Vw ?_)|(apply Vx;refine Vy ?_)|(apply Vz;refine Ua fun _=>?_)))
  refine t_drawW 5 [(0, .v), (2, .v), (1, .e), (3, .e), (4, .a)] ?_ rfl (by kernel_rfl) (by kernel_rfl) rfl (by kernel_rfl) mixed (by kernel_rfl) rfl
  (repeat' (first|refine Za ?_|refine Zb ?_|refine Zc ?_|refine Zd ?_|refine Ze ?_|refine Zf ?_|refine Zg ?_|refine Zh ?_|refine Zi ?_|refine Zj ?_|refine Zk ?_|refine Zl ?_|refine Zm ?_|refine Zn rfl ?_|refine Zo ?_|refine Zp ?_|refine Zq ?_|refine Zr ?_|refine Zs ?_|refine Zt ?_|refine Zu tab rfl rfl ?_|refine Zv rfl rfl ?_|refine Zw rfl rfl rfl rfl ?_|refine Zx rfl rfl rfl ?_|(apply Zy;refine Zz ?_)|(apply Ya;refine Yb ?_)|(apply Yc;refine Yd ?_)|(apply Ye;refine Yf ?_)|(apply Yg; first|refine Yh fun _=>?_|refine Yi (Yj rfl rfl) rfl fun _=>?_)|refine Yk rfl fun _=>?_|(apply Yl;refine Ym ?_)|(apply Yn;refine Yo ?_)|(apply Yp;refine Yq ?_)|(apply Yr;refine Ys ?_)|(apply Yt;refine Yu ?_)|(apply Yv;refine Yw fun _=>?_)|refine Yx rfl ?_|refine Yy rfl ?_|refine Yz rfl ?_|(apply Va; first|refine Vb ?_|refine Vc ?_)|refine Vd tab ?_|refine Ve fun _=>?_|(apply Vf;refine Vg ?_)|(apply Vh;refine Vi ?_)|(apply Vj;refine Vk ?_)|(apply Vl;refine Vm ?_)|(apply Vn;refine Vo ?_)|(apply Vp;refine Vq ?_)|(apply Vr;refine Vs ?_)|(apply Vt;refine Vu ?_)|(apply Vv;refine Vw ?_)|(apply Vx;refine Vy ?_)|(apply Vz;refine Ua fun _=>?_)))
  refine dw_end [0, 3, 5, 17, 19] (rest := []) rfl ?_
  (repeat' (first|refine Za ?_|refine Zb ?_|refine Zc ?_|refine Zd ?_|refine Ze ?_|refine Zf ?_|refine Zg ?_|refine Zh ?_|refine Zi ?_|refine Zj ?_|refine Zk ?_|refine Zl ?_|refine Zm ?_|refine Zn rfl ?_|refine Zo ?_|refine Zp ?_|refine Zq ?_|refine Zr ?_|refine Zs ?_|refine Zt ?_|refine Zu tab rfl rfl ?_|refine Zv rfl rfl ?_|refine Zw rfl rfl rfl rfl ?_|refine Zx rfl rfl rfl ?_|(apply Zy;refine Zz ?_)|(apply Ya;refine Yb ?_)|(apply Yc;refine Yd ?_)|(apply Ye;refine Yf ?_)|(apply Yg; first|refine Yh fun _=>?_|refine Yi (Yj rfl rfl) rfl fun _=>?_)|refine Yk rfl fun _=>?_|(apply Yl;refine Ym ?_)|(apply Yn;refine Yo ?_)|(apply Yp;refine Yq ?_)|(apply Yr;refine Ys ?_)|(apply Yt;refine Yu ?_)|(apply Yv;refine Yw fun _=>?_)|refine Yx rfl ?_|refine Yy rfl ?_|refine Yz rfl ?_|(apply Va; first|refine Vb ?_|refine Vc ?_)|refine Vd tab ?_|refine Ve fun _=>?_|(apply Vf;refine Vg ?_)|(apply Vh;refine Vi ?_)|(apply Vj;refine Vk ?_)|(apply Vl;refine Vm ?_)|(apply Vn;refine Vo ?_)|(apply Vp;refine Vq ?_)|(apply Vr;refine Vs ?_)|(apply Vt;refine Vu ?_)|(apply Vv;refine Vw ?_)|(apply Vx;refine Vy ?_)|(apply Vz;refine Ua fun _=>?_)))
  rw [← hN]
  refine tl_make (n := N) rfl rfl rfl (by omega) (by omega) rfl fun R => ?_
  (repeat' (first|refine Za ?_|refine Zb ?_|refine Zc ?_|refine Zd ?_|refine Ze ?_|refine Zf ?_|refine Zg ?_|refine Zh ?_|refine Zi ?_|refine Zj ?_|refine Zk ?_|refine Zl ?_|refine Zm ?_|refine Zn rfl ?_|refine Zo ?_|refine Zp ?_|refine Zq ?_|refine Zr ?_|refine Zs ?_|refine Zt ?_|refine Zu tab rfl rfl ?_|refine Zv rfl rfl ?_|refine Zw rfl rfl rfl rfl ?_|refine Zx rfl rfl rfl ?_|(apply Zy;refine Zz ?_)|(apply Ya;refine Yb ?_)|(apply Yc;refine Yd ?_)|(apply Ye;refine Yf ?_)|(apply Yg; first|refine Yh fun _=>?_|refine Yi (Yj rfl rfl) rfl fun _=>?_)|refine Yk rfl fun _=>?_|(apply Yl;refine Ym ?_)|(apply Yn;refine Yo ?_)|(apply Yp;refine Yq ?_)|(apply Yr;refine Ys ?_)|(apply Yt;refine Yu ?_)|(apply Yv;refine Yw fun _=>?_)|refine Yx rfl ?_|refine Yy rfl ?_|refine Yz rfl ?_|(apply Va; first|refine Vb ?_|refine Vc ?_)|refine Vd tab ?_|refine Ve fun _=>?_|(apply Vf;refine Vg ?_)|(apply Vh;refine Vi ?_)|(apply Vj;refine Vk ?_)|(apply Vl;refine Vm ?_)|(apply Vn;refine Vo ?_)|(apply Vp;refine Vq ?_)|(apply Vr;refine Vs ?_)|(apply Vt;refine Vu ?_)|(apply Vv;refine Vw ?_)|(apply Vx;refine Vy ?_)|(apply Vz;refine Ua fun _=>?_)))
  rename_i b5 b7
  refine tl_ret (fun bl => .func (.func 72) #[] #[.pointer (some ⟨bl, 0, none⟩)]) (fun bl => [(bl, bx [.slice A n cap] 22)]) (fun w _ => edges_calls (.slice A n cap) rfl w) rfl (fun w1 v w2 hs he ⟨bl, hv, hb, hh⟩ => ⟨bl, hv, hs.addNew he hb hh rfl⟩) rfl fun bl => ?_
  (repeat' (first|refine Za ?_|refine Zb ?_|refine Zc ?_|refine Zd ?_|refine Ze ?_|refine Zf ?_|refine Zg ?_|refine Zh ?_|refine Zi ?_|refine Zj ?_|refine Zk ?_|refine Zl ?_|refine Zm ?_|refine Zn rfl ?_|refine Zo ?_|refine Zp ?_|refine Zq ?_|refine Zr ?_|refine Zs ?_|refine Zt ?_|refine Zu tab rfl rfl ?_|refine Zv rfl rfl ?_|refine Zw rfl rfl rfl rfl ?_|refine Zx rfl rfl rfl ?_|(apply Zy;refine Zz ?_)|(apply Ya;refine Yb ?_)|(apply Yc;refine Yd ?_)|(apply Ye;refine Yf ?_)|(apply Yg; first|refine Yh fun _=>?_|refine Yi (Yj rfl rfl) rfl fun _=>?_)|refine Yk rfl fun _=>?_|(apply Yl;refine Ym ?_)|(apply Yn;refine Yo ?_)|(apply Yp;refine Yq ?_)|(apply Yr;refine Ys ?_)|(apply Yt;refine Yu ?_)|(apply Yv;refine Yw fun _=>?_)|refine Yx rfl ?_|refine Yy rfl ?_|refine Yz rfl ?_|(apply Va; first|refine Vb ?_|refine Vc ?_)|refine Vd tab ?_|refine Ve fun _=>?_|(apply Vf;refine Vg ?_)|(apply Vh;refine Vi ?_)|(apply Vj;refine Vk ?_)|(apply Vl;refine Vm ?_)|(apply Vn;refine Vo ?_)|(apply Vp;refine Vq ?_)|(apply Vr;refine Vs ?_)|(apply Vt;refine Vu ?_)|(apply Vv;refine Vw ?_)|(apply Vx;refine Vy ?_)|(apply Vz;refine Ua fun _=>?_)))
  have hN0 := nils_eq N
  refine t_range2 (edges_iter2 wd bl A n cap ls hL) rfl (fun pre L => ∃ bv Lb, OwnsB N (rowOf low) pre bv Lb ∧ L = LB b7 b5 R bl N (rowOf low) A n cap bv Lb) ⟨fun _ => .slice none 0 0, fun _ => [], fun i _ => OwnsV.nil, rfl⟩ (fun w hw => ?_) ?_ ?_ rfl ?_ ?_
  · rw [hN0] at hw
    refine hw.perm ?_
    have : BL N (fun _ => []) = [] := by simp [BL]
    unfold LB
    rw [this]
    refine (List.perm_append_comm).trans ?_
    exact .cons _ (.swap _ _ _)
  · rintro pre L w ⟨bv, Lb, _, rfl⟩ hw
    refine ⟨hk0.st hw, ?_, hw.cell (k := 0) (show (bl, bx [.slice A n cap] 22) ∈ LB b7 b5 R bl N (rowOf low) A n cap bv Lb by simp [LB])⟩
    exact hw.lt (show (bl, bx [.slice A n cap] 22) ∈ LB b7 b5 R bl N (rowOf low) A n cap bv Lb by simp [LB])
  · rintro _ _ _ e vs rfl
    rfl
  · rintro l' db rec pre e L W1 vs B1 ids hpre ⟨bv, Lb, hown, rfl⟩ hst rfl hkB
    have hmem : e ∈ edgesAll ls := hpre.subset (by simp)
    have hok := edgesAll_ok hmem
    have hlen : pre.length + 1 ≤ (edgesAll ls).length := by have := hpre.length_le; simpa using this
    obtain ⟨he1, he2⟩ := heb e hmem
    have hy0 := hok.y0; have hy1 := hok.y1; have hup := hok.up
    have hm1 := rowOf_mono he1
    have hm2 := rowOf_mono he2
    generalize hX : (l' :: (LB b7 b5 R bl N (rowOf low) A n cap bv Lb ++ [(db, defO)]).map (·.1)) = X
    clear hst hkB
    have j1 : CDet Try.prog 60 [.int .i64 e.2.1] (.int .i64 (rowOf e.2.1)) := ⟨row_det e.2.1 (by omega)⟩
    have j2 : CDet Try.prog 60 [.int .i64 e.2.2.2.1] (.int .i64 (rowOf e.2.2.2.1)) := ⟨row_det e.2.2.2.1 (by omega)⟩
    try dsimp only [List.cons_append, List.nil_append, List.map_cons, List.map_nil]
    unfold LB
    (repeat' (first|refine Za ?_|refine Zb ?_|refine Zc ?_|refine Zd ?_|refine Ze ?_|refine Zf ?_|refine Zg ?_|refine Zh ?_|refine Zi ?_|refine Zj ?_|refine Zk ?_|refine Zl ?_|refine Zm ?_|refine Zn rfl ?_|refine Zo ?_|refine Zp ?_|refine Zq ?_|refine Zr ?_|refine Zs ?_|refine Zt ?_|refine Zu tab rfl rfl ?_|refine Zv rfl rfl ?_|refine Zw rfl rfl rfl rfl ?_|refine Zx rfl rfl rfl ?_|(apply Zy;refine Zz ?_)|(apply Ya;refine Yb ?_)|(apply Yc;refine Yd ?_)|(apply Ye;refine Yf ?_)|(apply Yg; first|refine Yh fun _=>?_|refine Yi (Yj rfl rfl) rfl fun _=>?_)|refine Yk rfl fun _=>?_|(apply Yl;refine Ym ?_)|(apply Yn;refine Yo ?_)|(apply Yp;refine Yq ?_)|(apply Yr;refine Ys ?_)|(apply Yt;refine Yu ?_)|(apply Yv;refine Yw fun _=>?_)|refine Yx rfl ?_|refine Yy rfl ?_|refine Yz rfl ?_|(apply Va; first|refine Vb ?_|refine Vc ?_)|refine Vd tab ?_|refine Ve fun _=>?_|(apply Vf;refine Vg ?_)|(apply Vh;refine Vi ?_)|(apply Vj;refine Vk ?_)|(apply Vl;refine Vm ?_)|(apply Vn;refine Vo ?_)|(apply Vp;refine Vq ?_)|(apply Vr;refine Vs ?_)|(apply Vt;refine Vu ?_)|(apply Vv;refine Vw ?_)|(apply Vx;refine Vy ?_)|(apply Vz;refine Ua fun _=>?_)))
    rename_i b8
    refine xt_beginK [5, 7, 8] ((b8, bx [.int .i64 e.1, .int .i64 e.2.1, .int .i64 e.2.2.1, .int .i64 e.2.2.2.1, .int .i64 e.2.2.2.2] 83) :: (b7, bx [.slice (some ⟨R, 0, none⟩) N N] 103) :: (b5, bx [.int .i64 (rowOf low)] 2) :: (R, bx ((List.range N).map bv) 104) :: (bl, bx [.slice A n cap] 22) :: (BL N Lb ++ [(db, defO)])) rfl ?_
    try dsimp only [List.cons_append, List.nil_append, List.map_cons, List.map_nil]
    (repeat' (first|refine Za ?_|refine Zb ?_|refine Zc ?_|refine Zd ?_|refine Ze ?_|refine Zf ?_|refine Zg ?_|refine Zh ?_|refine Zi ?_|refine Zj ?_|refine Zk ?_|refine Zl ?_|refine Zm ?_|refine Zn rfl ?_|refine Zo ?_|refine Zp ?_|refine Zq ?_|refine Zr ?_|refine Zs ?_|refine Zt ?_|refine Zu tab rfl rfl ?_|refine Zv rfl rfl ?_|refine Zw rfl rfl rfl rfl ?_|refine Zx rfl rfl rfl ?_|(apply Zy;refine Zz ?_)|(apply Ya;refine Yb ?_)|(apply Yc;refine Yd ?_)|(apply Ye;refine Yf ?_)|(apply Yg; first|refine Yh fun _=>?_|refine Yi (Yj rfl rfl) rfl fun _=>?_)|refine Yk rfl fun _=>?_|(apply Yl;refine Ym ?_)|(apply Yn;refine Yo ?_)|(apply Yp;refine Yq ?_)|(apply Yr;refine Ys ?_)|(apply Yt;refine Yu ?_)|(apply Yv;refine Yw fun _=>?_)|refine Yx rfl ?_|refine Yy rfl ?_|refine Yz rfl ?_|(apply Va; first|refine Vb ?_|refine Vc ?_)|refine Vd tab ?_|refine Ve fun _=>?_|(apply Vf;refine Vg ?_)|(apply Vh;refine Vi ?_)|(apply Vj;refine Vk ?_)|(apply Vl;refine Vm ?_)|(apply Vn;refine Vo ?_)|(apply Vp;refine Vq ?_)|(apply Vr;refine Vs ?_)|(apply Vt;refine Vu ?_)|(apply Vv;refine Vw ?_)|(apply Vx;refine Vy ?_)|(apply Vz;refine Ua fun _=>?_)))
    refine t_cond rfl (fun h => ?_) (fun h => ?_)
    · have hlt := of_decide_eq_true h
      obtain ⟨i, hi⟩ : ∃ i : Nat, rowOf e.2.1 - rowOf low = i := ⟨(rowOf e.2.1 - rowOf low).toNat, by omega⟩
      have hiN : i < N := by omega
      obtain ⟨Lr, hp1, hp2⟩ := BL_split (Lb := Lb) hiN
      refine t_perm (L' := ((b8, bx [.int .i64 e.1, .int .i64 e.2.1, .int .i64 e.2.2.1, .int .i64 e.2.2.2.1, .int .i64 e.2.2.2.2] 83) :: (b7, bx [.slice (some ⟨R, 0, none⟩) N N] 103) :: (b5, bx [.int .i64 (rowOf low)] 2) :: (R, bx ((List.range N).map bv) 104) :: (bl, bx [.slice A n cap] 22) :: (Lr ++ [(db, defO)] ++ [(l', recO rec .busy)])) ++ Lb i) (fun w hw => hw.perm ?_) ?_
      · exact perm_out (Pf := [_, _, _, _, _]) hp1
      refine t_drawWH 13 [(0, .v), (1, .v), (2, .v), (3, .v), (4, .v), (5, .v), (6, .v), (7, .v), (8, .v), (9, .v), (10, .v), (11, .e), (12, .h)] ?_ rfl (by kernel_rfl) (by kernel_rfl) rfl (by kernel_rfl) mixed (by kernel_rfl) rfl
      (repeat' (first|refine Za ?_|refine Zb ?_|refine Zc ?_|refine Zd ?_|refine Ze ?_|refine Zf ?_|refine Zg ?_|refine Zh ?_|refine Zi ?_|refine Zj ?_|refine Zk ?_|refine Zl ?_|refine Zm ?_|refine Zn rfl ?_|refine Zo ?_|refine Zp ?_|refine Zq ?_|refine Zr ?_|refine Zs ?_|refine Zt ?_|refine Zu tab rfl rfl ?_|refine Zv rfl rfl ?_|refine Zw rfl rfl rfl rfl ?_|refine Zx rfl rfl rfl ?_|(apply Zy;refine Zz ?_)|(apply Ya;refine Yb ?_)|(apply Yc;refine Yd ?_)|(apply Ye;refine Yf ?_)|(apply Yg; first|refine Yh fun _=>?_|refine Yi (Yj rfl rfl) rfl fun _=>?_)|refine Yk rfl fun _=>?_|(apply Yl;refine Ym ?_)|(apply Yn;refine Yo ?_)|(apply Yp;refine Yq ?_)|(apply Yr;refine Ys ?_)|(apply Yt;refine Yu ?_)|(apply Yv;refine Yw fun _=>?_)|refine Yx rfl ?_|refine Yy rfl ?_|refine Yz rfl ?_|(apply Va; first|refine Vb ?_|refine Vc ?_)|refine Vd tab ?_|refine Ve fun _=>?_|(apply Vf;refine Vg ?_)|(apply Vh;refine Vi ?_)|(apply Vj;refine Vk ?_)|(apply Vl;refine Vm ?_)|(apply Vn;refine Vo ?_)|(apply Vp;refine Vq ?_)|(apply Vr;refine Vs ?_)|(apply Vt;refine Vu ?_)|(apply Vv;refine Vw ?_)|(apply Vx;refine Vy ?_)|(apply Vz;refine Ua fun _=>?_)))
      have hv : ((List.range N).map bv)[0 + (rowOf e.2.1 - rowOf low).toNat * 1]? = some (bv i) := by rw [hi]; simp [hiN]
      refine dw_opN rfl rfl (fun _ => o_loadB 3 rfl rfl hv) ?_
      have hbl := begE_le (rowOf low) pre i
      (repeat' (first|refine Za ?_|refine Zb ?_|refine Zc ?_|refine Zd ?_|refine Ze ?_|refine Zf ?_|refine Zg ?_|refine Zh ?_|refine Zi ?_|refine Zj ?_|refine Zk ?_|refine Zl ?_|refine Zm ?_|refine Zn rfl ?_|refine Zo ?_|refine Zp ?_|refine Zq ?_|refine Zr ?_|refine Zs ?_|refine Zt ?_|refine Zu tab rfl rfl ?_|refine Zv rfl rfl ?_|refine Zw rfl rfl rfl rfl ?_|refine Zx rfl rfl rfl ?_|(apply Zy;refine Zz ?_)|(apply Ya;refine Yb ?_)|(apply Yc;refine Yd ?_)|(apply Ye;refine Yf ?_)|(apply Yg; first|refine Yh fun _=>?_|refine Yi (Yj rfl rfl) rfl fun _=>?_)|refine Yk rfl fun _=>?_|(apply Yl;refine Ym ?_)|(apply Yn;refine Yo ?_)|(apply Yp;refine Yq ?_)|(apply Yr;refine Ys ?_)|(apply Yt;refine Yu ?_)|(apply Yv;refine Yw fun _=>?_)|refine Yx rfl ?_|refine Yy rfl ?_|refine Yz rfl ?_|(apply Va; first|refine Vb ?_|refine Vc ?_)|refine Vd tab ?_|refine Ve fun _=>?_|(apply Vf;refine Vg ?_)|(apply Vh;refine Vi ?_)|(apply Vj;refine Vk ?_)|(apply Vl;refine Vm ?_)|(apply Vn;refine Vo ?_)|(apply Vp;refine Vq ?_)|(apply Vr;refine Vs ?_)|(apply Vt;refine Vu ?_)|(apply Vv;refine Vw ?_)|(apply Vx;refine Vy ?_)|(apply Vz;refine Ua fun _=>?_)))
      refine dw_appH rfl rfl (hown i hiN) rfl rfl rfl (by omega) (by omega) rfl trivial fun v' Lv' hv' => ?_
      refine dw_end [5, 7, 35, 38, 47] (rest := []) rfl ?_
      refine tl_imp (fun w hw => hw.perm List.perm_append_comm) ?_
      (repeat' (first|refine Za ?_|refine Zb ?_|refine Zc ?_|refine Zd ?_|refine Ze ?_|refine Zf ?_|refine Zg ?_|refine Zh ?_|refine Zi ?_|refine Zj ?_|refine Zk ?_|refine Zl ?_|refine Zm ?_|refine Zn rfl ?_|refine Zo ?_|refine Zp ?_|refine Zq ?_|refine Zr ?_|refine Zs ?_|refine Zt ?_|refine Zu tab rfl rfl ?_|refine Zv rfl rfl ?_|refine Zw rfl rfl rfl rfl ?_|refine Zx rfl rfl rfl ?_|(apply Zy;refine Zz ?_)|(apply Ya;refine Yb ?_)|(apply Yc;refine Yd ?_)|(apply Ye;refine Yf ?_)|(apply Yg; first|refine Yh fun _=>?_|refine Yi (Yj rfl rfl) rfl fun _=>?_)|refine Yk rfl fun _=>?_|(apply Yl;refine Ym ?_)|(apply Yn;refine Yo ?_)|(apply Yp;refine Yq ?_)|(apply Yr;refine Ys ?_)|(apply Yt;refine Yu ?_)|(apply Yv;refine Yw fun _=>?_)|refine Yx rfl ?_|refine Yy rfl ?_|refine Yz rfl ?_|(apply Va; first|refine Vb ?_|refine Vc ?_)|refine Vd tab ?_|refine Ve fun _=>?_|(apply Vf;refine Vg ?_)|(apply Vh;refine Vi ?_)|(apply Vj;refine Vk ?_)|(apply Vl;refine Vm ?_)|(apply Vn;refine Vo ?_)|(apply Vp;refine Vq ?_)|(apply Vr;refine Vs ?_)|(apply Vt;refine Vu ?_)|(apply Vv;refine Vw ?_)|(apply Vx;refine Vy ?_)|(apply Vz;refine Ua fun _=>?_)))
      refine tl_store (o_storeB 3 rfl rfl rfl (by simp [Nat.blt_eq]; omega) ?_) ?_
      · obtain ⟨A', c', rfl⟩ := hv'.shape
        rfl
      (repeat' (first|refine Za ?_|refine Zb ?_|refine Zc ?_|refine Zd ?_|refine Ze ?_|refine Zf ?_|refine Zg ?_|refine Zh ?_|refine Zi ?_|refine Zj ?_|refine Zk ?_|refine Zl ?_|refine Zm ?_|refine Zn rfl ?_|refine Zo ?_|refine Zp ?_|refine Zq ?_|refine Zr ?_|refine Zs ?_|refine Zt ?_|refine Zu tab rfl rfl ?_|refine Zv rfl rfl ?_|refine Zw rfl rfl rfl rfl ?_|refine Zx rfl rfl rfl ?_|(apply Zy;refine Zz ?_)|(apply Ya;refine Yb ?_)|(apply Yc;refine Yd ?_)|(apply Ye;refine Yf ?_)|(apply Yg; first|refine Yh fun _=>?_|refine Yi (Yj rfl rfl) rfl fun _=>?_)|refine Yk rfl fun _=>?_|(apply Yl;refine Ym ?_)|(apply Yn;refine Yo ?_)|(apply Yp;refine Yq ?_)|(apply Yr;refine Ys ?_)|(apply Yt;refine Yu ?_)|(apply Yv;refine Yw fun _=>?_)|refine Yx rfl ?_|refine Yy rfl ?_|refine Yz rfl ?_|(apply Va; first|refine Vb ?_|refine Vc ?_)|refine Vd tab ?_|refine Ve fun _=>?_|(apply Vf;refine Vg ?_)|(apply Vh;refine Vi ?_)|(apply Vj;refine Vk ?_)|(apply Vl;refine Vm ?_)|(apply Vn;refine Vo ?_)|(apply Vp;refine Vq ?_)|(apply Vr;refine Vs ?_)|(apply Vt;refine Vu ?_)|(apply Vv;refine Vw ?_)|(apply Vx;refine Vy ?_)|(apply Vz;refine Ua fun _=>?_)))
      refine xt_roundEnd2 (LB b7 b5 R bl N (rowOf low) A n cap (fun j => if j = i then v' else bv j) (fun j => if j = i then Lv' else Lb j) ++ [(db, defO)]) ⟨_, rfl, _, _, hown.snoc ?_ hv', rfl⟩ fun w hw => ?_
      · simp only [begF, Bool.and_eq_true, decide_eq_true_eq]
        omega
      · rw [show 0 + (rowOf e.2.1 - rowOf low).toNat * 1 = i by omega, map_set] at hw
        have hw2 : St W1 X ([(b7, bx [.slice (some ⟨R, 0, none⟩) N N] 103), (b5, bx [.int .i64 (rowOf low)] 2), (R, bx ((List.range N).map (fun j => if j = i then v' else bv j)) 104), (bl, bx [.slice A n cap] 22)] ++ (Lr ++ [(db, defO)] ++ [(l', recO rec .busy)]) ++ Lv') w := hw.sublist (.cons _ (List.Sublist.refl _))
        exact hw2.perm (perm_out (Pf := [_, _, _, _]) (hp2 Lv')).symm
    · (repeat' (first|refine Za ?_|refine Zb ?_|refine Zc ?_|refine Zd ?_|refine Ze ?_|refine Zf ?_|refine Zg ?_|refine Zh ?_|refine Zi ?_|refine Zj ?_|refine Zk ?_|refine Zl ?_|refine Zm ?_|refine Zn rfl ?_|refine Zo ?_|refine Zp ?_|refine Zq ?_|refine Zr ?_|refine Zs ?_|refine Zt ?_|refine Zu tab rfl rfl ?_|refine Zv rfl rfl ?_|refine Zw rfl rfl rfl rfl ?_|refine Zx rfl rfl rfl ?_|(apply Zy;refine Zz ?_)|(apply Ya;refine Yb ?_)|(apply Yc;refine Yd ?_)|(apply Ye;refine Yf ?_)|(apply Yg; first|refine Yh fun _=>?_|refine Yi (Yj rfl rfl) rfl fun _=>?_)|refine Yk rfl fun _=>?_|(apply Yl;refine Ym ?_)|(apply Yn;refine Yo ?_)|(apply Yp;refine Yq ?_)|(apply Yr;refine Ys ?_)|(apply Yt;refine Yu ?_)|(apply Yv;refine Yw fun _=>?_)|refine Yx rfl ?_|refine Yy rfl ?_|refine Yz rfl ?_|(apply Va; first|refine Vb ?_|refine Vc ?_)|refine Vd tab ?_|refine Ve fun _=>?_|(apply Vf;refine Vg ?_)|(apply Vh;refine Vi ?_)|(apply Vj;refine Vk ?_)|(apply Vl;refine Vm ?_)|(apply Vn;refine Vo ?_)|(apply Vp;refine Vq ?_)|(apply Vr;refine Vs ?_)|(apply Vt;refine Vu ?_)|(apply Vv;refine Vw ?_)|(apply Vx;refine Vy ?_)|(apply Vz;refine Ua fun _=>?_)))
      refine xt_roundEnd2 (LB b7 b5 R bl N (rowOf low) A n cap bv Lb ++ [(db, defO)]) ⟨_, rfl, bv, Lb, hown.same fun i => ?_, rfl⟩ fun w hw => hw.sublist (.cons _ (List.Sublist.refl _))
      have := of_decide_eq_false h
      simp only [begF, Bool.and_eq_false_iff, decide_eq_false_iff_not]
      exact .inr this
  · rintro db L ⟨bv, Lb, hown, rfl⟩
    try dsimp only [List.cons_append, List.nil_append, List.map_cons, List.map_nil]
    unfold LB
    (repeat' (first|refine Za ?_|refine Zb ?_|refine Zc ?_|refine Zd ?_|refine Ze ?_|refine Zf ?_|refine Zg ?_|refine Zh ?_|refine Zi ?_|refine Zj ?_|refine Zk ?_|refine Zl ?_|refine Zm ?_|refine Zn rfl ?_|refine Zo ?_|refine Zp ?_|refine Zq ?_|refine Zr ?_|refine Zs ?_|refine Zt ?_|refine Zu tab rfl rfl ?_|refine Zv rfl rfl ?_|refine Zw rfl rfl rfl rfl ?_|refine Zx rfl rfl rfl ?_|(apply Zy;refine Zz ?_)|(apply Ya;refine Yb ?_)|(apply Yc;refine Yd ?_)|(apply Ye;refine Yf ?_)|(apply Yg; first|refine Yh fun _=>?_|refine Yi (Yj rfl rfl) rfl fun _=>?_)|refine Yk rfl fun _=>?_|(apply Yl;refine Ym ?_)|(apply Yn;refine Yo ?_)|(apply Yp;refine Yq ?_)|(apply Yr;refine Ys ?_)|(apply Yt;refine Yu ?_)|(apply Yv;refine Yw fun _=>?_)|refine Yx rfl ?_|refine Yy rfl ?_|refine Yz rfl ?_|(apply Va; first|refine Vb ?_|refine Vc ?_)|refine Vd tab ?_|refine Ve fun _=>?_|(apply Vf;refine Vg ?_)|(apply Vh;refine Vi ?_)|(apply Vj;refine Vk ?_)|(apply Vl;refine Vm ?_)|(apply Vn;refine Vo ?_)|(apply Vp;refine Vq ?_)|(apply Vr;refine Vs ?_)|(apply Vt;refine Vu ?_)|(apply Vv;refine Vw ?_)|(apply Vx;refine Vy ?_)|(apply Vz;refine Ua fun _=>?_)))
    refine t_loopJ [0, 5, 6, 7] (α := Nat × Value × HL) (fun x => [(10, x.2.1), (11, .int .i64 (rowOf low + x.1))]) (fun x => x.1 ≤ N ∧ OwnsV x.2.1 83 5 (actE (rowOf low) (edgesAll ls) x.1).length ((actE (rowOf low) (edgesAll ls) x.1).flatMap edCells) x.2.2) (fun x => Hd B (J ((rowsX (rowOf low) N (edgesAll ls)).take x.1)) ((b7, bx [.slice (some ⟨R, 0, none⟩) N N] 103) :: (b5, bx [.int .i64 (rowOf low)] 2) :: (R, bx ((List.range N).map bv) 104) :: (x.2.2 ++ BL N Lb ++ [(db, defO)]))) (fun x => N - x.1) (0, .slice none 0 0, []) rfl ⟨rfl, by simp [flook], trivial⟩ ⟨Nat.zero_le _, OwnsV.nil⟩ (fun w hw => ?_) ?_
    · have hw2 : St W [] ((b7, bx [.slice (some ⟨R, 0, none⟩) N N] 103) :: (b5, bx [.int .i64 (rowOf low)] 2) :: (R, bx ((List.range N).map bv) 104) :: ([] ++ BL N Lb ++ [(db, defO)])) w := hw.sublist (.cons_cons _ (.cons_cons _ (.cons_cons _ (.cons _ (List.Sublist.refl _)))))
      exact St.hd hw2 (by simpa using h0) (hloc _) (by simp) (by omega) (by simp)
    rintro ⟨i, va, Lva⟩ ⟨hi, hva⟩
    simp only at hi hva
    refine t_hd fun w1 ids hJ1 hB1 hX1 => ?_
    dsimp only at hX1 hJ1 ⊢
    generalize hXl : List.map (fun x : Nat × (Obj → Prop) => x.1) ((b7, bx [.slice (some ⟨R, 0, none⟩) N N] 103) :: (b5, bx [.int .i64 (rowOf low)] 2) :: (R, bx ((List.range N).map bv) 104) :: (Lva ++ BL N Lb ++ [(db, defO)])) = Xl at hX1 ⊢
    try dsimp only [List.cons_append, List.nil_append, List.map_cons, List.map_nil]
    obtain ⟨hfp, _, hk1, _⟩ := hdata _ _ _ hJ1
    (repeat' (first|refine Za ?_|refine Zb ?_|refine Zc ?_|refine Zd ?_|refine Ze ?_|refine Zf ?_|refine Zg ?_|refine Zh ?_|refine Zi ?_|refine Zj ?_|refine Zk ?_|refine Zl ?_|refine Zm ?_|refine Zn rfl ?_|refine Zo ?_|refine Zp ?_|refine Zq ?_|refine Zr ?_|refine Zs ?_|refine Zt ?_|refine Zu tab rfl rfl ?_|refine Zv rfl rfl ?_|refine Zw rfl rfl rfl rfl ?_|refine Zx rfl rfl rfl ?_|(apply Zy;refine Zz ?_)|(apply Ya;refine Yb ?_)|(apply Yc;refine Yd ?_)|(apply Ye;refine Yf ?_)|(apply Yg; first|refine Yh fun _=>?_|refine Yi (Yj rfl rfl) rfl fun _=>?_)|refine Yk rfl fun _=>?_|(apply Yl;refine Ym ?_)|(apply Yn;refine Yo ?_)|(apply Yp;refine Yq ?_)|(apply Yr;refine Ys ?_)|(apply Yt;refine Yu ?_)|(apply Yv;refine Yw fun _=>?_)|refine Yx rfl ?_|refine Yy rfl ?_|refine Yz rfl ?_|(apply Va; first|refine Vb ?_|refine Vc ?_)|refine Vd tab ?_|refine Ve fun _=>?_|(apply Vf;refine Vg ?_)|(apply Vh;refine Vi ?_)|(apply Vj;refine Vk ?_)|(apply Vl;refine Vm ?_)|(apply Vn;refine Vo ?_)|(apply Vp;refine Vq ?_)|(apply Vr;refine Vs ?_)|(apply Vt;refine Vu ?_)|(apply Vv;refine Vw ?_)|(apply Vx;refine Vy ?_)|(apply Vz;refine Ua fun _=>?_)))
    refine t_cond rfl (fun h => ?_) (fun h => ?_)
    · have hin : i < N := by have := of_decide_eq_true h; omega
      (repeat' (first|refine Za ?_|refine Zb ?_|refine Zc ?_|refine Zd ?_|refine Ze ?_|refine Zf ?_|refine Zg ?_|refine Zh ?_|refine Zi ?_|refine Zj ?_|refine Zk ?_|refine Zl ?_|refine Zm ?_|refine Zn rfl ?_|refine Zo ?_|refine Zp ?_|refine Zq ?_|refine Zr ?_|refine Zs ?_|refine Zt ?_|refine Zu tab rfl rfl ?_|refine Zv rfl rfl ?_|refine Zw rfl rfl rfl rfl ?_|refine Zx rfl rfl rfl ?_|(apply Zy;refine Zz ?_)|(apply Ya;refine Yb ?_)|(apply Yc;refine Yd ?_)|(apply Ye;refine Yf ?_)|(apply Yg; first|refine Yh fun _=>?_|refine Yi (Yj rfl rfl) rfl fun _=>?_)|refine Yk rfl fun _=>?_|(apply Yl;refine Ym ?_)|(apply Yn;refine Yo ?_)|(apply Yp;refine Yq ?_)|(apply Yr;refine Ys ?_)|(apply Yt;refine Yu ?_)|(apply Yv;refine Yw fun _=>?_)|refine Yx rfl ?_|refine Yy rfl ?_|refine Yz rfl ?_|(apply Va; first|refine Vb ?_|refine Vc ?_)|refine Vd tab ?_|refine Ve fun _=>?_|(apply Vf;refine Vg ?_)|(apply Vh;refine Vi ?_)|(apply Vj;refine Vk ?_)|(apply Vl;refine Vm ?_)|(apply Vn;refine Vo ?_)|(apply Vp;refine Vq ?_)|(apply Vr;refine Vs ?_)|(apply Vt;refine Vu ?_)|(apply Vv;refine Vw ?_)|(apply Vx;refine Vy ?_)|(apply Vz;refine Ua fun _=>?_)))
      rename_i b12
      refine tl_val (o_makeFunc [.pointer (some ⟨b12, 0, none⟩)] rfl) rfl rfl ?_
      have hact : ∀ j, j ≤ N → (actE (rowOf low) (edgesAll ls) j).length ≤ 200000000 := fun j hj => by
        have h1 := actE_le (rowOf low) (edgesAll ls) j
        have h2 : N ≤ 1025 := by unfold rowOf at hN; omega
        have h3 : j * (edgesAll ls).length ≤ 1025 * 100000 := Nat.mul_le_mul (by omega) hes
        omega
      refine tl_delete (L0 := (b12, bx [.int .i64 ((rowOf low + i) * 64 + 32)] 2) :: (b7, bx [.slice (some ⟨R, 0, none⟩) N N] 103) :: (b5, bx [.int .i64 (rowOf low)] 2) :: (R, bx ((List.range N).map bv) 104) :: (BL N Lb ++ [(db, defO)])) hva (by have := hact i hi; omega) (fun w hw => hw.perm (perm_tl (Pf := [_, _, _, _]))) (List.mem_cons_self ..) rfl rfl fun v1 Lv1 hv1 => ?_
      (repeat' (first|refine Za ?_|refine Zb ?_|refine Zc ?_|refine Zd ?_|refine Ze ?_|refine Zf ?_|refine Zg ?_|refine Zh ?_|refine Zi ?_|refine Zj ?_|refine Zk ?_|refine Zl ?_|refine Zm ?_|refine Zn rfl ?_|refine Zo ?_|refine Zp ?_|refine Zq ?_|refine Zr ?_|refine Zs ?_|refine Zt ?_|refine Zu tab rfl rfl ?_|refine Zv rfl rfl ?_|refine Zw rfl rfl rfl rfl ?_|refine Zx rfl rfl rfl ?_|(apply Zy;refine Zz ?_)|(apply Ya;refine Yb ?_)|(apply Yc;refine Yd ?_)|(apply Ye;refine Yf ?_)|(apply Yg; first|refine Yh fun _=>?_|refine Yi (Yj rfl rfl) rfl fun _=>?_)|refine Yk rfl fun _=>?_|(apply Yl;refine Ym ?_)|(apply Yn;refine Yo ?_)|(apply Yp;refine Yq ?_)|(apply Yr;refine Ys ?_)|(apply Yt;refine Yu ?_)|(apply Yv;refine Yw fun _=>?_)|refine Yx rfl ?_|refine Yy rfl ?_|refine Yz rfl ?_|(apply Va; first|refine Vb ?_|refine Vc ?_)|refine Vd tab ?_|refine Ve fun _=>?_|(apply Vf;refine Vg ?_)|(apply Vh;refine Vi ?_)|(apply Vj;refine Vk ?_)|(apply Vl;refine Vm ?_)|(apply Vn;refine Vo ?_)|(apply Vp;refine Vq ?_)|(apply Vr;refine Vs ?_)|(apply Vt;refine Vu ?_)|(apply Vv;refine Vw ?_)|(apply Vx;refine Vy ?_)|(apply Vz;refine Ua fun _=>?_)))
      have hv : ((List.range N).map bv)[0 + (rowOf low + i - rowOf low).toNat * 1]? = some (bv i) := by rw [show rowOf low + (i : Int) - rowOf low = i by omega]; simp [hin]
      refine tl_load (o_loadB 3 rfl rfl hv) rfl ?_
      obtain ⟨Ab, cb, hbv⟩ := (hown i hin).shape
      rw [hbv]
      have hka := kept_le ((rowOf low + i) * 64 + 32) (actE (rowOf low) (edgesAll ls) i)
      have hbl := begE_le (rowOf low) (edgesAll ls) i
      have hai := hact i hi
      refine tl_appA (news := (begE (rowOf low) (edgesAll ls) i).flatMap edCells) ((b12, bx [.int .i64 ((rowOf low + i) * 64 + 32)] 2) :: (b7, bx [.slice (some ⟨R, 0, none⟩) N N] 103) :: (b5, bx [.int .i64 (rowOf low)] 2) :: (R, bx ((List.range N).map bv) 104) :: (BL N Lb ++ [(db, defO)])) rfl rfl hv1 (fun w hw => hw.perm List.perm_append_comm) (fun h0 => ?_) rfl (ed_len _) (fun u hu => ?_) (by omega) (by omega) rfl fun v2 Lv2 hv2 => ?_
      · obtain ⟨a, h1, h2⟩ := (hown i hin).cells hbv h0
        exact ⟨a, h1, fun w hw j u hj => h2 hw (fun p hp => by simp [BL_mem hin hp]) j u hj⟩
      · obtain ⟨e, _, hu⟩ := List.mem_flatMap.1 hu
        simp only [edCells, List.mem_cons, List.not_mem_nil, or_false] at hu
        rcases hu with rfl | rfl | rfl | rfl | rfl <;> rfl
      rw [← List.flatMap_append, ← List.length_append] at hv2
      change OwnsV v2 83 5 (actE (rowOf low) (edgesAll ls) (i + 1)).length ((actE (rowOf low) (edgesAll ls) (i + 1)).flatMap edCells) Lv2 at hv2
      obtain ⟨A2, c2, hs2⟩ := hv2.shape
      have hai2 := hact (i + 1) hin
      rw [hs2]
      have hcr : ∀ e ∈ actE (rowOf low) (edgesAll ls) (i + 1), e ∈ edgesAll ls ∧ crB (rowY (rowOf low) i) e = true := fun e he => ⟨actE_mem he, actE_cross he⟩
      generalize hac : actE (rowOf low) (edgesAll ls) (i + 1) = ac at hv2 hai2 hs2 hcr ⊢
      (repeat' (first|refine Za ?_|refine Zb ?_|refine Zc ?_|refine Zd ?_|refine Ze ?_|refine Zf ?_|refine Zg ?_|refine Zh ?_|refine Zi ?_|refine Zj ?_|refine Zk ?_|refine Zl ?_|refine Zm ?_|refine Zn rfl ?_|refine Zo ?_|refine Zp ?_|refine Zq ?_|refine Zr ?_|refine Zs ?_|refine Zt ?_|refine Zu tab rfl rfl ?_|refine Zv rfl rfl ?_|refine Zw rfl rfl rfl rfl ?_|refine Zx rfl rfl rfl ?_|(apply Zy;refine Zz ?_)|(apply Ya;refine Yb ?_)|(apply Yc;refine Yd ?_)|(apply Ye;refine Yf ?_)|(apply Yg; first|refine Yh fun _=>?_|refine Yi (Yj rfl rfl) rfl fun _=>?_)|refine Yk rfl fun _=>?_|(apply Yl;refine Ym ?_)|(apply Yn;refine Yo ?_)|(apply Yp;refine Yq ?_)|(apply Yr;refine Ys ?_)|(apply Yt;refine Yu ?_)|(apply Yv;refine Yw fun _=>?_)|refine Yx rfl ?_|refine Yy rfl ?_|refine Yz rfl ?_|(apply Va; first|refine Vb ?_|refine Vc ?_)|refine Vd tab ?_|refine Ve fun _=>?_|(apply Vf;refine Vg ?_)|(apply Vh;refine Vi ?_)|(apply Vj;refine Vk ?_)|(apply Vl;refine Vm ?_)|(apply Vn;refine Vo ?_)|(apply Vp;refine Vq ?_)|(apply Vr;refine Vs ?_)|(apply Vt;refine Vu ?_)|(apply Vv;refine Vw ?_)|(apply Vx;refine Vy ?_)|(apply Vz;refine Ua fun _=>?_)))
      refine tl_make (n := ac.length) rfl rfl rfl (by omega) (by omega) rfl fun bc => ?_
      rw [zeros_eq]
      (repeat' (first|refine Za ?_|refine Zb ?_|refine Zc ?_|refine Zd ?_|refine Ze ?_|refine Zf ?_|refine Zg ?_|refine Zh ?_|refine Zi ?_|refine Zj ?_|refine Zk ?_|refine Zl ?_|refine Zm ?_|refine Zn rfl ?_|refine Zo ?_|refine Zp ?_|refine Zq ?_|refine Zr ?_|refine Zs ?_|refine Zt ?_|refine Zu tab rfl rfl ?_|refine Zv rfl rfl ?_|refine Zw rfl rfl rfl rfl ?_|refine Zx rfl rfl rfl ?_|(apply Zy;refine Zz ?_)|(apply Ya;refine Yb ?_)|(apply Yc;refine Yd ?_)|(apply Ye;refine Yf ?_)|(apply Yg; first|refine Yh fun _=>?_|refine Yi (Yj rfl rfl) rfl fun _=>?_)|refine Yk rfl fun _=>?_|(apply Yl;refine Ym ?_)|(apply Yn;refine Yo ?_)|(apply Yp;refine Yq ?_)|(apply Yr;refine Ys ?_)|(apply Yt;refine Yu ?_)|(apply Yv;refine Yw fun _=>?_)|refine Yx rfl ?_|refine Yy rfl ?_|refine Yz rfl ?_|(apply Va; first|refine Vb ?_|refine Vc ?_)|refine Vd tab ?_|refine Ve fun _=>?_|(apply Vf;refine Vg ?_)|(apply Vh;refine Vi ?_)|(apply Vj;refine Vk ?_)|(apply Vl;refine Vm ?_)|(apply Vn;refine Vo ?_)|(apply Vp;refine Vq ?_)|(apply Vr;refine Vs ?_)|(apply Vt;refine Vu ?_)|(apply Vv;refine Vw ?_)|(apply Vx;refine Vy ?_)|(apply Vz;refine Ua fun _=>?_)))
      refine t_loopK [0, 5, 6, 7, 10, 11, 12, 13, 72, 73] (α := Nat) (fun j => [(74, .int .i64 j)]) (fun j => j ≤ ac.length) (fun j => (bc, bx ((crsT (rowY (rowOf low) i) ac j).flatMap crCells) 108) :: (b12, bx [.int .i64 ((rowOf low + i) * 64 + 32)] 2) :: (b7, bx [.slice (some ⟨R, 0, none⟩) N N] 103) :: (b5, bx [.int .i64 (rowOf low)] 2) :: (R, bx ((List.range N).map bv) 104) :: (BL N Lb ++ [(db, defO)] ++ Lv2)) (fun j => ac.length - j) 0 rfl ⟨rfl, trivial⟩ (Nat.zero_le _) (fun _ h => h) ?_
      intro j hj
      try dsimp only [List.cons_append, List.nil_append, List.map_cons, List.map_nil]
      (repeat' (first|refine Za ?_|refine Zb ?_|refine Zc ?_|refine Zd ?_|refine Ze ?_|refine Zf ?_|refine Zg ?_|refine Zh ?_|refine Zi ?_|refine Zj ?_|refine Zk ?_|refine Zl ?_|refine Zm ?_|refine Zn rfl ?_|refine Zo ?_|refine Zp ?_|refine Zq ?_|refine Zr ?_|refine Zs ?_|refine Zt ?_|refine Zu tab rfl rfl ?_|refine Zv rfl rfl ?_|refine Zw rfl rfl rfl rfl ?_|refine Zx rfl rfl rfl ?_|(apply Zy;refine Zz ?_)|(apply Ya;refine Yb ?_)|(apply Yc;refine Yd ?_)|(apply Ye;refine Yf ?_)|(apply Yg; first|refine Yh fun _=>?_|refine Yi (Yj rfl rfl) rfl fun _=>?_)|refine Yk rfl fun _=>?_|(apply Yl;refine Ym ?_)|(apply Yn;refine Yo ?_)|(apply Yp;refine Yq ?_)|(apply Yr;refine Ys ?_)|(apply Yt;refine Yu ?_)|(apply Yv;refine Yw fun _=>?_)|refine Yx rfl ?_|refine Yy rfl ?_|refine Yz rfl ?_|(apply Va; first|refine Vb ?_|refine Vc ?_)|refine Vd tab ?_|refine Ve fun _=>?_|(apply Vf;refine Vg ?_)|(apply Vh;refine Vi ?_)|(apply Vj;refine Vk ?_)|(apply Vl;refine Vm ?_)|(apply Vn;refine Vo ?_)|(apply Vp;refine Vq ?_)|(apply Vr;refine Vs ?_)|(apply Vt;refine Vu ?_)|(apply Vv;refine Vw ?_)|(apply Vx;refine Vy ?_)|(apply Vz;refine Ua fun _=>?_)))
      refine t_cond rfl (fun h => ?_) (fun h => ?_)
      · have hlt : j < ac.length := by have := of_decide_eq_true h; omega
        obtain ⟨e, he⟩ : ∃ e, ac[j]? = some e := ⟨_, List.getElem?_eq_getElem hlt⟩
        obtain ⟨hem, hec⟩ := hcr e (List.mem_of_getElem? he)
        obtain ⟨a, hA, hcells⟩ := hv2.cells hs2 (by omega)
        have ha : ∃ ba, a = ⟨ba, 0, none⟩ := by
          rcases id hv2 with ⟨_, hn, _, _⟩ | ⟨ba, cap', h1, _⟩
          · omega
          · rw [hs2, hA] at h1
            cases h1
            exact ⟨_, rfl⟩
        obtain ⟨ba, rfl⟩ := ha
        subst hA
        (repeat' (first|refine Za ?_|refine Zb ?_|refine Zc ?_|refine Zd ?_|refine Ze ?_|refine Zf ?_|refine Zg ?_|refine Zh ?_|refine Zi ?_|refine Zj ?_|refine Zk ?_|refine Zl ?_|refine Zm ?_|refine Zn rfl ?_|refine Zo ?_|refine Zp ?_|refine Zq ?_|refine Zr ?_|refine Zs ?_|refine Zt ?_|refine Zu tab rfl rfl ?_|refine Zv rfl rfl ?_|refine Zw rfl rfl rfl rfl ?_|refine Zx rfl rfl rfl ?_|(apply Zy;refine Zz ?_)|(apply Ya;refine Yb ?_)|(apply Yc;refine Yd ?_)|(apply Ye;refine Yf ?_)|(apply Yg; first|refine Yh fun _=>?_|refine Yi (Yj rfl rfl) rfl fun _=>?_)|refine Yk rfl fun _=>?_|(apply Yl;refine Ym ?_)|(apply Yn;refine Yo ?_)|(apply Yp;refine Yq ?_)|(apply Yr;refine Ys ?_)|(apply Yt;refine Yu ?_)|(apply Yv;refine Yw fun _=>?_)|refine Yx rfl ?_|refine Yy rfl ?_|refine Yz rfl ?_|(apply Va; first|refine Vb ?_|refine Vc ?_)|refine Vd tab ?_|refine Ve fun _=>?_|(apply Vf;refine Vg ?_)|(apply Vh;refine Vi ?_)|(apply Vj;refine Vk ?_)|(apply Vl;refine Vm ?_)|(apply Vn;refine Vo ?_)|(apply Vp;refine Vq ?_)|(apply Vr;refine Vs ?_)|(apply Vt;refine Vu ?_)|(apply Vv;refine Vw ?_)|(apply Vx;refine Vy ?_)|(apply Vz;refine Ua fun _=>?_)))
        refine tl_load (o_loadA (cs := edCells e) rfl rfl fun w hw q v hq => ?_) rfl ?_
        · have := hcells hw (fun p hp => by simp [hp]) _ v (ed_get he q v hq)
          rwa [add_mk, Nat.zero_add] at this
        (repeat' (first|refine Za ?_|refine Zb ?_|refine Zc ?_|refine Zd ?_|refine Ze ?_|refine Zf ?_|refine Zg ?_|refine Zh ?_|refine Zi ?_|refine Zj ?_|refine Zk ?_|refine Zl ?_|refine Zm ?_|refine Zn rfl ?_|refine Zo ?_|refine Zp ?_|refine Zq ?_|refine Zr ?_|refine Zs ?_|refine Zt ?_|refine Zu tab rfl rfl ?_|refine Zv rfl rfl ?_|refine Zw rfl rfl rfl rfl ?_|refine Zx rfl rfl rfl ?_|(apply Zy;refine Zz ?_)|(apply Ya;refine Yb ?_)|(apply Yc;refine Yd ?_)|(apply Ye;refine Yf ?_)|(apply Yg; first|refine Yh fun _=>?_|refine Yi (Yj rfl rfl) rfl fun _=>?_)|refine Yk rfl fun _=>?_|(apply Yl;refine Ym ?_)|(apply Yn;refine Yo ?_)|(apply Yp;refine Yq ?_)|(apply Yr;refine Ys ?_)|(apply Yt;refine Yu ?_)|(apply Yv;refine Yw fun _=>?_)|refine Yx rfl ?_|refine Yy rfl ?_|refine Yz rfl ?_|(apply Va; first|refine Vb ?_|refine Vc ?_)|refine Vd tab ?_|refine Ve fun _=>?_|(apply Vf;refine Vg ?_)|(apply Vh;refine Vi ?_)|(apply Vj;refine Vk ?_)|(apply Vl;refine Vm ?_)|(apply Vn;refine Vo ?_)|(apply Vp;refine Vq ?_)|(apply Vr;refine Vs ?_)|(apply Vt;refine Vu ?_)|(apply Vv;refine Vw ?_)|(apply Vx;refine Vy ?_)|(apply Vz;refine Ua fun _=>?_)))
        rename_i b15
        have hok := edgesAll_ok hem
        obtain ⟨he1, he2⟩ := heb e hem
        have hyb : -268435456 ≤ rowY (rowOf low) i ∧ rowY (rowOf low) i ≤ 268435456 := by
          have h1 := hok.y0; have h2 := hok.y1
          simp only [crB, Bool.and_eq_true] at hec
          have h3 := of_decide_eq_true hec.1; have h4 := of_decide_eq_true hec.2
          omega
        obtain ⟨hb1, hb2⟩ := atN_bd hok hyb
        have hx0 := hok.x0; have hx1 := hok.x1; have hy0 := hok.y0; have hy1 := hok.y1; have hup := hok.up
        have hi : CDet Try.prog 44 [.agg (edCells e).toArray, .int .i64 ((rowOf low + i) * 64 + 32)] (pl (atN e (rowY (rowOf low) i)) (atD e)) := ⟨at_det e.1 e.2.1 e.2.2.1 e.2.2.2.1 e.2.2.2.2 (rowY (rowOf low) i) (by omega) (by omega) (by omega) (by omega) (by omega) (by omega)⟩
        refine t_drawW 8 [(0, .v), (1, .v), (2, .v), (3, .v), (5, .v), (6, .v), (4, .e), (7, .v)] ?_ rfl (by kernel_rfl) (by kernel_rfl) rfl (by kernel_rfl) mixed (by kernel_rfl) rfl
        (repeat' (first|refine Za ?_|refine Zb ?_|refine Zc ?_|refine Zd ?_|refine Ze ?_|refine Zf ?_|refine Zg ?_|refine Zh ?_|refine Zi ?_|refine Zj ?_|refine Zk ?_|refine Zl ?_|refine Zm ?_|refine Zn rfl ?_|refine Zo ?_|refine Zp ?_|refine Zq ?_|refine Zr ?_|refine Zs ?_|refine Zt ?_|refine Zu tab rfl rfl ?_|refine Zv rfl rfl ?_|refine Zw rfl rfl rfl rfl ?_|refine Zx rfl rfl rfl ?_|(apply Zy;refine Zz ?_)|(apply Ya;refine Yb ?_)|(apply Yc;refine Yd ?_)|(apply Ye;refine Yf ?_)|(apply Yg; first|refine Yh fun _=>?_|refine Yi (Yj rfl rfl) rfl fun _=>?_)|refine Yk rfl fun _=>?_|(apply Yl;refine Ym ?_)|(apply Yn;refine Yo ?_)|(apply Yp;refine Yq ?_)|(apply Yr;refine Ys ?_)|(apply Yt;refine Yu ?_)|(apply Yv;refine Yw fun _=>?_)|refine Yx rfl ?_|refine Yy rfl ?_|refine Yz rfl ?_|(apply Va; first|refine Vb ?_|refine Vc ?_)|refine Vd tab ?_|refine Ve fun _=>?_|(apply Vf;refine Vg ?_)|(apply Vh;refine Vi ?_)|(apply Vj;refine Vk ?_)|(apply Vl;refine Vm ?_)|(apply Vn;refine Vo ?_)|(apply Vp;refine Vq ?_)|(apply Vr;refine Vs ?_)|(apply Vt;refine Vu ?_)|(apply Vv;refine Vw ?_)|(apply Vx;refine Vy ?_)|(apply Vz;refine Ua fun _=>?_)))
        refine dw_end [0, 5, 6, 7, 10, 11, 12, 13, 72, 73, 74, 79, 80, 86] (rest := []) rfl ?_
        (repeat' (first|refine Za ?_|refine Zb ?_|refine Zc ?_|refine Zd ?_|refine Ze ?_|refine Zf ?_|refine Zg ?_|refine Zh ?_|refine Zi ?_|refine Zj ?_|refine Zk ?_|refine Zl ?_|refine Zm ?_|refine Zn rfl ?_|refine Zo ?_|refine Zp ?_|refine Zq ?_|refine Zr ?_|refine Zs ?_|refine Zt ?_|refine Zu tab rfl rfl ?_|refine Zv rfl rfl ?_|refine Zw rfl rfl rfl rfl ?_|refine Zx rfl rfl rfl ?_|(apply Zy;refine Zz ?_)|(apply Ya;refine Yb ?_)|(apply Yc;refine Yd ?_)|(apply Ye;refine Yf ?_)|(apply Yg; first|refine Yh fun _=>?_|refine Yi (Yj rfl rfl) rfl fun _=>?_)|refine Yk rfl fun _=>?_|(apply Yl;refine Ym ?_)|(apply Yn;refine Yo ?_)|(apply Yp;refine Yq ?_)|(apply Yr;refine Ys ?_)|(apply Yt;refine Yu ?_)|(apply Yv;refine Yw fun _=>?_)|refine Yx rfl ?_|refine Yy rfl ?_|refine Yz rfl ?_|(apply Va; first|refine Vb ?_|refine Vc ?_)|refine Vd tab ?_|refine Ve fun _=>?_|(apply Vf;refine Vg ?_)|(apply Vh;refine Vi ?_)|(apply Vj;refine Vk ?_)|(apply Vl;refine Vm ?_)|(apply Vn;refine Vo ?_)|(apply Vp;refine Vq ?_)|(apply Vr;refine Vs ?_)|(apply Vt;refine Vu ?_)|(apply Vv;refine Vw ?_)|(apply Vx;refine Vy ?_)|(apply Vz;refine Ua fun _=>?_)))
        have hcl := crsT_len (rowY (rowOf low) i) ac j hj
        refine tl_store (o_storeBk 1 (m := 3) (vs := crCells (crOf (rowY (rowOf low) i) e)) rfl rfl rfl rfl rfl (by rw [cr_len]; omega)) ?_
        rw [cr_put (by omega), crsT_set _ _ _ _ he]
        (repeat' (first|refine Za ?_|refine Zb ?_|refine Zc ?_|refine Zd ?_|refine Ze ?_|refine Zf ?_|refine Zg ?_|refine Zh ?_|refine Zi ?_|refine Zj ?_|refine Zk ?_|refine Zl ?_|refine Zm ?_|refine Zn rfl ?_|refine Zo ?_|refine Zp ?_|refine Zq ?_|refine Zr ?_|refine Zs ?_|refine Zt ?_|refine Zu tab rfl rfl ?_|refine Zv rfl rfl ?_|refine Zw rfl rfl rfl rfl ?_|refine Zx rfl rfl rfl ?_|(apply Zy;refine Zz ?_)|(apply Ya;refine Yb ?_)|(apply Yc;refine Yd ?_)|(apply Ye;refine Yf ?_)|(apply Yg; first|refine Yh fun _=>?_|refine Yi (Yj rfl rfl) rfl fun _=>?_)|refine Yk rfl fun _=>?_|(apply Yl;refine Ym ?_)|(apply Yn;refine Yo ?_)|(apply Yp;refine Yq ?_)|(apply Yr;refine Ys ?_)|(apply Yt;refine Yu ?_)|(apply Yv;refine Yw fun _=>?_)|refine Yx rfl ?_|refine Yy rfl ?_|refine Yz rfl ?_|(apply Va; first|refine Vb ?_|refine Vc ?_)|refine Vd tab ?_|refine Ve fun _=>?_|(apply Vf;refine Vg ?_)|(apply Vh;refine Vi ?_)|(apply Vj;refine Vk ?_)|(apply Vl;refine Vm ?_)|(apply Vn;refine Vo ?_)|(apply Vp;refine Vq ?_)|(apply Vr;refine Vs ?_)|(apply Vt;refine Vu ?_)|(apply Vv;refine Vw ?_)|(apply Vx;refine Vy ?_)|(apply Vz;refine Ua fun _=>?_)))
        exact xt_roundK (j + 1) rfl ⟨rfl, trivial⟩ (by omega) (by omega) fun w hw => hw.sublist (.cons _ (List.Sublist.refl _))
      · obtain rfl : j = ac.length := by have := of_decide_eq_false h; omega
        rw [crsT_all]
        have hcok : ∀ c ∈ ac.map (crOf (rowY (rowOf low) i)), CrOk c := fun c hc => by
          obtain ⟨e, he, rfl⟩ := List.mem_map.1 hc
          obtain ⟨h1, h2⟩ := hcr e he
          obtain ⟨h3, h4⟩ := heb e h1
          exact crOf_ok (edgesAll_ok h1) h2 (by omega)
        have hsl : (sortCr (ac.map (crOf (rowY (rowOf low) i)))).length = ac.length := by rw [(sortCr_spec hcok).1.length_eq, List.length_map]
        (repeat' (first|refine Za ?_|refine Zb ?_|refine Zc ?_|refine Zd ?_|refine Ze ?_|refine Zf ?_|refine Zg ?_|refine Zh ?_|refine Zi ?_|refine Zj ?_|refine Zk ?_|refine Zl ?_|refine Zm ?_|refine Zn rfl ?_|refine Zo ?_|refine Zp ?_|refine Zq ?_|refine Zr ?_|refine Zs ?_|refine Zt ?_|refine Zu tab rfl rfl ?_|refine Zv rfl rfl ?_|refine Zw rfl rfl rfl rfl ?_|refine Zx rfl rfl rfl ?_|(apply Zy;refine Zz ?_)|(apply Ya;refine Yb ?_)|(apply Yc;refine Yd ?_)|(apply Ye;refine Yf ?_)|(apply Yg; first|refine Yh fun _=>?_|refine Yi (Yj rfl rfl) rfl fun _=>?_)|refine Yk rfl fun _=>?_|(apply Yl;refine Ym ?_)|(apply Yn;refine Yo ?_)|(apply Yp;refine Yq ?_)|(apply Yr;refine Ys ?_)|(apply Yt;refine Yu ?_)|(apply Yv;refine Yw fun _=>?_)|refine Yx rfl ?_|refine Yy rfl ?_|refine Yz rfl ?_|(apply Va; first|refine Vb ?_|refine Vc ?_)|refine Vd tab ?_|refine Ve fun _=>?_|(apply Vf;refine Vg ?_)|(apply Vh;refine Vi ?_)|(apply Vj;refine Vk ?_)|(apply Vl;refine Vm ?_)|(apply Vn;refine Vo ?_)|(apply Vp;refine Vq ?_)|(apply Vr;refine Vs ?_)|(apply Vt;refine Vu ?_)|(apply Vv;refine Vw ?_)|(apply Vx;refine Vy ?_)|(apply Vz;refine Ua fun _=>?_)))
        refine tl_call (u := .tuple #[]) (o_wrote 0 rfl rfl fun w o ho hq => by
          have := sort_calls _ hcok (by rw [List.length_map]; omega) bc ac.length w o ho hq
          rwa [List.length_map] at this) rfl ?_
        (repeat' (first|refine Za ?_|refine Zb ?_|refine Zc ?_|refine Zd ?_|refine Ze ?_|refine Zf ?_|refine Zg ?_|refine Zh ?_|refine Zi ?_|refine Zj ?_|refine Zk ?_|refine Zl ?_|refine Zm ?_|refine Zn rfl ?_|refine Zo ?_|refine Zp ?_|refine Zq ?_|refine Zr ?_|refine Zs ?_|refine Zt ?_|refine Zu tab rfl rfl ?_|refine Zv rfl rfl ?_|refine Zw rfl rfl rfl rfl ?_|refine Zx rfl rfl rfl ?_|(apply Zy;refine Zz ?_)|(apply Ya;refine Yb ?_)|(apply Yc;refine Yd ?_)|(apply Ye;refine Yf ?_)|(apply Yg; first|refine Yh fun _=>?_|refine Yi (Yj rfl rfl) rfl fun _=>?_)|refine Yk rfl fun _=>?_|(apply Yl;refine Ym ?_)|(apply Yn;refine Yo ?_)|(apply Yp;refine Yq ?_)|(apply Yr;refine Ys ?_)|(apply Yt;refine Yu ?_)|(apply Yv;refine Yw fun _=>?_)|refine Yx rfl ?_|refine Yy rfl ?_|refine Yz rfl ?_|(apply Va; first|refine Vb ?_|refine Vc ?_)|refine Vd tab ?_|refine Ve fun _=>?_|(apply Vf;refine Vg ?_)|(apply Vh;refine Vi ?_)|(apply Vj;refine Vk ?_)|(apply Vl;refine Vm ?_)|(apply Vn;refine Vo ?_)|(apply Vp;refine Vq ?_)|(apply Vr;refine Vs ?_)|(apply Vt;refine Vu ?_)|(apply Vv;refine Vw ?_)|(apply Vx;refine Vy ?_)|(apply Vz;refine Ua fun _=>?_)))
        have hsucc := rowsX_succ (rowOf low) (edgesAll ls) hin
        refine tl_yield2 (Enc := EncR) (y := rowX (rowOf low) (edgesAll ls) i) hloc (fun _ _ _ h k hk => ((hdata _ _ _ h).1 k hk).2) hY (by rw [← hsucc]; exact List.take_prefix _ _) hJ1 hX1 hB1 rfl rfl (fun w hw => ?_) rfl fun w3 ids3 hJ3 hB3 hX3 => ?_
        · have hm := hw.mine (bc, bx ((sortCr (ac.map (crOf (rowY (rowOf low) i)))).flatMap crCells) 108) (List.mem_cons_self ..)
          refine ⟨bc, ?_, ?_, ?_, ?_⟩
          · unfold rowX
            rw [hac]
            simp only [hsl]
          · rcases hm with h | h
            · exact Nat.le_trans hB1 h
            · exact (hX1 _ h).1
          · rcases hm with h | h
            · intro hi; have := (hfp _ hi).2; simp only at h; omega
            · exact (hX1 _ h).2
          · have := hw.get (List.mem_cons_self ..)
            unfold rowX
            rw [hac]
            exact this
        · try dsimp only [List.cons_append, List.nil_append, List.map_cons, List.map_nil]
          (repeat' (first|refine Za ?_|refine Zb ?_|refine Zc ?_|refine Zd ?_|refine Ze ?_|refine Zf ?_|refine Zg ?_|refine Zh ?_|refine Zi ?_|refine Zj ?_|refine Zk ?_|refine Zl ?_|refine Zm ?_|refine Zn rfl ?_|refine Zo ?_|refine Zp ?_|refine Zq ?_|refine Zr ?_|refine Zs ?_|refine Zt ?_|refine Zu tab rfl rfl ?_|refine Zv rfl rfl ?_|refine Zw rfl rfl rfl rfl ?_|refine Zx rfl rfl rfl ?_|(apply Zy;refine Zz ?_)|(apply Ya;refine Yb ?_)|(apply Yc;refine Yd ?_)|(apply Ye;refine Yf ?_)|(apply Yg; first|refine Yh fun _=>?_|refine Yi (Yj rfl rfl) rfl fun _=>?_)|refine Yk rfl fun _=>?_|(apply Yl;refine Ym ?_)|(apply Yn;refine Yo ?_)|(apply Yp;refine Yq ?_)|(apply Yr;refine Ys ?_)|(apply Yt;refine Yu ?_)|(apply Yv;refine Yw fun _=>?_)|refine Yx rfl ?_|refine Yy rfl ?_|refine Yz rfl ?_|(apply Va; first|refine Vb ?_|refine Vc ?_)|refine Vd tab ?_|refine Ve fun _=>?_|(apply Vf;refine Vg ?_)|(apply Vh;refine Vi ?_)|(apply Vj;refine Vk ?_)|(apply Vl;refine Vm ?_)|(apply Vn;refine Vo ?_)|(apply Vp;refine Vq ?_)|(apply Vr;refine Vs ?_)|(apply Vt;refine Vu ?_)|(apply Vv;refine Vw ?_)|(apply Vx;refine Vy ?_)|(apply Vz;refine Ua fun _=>?_)))
          refine xt_roundJ (i + 1, .slice A2 ac.length c2, Lv2) rfl ⟨rfl, by show some (Value.int .i64 (rowOf low + i + 1)) = _; rw [Int.add_assoc]; rfl, trivial⟩ ⟨hin, by rw [← hs2, hac]; exact hv2⟩ (by simp only; omega) fun w hw => ?_
          have hw2 : St w3 _ ([(b7, bx [.slice (some ⟨R, 0, none⟩) N N] 103), (b5, bx [.int .i64 (rowOf low)] 2), (R, bx ((List.range N).map bv) 104)] ++ (BL N Lb ++ [(db, defO)] ++ Lv2)) w := hw.sublist (.cons _ (.cons _ (List.Sublist.refl _)))
          refine St.hd (hw2.perm perm_back) (ids := ids3) (by rw [hsucc]; exact hJ3) (hloc _) hX3 hB3 (fun k hk => ((hdata _ _ _ hJ3).1 k hk).2)
    · have hiN : i = N := by have := of_decide_eq_false h; omega
      rw [List.take_of_length_le (by simp [rowsX]; omega)] at hJ1
      (repeat' (first|refine Za ?_|refine Zb ?_|refine Zc ?_|refine Zd ?_|refine Ze ?_|refine Zf ?_|refine Zg ?_|refine Zh ?_|refine Zi ?_|refine Zj ?_|refine Zk ?_|refine Zl ?_|refine Zm ?_|refine Zn rfl ?_|refine Zo ?_|refine Zp ?_|refine Zq ?_|refine Zr ?_|refine Zs ?_|refine Zt ?_|refine Zu tab rfl rfl ?_|refine Zv rfl rfl ?_|refine Zw rfl rfl rfl rfl ?_|refine Zx rfl rfl rfl ?_|(apply Zy;refine Zz ?_)|(apply Ya;refine Yb ?_)|(apply Yc;refine Yd ?_)|(apply Ye;refine Yf ?_)|(apply Yg; first|refine Yh fun _=>?_|refine Yi (Yj rfl rfl) rfl fun _=>?_)|refine Yk rfl fun _=>?_|(apply Yl;refine Ym ?_)|(apply Yn;refine Yo ?_)|(apply Yp;refine Yq ?_)|(apply Yr;refine Ys ?_)|(apply Yt;refine Yu ?_)|(apply Yv;refine Yw fun _=>?_)|refine Yx rfl ?_|refine Yy rfl ?_|refine Yz rfl ?_|(apply Va; first|refine Vb ?_|refine Vc ?_)|refine Vd tab ?_|refine Ve fun _=>?_|(apply Vf;refine Vg ?_)|(apply Vh;refine Vi ?_)|(apply Vj;refine Vk ?_)|(apply Vl;refine Vm ?_)|(apply Vn;refine Vo ?_)|(apply Vp;refine Vq ?_)|(apply Vr;refine Vs ?_)|(apply Vt;refine Vu ?_)|(apply Vv;refine Vw ?_)|(apply Vx;refine Vy ?_)|(apply Vz;refine Ua fun _=>?_)))
      refine xt_endM0 (L := (b7, bx [.slice (some ⟨R, 0, none⟩) N N] 103) :: (b5, bx [.int .i64 (rowOf low)] 2) :: (R, bx ((List.range N).map bv) 104) :: (Lva ++ BL N Lb)) rfl fun w' hw' => ⟨⟨_, rfl⟩, ?_⟩
      obtain ⟨ids', h1, _⟩ := St.hd hw' hJ1 (hloc _) hX1 hB1 (fun k hk => (hfp k hk).2)
      exact ⟨ids', h1⟩

end Go.Proofs.Ytbgolbkolcmldaa
