/-
  The document's answer: the crossings of a height, rising.
-/
import Derived.Test.YtbgolbkolcmldaaGI
namespace Go.Proofs.Ytbgolbkolcmldaa
open Go.RowKit
section
variable {P : Program} {fr : Fr} {w0 : World} {X : List Nat} {L : HL} {dd : Option Tmp} {ty t t' : TypeId} {pos : String} {af : Array Edge} {g : Option (Nat × Bool)} {x y c : Operand} {u : Value}
/-- one cell of a row of the call's own -/
theorem o_loadRow1 (i : Nat) {b k e sz n cap : Nat} {xs : List Value} {v : Value} [CSc P t] (hx : fev fr x = some (.pointer (some ⟨b, k, none⟩))) (hL : L[i]? = some (b, row e sz n cap xs)) (hv : xs[k]? = some v) : Pv P ⟨dd, .load t x, ty, pos, af, g⟩ fr (St w0 X L) v :=
  o_load hx fun w hw => hw.rowCell (List.mem_of_getElem? hL) hv
theorem o_storeRow1 (i : Nat) {b k e sz n cap : Nat} {xs : List Value} {v : Value} [CSc P t] (hx : fev fr x = some (.pointer (some ⟨b, k, none⟩))) (hy : fev fr y = some v) (hL : L[i]? = some (b, row e sz n cap xs)) (h1 : v.oneCell' = true) (hk : k + 1 ≤ n * sz) :
    O P ⟨dd, .store t x y, ty, pos, af, g⟩ fr (St w0 X L) (fun _ w => St w0 X (lput L i (row e sz n cap (putL xs k [v]))) w) :=
  o_ofu fun ρ w hρ hw => by
    obtain ⟨o, ho, hr⟩ := hw.here _ (List.mem_of_getElem? hL)
    obtain ⟨cur, rfl, hcs, _, _, hnc, _⟩ := id hr
    have hle : n * sz ≤ cap * sz := Nat.mul_le_mul_right _ hnc
    refine ⟨w.setCell ⟨b, k, none⟩ v, ?_, ?_⟩
    · have := run_storeVar_sc (P := P) (t := t) (w := w) (b := b) (k := k) h1 (by rw [cell_of ho]; simp; omega) (frozen_of ho)
      simp [execOp, hρ _ _ hx, hρ _ _ hy, Instr.storeAt, Instr.sureAddr, this]
    · refine hw.putAt hL (grownBy_setCell w b k v) (heap_setCell_same ho) (row_put hr (vs := [v]) (by simpa using hk) (by simp) fun j => ?_)
      rw [Array.getElem?_setIfInBounds]
      simp only [List.length_singleton]
      by_cases hj : k = j
      · subst hj
        have hlt : k < cur.size := by omega
        rw [if_pos rfl, if_pos hlt, if_pos ⟨Nat.le_refl _, by omega, hlt⟩]
        simp
      · rw [if_neg hj, if_neg (by omega)]
end
theorem flat_put {α : Type} (f : α → List Value) (c : Nat) (hc : 0 < c) (hf : ∀ a, (f a).length = c) {l : List α} {k : Nat} {a : α} (h : k < l.length) : putL (l.flatMap f) (k * c) (f a) = (l.set k a).flatMap f := by
  apply List.ext_getElem?
  intro j
  have hl : (l.flatMap f).length = l.length * c := flatMap_len f c hf l
  have hl' : ((l.set k a).flatMap f).length = l.length * c := by rw [flatMap_len f c hf, List.length_set]
  have hle : k * c + c ≤ l.length * c := by rw [← Nat.succ_mul]; exact Nat.mul_le_mul_right c h
  rw [putL_get _ _ _ _ (by rw [hl, hf]; exact hle), hf]
  by_cases hj : j < l.length * c
  · have hq : j / c < l.length := Nat.div_lt_of_lt_mul (by rw [Nat.mul_comm]; exact hj)
    have hr : j % c < c := Nat.mod_lt _ hc
    have hjq : j / c * c + j % c = j := by rw [Nat.mul_comm]; exact Nat.div_add_mod j c
    by_cases hk : j / c = k
    · have h1 : k * c ≤ j ∧ j < k * c + c := by rw [← hk]; omega
      rw [if_pos h1]
      have := flatMap_get f c hf (l.set k a) k (j % c) a ((f a)[j % c]'(by rw [hf]; exact hr)) (by rw [List.getElem?_set_self h]) (List.getElem?_eq_getElem _)
      rw [show k * c + j % c = j by rw [← hk]; exact hjq] at this
      rw [this, show j - k * c = j % c by rw [← hk]; omega]
      exact List.getElem?_eq_getElem _
    · have h1 : ¬ (k * c ≤ j ∧ j < k * c + c) := by
        rintro ⟨a1, a2⟩
        apply hk
        refine Nat.div_eq_of_lt_le a1 ?_
        rw [Nat.succ_mul]; exact a2
      rw [if_neg h1]
      have e1 := flatMap_get f c hf l (j / c) (j % c) l[j / c] ((f l[j / c])[j % c]'(by rw [hf]; exact hr)) (List.getElem?_eq_getElem hq) (List.getElem?_eq_getElem _)
      have e2 := flatMap_get f c hf (l.set k a) (j / c) (j % c) l[j / c] ((f l[j / c])[j % c]'(by rw [hf]; exact hr)) (by rw [List.getElem?_set_ne (by omega)]; exact List.getElem?_eq_getElem hq) (List.getElem?_eq_getElem _)
      rw [hjq] at e1 e2
      rw [e1, e2]
  · have h1 : ¬ (k * c ≤ j ∧ j < k * c + c) := by omega
    rw [if_neg h1, List.getElem?_eq_none (by omega), List.getElem?_eq_none (by omega)]

/-! ### crossings, one behind the other -/
abbrev Pc := Int × Int × Int × Int
def pcCells (c : Pc) : List Value := [.int .i64 c.1, .int .i64 c.2.1, .int .i64 c.2.2.1]
def wyCell (c : Pc) : List Value := [.int .i64 c.2.2.2]
def lessC (c c' : Pc) : Bool := lessP c.1 c.2.1 c.2.2.1 c'.1 c'.2.1 c'.2.2.1
def insRev (c : Pc) : List Pc → List Pc
  | [] => [c]
  | y :: r => if lessC c y then y :: insRev c r else c :: y :: r
def insR (L : List Pc) (c : Pc) : List Pc := (insRev c L.reverse).reverse
def crossAt (y : Int) (l : Pts) (k : Nat) : List Pc := match l[k]?, l[(k + 1) % l.length]? with
  | some p, some q => if (crossV p.1 p.2 q.1 q.2 y).2.2.2 = 0 then [] else [crossV p.1 p.2 q.1 q.2 y]
  | _, _ => []
def crossTo (y : Int) (l : Pts) (k : Nat) : List Pc := (List.range k).flatMap (crossAt y l)
def crossAll (y : Int) (ls : List Pts) : List Pc := ls.flatMap fun l => crossTo y l l.length
def crsR (y : Int) (ls : List Pts) : List Pc := (crossAll y ls).foldl insR []
theorem crossTo_succ (y : Int) (l : Pts) (k : Nat) : crossTo y l (k + 1) = crossTo y l k ++ crossAt y l k := by simp [crossTo, List.range_succ]
theorem insRev_perm (c : Pc) : ∀ L, (insRev c L).Perm (c :: L)
  | [] => List.Perm.refl _
  | y :: r => by
    unfold insRev
    split
    · exact ((insRev_perm c r).cons y).trans (List.Perm.swap c y r)
    · exact List.Perm.refl _
theorem insR_perm (L : List Pc) (c : Pc) : (insR L c).Perm (c :: L) := by
  unfold insR
  exact (List.reverse_perm _).trans ((insRev_perm c _).trans ((List.reverse_perm L).cons c))
theorem foldl_insR_perm : ∀ (l L : List Pc), (l.foldl insR L).Perm (l ++ L)
  | [], L => List.Perm.refl _
  | c :: l, L => by
    rw [List.foldl_cons]
    refine (foldl_insR_perm l (insR L c)).trans ?_
    exact ((insR_perm L c).append_left l).trans List.perm_middle
theorem pc_get {M : List Pc} {k : Nat} {c : Pc} (h : M[k]? = some c) : ∀ j v, (pcCells c)[j]? = some v → (M.flatMap pcCells)[0 + (k : Int).toNat * 3 + j]? = some v := fun j v hj => by
  rw [Nat.zero_add, Int.toNat_natCast]
  exact flatMap_get pcCells 3 (fun _ => rfl) M k j c v h hj
theorem wy_get {M : List Pc} {k : Nat} {c : Pc} (h : M[k]? = some c) : (M.flatMap wyCell)[0 + (k : Int).toNat * 1]? = some (.int .i64 c.2.2.2) := by
  rw [Nat.zero_add, Int.toNat_natCast]
  exact flatMap_get wyCell 1 (fun _ => rfl) M k 0 c _ h rfl
theorem pc_put {M : List Pc} {k : Nat} {c : Pc} (h : k < M.length) : putL (M.flatMap pcCells) (0 + (k : Int).toNat * 3) (pcCells c) = (M.set k c).flatMap pcCells := by
  rw [Nat.zero_add, Int.toNat_natCast]
  exact flat_put pcCells 3 (by omega) (fun _ => rfl) h
theorem wy_put {M : List Pc} {k : Nat} {c : Pc} (h : k < M.length) : putL (M.flatMap wyCell) (0 + (k : Int).toNat * 1) [.int .i64 c.2.2.2] = (M.set k c).flatMap wyCell := by
  rw [Nat.zero_add, Int.toNat_natCast]
  exact flat_put wyCell 1 (by omega) (fun _ => rfl) h
def BdC (c : Pc) : Prop := 0 ≤ c.2.1 ∧ c.2.1 ≤ 536870912 ∧ 0 ≤ c.2.2.1 ∧ c.2.2.1 ≤ 536870912
end Go.Proofs.Ytbgolbkolcmldaa
namespace Go.Proofs.Ytbgolbkolcmldaa
open Go.RowKit
attribute [local irreducible] T TL Xt O Op1 Kt DV ObsB DE DW DW1 LoopQ LoopJ

set_option maxHeartbeats 2000000 in
theorem crossings_calls (w : World) (A : Option Addr) (n cap : Nat) (ls : List Pts) (hL : Lines w (.slice A n cap) ls) (y : Int) (hy : -268435456 ≤ y ∧ y ≤ 268435456) (hcount : ls.flatten.length ≤ 1000000) :
    Calls Try.prog 19 #[.slice A n cap, .int .i64 y] w (Ret w fun v w' => ∃ v1 v2, v = .tuple #[v1, v2] ∧ RdI w.heap.size w'.heap.size w' 3 v1 ((crsR y ls).flatMap pcCells) ∧ RdI w.heap.size w'.heap.size w' 1 v2 ((crsR y ls).flatMap wyCell)) := by
  have hn : n = ls.length ∧ n ≤ 9223372036854775807 := by
    obtain ⟨rows, ⟨A', n', cap', he, h1, h2, h3, h4⟩, hl, _⟩ := hL
    cases he
    unfold maxLen at h3
    omega
  refine calls_S (vs := [.slice A n cap, .int .i64 y]) Try.func19 rfl Try.ntmps19 rfl ?_
  (repeat' (first|refine Za ?_|refine Zb ?_|refine Zc ?_|refine Zd ?_|refine Ze ?_|refine Zu tab rfl rfl ?_|(apply Yv;refine Yw fun _=>?_)|fail))
  rename_i bp0 bw0
  refine t_loopK [0, 1] (α := Nat × List Pc × (Nat × Nat) × (Nat × Nat)) (fun x => [(6, .slice (some ⟨x.2.2.1.1, 0, none⟩) x.2.1.length x.2.2.1.2), (7, .slice (some ⟨x.2.2.2.1, 0, none⟩) x.2.1.length x.2.2.2.2), (8, .int .i64 x.1)]) (fun x => x.1 ≤ ls.length ∧ x.2.1 = ((ls.take x.1).flatMap fun l => crossTo y l l.length).foldl insR [] ∧ (∀ c ∈ x.2.1, BdC c) ∧ x.2.1.length ≤ (ls.take x.1).flatten.length) (fun x => [(x.2.2.2.1, row 3 1 x.2.1.length x.2.2.2.2 (x.2.1.flatMap wyCell)), (x.2.2.1.1, row 89 3 x.2.1.length x.2.2.1.2 (x.2.1.flatMap pcCells))]) (fun x => ls.length - x.1) (0, [], (bp0, 0), (bw0, 0)) rfl ⟨rfl, rfl, rfl, trivial⟩ ⟨Nat.zero_le _, rfl, by simp, by simp⟩ (fun w h => ?_) ?_
  · have h1 := St.headImp h fun o ho => bx_row0 (sz := 1) ho
    have h2 := St.headImp (h1.perm (List.Perm.swap _ _ _)) fun o ho => bx_row0 (sz := 3) ho
    exact h2.perm (List.Perm.swap _ _ _)
  rintro ⟨i, L, ⟨bp, cp⟩, ⟨bw, cw⟩⟩ ⟨hi, hLq, hbd, hlen⟩
  dsimp only at hi hLq hbd hlen ⊢
  try dsimp only [List.cons_append, List.nil_append, List.map_cons, List.map_nil]
  (repeat' (first|refine Za ?_|refine Zb ?_|refine Zc ?_|refine Zd ?_|refine Zu tab rfl rfl ?_|fail))
  refine t_cond rfl (fun h => ?_) (fun h => ?_)
  · have hin : i < ls.length := by have := of_decide_eq_true h; omega
    obtain ⟨l, hl⟩ : ∃ l, ls[i]? = some l := ⟨_, List.getElem?_eq_getElem hin⟩
    obtain ⟨b, off, A', n', cap', rfl, hc, hR⟩ := lines_cl hL hl
    have hnr := row_len hR
    have hn' := row_le hR
    have htl : (ls.take i).flatten.length + l.length ≤ ls.flatten.length := by
      have h1 : ls.flatten = (ls.take i).flatten ++ (ls.drop i).flatten := by rw [← List.flatten_append, List.take_append_drop]
      have h2 : ls.drop i = l :: ls.drop (i + 1) := by rw [List.drop_eq_getElem_cons hin, (List.getElem?_eq_some_iff.1 hl).2]
      rw [h1, h2, List.length_append, List.flatten_cons, List.length_append]
      omega
    subst hnr
    (repeat' (first|refine Za ?_|refine Zb ?_|refine Zc ?_|refine Zd ?_|refine Ze ?_|refine Zf ?_|refine Zu tab rfl rfl ?_|fail))
    refine t_loopK [0, 1, 8] (α := Nat × List Pc × (Nat × Nat) × (Nat × Nat)) (fun x => [(6, .slice (some ⟨x.2.2.1.1, 0, none⟩) x.2.1.length x.2.2.1.2), (7, .slice (some ⟨x.2.2.2.1, 0, none⟩) x.2.1.length x.2.2.2.2), (9, .int .i64 x.1)]) (fun x => x.1 ≤ l.length ∧ x.2.1 = (((ls.take i).flatMap fun l => crossTo y l l.length) ++ crossTo y l x.1).foldl insR [] ∧ (∀ c ∈ x.2.1, BdC c) ∧ x.2.1.length ≤ (ls.take i).flatten.length + x.1) (fun x => [(x.2.2.2.1, row 3 1 x.2.1.length x.2.2.2.2 (x.2.1.flatMap wyCell)), (x.2.2.1.1, row 89 3 x.2.1.length x.2.2.1.2 (x.2.1.flatMap pcCells))]) (fun x => l.length - x.1) (0, L, (bp, cp), (bw, cw)) rfl ⟨rfl, rfl, rfl, trivial⟩ ⟨Nat.zero_le _, by dsimp only; rw [hLq]; simp [crossTo], hbd, by dsimp only; omega⟩ (fun w h => h) ?_
    rintro ⟨k, K, ⟨bp, cp⟩, ⟨bw, cw⟩⟩ ⟨hk, hKq, hbd, hlen⟩
    dsimp only at hk hKq hbd hlen ⊢
    try dsimp only [List.cons_append, List.nil_append, List.map_cons, List.map_nil]
    (repeat' (first|refine Za ?_|refine Zb ?_|refine Zc ?_|refine Zd ?_|refine Zu tab rfl rfl ?_|(apply Zy;refine Zz ?_)|(apply Yn;refine Yo ?_)|fail))
    refine t_cond rfl (fun h => ?_) (fun h => ?_)
    · have hkn : k < l.length := by have := of_decide_eq_true h; omega
      obtain ⟨p, hp⟩ : ∃ p, l[k]? = some p := ⟨_, List.getElem?_eq_getElem hkn⟩
      have hmod : (k + 1) % l.length < l.length := Nat.mod_lt _ (by omega)
      obtain ⟨q, hq⟩ : ∃ q, l[(k + 1) % l.length]? = some q := ⟨_, List.getElem?_eq_getElem hmod⟩
      obtain ⟨b', off', rfl, hcp⟩ := row_cl hR hp
      have hcr : CDet Try.prog 47 [pt p.1 p.2, pt q.1 q.2, .int .i64 y] _ := ⟨cross_det p.1 p.2 q.1 q.2 y hy⟩
      have hcb := crossV_bd p.1 p.2 q.1 q.2 y
      have hca : crossAt y l k = if (crossV p.1 p.2 q.1 q.2 y).2.2.2 = 0 then [] else [crossV p.1 p.2 q.1 q.2 y] := by simp only [crossAt, hp, hq]
      have hto := crossTo_succ y l k
      generalize crossV p.1 p.2 q.1 q.2 y = cv at hcr hca hcb
      obtain ⟨cx, cn, cd, way⟩ := cv
      dsimp only at hcr hca hcb
      (repeat' (first|refine Za ?_|refine Zc ?_|refine Ze ?_|refine Zf ?_|fail))
      refine t_drawW 20 [(0, .v), (1, .v), (2, .v), (3, .v), (4, .v), (5, .v), (6, .v), (7, .v), (8, .v), (9, .v), (10, .v), (11, .v), (13, .v), (12, .e), (14, .e), (15, .v), (16, .v), (17, .v), (18, .a), (19, .h)] ?_ rfl (by kernel_rfl) (by kernel_rfl) rfl (by kernel_rfl) mixed (by kernel_rfl) rfl
      (repeat' (first|refine Yz rfl ?_|refine Vd tab ?_|(apply Vf;refine Vg ?_)|(apply Vl;refine Vm ?_)|fail))
      refine dw_callV (u := pt q.1 q.2) (fun L' w1 hw1 => next_calls w1 _ _ _ l (hR.ext hw1.toExt) k hkn q hq) rfl trivial rfl rfl ?_
      (repeat' (first|refine Yz rfl ?_|refine Vd tab ?_|refine Ve fun _=>?_|(apply Vp;refine Vq ?_)|(apply Vr;refine Vs ?_)|fail))
      refine dw_end [0, 1, 6, 7, 8, 9, 10, 49] (rest := []) rfl ?_
      (repeat' (first|refine Za ?_|refine Zb ?_|refine Zc ?_|refine Zd ?_|refine Zu tab rfl rfl ?_|fail))
      rename_i b10
      refine t_cond rfl (fun h => ?_) (fun h => ?_)
      · have hw0 : way = 0 := of_decide_eq_true h
        rw [if_pos hw0] at hca
        (repeat' (first|refine Zb ?_|refine Zc ?_|refine Zd ?_|refine Zh ?_|refine Zj ?_|refine Zl ?_|refine Zu tab rfl rfl ?_|(apply Yc;refine Yd ?_)|fail))
        refine xt_roundK (k + 1, K, (bp, cp), (bw, cw)) rfl ⟨rfl, rfl, rfl, trivial⟩ ⟨by dsimp only; omega, by dsimp only; rw [hto, hca, List.append_nil]; exact hKq, hbd, by dsimp only; omega⟩ (by dsimp only; omega) (fun _ h => h.sublist (.cons _ (List.Sublist.refl _)))
      · have hw0 : way ≠ 0 := of_decide_eq_false h
        rw [if_neg hw0] at hca
        (repeat' (first|refine Za ?_|refine Zb ?_|refine Zc ?_|refine Zf ?_|refine Zu tab rfl rfl ?_|(apply Zy;refine Zz ?_)|(apply Yv;refine Yw fun _=>?_)|fail))
        rename_i b54
        refine tl_app [(b10, bx [.int .i64 cx, .int .i64 cn, .int .i64 cd] 89), (bw, row 3 1 K.length cw (K.flatMap wyCell))] rfl rfl OwnsV.at_ rfl rfl rfl rfl rfl rfl (by omega) (by omega) fun bp' cp' => ?_
        (repeat' (first|refine Za ?_|refine Zb ?_|refine Zc ?_|refine Zd ?_|refine Zu tab rfl rfl ?_|(apply Yv;refine Yw fun _=>?_)|fail))
        rename_i b58
        refine tl_imp (I' := St w [] ((b58, bx [.int .i64 way] 3) :: ([(b10, bx [.int .i64 cx, .int .i64 cn, .int .i64 cd] 89), (bp', row 89 3 (K.length + 1) cp' (K.flatMap pcCells ++ [.int .i64 cx, .int .i64 cn, .int .i64 cd]))] ++ [(bw, row 3 1 K.length cw (K.flatMap wyCell))]))) (fun w1 hw1 => hw1.perm (List.Perm.cons _ (List.Perm.cons _ List.perm_append_comm))) ?_
        refine tl_app [(b10, bx [.int .i64 cx, .int .i64 cn, .int .i64 cd] 89), (bp', row 89 3 (K.length + 1) cp' (K.flatMap pcCells ++ [.int .i64 cx, .int .i64 cn, .int .i64 cd]))] rfl rfl OwnsV.at_ rfl rfl rfl rfl rfl rfl (by omega) (by omega) fun bw' cw' => ?_
        (repeat' (first|refine Za ?_|refine Zb ?_|refine Zc ?_|refine Zd ?_|refine Ze ?_|refine Zu tab rfl rfl ?_|(apply Yc;refine Yd ?_)|fail))
        rw [show ((K.length + 1 : Nat) : Int) - 1 = (K.length : Int) by omega]
        obtain ⟨c, hcq⟩ : ∃ c : Pc, (cx, cn, cd, way) = c := ⟨_, rfl⟩
        rw [hcq] at hca
        have hbdc : BdC c := by rw [← hcq]; unfold BdC; dsimp only; omega
        refine t_loopK [0, 1, 6, 7, 8, 9] (α := Nat) (fun m => [(12, .int .i64 m)]) (fun m => m ≤ K.length ∧ insR K c = (insRev c (K.take m).reverse).reverse ++ K.drop m) (fun m => [(bw', row 3 1 (K.length + 1) cw' ((K.take m ++ c :: K.drop m).flatMap wyCell)), (bp', row 89 3 (K.length + 1) cp' ((K.take m ++ c :: K.drop m).flatMap pcCells))]) (fun m => m) K.length rfl ⟨rfl, trivial⟩ ⟨Nat.le_refl _, by rw [List.take_length, List.drop_length, List.append_nil]; rfl⟩ (fun w1 hw1 => ?_) ?_
        · rw [List.take_length, List.drop_length, List.flatMap_append, List.flatMap_append, ← hcq]
          exact (hw1.sublist (.cons _ (List.Sublist.refl _))).perm List.perm_append_comm
        rintro m ⟨hm, hmq⟩
        try dsimp only [List.cons_append, List.nil_append, List.map_cons, List.map_nil]
        have hML : (K.take m ++ c :: K.drop m).length = K.length + 1 := by rw [List.length_append, List.length_take, List.length_cons, List.length_drop]; omega
        have hMm : (K.take m ++ c :: K.drop m)[m]? = some c := by rw [List.getElem?_append_right (by rw [List.length_take]; omega), List.length_take, Nat.min_eq_left hm, Nat.sub_self]; rfl
        have hlenI : (insR K c).length = K.length + 1 := (insR_perm K c).length_eq
        have hbdI : ∀ z ∈ insR K c, BdC z := fun z hz => by
          rcases List.mem_cons.1 ((insR_perm K c).subset hz) with rfl | hz
          · exact hbdc
          · exact hbd z hz
        by_cases hm0 : m = 0
        · subst hm0
          have hfin : insR K c = c :: K := by rw [hmq]; rfl
          (repeat' (first|refine Za ?_|fail))
          refine t_drawW 12 [(0, .v), (1, .v), (2, .v), (3, .v), (4, .v), (5, .v), (6, .v), (7, .v), (8, .v), (9, .v), (10, .v), (11, .v)] ?_ rfl (by kernel_rfl) (by kernel_rfl) rfl (by kernel_rfl) mixed (by kernel_rfl) rfl
          (repeat' (first|refine Yz rfl ?_|(apply Va; first|refine Vb ?_|refine Vc ?_)|refine Vd tab ?_|fail))
          refine dw_end [0, 1, 6, 7, 8, 9, 12, 65, 69, 74] (rest := []) rfl ?_
          (repeat' (first|refine Zb ?_|refine Zc ?_|refine Zd ?_|refine Zh ?_|refine Zi ?_|refine Zj ?_|refine Zl ?_|refine Zq ?_|refine Zu tab rfl rfl ?_|refine Zw rfl rfl rfl rfl ?_|(apply Ya;refine Yb ?_)|(apply Yc;refine Yd ?_)|refine Yy rfl ?_|fail))
          rw [List.take_zero, List.drop_zero, List.nil_append]
          refine xt_roundK (k + 1, insR K c, (bp', cp'), (bw', cw')) rfl ⟨by rw [hlenI]; rfl, by rw [hlenI]; rfl, rfl, trivial⟩ ⟨by dsimp only; omega, by dsimp only; rw [hto, hca, ← List.append_assoc, List.foldl_append, ← hKq]; rfl, hbdI, by dsimp only; omega⟩ (by dsimp only; omega) (fun _ h => ?_)
          dsimp only
          rw [hlenI, hfin]
          exact h
        · obtain ⟨m', rfl⟩ : ∃ m', m = m' + 1 := ⟨m - 1, by omega⟩
          obtain ⟨d, hd⟩ : ∃ d, K[m']? = some d := ⟨_, List.getElem?_eq_getElem (by omega)⟩
          have hMd : (K.take (m' + 1) ++ c :: K.drop (m' + 1))[m']? = some d := by rw [List.getElem?_append_left (by rw [List.length_take]; omega), List.getElem?_take, if_pos (by omega)]; exact hd
          have hbdd := hbd d (List.mem_of_getElem? hd)
          (repeat' (first|refine Za ?_|fail))
          refine t_drawW 12 [(0, .v), (1, .v), (2, .v), (3, .v), (4, .v), (5, .v), (6, .v), (7, .v), (8, .v), (9, .v), (10, .v), (11, .v)] ?_ rfl (by kernel_rfl) (by kernel_rfl) rfl (by kernel_rfl) mixed (by kernel_rfl) rfl
          (repeat' (first|refine Yz rfl ?_|refine Vd tab ?_|fail))
          rw [show decide (0 < ((m' + 1 : Nat) : Int)) = true from decide_eq_true (by omega)]
          (repeat' (first|refine Yz rfl ?_|refine Vd tab ?_|(apply Vl;refine Vm ?_)|fail))
          refine dw_yesN rfl rfl rfl (fun _ => o_loadRow 1 (cs := pcCells c) rfl rfl rfl (pc_get hMm)) ?_
          (repeat' (first|refine Yz rfl ?_|refine Vd tab ?_|(apply Vj;refine Vk ?_)|(apply Vl;refine Vm ?_)|fail))
          rw [show ((m' + 1 : Nat) : Int) - 1 = (m' : Int) by omega]
          (repeat' (first|fail))
          refine dw_yesN rfl rfl rfl (fun _ => o_loadRow 1 (cs := pcCells d) rfl rfl rfl (pc_get hMd)) ?_
          (repeat' (first|fail))
          refine dw_end [0, 1, 6, 7, 8, 9, 12, 65, 69, 74] (rest := []) rfl ?_
          (repeat' (first|refine Zv rfl rfl ?_|fail))
          refine tl_callV (u := .bool (lessC c d)) (fun w1 _ => less_det c.1 c.2.1 c.2.2.1 d.1 d.2.1 d.2.2.1 ?_ ?_ w1) rfl rfl ?_
          · unfold BdC at hbdc hbdd
            have := Int.mul_le_mul hbdc.2.1 hbdd.2.2.2 hbdd.2.2.1 (by omega)
            have := Int.mul_nonneg hbdc.1 hbdd.2.2.1
            omega
          · unfold BdC at hbdc hbdd
            have := Int.mul_le_mul hbdd.2.1 hbdc.2.2.2 hbdc.2.2.1 (by omega)
            have := Int.mul_nonneg hbdd.1 hbdc.2.2.1
            omega
          (repeat' (first|refine Zc ?_|refine Zd ?_|(apply Ya;refine Yb ?_)|fail))
          have hKt : K.take (m' + 1) = K.take m' ++ [d] := by rw [List.take_add_one, hd]; rfl
          have hKd : K.drop m' = d :: K.drop (m' + 1) := by rw [List.drop_eq_getElem_cons (List.getElem?_eq_some_iff.1 hd).1, (List.getElem?_eq_some_iff.1 hd).2]
          refine t_cond rfl (fun h => ?_) (fun h => ?_)
          · have hnew : ((K.take (m' + 1) ++ c :: K.drop (m' + 1)).set (m' + 1) d).set m' c = K.take m' ++ c :: K.drop m' := by
              have hl1 : (K.take (m' + 1)).length = m' + 1 := by rw [List.length_take]; omega
              have hl2 : (K.take m').length = m' := by rw [List.length_take]; omega
              rw [List.set_append_right _ _ (by omega), hl1, Nat.sub_self, List.set_cons_zero, hKt, List.append_assoc, List.set_append_right _ _ (by omega), hl2, Nat.sub_self, hKd]
              rfl
            have hmq' : insR K c = (insRev c (K.take m').reverse).reverse ++ K.drop m' := by
              rw [hmq, hKt, List.reverse_append, List.reverse_singleton, List.singleton_append, insRev, if_pos h, List.reverse_cons, List.append_assoc, List.singleton_append, hKd]
            generalize K.take (m' + 1) ++ c :: K.drop (m' + 1) = M at *
            (repeat' (first|refine Za ?_|refine Zb ?_|refine Zc ?_|refine Ze ?_|refine Zf ?_|refine Zu tab rfl rfl ?_|(apply Yn;refine Yo ?_)|fail))
            refine tl_load (o_loadRow 1 (cs := pcCells c) rfl rfl rfl (pc_get hMm)) rfl ?_
            (repeat' (first|refine Za ?_|refine Zb ?_|refine Zc ?_|refine Zd ?_|refine Zu tab rfl rfl ?_|(apply Yc;refine Yd ?_)|(apply Ye;refine Yf ?_)|refine Yk rfl fun _=>?_|(apply Yn;refine Yo ?_)|fail))
            rename_i b13
            rw [show ((m' + 1 : Nat) : Int) - 1 = (m' : Int) by omega]
            (repeat' (first|fail))
            refine tl_load (o_loadRow 2 (cs := pcCells d) rfl rfl rfl (pc_get hMd)) rfl ?_
            (repeat' (first|(apply Yn;refine Yo ?_)|fail))
            refine tl_store (o_storeRow 2 (m := 3) (vs := pcCells d) rfl rfl rfl rfl rfl (by omega)) ?_
            rw [pc_put (by omega)]
            (repeat' (first|refine Za ?_|refine Zb ?_|refine Zc ?_|refine Zd ?_|refine Zu tab rfl rfl ?_|(apply Zy;refine Zz ?_)|(apply Yc;refine Yd ?_)|(apply Yn;refine Yo ?_)|fail))
            rw [show ((m' + 1 : Nat) : Int) - 1 = (m' : Int) by omega]
            refine tl_store (o_storeRow 2 (m := 3) (vs := pcCells c) rfl rfl rfl rfl rfl (by omega)) ?_
            rw [pc_put (by rw [List.length_set]; omega), hnew]
            (repeat' (first|refine Za ?_|refine Zb ?_|refine Zc ?_|refine Zd ?_|refine Zu tab rfl rfl ?_|(apply Yn;refine Yo ?_)|fail))
            refine tl_load (o_loadRow1 1 rfl rfl (wy_get hMm)) rfl ?_
            (repeat' (first|refine Za ?_|refine Zb ?_|refine Zc ?_|refine Zd ?_|refine Zu tab rfl rfl ?_|(apply Yc;refine Yd ?_)|(apply Yn;refine Yo ?_)|fail))
            rw [show ((m' + 1 : Nat) : Int) - 1 = (m' : Int) by omega]
            (repeat' (first|fail))
            refine tl_load (o_loadRow1 1 rfl rfl (wy_get hMd)) rfl ?_
            (repeat' (first|(apply Yn;refine Yo ?_)|fail))
            refine tl_store (o_storeRow1 1 rfl rfl rfl rfl (by omega)) ?_
            rw [wy_put (by omega)]
            (repeat' (first|refine Zb ?_|refine Zc ?_|refine Zd ?_|refine Zu tab rfl rfl ?_|(apply Yc;refine Yd ?_)|(apply Yn;refine Yo ?_)|fail))
            rw [show ((m' + 1 : Nat) : Int) - 1 = (m' : Int) by omega]
            refine tl_store (o_storeRow1 1 rfl rfl rfl rfl (by omega)) ?_
            rw [wy_put (by rw [List.length_set]; omega), hnew]
            (repeat' (first|refine Zb ?_|refine Zc ?_|refine Zd ?_|refine Zi ?_|refine Zu tab rfl rfl ?_|(apply Yc;refine Yd ?_)|fail))
            rw [show ((m' + 1 : Nat) : Int) - 1 = (m' : Int) by omega]
            exact xt_roundK m' rfl ⟨rfl, trivial⟩ ⟨by omega, hmq'⟩ (by omega) (fun _ h => h.sublist (.cons _ (List.Sublist.refl _)))
          · have hfin : insR K c = K.take (m' + 1) ++ c :: K.drop (m' + 1) := by
              rw [hmq, hKt, List.reverse_append, List.reverse_singleton, List.singleton_append, insRev, if_neg (by simp [h])]
              simp
            (repeat' (first|refine Zb ?_|refine Zc ?_|refine Zd ?_|refine Zh ?_|refine Zi ?_|refine Zj ?_|refine Zl ?_|refine Zq ?_|refine Zu tab rfl rfl ?_|(apply Yc;refine Yd ?_)|fail))
            refine xt_roundK (k + 1, insR K c, (bp', cp'), (bw', cw')) rfl ⟨by rw [hlenI]; rfl, by rw [hlenI]; rfl, rfl, trivial⟩ ⟨by dsimp only; omega, by dsimp only; rw [hto, hca, ← List.append_assoc, List.foldl_append, ← hKq]; rfl, hbdI, by dsimp only; omega⟩ (by dsimp only; omega) (fun _ h => ?_)
            dsimp only
            rw [hlenI, hfin]
            exact h
    · have hkk : k = l.length := by have := of_decide_eq_false h; omega
      subst hkk
      (repeat' (first|refine Zb ?_|refine Zc ?_|refine Zd ?_|refine Zh ?_|refine Zi ?_|refine Zj ?_|refine Zl ?_|refine Zq ?_|refine Zu tab rfl rfl ?_|(apply Yc;refine Yd ?_)|fail))
      refine xt_roundK (i + 1, K, (bp, cp), (bw, cw)) rfl ⟨rfl, rfl, rfl, trivial⟩ ⟨by dsimp only; omega, ?_, hbd, ?_⟩ (by dsimp only; omega) (fun _ h => h)
      · dsimp only
        rw [hKq, List.take_add_one, hl]
        simp
      · dsimp only
        rw [List.take_add_one, hl]
        simp only [Option.toList_some, List.flatten_append, List.length_append, List.flatten_cons, List.flatten_nil, List.append_nil]
        exact hlen
  · have hiN : i = ls.length := by have := of_decide_eq_false h; omega
    subst hiN
    rw [List.take_length] at hLq
    have hLq2 : L = crsR y ls := hLq
    rw [← hLq2]
    (repeat' (first|refine Za ?_|refine Zb ?_|refine Zc ?_|refine Zd ?_|refine Zg ?_|refine Zh ?_|refine Zj ?_|refine Zl ?_|refine Zq ?_|refine Zu tab rfl rfl ?_|fail))
    have h1 : OwnsV (.slice (some ⟨bp, 0, none⟩) L.length cp) 89 3 L.length (L.flatMap pcCells) [(bp, row 89 3 L.length cp (L.flatMap pcCells))] := OwnsV.at_
    have h2 : OwnsV (.slice (some ⟨bw, 0, none⟩) L.length cw) 3 1 L.length (L.flatMap wyCell) [(bw, row 3 1 L.length cw (L.flatMap wyCell))] := OwnsV.at_
    exact xt_ret2S rfl rfl rfl fun w1 hw1 => ⟨_, _, rfl, h1.rdI hw1 (fun p hp => by rw [List.mem_singleton] at hp; subst hp; simp), h2.rdI hw1 (fun p hp => by rw [List.mem_singleton] at hp; subst hp; simp)⟩

end Go.Proofs.Ytbgolbkolcmldaa
