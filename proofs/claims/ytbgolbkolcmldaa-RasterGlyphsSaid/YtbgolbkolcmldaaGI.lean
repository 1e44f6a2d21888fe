/-
  The law's own: a box, lines cut short.
-/
import Derived.Test.YtbgolbkolcmldaaGH

namespace Go.Proofs.Ytbgolbkolcmldaa
open Go.RowKit
section
variable {P : Program} {fr : Fr} {w0 : World} {X : List Nat} {L : HL} {dd : Option Tmp} {ty t t' : TypeId} {pos : String} {af : Array Edge} {g : Option (Nat × Bool)} {x y c : Operand} {u : Value}
variable {l : List Oper} {fin : Fr → HL → Prop} {k j : Nat} {s : Sk} {sk : SkL} {acc : Fr} {Hn : HL}
theorem bx_row0 {e sz : Nat} {o : Obj} (h : bx [] e o) : row e sz 0 0 [] o := by
  unfold bx at h
  subst h
  exact ⟨#[], rfl, by simp, by simp, by simp, Nat.le_refl _, by unfold maxLen; omega⟩
/-- all of a slice behind an empty literal -/
theorem dw_appE {e sz by_ m c1 b1 : Nat} {A : Option Addr} {news : List Value} [hc : CSl P t e sz by_] (hx : fev (frkN l.toArray acc fr af.toList) x = some (.slice (some ⟨b1, 0, none⟩) 0 0)) (hy : fev (frkN l.toArray acc fr af.toList) y = some (.slice A m c1))
    (hn : 0 < m → ∃ a, A = some a ∧ ∀ w L', St w0 X L' w → ∀ j u, news[j]? = some u → w.cell? (a.add j) = some u) (hsz : Nat.blt 0 sz = true) (hl : news.length = m * sz) (h1 : ∀ u ∈ news, u.oneCell' = true) (h63 : m ≤ 9223372036854775807) (hby : m * by_ ≤ 140737488355328) (hg : GOk ⟨dd, .call ⟨.builtin .append, #[x, y], #[t, t]⟩, ty, pos, af, g⟩ acc)
    (h : ∀ b cap, DW P l fr w0 X fin sk ((k, .slice (some ⟨b, 0, none⟩) m cap) :: acc) ((b, row e sz m cap news) :: L) Hn) : DW1 P l fr w0 X fin k .h ⟨dd, .call ⟨.builtin .append, #[x, y], #[t, t]⟩, ty, pos, af, g⟩ sk acc ((b1, bx [] e) :: L) Hn := by
  rw [frkN_eq] at hx hy
  refine dw_hd (α := Nat × Nat) (fun _ => True) (fun x => .slice (some ⟨x.1, 0, none⟩) m x.2) (fun x => [(x.1, row e sz m x.2 news)]) (by simp) hg (fun L' => ?_) fun x _ => h x.1 x.2
  have hsz' : 0 < sz := by simpa [Nat.blt_eq] using hsz
  refine o_of fun ρ w hρ hw => ?_
  have hw2 : St w0 X ([(b1, row e sz 0 0 [])] ++ (L ++ L')) w := St.headImp hw fun o ho => bx_row0 ho
  by_cases hm : m = 0
  · subst hm
    have hnil : news = [] := List.length_eq_zero_iff.1 (by omega)
    subst hnil
    refine ⟨_, w, ?_, (b1, 0), trivial, rfl, hw2⟩
    simp [execOp, resolve, hρ _ _ hx, hρ _ _ hy, invoke, builtin, run_append_none (P := P) (t := t) (ty := ty) (Nat.le_refl 0)]
  · obtain ⟨a, rfl, hcell⟩ := hn (by omega)
    obtain ⟨b, cap, w', hr, hs⟩ := run_append_st (P := P) (t := t) (ty := ty) (c := c1) (n := 0) (xs := []) hsz' OwnsV.at_ hl h1 (by omega) (by unfold maxLen; omega) (by rw [Nat.zero_add]; exact hby) hw2 (hcell w _ hw)
    rw [Nat.zero_add, List.nil_append] at hs
    rw [Nat.zero_add] at hr
    refine ⟨_, w', ?_, (b, cap), trivial, rfl, hs⟩
    simp [execOp, resolve, hρ _ _ hx, hρ _ _ hy, invoke, builtin, hr]
end
end Go.Proofs.Ytbgolbkolcmldaa
namespace Go.Proofs.Ytbgolbkolcmldaa
open Go.RowKit
attribute [local irreducible] T TL Xt O Op1 Kt DV ObsB DE DW DW1 LoopQ LoopJ

def boxL (x y w h : Int) : Pts := [(x, y), (x + w, y), (x + w, y + h), (x, y + h)]
/-- lines in memory of the call's own -/
def LinesI (w w' : World) (v : Value) (ls : List Pts) : Prop := ∃ rows : List Value, RdI w.heap.size w'.heap.size w' 1 v rows ∧ rows.length = ls.length ∧ ∀ (i : Nat) (r : Value) (l : Pts), rows[i]? = some r → ls[i]? = some l → RdI w.heap.size w'.heap.size w' 2 r (ptCells l)
theorem LinesI.at {w w1 w2 : World} {v : Value} {ls : List Pts} (h : LinesI w1 w2 v ls) (hw : ∀ b, w1.heap.size ≤ b → b < w2.heap.size → w.heap[b]? = w2.heap[b]?) : Lines w v ls := by
  obtain ⟨rows, h1, h2, h3⟩ := h
  exact ⟨rows, (h1.move hw).rd, h2, fun i r l hr hl => ((h3 i r l hr hl).move hw).rd⟩
def RowI (w w' : World) (v : Value) (l : Pts) : Prop := RdI w.heap.size w'.heap.size w' 2 v (ptCells l)

theorem lbox_calls (x y w h : Int) (hx : -1000000000 ≤ x ∧ x ≤ 1000000000) (hy : -1000000000 ≤ y ∧ y ≤ 1000000000) (hw : -1000000000 ≤ w ∧ w ≤ 1000000000) (hh : -1000000000 ≤ h ∧ h ≤ 1000000000) (W : World) : Calls Try.prog 22 #[.int .i64 x, .int .i64 y, .int .i64 w, .int .i64 h] W (Ret W fun v w' => RowI W w' v (boxL x y w h)) := by
  refine calls_S (vs := [.int .i64 x, .int .i64 y, .int .i64 w, .int .i64 h]) Try.func22 rfl Try.ntmps22 rfl ?_
  (repeat' (first|refine Za ?_|refine Zb ?_|refine Zc ?_|refine Zd ?_|refine Zg ?_|refine Zu tab rfl rfl ?_|(apply Yc;refine Yd ?_)|(apply Yl;refine Ym ?_)|(apply Yv;refine Yw fun _=>?_)|fail))
  rename_i b
  exact xt_ret1S rfl rfl fun w' hw => bx_rdI hw (List.mem_cons_self ..) rfl (by unfold maxLen; omega)

def fewL (ls : List Pts) : List Pts := (ls.take 5).map (·.take 10)
theorem lines_row {w : World} {A : Option Addr} {n cap k : Nat} {ls : List Pts} {l : Pts} (h : Lines w (.slice A n cap) ls) (hk : ls[k]? = some l) : n = ls.length ∧ n ≤ 9223372036854775807 ∧ ∃ b off r, A = some ⟨b, off, none⟩ ∧ Cl w b (off + k) r ∧ Row w r l := by
  obtain ⟨rows, hr, hl, hrow⟩ := h
  obtain ⟨A', n', cap', he, h1, h2, h3, h4⟩ := hr
  cases he
  have hk' := (List.getElem?_eq_some_iff.1 hk).1
  obtain ⟨b, off, rfl, hb, hc⟩ := h4 (by omega)
  have hrk : rows[k]? = some rows[k] := List.getElem?_eq_getElem (by omega)
  unfold maxLen at h3
  exact ⟨by omega, by omega, b, off, rows[k], rfl, ⟨hb, hc k _ hrk⟩, hrow k _ l hrk hk⟩
theorem ptCells_one (l : Pts) : ∀ u ∈ ptCells l, u.oneCell' = true := by
  intro u hu
  simp only [ptCells, List.mem_flatMap] at hu
  obtain ⟨p, _, hp⟩ := hu
  simp at hp
  rcases hp with rfl | rfl <;> rfl
theorem ptCells_take (l : Pts) (k : Nat) : ptCells (l.take k) = (ptCells l).take (k * 2) := by
  induction l generalizing k with
  | nil => simp [ptCells]
  | cons p l ih =>
    cases k with
    | zero => simp [ptCells]
    | succ k =>
      rw [List.take_succ_cons, show (k + 1) * 2 = k * 2 + 1 + 1 by omega]
      have := ih k
      simp only [ptCells, List.flatMap_cons] at this ⊢
      simp [this]

theorem few_calls (w : World) (A : Option Addr) (n cap : Nat) (ls : List Pts) (hL : Lines w (.slice A n cap) ls) : Calls Try.prog 23 #[.slice A n cap] w (Ret w fun v w' => LinesI w w' v (fewL ls)) := by
  have hn : n = ls.length ∧ n ≤ 9223372036854775807 := by
    obtain ⟨rows, ⟨A', n', cap', he, h1, h2, h3, h4⟩, hl, _⟩ := hL
    cases he
    unfold maxLen at h3
    omega
  refine calls_S (vs := [.slice A n cap]) Try.func23 rfl Try.ntmps23 rfl ?_
  (repeat' (first|refine Za ?_|refine Zb ?_|refine Zc ?_|refine Zd ?_|refine Ze ?_|refine Zu tab rfl rfl ?_|(apply Yv;refine Yw fun _=>?_)|fail))
  rename_i b5
  refine t_loopK [0] (α := Nat × Value × List Value × HL × HL) (fun x => [(3, x.2.1), (4, .int .i64 x.1)]) (fun x => x.1 ≤ ls.length ∧ x.1 ≤ 5 ∧ OwnsV x.2.1 38 1 x.1 x.2.2.1 x.2.2.2.2 ∧ x.2.2.1.length = x.1 ∧ ∀ (j : Nat) (r : Value) (l : Pts), x.2.2.1[j]? = some r → ls[j]? = some l → ∃ Lj, OwnsV r 24 2 (min l.length 10) (ptCells (l.take 10)) Lj ∧ ∀ p ∈ Lj, p ∈ x.2.2.2.1) (fun x => x.2.2.2.1 ++ x.2.2.2.2) (fun x => 5 - x.1) (0, .slice (some ⟨b5, 0, none⟩) 0 0, [], [], [(b5, row 38 1 0 0 [])]) rfl ⟨rfl, rfl, trivial⟩ ⟨Nat.zero_le _, Nat.zero_le _, OwnsV.at_, rfl, fun j r l h => by simp at h⟩ (fun w h => ?_) ?_
  · exact St.headImp h fun o ho => bx_row0 ho
  rintro ⟨i, v, rs, Lr, Lv⟩ ⟨hi, hi5, hv, hrs, hrow⟩
  dsimp only at hi hi5 hv hrs hrow ⊢
  try dsimp only [List.cons_append, List.nil_append, List.map_cons, List.map_nil]
  (repeat' (first|refine Za ?_|refine Zb ?_|refine Zu tab rfl rfl ?_|fail))
  refine tl_if [0, 3, 4] (i < ls.length ∧ i < 5) rfl (fun Q' K => ?_) (fun hC => ?_) (fun hC => ?_)
  · (repeat' (first|refine Zd ?_|refine Zu tab rfl rfl ?_|refine Zv rfl rfl ?_|refine Zw rfl rfl rfl rfl ?_|(apply Ya;refine Yb ?_)|refine tl_guard rfl rfl rfl (fun _ => ?_) (fun _ => ?_)|fail))
    all_goals exact K _ _ rfl rfl (by simp_all <;> omega)
  · obtain ⟨l, hl⟩ : ∃ l, ls[i]? = some l := ⟨ls[i], List.getElem?_eq_getElem hC.1⟩
    obtain ⟨b, off, A1, n1, c1, rfl, hcl, hR⟩ := lines_cl hL hl
    have hn1 := row_len hR
    have hn2 := row_le hR
    subst hn1
    obtain ⟨_, _, _, he, hl1, hle, hmx, hcells⟩ := id hR
    cases he
    unfold maxLen at hmx
    (repeat' (first|refine Za ?_|refine Zc ?_|refine Ze ?_|refine Zf ?_|fail))
    refine t_drawWH 16 [(0, .v), (2, .v), (3, .v), (4, .v), (5, .v), (6, .v), (7, .v), (8, .v), (9, .v), (10, .v), (11, .v), (12, .v), (1, .e), (13, .h), (14, .e), (15, .h)] ?_ rfl (by kernel_rfl) (by kernel_rfl) rfl (by kernel_rfl) mixed (by kernel_rfl) rfl
    (repeat' (first|refine Yz rfl ?_|refine Vd tab ?_|(apply Vf;refine Vg ?_)|(apply Vl;refine Vm ?_)|fail))
    have hmin : (min (l.length : Int) 10) = ((min l.length 10 : Nat) : Int) := by omega
    refine dw_opN rfl rfl (fun _ => o_sliceH (n := min l.length 10) rfl (congrArg (fun z => some (Value.int .i64 z)) hmin) (by omega)) ?_
    (repeat' (first|refine Yz rfl ?_|(apply Vz;refine Ua fun _=>?_)|fail))
    refine dw_appE (news := ptCells (l.take 10)) rfl rfl (fun hpos => ?_) rfl (by rw [ptCells_length, List.length_take]; omega) (ptCells_one _) (by omega) (by omega) trivial fun b' cap' => ?_
    · obtain ⟨b2, off2, rfl, hb2, hc2⟩ := hcells (by omega)
      refine ⟨_, rfl, fun w1 L' hw1 j u hj => ?_⟩
      rw [ptCells_take, List.getElem?_take] at hj
      split at hj
      · rw [add_mk, hw1.oldCell (a := ⟨b2, off2 + j, none⟩) hb2 (by simp)]
        exact hc2 j u hj
      · cases hj
    (repeat' (first|refine Yz rfl ?_|(apply Vz;refine Ua fun _=>?_)|fail))
    refine dw_appH rfl rfl hv rfl rfl rfl (by omega) (by omega) rfl trivial fun v' Lv' hv' => ?_
    (repeat' (first|fail))
    refine dw_end [0, 4, 31] (rest := []) rfl ?_
    (repeat' (first|refine Zb ?_|refine Zc ?_|refine Zd ?_|refine Zi ?_|refine Zu tab rfl rfl ?_|(apply Yc;refine Yd ?_)|fail))
    refine xt_roundK (i + 1, v', rs ++ [.slice (some ⟨b', 0, none⟩) (min l.length 10) cap'], (b', row 24 2 (min l.length 10) cap' (ptCells (l.take 10))) :: Lr, Lv') rfl ⟨rfl, rfl, trivial⟩ ⟨by dsimp only; omega, by dsimp only; omega, hv', by simp [hrs], fun j r l' h1 h2 => ?_⟩ (by dsimp only; omega) (fun w1 hw1 => ?_)
    · dsimp only at h1 ⊢
      by_cases hj : j < rs.length
      · rw [List.getElem?_append_left hj] at h1
        obtain ⟨Lj, hj1, hj2⟩ := hrow j r l' h1 h2
        exact ⟨Lj, hj1, fun p hp => List.mem_cons_of_mem _ (hj2 p hp)⟩
      · have hlt := (List.getElem?_eq_some_iff.1 h1).1
        simp at hlt
        obtain rfl : j = i := by omega
        rw [List.getElem?_append_right (by omega), hrs, Nat.sub_self] at h1
        simp at h1
        subst h1
        rw [hl] at h2
        cases h2
        exact ⟨_, OwnsV.at_, fun p hp => by simp at hp; subst hp; exact List.mem_cons_self ..⟩
    · exact hw1.perm List.perm_append_comm
  · (repeat' (first|refine Za ?_|refine Zb ?_|refine Zc ?_|refine Zd ?_|refine Zg ?_|refine Zh ?_|refine Zj ?_|refine Zl ?_|refine Zq ?_|refine Zu tab rfl rfl ?_|fail))
    refine xt_ret1S rfl rfl fun w1 hw1 => ?_
    refine ⟨rs, hv.rdI hw1 (fun p hp => List.mem_append_right _ hp), ?_, fun j r l h1 h2 => ?_⟩
    · rw [hrs, fewL]; simp; omega
    · rw [fewL, List.getElem?_map] at h2
      have hj : j < i := by rw [← hrs]; exact (List.getElem?_eq_some_iff.1 h1).1
      rw [List.getElem?_take, if_pos (by omega)] at h2
      obtain ⟨l0, hl0, rfl⟩ := Option.map_eq_some_iff.1 h2
      obtain ⟨Lj, hj1, hj2⟩ := hrow j r l0 h1 hl0
      exact hj1.rdI hw1 fun p hp => List.mem_append_left _ (hj2 p hp)

end Go.Proofs.Ytbgolbkolcmldaa

/-
  Plain: two boxes and what is made of them, by reckoning.
-/
namespace Go.Proofs.Ytbgolbkolcmldaa

theorem sortCr_two {a b : Cr} (ha : CrOk a) (hb : CrOk b) (h : ¬ (a.n * b.d ≤ b.n * a.d)) : sortCr [a, b] = [b, a] := by
  obtain ⟨hp, hs⟩ := sortCr_spec (cs := [a, b]) (fun c hc => by simp at hc; rcases hc with rfl | rfl <;> assumption)
  have hl := hp.length_eq
  generalize sortCr [a, b] = z at hp hs hl
  match z, hl with
  | [x, y], _ =>
    have hx : x ∈ [a, b] := hp.subset (List.mem_cons_self ..)
    have h01 := hs 0 1 x y (by omega) rfl rfl
    simp at hx
    rcases hx with rfl | rfl
    · have := List.Perm.cons_inv hp
      have hy := List.perm_singleton.1 this
      simp at hy
      subst hy
      exact absurd h01 h
    · have h2 : [x, y].Perm [x, a] := hp.trans (List.Perm.swap x a [])
      have hy := List.perm_singleton.1 (List.Perm.cons_inv h2)
      simp at hy
      rw [hy]
theorem fill_two {ls : List Pts} {lx ly hx hy : Int} {a b : Cr} (hq : boxP ls = (lx, ly, hx, hy, true)) (h1 : hx - lx ≤ 65536) (h2 : hy - ly ≤ 65536) (hN : (rowOf hy - rowOf ly).toNat = 1) (hact : (actE (rowOf ly) (edgesAll ls) 1).map (crOf (rowY (rowOf ly) 0)) = [a, b])
    (ha : CrOk a) (hb : CrOk b) (h : ¬ (a.n * b.d ≤ b.n * a.d)) : fillB ls = bmOf (rowSp (lx / 64) (hx / 64 - lx / 64 + 1).toNat (rowOf ly, [b, a])) := by
  unfold fillB
  rw [hq]
  dsimp only
  rw [if_neg (by simp; omega)]
  unfold fillS rowsX
  dsimp only
  rw [hN, show List.range 1 = [0] from rfl, List.map_cons, List.map_nil, List.flatMap_cons, List.flatMap_nil, List.append_nil, rowX]
  rw [show (0 : Nat) + 1 = 1 from rfl, hact, sortCr_two ha hb h]
  simp

theorem strs_two {a b : Cr} (h : eqAt b a = false) (h1 : a.t ≠ 0) (h2 : a.t + b.t = 0) (f : Place) : strs [a, b] 0 f = [(a.p, b.p)] := by
  have h3 : a.t + b.t = 0 := h2
  simp [strs, takeRun, h, h1, h3]

def bm1 : Bm := ⟨0, 0, 2, 1, [⟨#[35, 35]⟩]⟩
def bm2 : Bm := ⟨0, 0, 1, 1, [⟨#[35]⟩]⟩
def bm3 : Bm := ⟨0, 0, 4, 2, [⟨#[46, 46, 46, 35]⟩, ⟨#[35, 35, 46, 46]⟩]⟩
theorem fill_a : fillB [boxL 0 0 128 64] = bm1 := by
  rw [fill_two (lx := 0) (ly := 0) (hx := 128) (hy := 64) (a := ⟨8192, 64, 1⟩) (b := ⟨0, 64, -1⟩) (by decide) (by decide) (by decide) (by decide) (by rfl) ⟨⟨by decide, by decide⟩, by decide⟩ ⟨⟨by decide, by decide⟩, by decide⟩ (by decide)]
  unfold rowSp
  dsimp only
  rw [strs_two (by decide) (by decide) (by decide)]
  rfl
theorem fill_b : fillB [boxL 10 0 10 64] = bm2 := by
  rw [fill_two (lx := 10) (ly := 0) (hx := 20) (hy := 64) (a := ⟨1280, 64, 1⟩) (b := ⟨640, 64, -1⟩) (by decide) (by decide) (by decide) (by decide) (by rfl) ⟨⟨by decide, by decide⟩, by decide⟩ ⟨⟨by decide, by decide⟩, by decide⟩ (by decide)]
  unfold rowSp
  dsimp only
  rw [strs_two (by decide) (by decide) (by decide)]
  rfl
theorem over_c : overB bm1 bm2 3 1 = bm3 := by rfl
theorem fill_nil : fillB [] = Bm.nil := by simp [fillB, boxP]
theorem at_c1 : bm3.at 3 1 = true := by rfl
theorem at_c2 : bm3.at 2 0 = false := by rfl
theorem wind_c : wind [boxL 0 0 64 64] 32 32 = -1 := by rfl

end Go.Proofs.Ytbgolbkolcmldaa

/-
  What must be in any case: it is.
-/
namespace Go.Proofs.Ytbgolbkolcmldaa
open Go.RowKit
attribute [local irreducible] T TL Xt O Op1 Kt DV ObsB DE DW DW1 LoopQ LoopJ

theorem lines_one {w : World} {b : Nat} {r : Value} {l : Pts} (hb : w.heap[b]? = some (.cells #[r] 38 (0, 0))) (hr : Row w r l) : Lines w (.slice (some ⟨b, 0, none⟩) 1 1) [l] := by
  refine ⟨[r], ⟨_, 1, 1, rfl, rfl, Nat.le_refl _, by unfold maxLen; omega, fun _ => ⟨b, 0, rfl, (Array.getElem?_eq_some_iff.1 hb).1, fun j u hj => ?_⟩⟩, rfl, fun i r' l' h1 h2 => ?_⟩
  · rw [cell_of hb, Nat.zero_add]
    simpa using hj
  · cases i with
    | zero => simp at h1 h2; subst h1; subst h2; exact hr
    | succ i => simp at h1
theorem lines_nil (w : World) : Lines w (.slice none 0 0) [] := ⟨[], ⟨none, 0, 0, rfl, by simp, Nat.le_refl _, by unfold maxLen; omega, fun h => absurd h (Nat.lt_irrefl 0)⟩, rfl, fun i r l h => by simp at h⟩
theorem shown_det : Det Try.prog 14 [] (.bool true) := by
  intro w
  refine calls_S (vs := []) Try.func14 rfl Try.ntmps14 rfl ?_
  (repeat' (first|refine Za ?_|refine Zb ?_|refine Zc ?_|refine Zd ?_|refine Zu tab rfl rfl ?_|fail))
  refine tl_callR (Post := fun w1 v w2 => RowI w1 w2 v (boxL 0 0 128 64)) (fun w1 hw1 => lbox_calls 0 0 128 64 (by omega) (by omega) (by omega) (by omega) w1) rfl rfl ?_
  rintro w1 w2 v1 hw1 he1 hr1
  obtain ⟨A1, n1, c1, rfl, _⟩ := id hr1
  (repeat' (first|(apply Yv;refine Yw fun _=>?_)|fail))
  rename_i b6
  refine tl_callR (Post := fun w1 v w2 => BmI w1 w2 v bm1) (fun w3 hw3 => ?_) rfl rfl ?_
  · rw [← fill_a]
    refine fill_calls w3 _ _ _ [boxL 0 0 128 64] (lines_one (hw3.get (List.mem_cons_self ..)) (RdI.move hr1 (hw3.sg fun p hp => by simp [hp])).rd) (by decide)
  rintro w3 w4 v2 hw3 he3 ⟨rv2, rfl, hr2⟩
  obtain ⟨A2, n2, c2, rfl, _⟩ := id hr2
  (repeat' (first|refine Za ?_|refine Zb ?_|refine Zc ?_|refine Zd ?_|(apply Ye;refine Yf ?_)|refine Yk rfl fun _=>?_|fail))
  rename_i a1
  refine tl_callR (Post := fun w1 v w2 => RowI w1 w2 v (boxL 10 0 10 64)) (fun w1 hw1 => lbox_calls 10 0 10 64 (by omega) (by omega) (by omega) (by omega) w1) rfl rfl ?_
  rintro w5 w6 v3 hw5 he5 hr3
  obtain ⟨A3, n3, c3, rfl, _⟩ := id hr3
  (repeat' (first|(apply Yv;refine Yw fun _=>?_)|fail))
  rename_i b9
  refine tl_callR (Post := fun w1 v w2 => BmI w1 w2 v bm2) (fun w7 hw7 => ?_) rfl rfl ?_
  · rw [← fill_b]
    refine fill_calls w7 _ _ _ [boxL 10 0 10 64] (lines_one (hw7.get (List.mem_cons_self ..)) (RdI.move hr3 (hw7.sg fun p hp => by simp [hp])).rd) (by decide)
  rintro w7 w8 v4 hw7 he7 ⟨rv4, rfl, hr4⟩
  obtain ⟨A4, n4, c4, rfl, _⟩ := id hr4
  (repeat' (first|refine Za ?_|refine Zb ?_|refine Zc ?_|refine Zd ?_|(apply Zy;refine Zz ?_)|(apply Ye;refine Yf ?_)|refine Yk rfl fun _=>?_|fail))
  rename_i a2
  refine tl_callR (Post := fun w1 v w2 => BmI w1 w2 v bm3) (fun w9 hw9 => ?_) rfl rfl ?_
  · rw [← over_c]
    exact over_calls w9 _ _ bm1 bm2 ⟨_, rfl, (RdI.move hr2 (hw9.sg fun p hp => by simp [hp])).rd⟩ ⟨_, rfl, (RdI.move hr4 (hw9.sg fun p hp => by simp [hp])).rd⟩ ⟨by decide, by decide⟩ ⟨by decide, by decide⟩ 3 1
  rintro w9 wa v5 hw9 he9 ⟨rv5, rfl, hr5⟩
  obtain ⟨A5, n5, c5, rfl, _⟩ := id hr5
  (repeat' (first|refine Za ?_|refine Zb ?_|refine Zc ?_|refine Zd ?_|(apply Zy;refine Zz ?_)|(apply Ye;refine Yf ?_)|refine Yk rfl fun _=>?_|(apply Yl;refine Ym ?_)|(apply Yv;refine Yw fun _=>?_)|fail))
  rename_i a3 l3
  refine tl_callV (u := .bool true) (fun wb hwb => ?_) rfl rfl ?_
  · exact same_calls wb _ _ bm3 bm3 ⟨_, rfl, (RdI.move hr5 (hwb.sg fun p hp => by simp [hp])).rd⟩ ⟨_, rfl, (bx_rdI hwb (List.mem_cons_self ..) rfl (by unfold maxLen; omega)).rd⟩
  (repeat' (first|refine Za ?_|refine Zb ?_|refine Zc ?_|refine Zd ?_|refine Zu tab rfl rfl ?_|(apply Zy;refine Zz ?_)|(apply Yl;refine Ym ?_)|(apply Yv;refine Yw fun _=>?_)|fail))
  rename_i l1
  refine tl_callV (u := .bool true) (fun wb hwb => ?_) rfl rfl ?_
  · exact same_calls wb _ _ bm1 bm1 ⟨_, rfl, (RdI.move hr2 (hwb.sg fun p hp => by simp [hp])).rd⟩ ⟨_, rfl, (bx_rdI hwb (List.mem_cons_self ..) rfl (by unfold maxLen; omega)).rd⟩
  (repeat' (first|refine Zu tab rfl rfl ?_|refine Zv rfl rfl ?_|(apply Zy;refine Zz ?_)|(apply Yl;refine Ym ?_)|(apply Yv;refine Yw fun _=>?_)|fail))
  rename_i l2
  refine tl_callV (u := .bool true) (fun wb hwb => ?_) rfl rfl ?_
  · exact same_calls wb _ _ bm2 bm2 ⟨_, rfl, (RdI.move hr4 (hwb.sg fun p hp => by simp [hp])).rd⟩ ⟨_, rfl, (bx_rdI hwb (List.mem_cons_self ..) rfl (by unfold maxLen; omega)).rd⟩
  (repeat' (first|refine Zu tab rfl rfl ?_|refine Zv rfl rfl ?_|(apply Zy;refine Zz ?_)|(apply Ya;refine Yb ?_)|fail))
  refine tl_callV (u := .bool (bm3.at 3 1)) (fun wb hwb => ?_) rfl rfl ?_
  · exact at_calls wb _ bm3 ⟨_, rfl, (RdI.move hr5 (hwb.sg fun p hp => by simp [hp])).rd⟩ 3 1
  rw [at_c1]
  (repeat' (first|refine Zu tab rfl rfl ?_|refine Zv rfl rfl ?_|(apply Zy;refine Zz ?_)|(apply Ya;refine Yb ?_)|fail))
  refine tl_callV (u := .bool (bm3.at 2 0)) (fun wb hwb => ?_) rfl rfl ?_
  · exact at_calls wb _ bm3 ⟨_, rfl, (RdI.move hr5 (hwb.sg fun p hp => by simp [hp])).rd⟩ 2 0
  rw [at_c2]
  (repeat' (first|refine Zu tab rfl rfl ?_|refine Zv rfl rfl ?_|(apply Ya;refine Yb ?_)|fail))
  refine tl_callR (Post := fun w1 v w2 => RowI w1 w2 v (boxL 0 0 64 64)) (fun w1 hw1 => lbox_calls 0 0 64 64 (by omega) (by omega) (by omega) (by omega) w1) rfl rfl ?_
  rintro wc wd v6 hwc hec hr6
  obtain ⟨A6, n6, c6, rfl, _⟩ := id hr6
  (repeat' (first|refine Zv rfl rfl ?_|(apply Yl;refine Ym ?_)|(apply Yv;refine Yw fun _=>?_)|fail))
  rename_i b42
  refine tl_callV (u := .int .i64 (wind [boxL 0 0 64 64] 32 32)) (fun we hwe => ?_) rfl rfl ?_
  · exact winding_calls we _ _ _ [boxL 0 0 64 64] (lines_one (hwe.get (List.mem_cons_self ..)) (RdI.move hr6 (hwe.sg fun p hp => by simp [hp])).rd) 32 32 (by decide)
  rw [wind_c]
  (repeat' (first|refine Zu tab rfl rfl ?_|refine Zv rfl rfl ?_|(apply Ya;refine Yb ?_)|fail))
  refine tl_callR (Post := fun w1 v w2 => BmI w1 w2 v Bm.nil) (fun wf hwf => ?_) rfl rfl ?_
  · rw [← fill_nil]
    exact fill_calls wf _ _ _ [] (lines_nil wf) (by decide)
  rintro wf wg v7 hwf hef ⟨rv7, rfl, hr7⟩
  obtain ⟨A7, n7, c7, rfl, _⟩ := id hr7
  (repeat' (first|refine Zv rfl rfl ?_|(apply Yl;refine Ym ?_)|fail))
  refine tl_callV (u := .bool true) (fun wb hwb => ?_) rfl rfl ?_
  · exact same_calls wb _ _ Bm.nil Bm.nil ⟨_, rfl, (RdI.move hr7 (hwb.sg fun p hp => by simp [hp])).rd⟩ ⟨_, rfl, (nil_rdI 0 0 wb 1).rd⟩
  (repeat' (first|refine Zc ?_|refine Zd ?_|refine Zg ?_|refine Zu tab rfl rfl ?_|(apply Ya;refine Yb ?_)|fail))
  exact xt_ret1S rfl rfl fun _ _ => rfl

end Go.Proofs.Ytbgolbkolcmldaa

/-
  'RasterWinds', walked.
-/
namespace Go.Proofs.Ytbgolbkolcmldaa
open Go.RowKit
attribute [local irreducible] T TL Xt O Op1 Kt DV ObsB DE DW DW1 LoopQ LoopJ

instance : CDet Try.prog 14 [] (.bool true) := ⟨shown_det⟩
theorem few_flat (ls : List Pts) : (fewL ls).flatten.length ≤ 50 := by
  have : ∀ l : List Pts, (l.map (·.take 10)).flatten.length ≤ l.length * 10 := by
    intro l
    induction l with
    | nil => simp
    | cons a l ih => rw [List.map_cons, List.flatten_cons, List.length_append, List.length_take, List.length_cons]; omega
  have h := this (ls.take 5)
  rw [List.length_take] at h
  unfold fewL
  omega
theorem edgeAt_le (l : Pts) (k : Nat) : (edgeAt l k).length ≤ 1 := by
  unfold edgeAt
  split
  · split <;> simp
  · simp
theorem edgesTo_le (l : Pts) : ∀ k, (edgesTo l k).length ≤ k
  | 0 => by simp [edgesTo]
  | k + 1 => by
    have h1 := edgesTo_le l k
    have h2 := edgeAt_le l k
    rw [edgesTo_succ, List.length_append]
    omega
theorem edgesAll_le : ∀ ls : List Pts, (edgesAll ls).length ≤ ls.flatten.length
  | [] => by simp [edgesAll]
  | l :: ls => by
    have h1 := edgesTo_le l l.length
    have h2 := edgesAll_le ls
    rw [edgesAll, List.flatMap_cons, List.length_append, List.flatten_cons, List.length_append]
    unfold edgesAll at h2
    have e : edgesOf l = edgesTo l l.length := rfl
    rw [e]
    omega
theorem winds_calls (w : World) (A : Option Addr) (n cap : Nat) (ls : List Pts) (hL : Lines w (.slice A n cap) ls) (x y : Int) : Calls Try.prog 10 #[.slice A n cap, pt x y] w (Ret w fun v _ => v = .bool true) := by
  have hfl := few_flat ls
  have hel := edgesAll_le (fewL ls)
  refine calls_S (vs := [.slice A n cap, pt x y]) Try.func10 rfl Try.ntmps10 rfl ?_
  (repeat' (first|refine Za ?_|refine Zb ?_|refine Zc ?_|refine Zd ?_|refine Zu tab rfl rfl ?_|(apply Yg; first|refine Yh fun _=>?_|refine Yi (Yj rfl rfl) rfl fun _=>?_)|(apply Yt;refine Yu ?_)|fail))
  rename_i b3
  refine t_drawW 9 [(0, .v), (1, .v), (2, .v), (4, .v), (6, .v), (8, .v), (3, .e), (5, .e), (7, .e)] ?_ rfl (by kernel_rfl) (by kernel_rfl) rfl (by kernel_rfl) mixed (by kernel_rfl) rfl
  (repeat' (first|refine Yz rfl ?_|refine Vd tab ?_|(apply Vf;refine Vg ?_)|fail))
  refine dw_callR (Post := fun w1 v w2 => LinesI w1 w2 v (fewL ls)) (fun L' w1 hw1 => few_calls w1 A n cap ls (hL.to hw1.toExt)) rfl rfl rfl ?_
  rintro w1 w2 v1 L1 hw1 he1 hl1
  obtain ⟨rows1, ⟨A1, n1, c1, rfl, _⟩, _⟩ := id hl1
  (repeat' (first|refine Yz rfl ?_|fail))
  refine dw_callV (u := .int .i64 (wind (fewL ls) x y)) (fun L' w3 hw3 => winding_calls w3 _ _ _ (fewL ls) (hl1.at (hw3.sg fun p hp => by simp [hp])) x y (by omega)) rfl rfl rfl rfl ?_
  (repeat' (first|refine Yz rfl ?_|fail))
  refine dw_callR (Post := fun w1 v w2 => LinesI w1 w2 v (fewL ls)) (fun L' w1 hw1 => few_calls w1 A n cap ls (hL.to hw1.toExt)) rfl rfl rfl ?_
  rintro w3 w4 v2 L2 hw3 he3 hl2
  obtain ⟨rows2, ⟨A2, n2, c2, rfl, _⟩, _⟩ := id hl2
  (repeat' (first|fail))
  refine dw_end [8, 12, 14, 15] (rest := []) rfl ?_
  (repeat' (first|refine Zv rfl rfl ?_|fail))
  refine tl_callV (u := .int .i64 (wind (fewL ls) x y)) (fun w5 hw5 => ?_) rfl rfl ?_
  · rw [wind_eq]
    exact rwind_calls w5 _ _ _ (fewL ls) (hl2.at (hw5.sg fun p hp => by simp [hp])) x y (by omega)
  generalize wind (fewL ls) x y = z
  (repeat' (first|refine Zc ?_|refine Zd ?_|refine Zg ?_|refine Zu tab rfl rfl ?_|refine Zv rfl rfl ?_|(apply Ya;refine Yb ?_)|fail))
  exact xt_ret1S rfl rfl fun _ _ => by simp

end Go.Proofs.Ytbgolbkolcmldaa

/-
  The law's own: lines near by.
-/
namespace Go.Proofs.Ytbgolbkolcmldaa
open Go.RowKit
theorem and_mask (x : Int) (j : Nat) (hj : j ≤ 62) : bits .and .i64 x ((2 ^ j - 1 : Nat) : Int) = x % ((2 ^ j : Nat) : Int) := by
  show IntKind.i64.wrap ((BitVec.ofInt 64 x &&& BitVec.ofInt 64 ((2 ^ j - 1 : Nat) : Int)).toNat : Int) = _
  rw [BitVec.toNat_and, BitVec.toNat_ofInt, BitVec.toNat_ofInt]
  have hp : 0 < 2 ^ j := Nat.two_pow_pos j
  have h62 : 2 ^ j ≤ 2 ^ 62 := Nat.pow_le_pow_right (by decide) hj
  have e1 : (((2 ^ j - 1 : Nat) : Int) % ((2 ^ 64 : Nat) : Int)).toNat = 2 ^ j - 1 := by
    rw [Int.emod_eq_of_lt (by omega) (by have : (2:Nat) ^ 62 < 2 ^ 64 := by decide
                                         omega)]
    simp
  rw [e1, Nat.and_two_pow_sub_one_eq_mod]
  have hlt := Nat.mod_lt (x % ((2 ^ 64 : Nat) : Int)).toNat hp
  have h0 : 0 ≤ x % ((2 ^ 64 : Nat) : Int) := Int.emod_nonneg _ (by decide)
  have e2 : ((((x % ((2 ^ 64 : Nat) : Int)).toNat % 2 ^ j : Nat)) : Int) = x % ((2 ^ j : Nat) : Int) := by
    rw [Int.natCast_emod, Int.toNat_of_nonneg h0]
    exact Int.emod_emod_of_dvd x (by exact_mod_cast Nat.pow_dvd_pow 2 (by omega))
  rw [← e2, IntKind.wrap_i64]
  have : (2:Nat) ^ 62 = 4611686018427387904 := by decide
  omega
section
variable {P : Program} {I : World → Prop} {fr : Fr} {d : Option Tmp} {ty t t' : TypeId} {pos : String} {af : Array Edge} {g : Option (Nat × Bool)} {x y : Operand}
theorem o_mask (j : Nat) {a m : Int} (hx : fev fr x = some (.int .i64 a)) (hy : fev fr y = some (.int .i64 m)) (hm : m = ((2 ^ j - 1 : Nat) : Int)) (hj : Nat.ble j 62 = true) : Pv P ⟨d, .binOp .and t x y t', ty, pos, af, g⟩ fr I (.int .i64 (a % (m + 1))) := by
  have := o_and (P := P) (I := I) (d := d) (ty := ty) (t := t) (t' := t') (pos := pos) (af := af) (g := g) hx hy
  rw [hm, and_mask a j (by simpa [Nat.ble_eq] using hj)] at this
  have hp : 0 < 2 ^ j := Nat.two_pow_pos j
  rw [hm, show ((2 ^ j - 1 : Nat) : Int) + 1 = ((2 ^ j : Nat) : Int) by omega]
  exact this
end
end Go.Proofs.Ytbgolbkolcmldaa
namespace Go.Proofs.Ytbgolbkolcmldaa
open Go.RowKit
attribute [local irreducible] T TL Xt O Op1 Kt DV ObsB DE DW DW1 LoopQ LoopJ

def nrP (p : Int × Int) : Int × Int := (p.1 % 4096 - 2048, p.2 % 4096 - 2048)
def nrL (l : Pts) : Pts := (l.take 10).map nrP
def nearL (ls : List Pts) : List Pts := (ls.take 5).map nrL
theorem ptCells_append (a b : Pts) : ptCells (a ++ b) = ptCells a ++ ptCells b := by simp [ptCells]

set_option maxHeartbeats 1000000 in
theorem near_calls (w : World) (A : Option Addr) (n cap : Nat) (ls : List Pts) (hL : Lines w (.slice A n cap) ls) : Calls Try.prog 15 #[.slice A n cap] w (Ret w fun v w' => LinesI w w' v (nearL ls)) := by
  have hn : n = ls.length ∧ n ≤ 9223372036854775807 := by
    obtain ⟨rows, ⟨A', n', cap', he, h1, h2, h3, h4⟩, hl, _⟩ := hL
    cases he
    unfold maxLen at h3
    omega
  refine calls_S (vs := [.slice A n cap]) Try.func15 rfl Try.ntmps15 rfl ?_
  (repeat' (first|refine Za ?_|refine Zb ?_|refine Zc ?_|refine Zd ?_|refine Ze ?_|refine Zu tab rfl rfl ?_|(apply Yv;refine Yw fun _=>?_)|fail))
  rename_i b5
  refine t_loopK [0] (α := Nat × Value × List Value × HL × HL) (fun x => [(3, x.2.1), (4, .int .i64 x.1)]) (fun x => x.1 ≤ ls.length ∧ x.1 ≤ 5 ∧ OwnsV x.2.1 38 1 x.1 x.2.2.1 x.2.2.2.2 ∧ x.2.2.1.length = x.1 ∧ ∀ (j : Nat) (r : Value) (l : Pts), x.2.2.1[j]? = some r → ls[j]? = some l → ∃ Lj, OwnsV r 24 2 (min l.length 10) (ptCells (nrL l)) Lj ∧ ∀ p ∈ Lj, p ∈ x.2.2.2.1) (fun x => x.2.2.2.1 ++ x.2.2.2.2) (fun x => 5 - x.1) (0, .slice (some ⟨b5, 0, none⟩) 0 0, [], [], [(b5, row 38 1 0 0 [])]) rfl ⟨rfl, rfl, trivial⟩ ⟨Nat.zero_le _, Nat.zero_le _, OwnsV.at_, rfl, fun j r l h => by simp at h⟩ (fun w h => ?_) ?_
  · exact St.headImp h fun o ho => bx_row0 ho
  rintro ⟨i, v, rs, Lr, Lv⟩ ⟨hi, hi5, hv, hrs, hrow⟩
  dsimp only at hi hi5 hv hrs hrow ⊢
  try dsimp only [List.cons_append, List.nil_append, List.map_cons, List.map_nil]
  (repeat' (first|refine Za ?_|refine Zb ?_|refine Zu tab rfl rfl ?_|fail))
  refine tl_if [0, 3, 4] (i < ls.length ∧ i < 5) rfl (fun Q' K => ?_) (fun hC => ?_) (fun hC => ?_)
  · (repeat' (first|refine Zd ?_|refine Zu tab rfl rfl ?_|refine Zv rfl rfl ?_|refine Zw rfl rfl rfl rfl ?_|(apply Ya;refine Yb ?_)|refine tl_guard rfl rfl rfl (fun _ => ?_) (fun _ => ?_)|fail))
    all_goals exact K _ _ rfl rfl (by simp_all <;> omega)
  · obtain ⟨l, hl⟩ : ∃ l, ls[i]? = some l := ⟨ls[i], List.getElem?_eq_getElem hC.1⟩
    obtain ⟨b, off, A1, n1, c1, rfl, hcl, hR⟩ := lines_cl hL hl
    have hn1 := row_len hR
    have hn2 := row_le hR
    subst hn1
    (repeat' (first|refine Za ?_|refine Zb ?_|refine Zc ?_|refine Zd ?_|refine Ze ?_|refine Zf ?_|refine Zu tab rfl rfl ?_|(apply Yv;refine Yw fun _=>?_)|fail))
    rename_i b18
    refine t_loopK [0, 3, 4] (α := Nat × Value × HL) (fun x => [(5, x.2.1), (6, .int .i64 x.1)]) (fun x => x.1 ≤ l.length ∧ x.1 ≤ 10 ∧ OwnsV x.2.1 24 2 x.1 (ptCells ((l.take x.1).map nrP)) x.2.2) (fun x => Lr ++ Lv ++ x.2.2) (fun x => 10 - x.1) (0, .slice (some ⟨b18, 0, none⟩) 0 0, [(b18, row 24 2 0 0 [])]) rfl ⟨rfl, rfl, trivial⟩ ⟨Nat.zero_le _, Nat.zero_le _, OwnsV.at_⟩ (fun w h => ?_) ?_
    · exact (St.headImp h fun o ho => bx_row0 ho).perm (List.perm_append_comm (l₁ := [_]))
    rintro ⟨k, u, Lu⟩ ⟨hk, hk10, hu⟩
    dsimp only at hk hk10 hu ⊢
    try dsimp only [List.cons_append, List.nil_append, List.map_cons, List.map_nil]
    (repeat' (first|refine Za ?_|refine Zb ?_|refine Zu tab rfl rfl ?_|(apply Zy;refine Zz ?_)|(apply Yn;refine Yo ?_)|fail))
    refine tl_if [0, 3, 4, 5, 6] (k < l.length ∧ k < 10) rfl (fun Q' K => ?_) (fun hD => ?_) (fun hD => ?_)
    · (repeat' (first|refine Zd ?_|refine Zu tab rfl rfl ?_|refine Zv rfl rfl ?_|refine Zw rfl rfl rfl rfl ?_|(apply Ya;refine Yb ?_)|refine tl_guard rfl rfl rfl (fun _ => ?_) (fun _ => ?_)|fail))
      all_goals exact K _ _ rfl rfl (by simp_all <;> omega)
    · obtain ⟨p, hp⟩ : ∃ p, l[k]? = some p := ⟨l[k], List.getElem?_eq_getElem hD.1⟩
      obtain ⟨b2, off2, rfl, hpc⟩ := row_cl hR hp
      (repeat' (first|refine Za ?_|refine Zc ?_|refine Ze ?_|refine Zf ?_|fail))
      refine t_drawWH 24 [(0, .v), (1, .v), (2, .v), (3, .v), (4, .v), (5, .v), (6, .v), (7, .v), (8, .v), (9, .v), (10, .v), (11, .v), (12, .v), (13, .v), (14, .v), (15, .v), (16, .v), (17, .v), (18, .v), (19, .v), (20, .v), (21, .v), (22, .e), (23, .h)] ?_ rfl (by kernel_rfl) (by kernel_rfl) rfl (by kernel_rfl) mixed (by kernel_rfl) rfl
      (repeat' (first|refine Yz rfl ?_|refine Vd tab ?_|(apply Vf;refine Vg ?_)|(apply Vl;refine Vm ?_)|fail))
      refine dw_opN rfl rfl (fun _ => o_mask 12 rfl rfl rfl rfl) ?_
      (repeat' (first|refine Yz rfl ?_|refine Vd tab ?_|(apply Vf;refine Vg ?_)|(apply Vj;refine Vk ?_)|(apply Vl;refine Vm ?_)|fail))
      refine dw_opN rfl rfl (fun _ => o_mask 12 rfl rfl rfl rfl) ?_
      (repeat' (first|refine Yz rfl ?_|(apply Vj;refine Vk ?_)|(apply Vn;refine Vo ?_)|(apply Vz;refine Ua fun _=>?_)|fail))
      refine dw_appH rfl rfl hu rfl rfl rfl (by omega) (by omega) rfl trivial fun v' Lv' hv' => ?_
      (repeat' (first|fail))
      refine dw_end [0, 3, 4, 6, 55] (rest := []) rfl ?_
      (repeat' (first|refine Zb ?_|refine Zc ?_|refine Zd ?_|refine Zi ?_|refine Zu tab rfl rfl ?_|(apply Yc;refine Yd ?_)|fail))
      refine xt_roundK (k + 1, v', Lv') rfl ⟨rfl, rfl, trivial⟩ ⟨by dsimp only; omega, by dsimp only; omega, ?_⟩ (by dsimp only; omega) (fun w1 hw1 => hw1.perm List.perm_append_comm)
      dsimp only
      rw [List.take_add_one, hp, List.map_append, ptCells_append]
      exact hv'
    · obtain ⟨A3, c3, rfl⟩ := hu.shape
      (repeat' (first|refine Zb ?_|refine Zc ?_|refine Zh ?_|refine Zj ?_|refine Zl ?_|refine Zq ?_|refine Zu tab rfl rfl ?_|(apply Yv;refine Yw fun _=>?_)|fail))
      rename_i b58
      have hkm : k = min l.length 10 := by omega
      refine tl_imp (I' := St w [] ((b58, bx [.slice A3 k c3] 38) :: ((Lr ++ Lu) ++ Lv))) (fun w1 hw1 => hw1.perm (List.Perm.cons _ (by rw [List.append_assoc, List.append_assoc]; exact List.perm_append_comm.append_left Lr))) ?_
      refine tl_app (Lr ++ Lu) rfl rfl hv rfl rfl rfl rfl rfl rfl (by omega) (by omega) fun b' cap' => ?_
      (repeat' (first|refine Zb ?_|refine Zc ?_|refine Zd ?_|refine Zi ?_|refine Zu tab rfl rfl ?_|(apply Yc;refine Yd ?_)|fail))
      refine xt_roundK (i + 1, _, rs ++ [.slice A3 k c3], Lr ++ Lu, [(b', row 38 1 (i + 1) cap' (rs ++ [.slice A3 k c3]))]) rfl ⟨rfl, rfl, trivial⟩ ⟨by dsimp only; omega, by dsimp only; omega, OwnsV.at_, by simp [hrs], fun j r l' h1 h2 => ?_⟩ (by dsimp only; omega) (fun w1 hw1 => hw1)
      dsimp only at h1 ⊢
      by_cases hj : j < rs.length
      · rw [List.getElem?_append_left hj] at h1
        obtain ⟨Lj, hj1, hj2⟩ := hrow j r l' h1 h2
        exact ⟨Lj, hj1, fun p hp => List.mem_append_left _ (hj2 p hp)⟩
      · have hlt := (List.getElem?_eq_some_iff.1 h1).1
        simp at hlt
        obtain rfl : j = i := by omega
        rw [List.getElem?_append_right (by omega), hrs, Nat.sub_self] at h1
        simp at h1
        subst h1
        rw [hl] at h2
        cases h2
        refine ⟨Lu, ?_, fun p hp => List.mem_append_right _ hp⟩
        rw [← hkm]
        have e : nrL l = (l.take k).map nrP := by
          unfold nrL
          congr 1
          rw [hkm]
          apply List.ext_getElem?
          intro m
          simp only [List.getElem?_take]
          split
          · split
            · rfl
            · rw [List.getElem?_eq_none (by omega)]
          · rw [if_neg (by omega)]
        rw [e]
        exact hu
  · (repeat' (first|refine Za ?_|refine Zb ?_|refine Zc ?_|refine Zd ?_|refine Zg ?_|refine Zh ?_|refine Zj ?_|refine Zl ?_|refine Zq ?_|refine Zu tab rfl rfl ?_|fail))
    refine xt_ret1S rfl rfl fun w1 hw1 => ?_
    refine ⟨rs, hv.rdI hw1 (fun p hp => List.mem_append_right _ hp), ?_, fun j r l h1 h2 => ?_⟩
    · rw [hrs, nearL]; simp; omega
    · rw [nearL, List.getElem?_map] at h2
      have hj : j < i := by rw [← hrs]; exact (List.getElem?_eq_some_iff.1 h1).1
      rw [List.getElem?_take, if_pos (by omega)] at h2
      obtain ⟨l0, hl0, rfl⟩ := Option.map_eq_some_iff.1 h2
      obtain ⟨Lj, hj1, hj2⟩ := hrow j r l0 h1 hl0
      exact hj1.rdI hw1 fun p hp => List.mem_append_left _ (hj2 p hp)

end Go.Proofs.Ytbgolbkolcmldaa

/-
  From here on all that there is is of old; lines of the call's own.
-/
namespace Go.Proofs.Ytbgolbkolcmldaa
open Go.RowKit
section
variable {P : Program} {r : Option Nat} {Q : Exit → Act → World → Prop} {nt : Nat} {D : List Deferred} {fr : Fr} {I : World → Prop} {ops : Array Oper} {rest : List Oper} {cd : Code}
/-- from here on all that there is is of old -/
theorem tl_rebase (h : ∀ w', I w' → TL P r ops Q nt D rest fr (St w' [] [])) : TL P r ops Q nt D rest fr I := fun a w ha hw => h w hw a w ha (St.init w [])
theorem t_rebase (h : ∀ w', I w' → T P r cd Q nt D fr (St w' [] [])) : T P r cd Q nt D fr I := fun a w ha hw => h w hw a w ha (St.init w [])
end
/-- lines whose row of rows is of the call's own -/
theorem lines_own {w w' : World} {v : Value} {n : Nat} {rs : List Value} {Lv L' : HL} {ls : List Pts} (ho : OwnsV v 38 1 n rs Lv) (hs : St w [] L' w') (hm : ∀ p ∈ Lv, p ∈ L') (hl : rs.length = ls.length) (h : ∀ (i : Nat) (r : Value) (l : Pts), rs[i]? = some r → ls[i]? = some l → Row w' r l) : Lines w' v ls :=
  ⟨rs, (ho.rdI hs hm).rd, hl, h⟩
/-- a row of rows, as it may be appended -/
theorem lines_src {w : World} {A : Option Addr} {n cap : Nat} {ls : List Pts} (h : Lines w (.slice A n cap) ls) : ∃ rows : List Value, rows.length = n * 1 ∧ n = ls.length ∧ (∀ u ∈ rows, u.oneCell' = true) ∧ (0 < n → ∃ a, A = some a ∧ ∀ w' L, St w [] L w' → ∀ j u, rows[j]? = some u → w'.cell? (a.add j) = some u) ∧ ∀ (i : Nat) (r : Value) (l : Pts), rows[i]? = some r → ls[i]? = some l → Row w r l := by
  obtain ⟨rows, ⟨A', n', cap', he, h1, h2, h3, h4⟩, hl, hrow⟩ := h
  cases he
  refine ⟨rows, h1, by omega, fun u hu => ?_, fun h0 => ?_, hrow⟩
  · obtain ⟨i, hi, rfl⟩ := List.getElem_of_mem hu
    obtain ⟨A2, n2, c2, he2, _⟩ := hrow i rows[i] (ls[i]'(by omega)) (List.getElem?_eq_getElem hi) (List.getElem?_eq_getElem (by omega))
    rw [he2]; rfl
  · obtain ⟨b, off, rfl, hb, hc⟩ := h4 h0
    exact ⟨_, rfl, fun w' L hs j u hj => by rw [add_mk, hs.oldCell (a := ⟨b, off + j, none⟩) hb (by simp)]; exact hc j u hj⟩
end Go.Proofs.Ytbgolbkolcmldaa

namespace Go.Proofs.Ytbgolbkolcmldaa
theorem own_cl {w w' : World} {L : HL} {b : Nat} {cs : List Value} {t : TypeId} (hs : St w [] L w') (hm : (b, bx cs t) ∈ L) : ClA w' b 0 cs := by
  have := hs.get hm
  exact ⟨(Array.getElem?_eq_some_iff.1 this).1, fun j v hj => by rw [cell_of this, Nat.zero_add]; simpa using hj⟩
theorem ClA.to {w w' : World} {b k : Nat} {cs : List Value} (h : ClA w b k cs) (e : Ext w w') : ClA w' b k cs :=
  ⟨Nat.lt_of_lt_of_le h.1 e.size, fun j v hj => by rw [World.cell?_of_block (e.block b h.1)]; exact h.2 j v hj⟩
theorem BmAt.to {w w' : World} {v : Value} {B : Bm} (h : BmAt w v B) (e : Ext w w') : BmAt w' v B := by
  obtain ⟨rv, hv, hr⟩ := h
  exact ⟨rv, hv, hr.ext e⟩

theorem m16 : (65535 : Int) = ((2 ^ 16 - 1 : Nat) : Int) := by simp
theorem ptCells_drop (l : Pts) (k : Nat) : ptCells (l.drop k) = (ptCells l).drop (k * 2) := by
  have h1 : ptCells l = ptCells (l.take k) ++ ptCells (l.drop k) := by rw [← ptCells_append, List.take_append_drop]
  rcases Nat.le_total k l.length with h | h
  · have h2 : (ptCells (l.take k)).length = k * 2 := by rw [ptCells_length, List.length_take, Nat.min_eq_left h]
    rw [h1, ← h2, List.drop_left]
  · rw [List.drop_eq_nil_of_le h, List.drop_eq_nil_of_le (by rw [ptCells_length]; omega)]; rfl


end Go.Proofs.Ytbgolbkolcmldaa
