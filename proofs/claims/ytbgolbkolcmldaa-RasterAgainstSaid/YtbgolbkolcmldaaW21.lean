/-
  The law's own: a box, lines cut short.
-/
import Derived.Test.YtbgolbkolcmldaaW20
namespace Go.Proofs.Ytbgolbkolcmldaa
open Go.RowKit
section
variable {P : Program} {fr : Fr} {w0 : World} {X : List Nat} {L : HL} {dd : Option Tmp} {ty t t' : TypeId} {pos : String} {af : Array Edge} {g : Option (Nat × Bool)} {x y c : Operand} {u : Value}
variable {l : List Oper} {fin : Fr → HL → Prop} {k j : Nat} {s : Sk} {sk : SkL} {acc : Fr} {Hn : HL}
theorem bx_row0 {e sz : Nat} {o : Obj} (h : bx [] e o) : row e sz 0 0 [] o := by
  unfold bx at h
  subst h
  exact ⟨#[], rfl, by simp, by simp, by simp, Nat.le_refl _, by unfold maxLen; omega⟩
/-- all of a slice behind an empty literal -/
theorem dw_appE {e sz by_ m c1 b1 : Nat} {A : Option Addr} {news : List Value} [hc : CSl P t e sz by_] (hx : fev (frkN l.toArray acc fr af.toList) x = some (.slice (some ⟨b1, 0, none⟩) 0 0)) (hy : fev (frkN l.toArray acc fr af.toList) y = some (.slice A m c1))
    (hn : 0 < m → ∃ a, A = some a ∧ ∀ w L', St w0 X L' w → ∀ j u, news[j]? = some u → w.cell? (a.add j) = some u) (hsz : Nat.blt 0 sz = true) (hl : news.length = m * sz) (h1 : ∀ u ∈ news, u.oneCell' = true) (h63 : m ≤ 9223372036854775807) (hby : m * by_ ≤ 140737488355328) (hg : GOk ⟨dd, .call ⟨.builtin .append, #[x, y], #[t, t]⟩, ty, pos, af, g⟩ acc)
    (h : ∀ b cap, DW P l fr w0 X fin sk ((k, .slice (some ⟨b, 0, none⟩) m cap) :: acc) ((b, row e sz m cap news) :: L) Hn) : DW1 P l fr w0 X fin k .h ⟨dd, .call ⟨.builtin .append, #[x, y], #[t, t]⟩, ty, pos, af, g⟩ sk acc ((b1, bx [] e) :: L) Hn := by
  rw [frkN_eq] at hx hy
  refine dw_hd (α := Nat × Nat) (fun _ => True) (fun x => .slice (some ⟨x.1, 0, none⟩) m x.2) (fun x => [(x.1, row e sz m x.2 news)]) (by simp) hg (fun L' => ?_) fun x _ => h x.1 x.2
  have hsz' : 0 < sz := by simpa [Nat.blt_eq] using hsz
  refine o_of fun ρ w hρ hw => ?_
  have hw2 : St w0 X ([(b1, row e sz 0 0 [])] ++ (L ++ L')) w := St.headImp hw fun o ho => bx_row0 ho
  by_cases hm : m = 0
  · subst hm
    have hnil : news = [] := List.length_eq_zero_iff.1 (by omega)
    subst hnil
    refine ⟨_, w, ?_, (b1, 0), trivial, rfl, hw2⟩
    simp [execOp, resolve, hρ _ _ hx, hρ _ _ hy, invoke, builtin, run_append_none (P := P) (t := t) (ty := ty) (Nat.le_refl 0)]
  · obtain ⟨a, rfl, hcell⟩ := hn (by omega)
    obtain ⟨b, cap, w', hr, hs⟩ := run_append_st (P := P) (t := t) (ty := ty) (c := c1) (n := 0) (xs := []) hsz' OwnsV.at_ hl h1 (by omega) (by unfold maxLen; omega) (by rw [Nat.zero_add]; exact hby) hw2 (hcell w _ hw)
    rw [Nat.zero_add, List.nil_append] at hs
    rw [Nat.zero_add] at hr
    refine ⟨_, w', ?_, (b, cap), trivial, rfl, hs⟩
    simp [execOp, resolve, hρ _ _ hx, hρ _ _ hy, invoke, builtin, hr]
end
end Go.Proofs.Ytbgolbkolcmldaa
namespace Go.Proofs.Ytbgolbkolcmldaa
open Go.RowKit
attribute [local irreducible] T TL Xt O Op1 Kt DV ObsB DE DW DW1 LoopQ LoopJ

def boxL (x y w h : Int) : Pts := [(x, y), (x + w, y), (x + w, y + h), (x, y + h)]
/-- lines in memory of the call's own -/
def LinesI (w w' : World) (v : Value) (ls : List Pts) : Prop := ∃ rows : List Value, RdI w.heap.size w'.heap.size w' 1 v rows ∧ rows.length = ls.length ∧ ∀ (i : Nat) (r : Value) (l : Pts), rows[i]? = some r → ls[i]? = some l → RdI w.heap.size w'.heap.size w' 2 r (ptCells l)
theorem LinesI.at {w w1 w2 : World} {v : Value} {ls : List Pts} (h : LinesI w1 w2 v ls) (hw : ∀ b, w1.heap.size ≤ b → b < w2.heap.size → w.heap[b]? = w2.heap[b]?) : Lines w v ls := by
  obtain ⟨rows, h1, h2, h3⟩ := h
  exact ⟨rows, (h1.move hw).rd, h2, fun i r l hr hl => ((h3 i r l hr hl).move hw).rd⟩
def RowI (w w' : World) (v : Value) (l : Pts) : Prop := RdI w.heap.size w'.heap.size w' 2 v (ptCells l)

theorem lbox_calls (x y w h : Int) (hx : -1000000000 ≤ x ∧ x ≤ 1000000000) (hy : -1000000000 ≤ y ∧ y ≤ 1000000000) (hw : -1000000000 ≤ w ∧ w ≤ 1000000000) (hh : -1000000000 ≤ h ∧ h ≤ 1000000000) (W : World) : Calls Try.prog 22 #[.int .i64 x, .int .i64 y, .int .i64 w, .int .i64 h] W (Ret W fun v w' => RowI W w' v (boxL x y w h)) := by
  refine calls_S (vs := [.int .i64 x, .int .i64 y, .int .i64 w, .int .i64 h]) Try.func22 rfl Try.ntmps22 rfl ?_
  (repeat' (first|refine Za ?_|refine Zb ?_|refine Zc ?_|refine Zd ?_|refine Ze ?_|refine Zf ?_|refine Zg ?_|refine Zh ?_|refine Zi ?_|refine Zj ?_|refine Zk ?_|refine Zl ?_|refine Zm ?_|refine Zn rfl ?_|refine Zo ?_|refine Zp ?_|refine Zq ?_|refine Zr ?_|refine Zs ?_|refine Zt ?_|refine Zu tab rfl rfl ?_|refine Zv rfl rfl ?_|refine Zw rfl rfl rfl rfl ?_|refine Zx rfl rfl rfl ?_|(apply Zy;refine Zz ?_)|(apply Ya;refine Yb ?_)|(apply Yc;refine Yd ?_)|(apply Ye;refine Yf ?_)|(apply Yg; first|refine Yh fun _=>?_|refine Yi (Yj rfl rfl) rfl fun _=>?_)|refine Yk rfl fun _=>?_|(apply Yl;refine Ym ?_)|(apply Yn;refine Yo ?_)|(apply Yp;refine Yq ?_)|(apply Yr;refine Ys ?_)|(apply Yt;refine Yu ?_)|(apply Yv;refine Yw fun _=>?_)|refine Yx rfl ?_|refine Yy rfl ?_|refine Yz rfl ?_|(apply Va; first|refine Vb ?_|refine Vc ?_)|refine Vd tab ?_|refine Ve fun _=>?_|(apply Vf;refine Vg ?_)|(apply Vh;refine Vi ?_)|(apply Vj;refine Vk ?_)|(apply Vl;refine Vm ?_)|(apply Vn;refine Vo ?_)|(apply Vp;refine Vq ?_)|(apply Vr;refine Vs ?_)|(apply Vt;refine Vu ?_)|(apply Vv;refine Vw ?_)|(apply Vx;refine Vy ?_)|(apply Vz;refine Ua fun _=>?_)))
  rename_i b
  exact xt_ret1S rfl rfl fun w' hw => bx_rdI hw (List.mem_cons_self ..) rfl (by unfold maxLen; omega)

def fewL (ls : List Pts) : List Pts := (ls.take 5).map (·.take 10)
theorem lines_row {w : World} {A : Option Addr} {n cap k : Nat} {ls : List Pts} {l : Pts} (h : Lines w (.slice A n cap) ls) (hk : ls[k]? = some l) : n = ls.length ∧ n ≤ 9223372036854775807 ∧ ∃ b off r, A = some ⟨b, off, none⟩ ∧ Cl w b (off + k) r ∧ Row w r l := by
  obtain ⟨rows, hr, hl, hrow⟩ := h
  obtain ⟨A', n', cap', he, h1, h2, h3, h4⟩ := hr
  cases he
  have hk' := (List.getElem?_eq_some_iff.1 hk).1
  obtain ⟨b, off, rfl, hb, hc⟩ := h4 (by omega)
  have hrk : rows[k]? = some rows[k] := List.getElem?_eq_getElem (by omega)
  unfold maxLen at h3
  exact ⟨by omega, by omega, b, off, rows[k], rfl, ⟨hb, hc k _ hrk⟩, hrow k _ l hrk hk⟩
theorem ptCells_one (l : Pts) : ∀ u ∈ ptCells l, u.oneCell' = true := by
  intro u hu
  simp only [ptCells, List.mem_flatMap] at hu
  obtain ⟨p, _, hp⟩ := hu
  simp at hp
  rcases hp with rfl | rfl <;> rfl
theorem ptCells_take (l : Pts) (k : Nat) : ptCells (l.take k) = (ptCells l).take (k * 2) := by
  induction l generalizing k with
  | nil => simp [ptCells]
  | cons p l ih =>
    cases k with
    | zero => simp [ptCells]
    | succ k =>
      rw [List.take_succ_cons, show (k + 1) * 2 = k * 2 + 1 + 1 by omega]
      have := ih k
      simp only [ptCells, List.flatMap_cons] at this ⊢
      simp [this]

theorem few_calls (w : World) (A : Option Addr) (n cap : Nat) (ls : List Pts) (hL : Lines w (.slice A n cap) ls) : Calls Try.prog 23 #[.slice A n cap] w (Ret w fun v w' => LinesI w w' v (fewL ls)) := by
  have hn : n = ls.length ∧ n ≤ 9223372036854775807 := by
    obtain ⟨rows, ⟨A', n', cap', he, h1, h2, h3, h4⟩, hl, _⟩ := hL
    cases he
    unfold maxLen at h3
    omega
  refine calls_S (vs := [.slice A n cap]) Try.func23 rfl Try.ntmps23 rfl ?_
  (repeat' (first|refine Za ?_|refine Zb ?_|refine Zc ?_|refine Zd ?_|refine Ze ?_|refine Zf ?_|refine Zg ?_|refine Zh ?_|refine Zi ?_|refine Zj ?_|refine Zk ?_|refine Zl ?_|refine Zm ?_|refine Zn rfl ?_|refine Zo ?_|refine Zp ?_|refine Zq ?_|refine Zr ?_|refine Zs ?_|refine Zt ?_|refine Zu tab rfl rfl ?_|refine Zv rfl rfl ?_|refine Zw rfl rfl rfl rfl ?_|refine Zx rfl rfl rfl ?_|(apply Zy;refine Zz ?_)|(apply Ya;refine Yb ?_)|(apply Yc;refine Yd ?_)|(apply Ye;refine Yf ?_)|(apply Yg; first|refine Yh fun _=>?_|refine Yi (Yj rfl rfl) rfl fun _=>?_)|refine Yk rfl fun _=>?_|(apply Yl;refine Ym ?_)|(apply Yn;refine Yo ?_)|(apply Yp;refine Yq ?_)|(apply Yr;refine Ys ?_)|(apply Yt;refine Yu ?_)|(apply Yv;refine Yw fun _=>?_)|refine Yx rfl ?_|refine Yy rfl ?_|refine Yz rfl ?_|(apply Va; first|refine Vb ?_|refine Vc ?_)|refine Vd tab ?_|refine Ve fun _=>?_|(apply Vf;refine Vg ?_)|(apply Vh;refine Vi ?_)|(apply Vj;refine Vk ?_)|(apply Vl;refine Vm ?_)|(apply Vn;refine Vo ?_)|(apply Vp;refine Vq ?_)|(apply Vr;refine Vs ?_)|(apply Vt;refine Vu ?_)|(apply Vv;refine Vw ?_)|(apply Vx;refine Vy ?_)|(apply Vz;refine Ua fun _=>?_)))
  rename_i b5
  refine t_loopK [0] (α := Nat × Value × List Value × HL × HL) (fun x => [(3, x.2.1), (4, .int .i64 x.1)]) (fun x => x.1 ≤ ls.length ∧ x.1 ≤ 5 ∧ OwnsV x.2.1 38 1 x.1 x.2.2.1 x.2.2.2.2 ∧ x.2.2.1.length = x.1 ∧ ∀ (j : Nat) (r : Value) (l : Pts), x.2.2.1[j]? = some r → ls[j]? = some l → ∃ Lj, OwnsV r 24 2 (min l.length 10) (ptCells (l.take 10)) Lj ∧ ∀ p ∈ Lj, p ∈ x.2.2.2.1) (fun x => x.2.2.2.1 ++ x.2.2.2.2) (fun x => 5 - x.1) (0, .slice (some ⟨b5, 0, none⟩) 0 0, [], [], [(b5, row 38 1 0 0 [])]) rfl ⟨rfl, rfl, trivial⟩ ⟨Nat.zero_le _, Nat.zero_le _, OwnsV.at_, rfl, fun j r l h => by simp at h⟩ (fun w h => ?_) ?_
  · exact St.headImp h fun o ho => bx_row0 ho
  rintro ⟨i, v, rs, Lr, Lv⟩ ⟨hi, hi5, hv, hrs, hrow⟩
  dsimp only at hi hi5 hv hrs hrow ⊢
  try dsimp only [List.cons_append, List.nil_append, List.map_cons, List.map_nil]
  (repeat' (first|refine Za ?_|refine Zb ?_|refine Zc ?_|refine Zd ?_|refine Ze ?_|refine Zf ?_|refine Zg ?_|refine Zh ?_|refine Zi ?_|refine Zj ?_|refine Zk ?_|refine Zl ?_|refine Zm ?_|refine Zn rfl ?_|refine Zo ?_|refine Zp ?_|refine Zq ?_|refine Zr ?_|refine Zs ?_|refine Zt ?_|refine Zu tab rfl rfl ?_|refine Zv rfl rfl ?_|refine Zw rfl rfl rfl rfl ?_|refine Zx rfl rfl rfl ?_|(apply Zy;refine Zz ?_)|(apply Ya;refine Yb ?_)|(apply Yc;refine Yd ?_)|(apply Ye;refine Yf ?_)|(apply Yg; first|refine Yh fun _=>?_|refine Yi (Yj rfl rfl) rfl fun _=>?_)|refine Yk rfl fun _=>?_|(apply Yl;refine Ym ?_)|(apply Yn;refine Yo ?_)|(apply Yp;refine Yq ?_)|(apply Yr;refine Ys ?_)|(apply Yt;refine Yu ?_)|(apply Yv;refine Yw fun _=>?_)|refine Yx rfl ?_|refine Yy rfl ?_|refine Yz rfl ?_|(apply Va; first|refine Vb ?_|refine Vc ?_)|refine Vd tab ?_|refine Ve fun _=>?_|(apply Vf;refine Vg ?_)|(apply Vh;refine Vi ?_)|(apply Vj;refine Vk ?_)|(apply Vl;refine Vm ?_)|(apply Vn;refine Vo ?_)|(apply Vp;refine Vq ?_)|(apply Vr;refine Vs ?_)|(apply Vt;refine Vu ?_)|(apply Vv;refine Vw ?_)|(apply Vx;refine Vy ?_)|(apply Vz;refine Ua fun _=>?_)))
  refine tl_if [0, 3, 4] (i < ls.length ∧ i < 5) rfl (fun Q' K => ?_) (fun hC => ?_) (fun hC => ?_)
  · (repeat' (first|refine Za ?_|refine Zb ?_|refine Zc ?_|refine Zd ?_|refine Ze ?_|refine Zf ?_|refine Zg ?_|refine Zh ?_|refine Zi ?_|refine Zj ?_|refine Zk ?_|refine Zl ?_|refine Zm ?_|refine Zn rfl ?_|refine Zo ?_|refine Zp ?_|refine Zq ?_|refine Zr ?_|refine Zs ?_|refine Zt ?_|refine Zu tab rfl rfl ?_|refine Zv rfl rfl ?_|refine Zw rfl rfl rfl rfl ?_|refine Zx rfl rfl rfl ?_|(apply Zy;refine Zz ?_)|(apply Ya;refine Yb ?_)|(apply Yc;refine Yd ?_)|(apply Ye;refine Yf ?_)|(apply Yg; first|refine Yh fun _=>?_|refine Yi (Yj rfl rfl) rfl fun _=>?_)|refine Yk rfl fun _=>?_|(apply Yl;refine Ym ?_)|(apply Yn;refine Yo ?_)|(apply Yp;refine Yq ?_)|(apply Yr;refine Ys ?_)|(apply Yt;refine Yu ?_)|(apply Yv;refine Yw fun _=>?_)|refine Yx rfl ?_|refine Yy rfl ?_|refine Yz rfl ?_|(apply Va; first|refine Vb ?_|refine Vc ?_)|refine Vd tab ?_|refine Ve fun _=>?_|(apply Vf;refine Vg ?_)|(apply Vh;refine Vi ?_)|(apply Vj;refine Vk ?_)|(apply Vl;refine Vm ?_)|(apply Vn;refine Vo ?_)|(apply Vp;refine Vq ?_)|(apply Vr;refine Vs ?_)|(apply Vt;refine Vu ?_)|(apply Vv;refine Vw ?_)|(apply Vx;refine Vy ?_)|(apply Vz;refine Ua fun _=>?_)|refine tl_guard rfl rfl rfl (fun _ => ?_) (fun _ => ?_)))
    all_goals exact K _ _ rfl rfl (by simp_all <;> omega)
  · obtain ⟨l, hl⟩ : ∃ l, ls[i]? = some l := ⟨ls[i], List.getElem?_eq_getElem hC.1⟩
    obtain ⟨b, off, A1, n1, c1, rfl, hcl, hR⟩ := lines_cl hL hl
    have hn1 := row_len hR
    have hn2 := row_le hR
    subst hn1
    obtain ⟨_, _, _, he, hl1, hle, hmx, hcells⟩ := id hR
    cases he
    unfold maxLen at hmx
    (repeat' (first|refine Za ?_|refine Zb ?_|refine Zc ?_|refine Zd ?_|refine Ze ?_|refine Zf ?_|refine Zg ?_|refine Zh ?_|refine Zi ?_|refine Zj ?_|refine Zk ?_|refine Zl ?_|refine Zm ?_|refine Zn rfl ?_|refine Zo ?_|refine Zp ?_|refine Zq ?_|refine Zr ?_|refine Zs ?_|refine Zt ?_|refine Zu tab rfl rfl ?_|refine Zv rfl rfl ?_|refine Zw rfl rfl rfl rfl ?_|refine Zx rfl rfl rfl ?_|(apply Zy;refine Zz ?_)|(apply Ya;refine Yb ?_)|(apply Yc;refine Yd ?_)|(apply Ye;refine Yf ?_)|(apply Yg; first|refine Yh fun _=>?_|refine Yi (Yj rfl rfl) rfl fun _=>?_)|refine Yk rfl fun _=>?_|(apply Yl;refine Ym ?_)|(apply Yn;refine Yo ?_)|(apply Yp;refine Yq ?_)|(apply Yr;refine Ys ?_)|(apply Yt;refine Yu ?_)|(apply Yv;refine Yw fun _=>?_)|refine Yx rfl ?_|refine Yy rfl ?_|refine Yz rfl ?_|(apply Va; first|refine Vb ?_|refine Vc ?_)|refine Vd tab ?_|refine Ve fun _=>?_|(apply Vf;refine Vg ?_)|(apply Vh;refine Vi ?_)|(apply Vj;refine Vk ?_)|(apply Vl;refine Vm ?_)|(apply Vn;refine Vo ?_)|(apply Vp;refine Vq ?_)|(apply Vr;refine Vs ?_)|(apply Vt;refine Vu ?_)|(apply Vv;refine Vw ?_)|(apply Vx;refine Vy ?_)|(apply Vz;refine Ua fun _=>?_)))
    refine t_drawWH 16 [(0, .v), (2, .v), (3, .v), (4, .v), (5, .v), (6, .v), (7, .v), (8, .v), (9, .v), (10, .v), (11, .v), (12, .v), (1, .e), (13, .h), (14, .e), (15, .h)] ?_ rfl (by kernel_rfl) (by kernel_rfl) rfl (by kernel_rfl) mixed (by kernel_rfl) rfl
    (repeat' (first|refine Za ?_|refine Zb ?_|refine Zc ?_|refine Zd ?_|refine Ze ?_|refine Zf ?_|refine Zg ?_|refine Zh ?_|refine Zi ?_|refine Zj ?_|refine Zk ?_|refine Zl ?_|refine Zm ?_|refine Zn rfl ?_|refine Zo ?_|refine Zp ?_|refine Zq ?_|refine Zr ?_|refine Zs ?_|refine Zt ?_|refine Zu tab rfl rfl ?_|refine Zv rfl rfl ?_|refine Zw rfl rfl rfl rfl ?_|refine Zx rfl rfl rfl ?_|(apply Zy;refine Zz ?_)|(apply Ya;refine Yb ?_)|(apply Yc;refine Yd ?_)|(apply Ye;refine Yf ?_)|(apply Yg; first|refine Yh fun _=>?_|refine Yi (Yj rfl rfl) rfl fun _=>?_)|refine Yk rfl fun _=>?_|(apply Yl;refine Ym ?_)|(apply Yn;refine Yo ?_)|(apply Yp;refine Yq ?_)|(apply Yr;refine Ys ?_)|(apply Yt;refine Yu ?_)|(apply Yv;refine Yw fun _=>?_)|refine Yx rfl ?_|refine Yy rfl ?_|refine Yz rfl ?_|(apply Va; first|refine Vb ?_|refine Vc ?_)|refine Vd tab ?_|refine Ve fun _=>?_|(apply Vf;refine Vg ?_)|(apply Vh;refine Vi ?_)|(apply Vj;refine Vk ?_)|(apply Vl;refine Vm ?_)|(apply Vn;refine Vo ?_)|(apply Vp;refine Vq ?_)|(apply Vr;refine Vs ?_)|(apply Vt;refine Vu ?_)|(apply Vv;refine Vw ?_)|(apply Vx;refine Vy ?_)|(apply Vz;refine Ua fun _=>?_)))
    have hmin : (min (l.length : Int) 10) = ((min l.length 10 : Nat) : Int) := by omega
    refine dw_opN rfl rfl (fun _ => o_sliceH (n := min l.length 10) rfl (congrArg (fun z => some (Value.int .i64 z)) hmin) (by omega)) ?_
    (repeat' (first|refine Za ?_|refine Zb ?_|refine Zc ?_|refine Zd ?_|refine Ze ?_|refine Zf ?_|refine Zg ?_|refine Zh ?_|refine Zi ?_|refine Zj ?_|refine Zk ?_|refine Zl ?_|refine Zm ?_|refine Zn rfl ?_|refine Zo ?_|refine Zp ?_|refine Zq ?_|refine Zr ?_|refine Zs ?_|refine Zt ?_|refine Zu tab rfl rfl ?_|refine Zv rfl rfl ?_|refine Zw rfl rfl rfl rfl ?_|refine Zx rfl rfl rfl ?_|(apply Zy;refine Zz ?_)|(apply Ya;refine Yb ?_)|(apply Yc;refine Yd ?_)|(apply Ye;refine Yf ?_)|(apply Yg; first|refine Yh fun _=>?_|refine Yi (Yj rfl rfl) rfl fun _=>?_)|refine Yk rfl fun _=>?_|(apply Yl;refine Ym ?_)|(apply Yn;refine Yo ?_)|(apply Yp;refine Yq ?_)|(apply Yr;refine Ys ?_)|(apply Yt;refine Yu ?_)|(apply Yv;refine Yw fun _=>?_)|refine Yx rfl ?_|refine Yy rfl ?_|refine Yz rfl ?_|(apply Va; first|refine Vb ?_|refine Vc ?_)|refine Vd tab ?_|refine Ve fun _=>?_|(apply Vf;refine Vg ?_)|(apply Vh;refine Vi ?_)|(apply Vj;refine Vk ?_)|(apply Vl;refine Vm ?_)|(apply Vn;refine Vo ?_)|(apply Vp;refine Vq ?_)|(apply Vr;refine Vs ?_)|(apply Vt;refine Vu ?_)|(apply Vv;refine Vw ?_)|(apply Vx;refine Vy ?_)|(apply Vz;refine Ua fun _=>?_)))
    refine dw_appE (news := ptCells (l.take 10)) rfl rfl (fun hpos => ?_) rfl (by rw [ptCells_length, List.length_take]; omega) (ptCells_one _) (by omega) (by omega) trivial fun b' cap' => ?_
    · obtain ⟨b2, off2, rfl, hb2, hc2⟩ := hcells (by omega)
      refine ⟨_, rfl, fun w1 L' hw1 j u hj => ?_⟩
      rw [ptCells_take, List.getElem?_take] at hj
      split at hj
      · rw [add_mk, hw1.oldCell (a := ⟨b2, off2 + j, none⟩) hb2 (by simp)]
        exact hc2 j u hj
      · cases hj
    (repeat' (first|refine Za ?_|refine Zb ?_|refine Zc ?_|refine Zd ?_|refine Ze ?_|refine Zf ?_|refine Zg ?_|refine Zh ?_|refine Zi ?_|refine Zj ?_|refine Zk ?_|refine Zl ?_|refine Zm ?_|refine Zn rfl ?_|refine Zo ?_|refine Zp ?_|refine Zq ?_|refine Zr ?_|refine Zs ?_|refine Zt ?_|refine Zu tab rfl rfl ?_|refine Zv rfl rfl ?_|refine Zw rfl rfl rfl rfl ?_|refine Zx rfl rfl rfl ?_|(apply Zy;refine Zz ?_)|(apply Ya;refine Yb ?_)|(apply Yc;refine Yd ?_)|(apply Ye;refine Yf ?_)|(apply Yg; first|refine Yh fun _=>?_|refine Yi (Yj rfl rfl) rfl fun _=>?_)|refine Yk rfl fun _=>?_|(apply Yl;refine Ym ?_)|(apply Yn;refine Yo ?_)|(apply Yp;refine Yq ?_)|(apply Yr;refine Ys ?_)|(apply Yt;refine Yu ?_)|(apply Yv;refine Yw fun _=>?_)|refine Yx rfl ?_|refine Yy rfl ?_|refine Yz rfl ?_|(apply Va; first|refine Vb ?_|refine Vc ?_)|refine Vd tab ?_|refine Ve fun _=>?_|(apply Vf;refine Vg ?_)|(apply Vh;refine Vi ?_)|(apply Vj;refine Vk ?_)|(apply Vl;refine Vm ?_)|(apply Vn;refine Vo ?_)|(apply Vp;refine Vq ?_)|(apply Vr;refine Vs ?_)|(apply Vt;refine Vu ?_)|(apply Vv;refine Vw ?_)|(apply Vx;refine Vy ?_)|(apply Vz;refine Ua fun _=>?_)))
    refine dw_appH rfl rfl hv rfl rfl rfl (by omega) (by omega) rfl trivial fun v' Lv' hv' => ?_
    (repeat' (first|refine Za ?_|refine Zb ?_|refine Zc ?_|refine Zd ?_|refine Ze ?_|refine Zf ?_|refine Zg ?_|refine Zh ?_|refine Zi ?_|refine Zj ?_|refine Zk ?_|refine Zl ?_|refine Zm ?_|refine Zn rfl ?_|refine Zo ?_|refine Zp ?_|refine Zq ?_|refine Zr ?_|refine Zs ?_|refine Zt ?_|refine Zu tab rfl rfl ?_|refine Zv rfl rfl ?_|refine Zw rfl rfl rfl rfl ?_|refine Zx rfl rfl rfl ?_|(apply Zy;refine Zz ?_)|(apply Ya;refine Yb ?_)|(apply Yc;refine Yd ?_)|(apply Ye;refine Yf ?_)|(apply Yg; first|refine Yh fun _=>?_|refine Yi (Yj rfl rfl) rfl fun _=>?_)|refine Yk rfl fun _=>?_|(apply Yl;refine Ym ?_)|(apply Yn;refine Yo ?_)|(apply Yp;refine Yq ?_)|(apply Yr;refine Ys ?_)|(apply Yt;refine Yu ?_)|(apply Yv;refine Yw fun _=>?_)|refine Yx rfl ?_|refine Yy rfl ?_|refine Yz rfl ?_|(apply Va; first|refine Vb ?_|refine Vc ?_)|refine Vd tab ?_|refine Ve fun _=>?_|(apply Vf;refine Vg ?_)|(apply Vh;refine Vi ?_)|(apply Vj;refine Vk ?_)|(apply Vl;refine Vm ?_)|(apply Vn;refine Vo ?_)|(apply Vp;refine Vq ?_)|(apply Vr;refine Vs ?_)|(apply Vt;refine Vu ?_)|(apply Vv;refine Vw ?_)|(apply Vx;refine Vy ?_)|(apply Vz;refine Ua fun _=>?_)))
    refine dw_end [0, 4, 31] (rest := []) rfl ?_
    (repeat' (first|refine Za ?_|refine Zb ?_|refine Zc ?_|refine Zd ?_|refine Ze ?_|refine Zf ?_|refine Zg ?_|refine Zh ?_|refine Zi ?_|refine Zj ?_|refine Zk ?_|refine Zl ?_|refine Zm ?_|refine Zn rfl ?_|refine Zo ?_|refine Zp ?_|refine Zq ?_|refine Zr ?_|refine Zs ?_|refine Zt ?_|refine Zu tab rfl rfl ?_|refine Zv rfl rfl ?_|refine Zw rfl rfl rfl rfl ?_|refine Zx rfl rfl rfl ?_|(apply Zy;refine Zz ?_)|(apply Ya;refine Yb ?_)|(apply Yc;refine Yd ?_)|(apply Ye;refine Yf ?_)|(apply Yg; first|refine Yh fun _=>?_|refine Yi (Yj rfl rfl) rfl fun _=>?_)|refine Yk rfl fun _=>?_|(apply Yl;refine Ym ?_)|(apply Yn;refine Yo ?_)|(apply Yp;refine Yq ?_)|(apply Yr;refine Ys ?_)|(apply Yt;refine Yu ?_)|(apply Yv;refine Yw fun _=>?_)|refine Yx rfl ?_|refine Yy rfl ?_|refine Yz rfl ?_|(apply Va; first|refine Vb ?_|refine Vc ?_)|refine Vd tab ?_|refine Ve fun _=>?_|(apply Vf;refine Vg ?_)|(apply Vh;refine Vi ?_)|(apply Vj;refine Vk ?_)|(apply Vl;refine Vm ?_)|(apply Vn;refine Vo ?_)|(apply Vp;refine Vq ?_)|(apply Vr;refine Vs ?_)|(apply Vt;refine Vu ?_)|(apply Vv;refine Vw ?_)|(apply Vx;refine Vy ?_)|(apply Vz;refine Ua fun _=>?_)))
    refine xt_roundK (i + 1, v', rs ++ [.slice (some ⟨b', 0, none⟩) (min l.length 10) cap'], (b', row 24 2 (min l.length 10) cap' (ptCells (l.take 10))) :: Lr, Lv') rfl ⟨rfl, rfl, trivial⟩ ⟨by dsimp only; omega, by dsimp only; omega, hv', by simp [hrs], fun j r l' h1 h2 => ?_⟩ (by dsimp only; omega) (fun w1 hw1 => ?_)
    · dsimp only at h1 ⊢
      by_cases hj : j < rs.length
      · rw [List.getElem?_append_left hj] at h1
        obtain ⟨Lj, hj1, hj2⟩ := hrow j r l' h1 h2
        exact ⟨Lj, hj1, fun p hp => List.mem_cons_of_mem _ (hj2 p hp)⟩
      · have hlt := (List.getElem?_eq_some_iff.1 h1).1
        simp at hlt
        obtain rfl : j = i := by omega
        rw [List.getElem?_append_right (by omega), hrs, Nat.sub_self] at h1
        simp at h1
        subst h1
        rw [hl] at h2
        cases h2
        exact ⟨_, OwnsV.at_, fun p hp => by simp at hp; subst hp; exact List.mem_cons_self ..⟩
    · exact hw1.perm List.perm_append_comm
  · (repeat' (first|refine Za ?_|refine Zb ?_|refine Zc ?_|refine Zd ?_|refine Ze ?_|refine Zf ?_|refine Zg ?_|refine Zh ?_|refine Zi ?_|refine Zj ?_|refine Zk ?_|refine Zl ?_|refine Zm ?_|refine Zn rfl ?_|refine Zo ?_|refine Zp ?_|refine Zq ?_|refine Zr ?_|refine Zs ?_|refine Zt ?_|refine Zu tab rfl rfl ?_|refine Zv rfl rfl ?_|refine Zw rfl rfl rfl rfl ?_|refine Zx rfl rfl rfl ?_|(apply Zy;refine Zz ?_)|(apply Ya;refine Yb ?_)|(apply Yc;refine Yd ?_)|(apply Ye;refine Yf ?_)|(apply Yg; first|refine Yh fun _=>?_|refine Yi (Yj rfl rfl) rfl fun _=>?_)|refine Yk rfl fun _=>?_|(apply Yl;refine Ym ?_)|(apply Yn;refine Yo ?_)|(apply Yp;refine Yq ?_)|(apply Yr;refine Ys ?_)|(apply Yt;refine Yu ?_)|(apply Yv;refine Yw fun _=>?_)|refine Yx rfl ?_|refine Yy rfl ?_|refine Yz rfl ?_|(apply Va; first|refine Vb ?_|refine Vc ?_)|refine Vd tab ?_|refine Ve fun _=>?_|(apply Vf;refine Vg ?_)|(apply Vh;refine Vi ?_)|(apply Vj;refine Vk ?_)|(apply Vl;refine Vm ?_)|(apply Vn;refine Vo ?_)|(apply Vp;refine Vq ?_)|(apply Vr;refine Vs ?_)|(apply Vt;refine Vu ?_)|(apply Vv;refine Vw ?_)|(apply Vx;refine Vy ?_)|(apply Vz;refine Ua fun _=>?_)))
    refine xt_ret1S rfl rfl fun w1 hw1 => ?_
    refine ⟨rs, hv.rdI hw1 (fun p hp => List.mem_append_right _ hp), ?_, fun j r l h1 h2 => ?_⟩
    · rw [hrs, fewL]; simp; omega
    · rw [fewL, List.getElem?_map] at h2
      have hj : j < i := by rw [← hrs]; exact (List.getElem?_eq_some_iff.1 h1).1
      rw [List.getElem?_take, if_pos (by omega)] at h2
      obtain ⟨l0, hl0, rfl⟩ := Option.map_eq_some_iff.1 h2
      obtain ⟨Lj, hj1, hj2⟩ := hrow j r l0 h1 hl0
      exact hj1.rdI hw1 fun p hp => List.mem_append_left _ (hj2 p hp)

end Go.Proofs.Ytbgolbkolcmldaa
