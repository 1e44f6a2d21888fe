/-
  'RasterAgainst', walked.
-/
import Derived.Test.YtbgolbkolcmldaaP7
namespace Go.Proofs.Ytbgolbkolcmldaa
open Go.RowKit
section
variable {P : Program} {r : Option Nat} {Q : Exit → Act → World → Prop} {nt : Nat} {D : List Deferred} {fr : Fr} {I : World → Prop} {ops : Array Oper} {rest : List Oper} {cd : Code}
/-- from here on all that there is is of old -/
theorem tl_rebase (h : ∀ w', I w' → TL P r ops Q nt D rest fr (St w' [] [])) : TL P r ops Q nt D rest fr I := fun a w ha hw => h w hw a w ha (St.init w [])
theorem t_rebase (h : ∀ w', I w' → T P r cd Q nt D fr (St w' [] [])) : T P r cd Q nt D fr I := fun a w ha hw => h w hw a w ha (St.init w [])
end
/-- lines whose row of rows is of the call's own -/
theorem lines_own {w w' : World} {v : Value} {n : Nat} {rs : List Value} {Lv L' : HL} {ls : List Pts} (ho : OwnsV v 38 1 n rs Lv) (hs : St w [] L' w') (hm : ∀ p ∈ Lv, p ∈ L') (hl : rs.length = ls.length) (h : ∀ (i : Nat) (r : Value) (l : Pts), rs[i]? = some r → ls[i]? = some l → Row w' r l) : Lines w' v ls :=
  ⟨rs, (ho.rdI hs hm).rd, hl, h⟩
/-- a row of rows, as it may be appended -/
theorem lines_src {w : World} {A : Option Addr} {n cap : Nat} {ls : List Pts} (h : Lines w (.slice A n cap) ls) : ∃ rows : List Value, rows.length = n * 1 ∧ n = ls.length ∧ (∀ u ∈ rows, u.oneCell' = true) ∧ (0 < n → ∃ a, A = some a ∧ ∀ w' L, St w [] L w' → ∀ j u, rows[j]? = some u → w'.cell? (a.add j) = some u) ∧ ∀ (i : Nat) (r : Value) (l : Pts), rows[i]? = some r → ls[i]? = some l → Row w r l := by
  obtain ⟨rows, ⟨A', n', cap', he, h1, h2, h3, h4⟩, hl, hrow⟩ := h
  cases he
  refine ⟨rows, h1, by omega, fun u hu => ?_, fun h0 => ?_, hrow⟩
  · obtain ⟨i, hi, rfl⟩ := List.getElem_of_mem hu
    obtain ⟨A2, n2, c2, he2, _⟩ := hrow i rows[i] (ls[i]'(by omega)) (List.getElem?_eq_getElem hi) (List.getElem?_eq_getElem (by omega))
    rw [he2]; rfl
  · obtain ⟨b, off, rfl, hb, hc⟩ := h4 h0
    exact ⟨_, rfl, fun w' L hs j u hj => by rw [add_mk, hs.oldCell (a := ⟨b, off + j, none⟩) hb (by simp)]; exact hc j u hj⟩
end Go.Proofs.Ytbgolbkolcmldaa
namespace Go.Proofs.Ytbgolbkolcmldaa
open Go.RowKit
attribute [local irreducible] T TL Xt O Op1 Kt DV ObsB DE DW DW1 LoopQ LoopJ

theorem tl_neg64 {P : Program} {fr : Fr} {I : World → Prop} {d : Option Tmp} {ty t : TypeId} {pos : String} {af : Array Edge} {g : Option (Nat × Bool)} {x : Operand} {a : Int} (hx : fev fr x = some (.int .i64 a)) (h : -9223372036854775807 ≤ a ∧ a ≤ 9223372036854775807) : Pv P ⟨d, .unOp .neg t x, ty, pos, af, g⟩ fr I (.int .i64 (-a)) := by
  have := o_neg (P := P) (I := I) (d := d) (ty := ty) (t := t) (pos := pos) (af := af) (g := g) hx
  rw [fits64 (by omega), Int.zero_sub] at this
  exact this

set_option maxHeartbeats 1000000 in
theorem against_calls (w : World) (A : Option Addr) (n cap : Nat) (ls : List Pts) (hL : Lines w (.slice A n cap) ls) (x y : Int) : Calls Try.prog 5 #[.slice A n cap, pt x y] w (Ret w fun v _ => v = .bool true) := by
  obtain ⟨hfl, hn5, hn10⟩ := near_len ls
  refine calls_S (vs := [.slice A n cap, pt x y]) Try.func5 rfl Try.ntmps5 rfl ?_
  (repeat' (first|refine Za ?_|refine Zb ?_|refine Zc ?_|refine Zd ?_|refine Ze ?_|refine Zf ?_|refine Zg ?_|refine Zh ?_|refine Zi ?_|refine Zj ?_|refine Zk ?_|refine Zl ?_|refine Zm ?_|refine Zn rfl ?_|refine Zo ?_|refine Zp ?_|refine Zq ?_|refine Zr ?_|refine Zs ?_|refine Zt ?_|refine Zu tab rfl rfl ?_|refine Zv rfl rfl ?_|refine Zw rfl rfl rfl rfl ?_|refine Zx rfl rfl rfl ?_|(apply Zy;refine Zz ?_)|(apply Ya;refine Yb ?_)|(apply Yc;refine Yd ?_)|(apply Ye;refine Yf ?_)|(apply Yg; first|refine Yh fun _=>?_|refine Yi (Yj rfl rfl) rfl fun _=>?_)|refine Yk rfl fun _=>?_|(apply Yl;refine Ym ?_)|(apply Yn;refine Yo ?_)|(apply Yp;refine Yq ?_)|(apply Yr;refine Ys ?_)|(apply Yt;refine Yu ?_)|(apply Yv;refine Yw fun _=>?_)|refine Yx rfl ?_|refine Yy rfl ?_|refine Yz rfl ?_|(apply Va; first|refine Vb ?_|refine Vc ?_)|refine Vd tab ?_|refine Ve fun _=>?_|(apply Vf;refine Vg ?_)|(apply Vh;refine Vi ?_)|(apply Vj;refine Vk ?_)|(apply Vl;refine Vm ?_)|(apply Vn;refine Vo ?_)|(apply Vp;refine Vq ?_)|(apply Vr;refine Vs ?_)|(apply Vt;refine Vu ?_)|(apply Vv;refine Vw ?_)|(apply Vx;refine Vy ?_)|(apply Vz;refine Ua fun _=>?_)))
  rename_i b3
  refine tl_callR (Post := fun w1 v w2 => LinesI w1 w2 v (nearL ls)) (fun w1 hw1 => near_calls w1 A n cap ls (hL.to hw1.toExt)) rfl rfl ?_
  rintro w1 w2 v1 hw1 he1 hl1
  obtain ⟨rows1, ⟨A1, n1, c1, rfl, _⟩, _⟩ := id hl1
  refine tl_rebase fun w3 hw3 => ?_
  have hl3 := hl1.at (hw3.sg fun p hp => by simp [hp])
  have hat3 : ClA w3 b3 0 [.int .i64 x, .int .i64 y] := by
    have := hw3.get (b := b3) (cs := [.int .i64 x, .int .i64 y]) (t := 24) (by simp)
    exact ⟨(Array.getElem?_eq_some_iff.1 this).1, fun j v hj => by rw [cell_of this, Nat.zero_add]; simpa using hj⟩
  have hx3 := hw3.toExt
  clear hl1 hw3 hw1 he1
  generalize hN : nearL ls = N at *
  (repeat' (first|refine Za ?_|refine Zb ?_|refine Zc ?_|refine Zd ?_|refine Ze ?_|refine Zf ?_|refine Zg ?_|refine Zh ?_|refine Zi ?_|refine Zj ?_|refine Zk ?_|refine Zl ?_|refine Zm ?_|refine Zn rfl ?_|refine Zo ?_|refine Zp ?_|refine Zq ?_|refine Zr ?_|refine Zs ?_|refine Zt ?_|refine Zu tab rfl rfl ?_|refine Zv rfl rfl ?_|refine Zw rfl rfl rfl rfl ?_|refine Zx rfl rfl rfl ?_|(apply Zy;refine Zz ?_)|(apply Ya;refine Yb ?_)|(apply Yc;refine Yd ?_)|(apply Ye;refine Yf ?_)|(apply Yg; first|refine Yh fun _=>?_|refine Yi (Yj rfl rfl) rfl fun _=>?_)|refine Yk rfl fun _=>?_|(apply Yl;refine Ym ?_)|(apply Yn;refine Yo ?_)|(apply Yp;refine Yq ?_)|(apply Yr;refine Ys ?_)|(apply Yt;refine Yu ?_)|(apply Yv;refine Yw fun _=>?_)|refine Yx rfl ?_|refine Yy rfl ?_|refine Yz rfl ?_|(apply Va; first|refine Vb ?_|refine Vc ?_)|refine Vd tab ?_|refine Ve fun _=>?_|(apply Vf;refine Vg ?_)|(apply Vh;refine Vi ?_)|(apply Vj;refine Vk ?_)|(apply Vl;refine Vm ?_)|(apply Vn;refine Vo ?_)|(apply Vp;refine Vq ?_)|(apply Vr;refine Vs ?_)|(apply Vt;refine Vu ?_)|(apply Vv;refine Vw ?_)|(apply Vx;refine Vy ?_)|(apply Vz;refine Ua fun _=>?_)))
  rename_i b17
  have hn1 : n1 = N.length ∧ n1 ≤ 9223372036854775807 := by
    obtain ⟨rows, ⟨A', n', cap', he, h1, h2, h3, h4⟩, hl, _⟩ := hl3
    cases he
    unfold maxLen at h3
    omega
  refine t_loopK [3, 5, 6] (α := Nat × Value × List Value × HL × HL) (fun x => [(7, x.2.1), (8, .int .i64 x.1)]) (fun x => x.1 ≤ N.length ∧ OwnsV x.2.1 38 1 x.1 x.2.2.1 x.2.2.2.2 ∧ x.2.2.1.length = x.1 ∧ ∀ (j : Nat) (r : Value) (l : Pts), x.2.2.1[j]? = some r → N[j]? = some l → ∃ Lj, OwnsV r 24 2 l.length (ptCells l.reverse) Lj ∧ ∀ p ∈ Lj, p ∈ x.2.2.2.1) (fun x => x.2.2.2.1 ++ x.2.2.2.2) (fun x => N.length - x.1) (0, .slice (some ⟨b17, 0, none⟩) 0 0, [], [], [(b17, row 38 1 0 0 [])]) rfl ⟨rfl, rfl, trivial⟩ ⟨Nat.zero_le _, OwnsV.at_, rfl, fun j r l h => by simp at h⟩ (fun w h => ?_) ?_
  · exact St.headImp h fun o ho => bx_row0 ho
  rintro ⟨i, v, rs, Lr, Lv⟩ ⟨hi, hv, hrs, hrow⟩
  dsimp only at hi hv hrs hrow ⊢
  try dsimp only [List.cons_append, List.nil_append, List.map_cons, List.map_nil]
  (repeat' (first|refine Za ?_|refine Zb ?_|refine Zc ?_|refine Zd ?_|refine Ze ?_|refine Zf ?_|refine Zg ?_|refine Zh ?_|refine Zi ?_|refine Zj ?_|refine Zk ?_|refine Zl ?_|refine Zm ?_|refine Zn rfl ?_|refine Zo ?_|refine Zp ?_|refine Zq ?_|refine Zr ?_|refine Zs ?_|refine Zt ?_|refine Zu tab rfl rfl ?_|refine Zv rfl rfl ?_|refine Zw rfl rfl rfl rfl ?_|refine Zx rfl rfl rfl ?_|(apply Zy;refine Zz ?_)|(apply Ya;refine Yb ?_)|(apply Yc;refine Yd ?_)|(apply Ye;refine Yf ?_)|(apply Yg; first|refine Yh fun _=>?_|refine Yi (Yj rfl rfl) rfl fun _=>?_)|refine Yk rfl fun _=>?_|(apply Yl;refine Ym ?_)|(apply Yn;refine Yo ?_)|(apply Yp;refine Yq ?_)|(apply Yr;refine Ys ?_)|(apply Yt;refine Yu ?_)|(apply Yv;refine Yw fun _=>?_)|refine Yx rfl ?_|refine Yy rfl ?_|refine Yz rfl ?_|(apply Va; first|refine Vb ?_|refine Vc ?_)|refine Vd tab ?_|refine Ve fun _=>?_|(apply Vf;refine Vg ?_)|(apply Vh;refine Vi ?_)|(apply Vj;refine Vk ?_)|(apply Vl;refine Vm ?_)|(apply Vn;refine Vo ?_)|(apply Vp;refine Vq ?_)|(apply Vr;refine Vs ?_)|(apply Vt;refine Vu ?_)|(apply Vv;refine Vw ?_)|(apply Vx;refine Vy ?_)|(apply Vz;refine Ua fun _=>?_)))
  refine t_cond rfl (fun h => ?_) (fun h => ?_)
  · have hC : i < N.length := by have := of_decide_eq_true h; omega
    obtain ⟨l, hl⟩ : ∃ l, N[i]? = some l := ⟨N[i], List.getElem?_eq_getElem hC⟩
    obtain ⟨b, off, A2, n2, c2, rfl, hcl, hR⟩ := lines_cl hl3 hl
    have hn2 := row_len hR
    have hn3 := row_le hR
    have hl10 := hn10 l (List.mem_of_getElem? hl)
    subst hn2
    (repeat' (first|refine Za ?_|refine Zb ?_|refine Zc ?_|refine Zd ?_|refine Ze ?_|refine Zf ?_|refine Zg ?_|refine Zh ?_|refine Zi ?_|refine Zj ?_|refine Zk ?_|refine Zl ?_|refine Zm ?_|refine Zn rfl ?_|refine Zo ?_|refine Zp ?_|refine Zq ?_|refine Zr ?_|refine Zs ?_|refine Zt ?_|refine Zu tab rfl rfl ?_|refine Zv rfl rfl ?_|refine Zw rfl rfl rfl rfl ?_|refine Zx rfl rfl rfl ?_|(apply Zy;refine Zz ?_)|(apply Ya;refine Yb ?_)|(apply Yc;refine Yd ?_)|(apply Ye;refine Yf ?_)|(apply Yg; first|refine Yh fun _=>?_|refine Yi (Yj rfl rfl) rfl fun _=>?_)|refine Yk rfl fun _=>?_|(apply Yl;refine Ym ?_)|(apply Yn;refine Yo ?_)|(apply Yp;refine Yq ?_)|(apply Yr;refine Ys ?_)|(apply Yt;refine Yu ?_)|(apply Yv;refine Yw fun _=>?_)|refine Yx rfl ?_|refine Yy rfl ?_|refine Yz rfl ?_|(apply Va; first|refine Vb ?_|refine Vc ?_)|refine Vd tab ?_|refine Ve fun _=>?_|(apply Vf;refine Vg ?_)|(apply Vh;refine Vi ?_)|(apply Vj;refine Vk ?_)|(apply Vl;refine Vm ?_)|(apply Vn;refine Vo ?_)|(apply Vp;refine Vq ?_)|(apply Vr;refine Vs ?_)|(apply Vt;refine Vu ?_)|(apply Vv;refine Vw ?_)|(apply Vx;refine Vy ?_)|(apply Vz;refine Ua fun _=>?_)))
    rename_i b24
    refine t_loopK [3, 5, 6, 7, 8] (α := Nat × Value × HL) (fun x => [(9, x.2.1), (10, .int .i64 ((x.1 : Int) - 1))]) (fun x => x.1 ≤ l.length ∧ OwnsV x.2.1 24 2 (l.length - x.1) (ptCells (l.drop x.1).reverse) x.2.2) (fun x => Lr ++ Lv ++ x.2.2) (fun x => x.1) (l.length, .slice (some ⟨b24, 0, none⟩) 0 0, [(b24, row 24 2 0 0 [])]) rfl ⟨rfl, rfl, trivial⟩ ⟨Nat.le_refl _, by dsimp only; rw [Nat.sub_self, List.drop_length]; exact OwnsV.at_⟩ (fun w h => ?_) ?_
    · exact (St.headImp h fun o ho => bx_row0 ho).perm (List.perm_append_comm (l₁ := [_]))
    rintro ⟨m, u, Lu⟩ ⟨hm, hu⟩
    dsimp only at hm hu ⊢
    try dsimp only [List.cons_append, List.nil_append, List.map_cons, List.map_nil]
    (repeat' (first|refine Za ?_|refine Zb ?_|refine Zc ?_|refine Zd ?_|refine Ze ?_|refine Zf ?_|refine Zg ?_|refine Zh ?_|refine Zi ?_|refine Zj ?_|refine Zk ?_|refine Zl ?_|refine Zm ?_|refine Zn rfl ?_|refine Zo ?_|refine Zp ?_|refine Zq ?_|refine Zr ?_|refine Zs ?_|refine Zt ?_|refine Zu tab rfl rfl ?_|refine Zv rfl rfl ?_|refine Zw rfl rfl rfl rfl ?_|refine Zx rfl rfl rfl ?_|(apply Zy;refine Zz ?_)|(apply Ya;refine Yb ?_)|(apply Yc;refine Yd ?_)|(apply Ye;refine Yf ?_)|(apply Yg; first|refine Yh fun _=>?_|refine Yi (Yj rfl rfl) rfl fun _=>?_)|refine Yk rfl fun _=>?_|(apply Yl;refine Ym ?_)|(apply Yn;refine Yo ?_)|(apply Yp;refine Yq ?_)|(apply Yr;refine Ys ?_)|(apply Yt;refine Yu ?_)|(apply Yv;refine Yw fun _=>?_)|refine Yx rfl ?_|refine Yy rfl ?_|refine Yz rfl ?_|(apply Va; first|refine Vb ?_|refine Vc ?_)|refine Vd tab ?_|refine Ve fun _=>?_|(apply Vf;refine Vg ?_)|(apply Vh;refine Vi ?_)|(apply Vj;refine Vk ?_)|(apply Vl;refine Vm ?_)|(apply Vn;refine Vo ?_)|(apply Vp;refine Vq ?_)|(apply Vr;refine Vs ?_)|(apply Vt;refine Vu ?_)|(apply Vv;refine Vw ?_)|(apply Vx;refine Vy ?_)|(apply Vz;refine Ua fun _=>?_)))
    refine t_cond rfl (fun h => ?_) (fun h => ?_)
    · obtain ⟨k, rfl⟩ : ∃ k, m = k + 1 := ⟨m - 1, by have := of_decide_eq_true h; omega⟩
      obtain ⟨p, hp⟩ : ∃ p, l[k]? = some p := ⟨l[k], List.getElem?_eq_getElem (by omega)⟩
      obtain ⟨b2, off2, rfl, hpc⟩ := row_cl hR hp
      have ek : ((k + 1 : Nat) : Int) - 1 = (k : Int) := by omega
      rw [ek]
      (repeat' (first|refine Za ?_|refine Zb ?_|refine Zc ?_|refine Zd ?_|refine Ze ?_|refine Zf ?_|refine Zg ?_|refine Zh ?_|refine Zi ?_|refine Zj ?_|refine Zk ?_|refine Zl ?_|refine Zm ?_|refine Zn rfl ?_|refine Zo ?_|refine Zp ?_|refine Zq ?_|refine Zr ?_|refine Zs ?_|refine Zt ?_|refine Zu tab rfl rfl ?_|refine Zv rfl rfl ?_|refine Zw rfl rfl rfl rfl ?_|refine Zx rfl rfl rfl ?_|(apply Zy;refine Zz ?_)|(apply Ya;refine Yb ?_)|(apply Yc;refine Yd ?_)|(apply Ye;refine Yf ?_)|(apply Yg; first|refine Yh fun _=>?_|refine Yi (Yj rfl rfl) rfl fun _=>?_)|refine Yk rfl fun _=>?_|(apply Yl;refine Ym ?_)|(apply Yn;refine Yo ?_)|(apply Yp;refine Yq ?_)|(apply Yr;refine Ys ?_)|(apply Yt;refine Yu ?_)|(apply Yv;refine Yw fun _=>?_)|refine Yx rfl ?_|refine Yy rfl ?_|refine Yz rfl ?_|(apply Va; first|refine Vb ?_|refine Vc ?_)|refine Vd tab ?_|refine Ve fun _=>?_|(apply Vf;refine Vg ?_)|(apply Vh;refine Vi ?_)|(apply Vj;refine Vk ?_)|(apply Vl;refine Vm ?_)|(apply Vn;refine Vo ?_)|(apply Vp;refine Vq ?_)|(apply Vr;refine Vs ?_)|(apply Vt;refine Vu ?_)|(apply Vv;refine Vw ?_)|(apply Vx;refine Vy ?_)|(apply Vz;refine Ua fun _=>?_)))
      rename_i b43
      refine tl_app (Lr ++ Lv) rfl rfl hu rfl rfl rfl rfl rfl rfl (by omega) (by omega) fun b' cap' => ?_
      (repeat' (first|refine Za ?_|refine Zb ?_|refine Zc ?_|refine Zd ?_|refine Ze ?_|refine Zf ?_|refine Zg ?_|refine Zh ?_|refine Zi ?_|refine Zj ?_|refine Zk ?_|refine Zl ?_|refine Zm ?_|refine Zn rfl ?_|refine Zo ?_|refine Zp ?_|refine Zq ?_|refine Zr ?_|refine Zs ?_|refine Zt ?_|refine Zu tab rfl rfl ?_|refine Zv rfl rfl ?_|refine Zw rfl rfl rfl rfl ?_|refine Zx rfl rfl rfl ?_|(apply Zy;refine Zz ?_)|(apply Ya;refine Yb ?_)|(apply Yc;refine Yd ?_)|(apply Ye;refine Yf ?_)|(apply Yg; first|refine Yh fun _=>?_|refine Yi (Yj rfl rfl) rfl fun _=>?_)|refine Yk rfl fun _=>?_|(apply Yl;refine Ym ?_)|(apply Yn;refine Yo ?_)|(apply Yp;refine Yq ?_)|(apply Yr;refine Ys ?_)|(apply Yt;refine Yu ?_)|(apply Yv;refine Yw fun _=>?_)|refine Yx rfl ?_|refine Yy rfl ?_|refine Yz rfl ?_|(apply Va; first|refine Vb ?_|refine Vc ?_)|refine Vd tab ?_|refine Ve fun _=>?_|(apply Vf;refine Vg ?_)|(apply Vh;refine Vi ?_)|(apply Vj;refine Vk ?_)|(apply Vl;refine Vm ?_)|(apply Vn;refine Vo ?_)|(apply Vp;refine Vq ?_)|(apply Vr;refine Vs ?_)|(apply Vt;refine Vu ?_)|(apply Vv;refine Vw ?_)|(apply Vx;refine Vy ?_)|(apply Vz;refine Ua fun _=>?_)))
      refine xt_roundK (k, .slice (some ⟨b', 0, none⟩) (l.length - (k + 1) + 1) cap', [(b', row 24 2 (l.length - (k + 1) + 1) cap' (ptCells (l.drop (k + 1)).reverse ++ [.int .i64 p.1, .int .i64 p.2]))]) rfl ⟨rfl, rfl, trivial⟩ ⟨by dsimp only; omega, ?_⟩ (by dsimp only; omega) (fun w1 hw1 => hw1)
      dsimp only
      have e1 : l.length - k = l.length - (k + 1) + 1 := by omega
      have e2 : ptCells (l.drop k).reverse = ptCells (l.drop (k + 1)).reverse ++ [.int .i64 p.1, .int .i64 p.2] := by
        rw [List.drop_eq_getElem_cons (List.getElem?_eq_some_iff.1 hp).1, (List.getElem?_eq_some_iff.1 hp).2, List.reverse_cons, ptCells_append]
        rfl
      rw [e1, e2]
      exact OwnsV.at_
    · have hm0 : m = 0 := by have := of_decide_eq_false h; omega
      subst hm0
      obtain ⟨A3, c3, rfl⟩ := hu.shape
      (repeat' (first|refine Za ?_|refine Zb ?_|refine Zc ?_|refine Zd ?_|refine Ze ?_|refine Zf ?_|refine Zg ?_|refine Zh ?_|refine Zi ?_|refine Zj ?_|refine Zk ?_|refine Zl ?_|refine Zm ?_|refine Zn rfl ?_|refine Zo ?_|refine Zp ?_|refine Zq ?_|refine Zr ?_|refine Zs ?_|refine Zt ?_|refine Zu tab rfl rfl ?_|refine Zv rfl rfl ?_|refine Zw rfl rfl rfl rfl ?_|refine Zx rfl rfl rfl ?_|(apply Zy;refine Zz ?_)|(apply Ya;refine Yb ?_)|(apply Yc;refine Yd ?_)|(apply Ye;refine Yf ?_)|(apply Yg; first|refine Yh fun _=>?_|refine Yi (Yj rfl rfl) rfl fun _=>?_)|refine Yk rfl fun _=>?_|(apply Yl;refine Ym ?_)|(apply Yn;refine Yo ?_)|(apply Yp;refine Yq ?_)|(apply Yr;refine Ys ?_)|(apply Yt;refine Yu ?_)|(apply Yv;refine Yw fun _=>?_)|refine Yx rfl ?_|refine Yy rfl ?_|refine Yz rfl ?_|(apply Va; first|refine Vb ?_|refine Vc ?_)|refine Vd tab ?_|refine Ve fun _=>?_|(apply Vf;refine Vg ?_)|(apply Vh;refine Vi ?_)|(apply Vj;refine Vk ?_)|(apply Vl;refine Vm ?_)|(apply Vn;refine Vo ?_)|(apply Vp;refine Vq ?_)|(apply Vr;refine Vs ?_)|(apply Vt;refine Vu ?_)|(apply Vv;refine Vw ?_)|(apply Vx;refine Vy ?_)|(apply Vz;refine Ua fun _=>?_)))
      rename_i b47
      refine tl_imp (I' := St w3 [] ((b47, bx [.slice A3 (l.length - 0) c3] 38) :: ((Lr ++ Lu) ++ Lv))) (fun w1 hw1 => hw1.perm (List.Perm.cons _ (by rw [List.append_assoc, List.append_assoc]; exact List.perm_append_comm.append_left Lr))) ?_
      refine tl_app (Lr ++ Lu) rfl rfl hv rfl rfl rfl rfl rfl rfl (by omega) (by omega) fun b' cap' => ?_
      (repeat' (first|refine Za ?_|refine Zb ?_|refine Zc ?_|refine Zd ?_|refine Ze ?_|refine Zf ?_|refine Zg ?_|refine Zh ?_|refine Zi ?_|refine Zj ?_|refine Zk ?_|refine Zl ?_|refine Zm ?_|refine Zn rfl ?_|refine Zo ?_|refine Zp ?_|refine Zq ?_|refine Zr ?_|refine Zs ?_|refine Zt ?_|refine Zu tab rfl rfl ?_|refine Zv rfl rfl ?_|refine Zw rfl rfl rfl rfl ?_|refine Zx rfl rfl rfl ?_|(apply Zy;refine Zz ?_)|(apply Ya;refine Yb ?_)|(apply Yc;refine Yd ?_)|(apply Ye;refine Yf ?_)|(apply Yg; first|refine Yh fun _=>?_|refine Yi (Yj rfl rfl) rfl fun _=>?_)|refine Yk rfl fun _=>?_|(apply Yl;refine Ym ?_)|(apply Yn;refine Yo ?_)|(apply Yp;refine Yq ?_)|(apply Yr;refine Ys ?_)|(apply Yt;refine Yu ?_)|(apply Yv;refine Yw fun _=>?_)|refine Yx rfl ?_|refine Yy rfl ?_|refine Yz rfl ?_|(apply Va; first|refine Vb ?_|refine Vc ?_)|refine Vd tab ?_|refine Ve fun _=>?_|(apply Vf;refine Vg ?_)|(apply Vh;refine Vi ?_)|(apply Vj;refine Vk ?_)|(apply Vl;refine Vm ?_)|(apply Vn;refine Vo ?_)|(apply Vp;refine Vq ?_)|(apply Vr;refine Vs ?_)|(apply Vt;refine Vu ?_)|(apply Vv;refine Vw ?_)|(apply Vx;refine Vy ?_)|(apply Vz;refine Ua fun _=>?_)))
      refine xt_roundK (i + 1, .slice (some ⟨b', 0, none⟩) (i + 1) cap', rs ++ [.slice A3 (l.length - 0) c3], Lr ++ Lu, [(b', row 38 1 (i + 1) cap' (rs ++ [.slice A3 (l.length - 0) c3]))]) rfl ⟨rfl, rfl, trivial⟩ ⟨by dsimp only; omega, OwnsV.at_, by simp [hrs], fun j r l' h1 h2 => ?_⟩ (by dsimp only; omega) (fun w1 hw1 => hw1)
      dsimp only at h1 ⊢
      by_cases hj : j < rs.length
      · rw [List.getElem?_append_left hj] at h1
        obtain ⟨Lj, hj1, hj2⟩ := hrow j r l' h1 h2
        exact ⟨Lj, hj1, fun p hp => List.mem_append_left _ (hj2 p hp)⟩
      · have hlt := (List.getElem?_eq_some_iff.1 h1).1
        simp at hlt
        obtain rfl : j = i := by omega
        rw [List.getElem?_append_right (by omega), hrs, Nat.sub_self] at h1
        simp at h1
        subst h1
        rw [hl] at h2
        cases h2
        exact ⟨Lu, by simpa using hu, fun p hp => List.mem_append_right _ hp⟩
  · have hiN : i = N.length := by have := of_decide_eq_false h; omega
    refine t_rebase fun w4 hw4 => ?_
    have hl4 := hl3.to hw4.toExt
    have hat4 : ClA w4 b3 0 [.int .i64 x, .int .i64 y] := ⟨Nat.lt_of_lt_of_le hat3.1 hw4.toExt.size, fun j v hj => by rw [hw4.oldCell (a := ⟨b3, 0 + j, none⟩) hat3.1 (by simp)]; exact hat3.2 j v hj⟩
    have ho4 : Lines w4 v (revL N) := by
      refine lines_own hv hw4 (fun p hp => List.mem_append_right _ hp) (by rw [hrs, hiN, revL, List.length_map]) fun j r l h1 h2 => ?_
      rw [revL, List.getElem?_map] at h2
      obtain ⟨l0, hl0, rfl⟩ := Option.map_eq_some_iff.1 h2
      obtain ⟨Lj, hj1, hj2⟩ := hrow j r l0 h1 hl0
      exact (hj1.rdI hw4 fun p hp => List.mem_append_left _ (hj2 p hp)).rd
    have hx4 := hx3.trans hw4.toExt
    obtain ⟨A5, c5, rfl⟩ := hv.shape
    clear hl3 hat3 hw4 hrow hv
    (repeat' (first|refine Za ?_|refine Zb ?_|refine Zc ?_|refine Zd ?_|refine Ze ?_|refine Zf ?_|refine Zg ?_|refine Zh ?_|refine Zi ?_|refine Zj ?_|refine Zk ?_|refine Zl ?_|refine Zm ?_|refine Zn rfl ?_|refine Zo ?_|refine Zp ?_|refine Zq ?_|refine Zr ?_|refine Zs ?_|refine Zt ?_|refine Zu tab rfl rfl ?_|refine Zv rfl rfl ?_|refine Zw rfl rfl rfl rfl ?_|refine Zx rfl rfl rfl ?_|(apply Zy;refine Zz ?_)|(apply Ya;refine Yb ?_)|(apply Yc;refine Yd ?_)|(apply Ye;refine Yf ?_)|(apply Yg; first|refine Yh fun _=>?_|refine Yi (Yj rfl rfl) rfl fun _=>?_)|refine Yk rfl fun _=>?_|(apply Yl;refine Ym ?_)|(apply Yn;refine Yo ?_)|(apply Yp;refine Yq ?_)|(apply Yr;refine Ys ?_)|(apply Yt;refine Yu ?_)|(apply Yv;refine Yw fun _=>?_)|refine Yx rfl ?_|refine Yy rfl ?_|refine Yz rfl ?_|(apply Va; first|refine Vb ?_|refine Vc ?_)|refine Vd tab ?_|refine Ve fun _=>?_|(apply Vf;refine Vg ?_)|(apply Vh;refine Vi ?_)|(apply Vj;refine Vk ?_)|(apply Vl;refine Vm ?_)|(apply Vn;refine Vo ?_)|(apply Vp;refine Vq ?_)|(apply Vr;refine Vs ?_)|(apply Vt;refine Vu ?_)|(apply Vv;refine Vw ?_)|(apply Vx;refine Vy ?_)|(apply Vz;refine Ua fun _=>?_)))
    refine tl_bin (o_mask 13 rfl rfl rfl rfl) rfl ?_
    (repeat' (first|refine Za ?_|refine Zb ?_|refine Zc ?_|refine Zd ?_|refine Ze ?_|refine Zf ?_|refine Zg ?_|refine Zh ?_|refine Zi ?_|refine Zj ?_|refine Zk ?_|refine Zl ?_|refine Zm ?_|refine Zn rfl ?_|refine Zo ?_|refine Zp ?_|refine Zq ?_|refine Zr ?_|refine Zs ?_|refine Zt ?_|refine Zu tab rfl rfl ?_|refine Zv rfl rfl ?_|refine Zw rfl rfl rfl rfl ?_|refine Zx rfl rfl rfl ?_|(apply Zy;refine Zz ?_)|(apply Ya;refine Yb ?_)|(apply Yc;refine Yd ?_)|(apply Ye;refine Yf ?_)|(apply Yg; first|refine Yh fun _=>?_|refine Yi (Yj rfl rfl) rfl fun _=>?_)|refine Yk rfl fun _=>?_|(apply Yl;refine Ym ?_)|(apply Yn;refine Yo ?_)|(apply Yp;refine Yq ?_)|(apply Yr;refine Ys ?_)|(apply Yt;refine Yu ?_)|(apply Yv;refine Yw fun _=>?_)|refine Yx rfl ?_|refine Yy rfl ?_|refine Yz rfl ?_|(apply Va; first|refine Vb ?_|refine Vc ?_)|refine Vd tab ?_|refine Ve fun _=>?_|(apply Vf;refine Vg ?_)|(apply Vh;refine Vi ?_)|(apply Vj;refine Vk ?_)|(apply Vl;refine Vm ?_)|(apply Vn;refine Vo ?_)|(apply Vp;refine Vq ?_)|(apply Vr;refine Vs ?_)|(apply Vt;refine Vu ?_)|(apply Vv;refine Vw ?_)|(apply Vx;refine Vy ?_)|(apply Vz;refine Ua fun _=>?_)))
    refine tl_bin (o_mask 13 rfl rfl rfl rfl) rfl ?_
    (repeat' (first|refine Za ?_|refine Zb ?_|refine Zc ?_|refine Zd ?_|refine Ze ?_|refine Zf ?_|refine Zg ?_|refine Zh ?_|refine Zi ?_|refine Zj ?_|refine Zk ?_|refine Zl ?_|refine Zm ?_|refine Zn rfl ?_|refine Zo ?_|refine Zp ?_|refine Zq ?_|refine Zr ?_|refine Zs ?_|refine Zt ?_|refine Zu tab rfl rfl ?_|refine Zv rfl rfl ?_|refine Zw rfl rfl rfl rfl ?_|refine Zx rfl rfl rfl ?_|(apply Zy;refine Zz ?_)|(apply Ya;refine Yb ?_)|(apply Yc;refine Yd ?_)|(apply Ye;refine Yf ?_)|(apply Yg; first|refine Yh fun _=>?_|refine Yi (Yj rfl rfl) rfl fun _=>?_)|refine Yk rfl fun _=>?_|(apply Yl;refine Ym ?_)|(apply Yn;refine Yo ?_)|(apply Yp;refine Yq ?_)|(apply Yr;refine Ys ?_)|(apply Yt;refine Yu ?_)|(apply Yv;refine Yw fun _=>?_)|refine Yx rfl ?_|refine Yy rfl ?_|refine Yz rfl ?_|(apply Va; first|refine Vb ?_|refine Vc ?_)|refine Vd tab ?_|refine Ve fun _=>?_|(apply Vf;refine Vg ?_)|(apply Vh;refine Vi ?_)|(apply Vj;refine Vk ?_)|(apply Vl;refine Vm ?_)|(apply Vn;refine Vo ?_)|(apply Vp;refine Vq ?_)|(apply Vr;refine Vs ?_)|(apply Vt;refine Vu ?_)|(apply Vv;refine Vw ?_)|(apply Vx;refine Vy ?_)|(apply Vz;refine Ua fun _=>?_)))
    rename_i b11
    generalize x % (8191 + 1) - 4096 = X
    generalize y % (8191 + 1) - 4096 = Y
    have hedN := edgesAll_le N
    have hedR := edgesAll_le (revL N)
    have hedB := edgesAll_le (N ++ revL N)
    rw [revL_flat] at hedR
    rw [List.flatten_append, List.length_append, revL_flat] at hedB
    refine tl_callV (u := .int .i64 (wind N X Y)) (fun w5 hw5 => winding_calls w5 _ _ _ N (hl4.to hw5.toExt) X Y (by omega)) rfl rfl ?_
    have hbd := wind_bd N X Y
    have hq1 := against_wind N X Y
    have hq2 := against_none N X Y
    generalize wind N X Y = z at *
    (repeat' (first|refine Za ?_|refine Zb ?_|refine Zc ?_|refine Zd ?_|refine Ze ?_|refine Zf ?_|refine Zg ?_|refine Zh ?_|refine Zi ?_|refine Zj ?_|refine Zk ?_|refine Zl ?_|refine Zm ?_|refine Zn rfl ?_|refine Zo ?_|refine Zp ?_|refine Zq ?_|refine Zr ?_|refine Zs ?_|refine Zt ?_|refine Zu tab rfl rfl ?_|refine Zv rfl rfl ?_|refine Zw rfl rfl rfl rfl ?_|refine Zx rfl rfl rfl ?_|(apply Zy;refine Zz ?_)|(apply Ya;refine Yb ?_)|(apply Yc;refine Yd ?_)|(apply Ye;refine Yf ?_)|(apply Yg; first|refine Yh fun _=>?_|refine Yi (Yj rfl rfl) rfl fun _=>?_)|refine Yk rfl fun _=>?_|(apply Yl;refine Ym ?_)|(apply Yn;refine Yo ?_)|(apply Yp;refine Yq ?_)|(apply Yr;refine Ys ?_)|(apply Yt;refine Yu ?_)|(apply Yv;refine Yw fun _=>?_)|refine Yx rfl ?_|refine Yy rfl ?_|refine Yz rfl ?_|(apply Va; first|refine Vb ?_|refine Vc ?_)|refine Vd tab ?_|refine Ve fun _=>?_|(apply Vf;refine Vg ?_)|(apply Vh;refine Vi ?_)|(apply Vj;refine Vk ?_)|(apply Vl;refine Vm ?_)|(apply Vn;refine Vo ?_)|(apply Vp;refine Vq ?_)|(apply Vr;refine Vs ?_)|(apply Vt;refine Vu ?_)|(apply Vv;refine Vw ?_)|(apply Vx;refine Vy ?_)|(apply Vz;refine Ua fun _=>?_)))
    rename_i b61
    obtain ⟨rows1, hr1, hr1n, hr1o, hr1c, hr1r⟩ := lines_src hl4
    obtain ⟨rows2, hr2, hr2n, hr2o, hr2c, hr2r⟩ := lines_src ho4
    refine tl_appA (w0 := w4) (X := []) (news := rows1) [(b11, bx [.int .i64 X, .int .i64 Y] 24)] rfl rfl (OwnsV.at_ (e := 38) (sz := 1) (xs := [])) (fun w5 hw5 => St.headImp hw5 fun o ho => bx_row0 ho) (fun hpos => ?_) rfl hr1 hr1o (by omega) (by omega) rfl fun v6 Lv6 ho6 => ?_
    · obtain ⟨a, h1, h2⟩ := hr1c hpos
      exact ⟨a, h1, fun w5 hw5 => h2 w5 _ hw5⟩
    rw [Nat.zero_add, List.nil_append] at ho6
    (repeat' (first|refine Za ?_|refine Zb ?_|refine Zc ?_|refine Zd ?_|refine Ze ?_|refine Zf ?_|refine Zg ?_|refine Zh ?_|refine Zi ?_|refine Zj ?_|refine Zk ?_|refine Zl ?_|refine Zm ?_|refine Zn rfl ?_|refine Zo ?_|refine Zp ?_|refine Zq ?_|refine Zr ?_|refine Zs ?_|refine Zt ?_|refine Zu tab rfl rfl ?_|refine Zv rfl rfl ?_|refine Zw rfl rfl rfl rfl ?_|refine Zx rfl rfl rfl ?_|(apply Zy;refine Zz ?_)|(apply Ya;refine Yb ?_)|(apply Yc;refine Yd ?_)|(apply Ye;refine Yf ?_)|(apply Yg; first|refine Yh fun _=>?_|refine Yi (Yj rfl rfl) rfl fun _=>?_)|refine Yk rfl fun _=>?_|(apply Yl;refine Ym ?_)|(apply Yn;refine Yo ?_)|(apply Yp;refine Yq ?_)|(apply Yr;refine Ys ?_)|(apply Yt;refine Yu ?_)|(apply Yv;refine Yw fun _=>?_)|refine Yx rfl ?_|refine Yy rfl ?_|refine Yz rfl ?_|(apply Va; first|refine Vb ?_|refine Vc ?_)|refine Vd tab ?_|refine Ve fun _=>?_|(apply Vf;refine Vg ?_)|(apply Vh;refine Vi ?_)|(apply Vj;refine Vk ?_)|(apply Vl;refine Vm ?_)|(apply Vn;refine Vo ?_)|(apply Vp;refine Vq ?_)|(apply Vr;refine Vs ?_)|(apply Vt;refine Vu ?_)|(apply Vv;refine Vw ?_)|(apply Vx;refine Vy ?_)|(apply Vz;refine Ua fun _=>?_)))
    refine tl_appA (w0 := w4) (X := []) (news := rows2) [(b11, bx [.int .i64 X, .int .i64 Y] 24)] rfl rfl ho6 (fun w5 hw5 => hw5.perm List.perm_append_comm) (fun hpos => ?_) rfl hr2 hr2o (by omega) (by omega) rfl fun v7 Lv7 ho7 => ?_
    · obtain ⟨a, h1, h2⟩ := hr2c hpos
      exact ⟨a, h1, fun w5 hw5 => h2 w5 _ hw5⟩
    obtain ⟨A7, c7, rfl⟩ := ho7.shape
    have hB : ∀ w5 L5, St w4 [] L5 w5 → (∀ p ∈ Lv7, p ∈ L5) → Lines w5 (.slice A7 (n1 + i) c7) (N ++ revL N) := by
      intro w5 L5 hw5 hm5
      refine lines_own ho7 hw5 hm5 (by rw [List.length_append, List.length_append]; omega) fun j r l h1 h2 => ?_
      by_cases hj : j < rows1.length
      · rw [List.getElem?_append_left hj] at h1
        rw [List.getElem?_append_left (by omega)] at h2
        exact (hr1r j r l h1 h2).ext hw5.toExt
      · rw [List.getElem?_append_right (by omega)] at h1
        rw [List.getElem?_append_right (by omega)] at h2
        rw [show j - N.length = j - rows1.length by omega] at h2
        exact (hr2r _ r l h1 h2).ext hw5.toExt
    (repeat' (first|refine Za ?_|refine Zb ?_|refine Zc ?_|refine Zd ?_|refine Ze ?_|refine Zf ?_|refine Zg ?_|refine Zh ?_|refine Zi ?_|refine Zj ?_|refine Zk ?_|refine Zl ?_|refine Zm ?_|refine Zn rfl ?_|refine Zo ?_|refine Zp ?_|refine Zq ?_|refine Zr ?_|refine Zs ?_|refine Zt ?_|refine Zu tab rfl rfl ?_|refine Zv rfl rfl ?_|refine Zw rfl rfl rfl rfl ?_|refine Zx rfl rfl rfl ?_|(apply Zy;refine Zz ?_)|(apply Ya;refine Yb ?_)|(apply Yc;refine Yd ?_)|(apply Ye;refine Yf ?_)|(apply Yg; first|refine Yh fun _=>?_|refine Yi (Yj rfl rfl) rfl fun _=>?_)|refine Yk rfl fun _=>?_|(apply Yl;refine Ym ?_)|(apply Yn;refine Yo ?_)|(apply Yp;refine Yq ?_)|(apply Yr;refine Ys ?_)|(apply Yt;refine Yu ?_)|(apply Yv;refine Yw fun _=>?_)|refine Yx rfl ?_|refine Yy rfl ?_|refine Yz rfl ?_|(apply Va; first|refine Vb ?_|refine Vc ?_)|refine Vd tab ?_|refine Ve fun _=>?_|(apply Vf;refine Vg ?_)|(apply Vh;refine Vi ?_)|(apply Vj;refine Vk ?_)|(apply Vl;refine Vm ?_)|(apply Vn;refine Vo ?_)|(apply Vp;refine Vq ?_)|(apply Vr;refine Vs ?_)|(apply Vt;refine Vu ?_)|(apply Vv;refine Vw ?_)|(apply Vx;refine Vy ?_)|(apply Vz;refine Ua fun _=>?_)))
    refine tl_callV (u := .int .i64 (wind (revL N) X Y)) (fun w5 hw5 => winding_calls w5 _ _ _ (revL N) (ho4.to hw5.toExt) X Y (by omega)) rfl rfl ?_
    rw [hq1]
    (repeat' (first|refine Za ?_|refine Zb ?_|refine Zc ?_|refine Zd ?_|refine Ze ?_|refine Zf ?_|refine Zg ?_|refine Zh ?_|refine Zi ?_|refine Zj ?_|refine Zk ?_|refine Zl ?_|refine Zm ?_|refine Zn rfl ?_|refine Zo ?_|refine Zp ?_|refine Zq ?_|refine Zr ?_|refine Zs ?_|refine Zt ?_|refine Zu tab rfl rfl ?_|refine Zv rfl rfl ?_|refine Zw rfl rfl rfl rfl ?_|refine Zx rfl rfl rfl ?_|(apply Zy;refine Zz ?_)|(apply Ya;refine Yb ?_)|(apply Yc;refine Yd ?_)|(apply Ye;refine Yf ?_)|(apply Yg; first|refine Yh fun _=>?_|refine Yi (Yj rfl rfl) rfl fun _=>?_)|refine Yk rfl fun _=>?_|(apply Yl;refine Ym ?_)|(apply Yn;refine Yo ?_)|(apply Yp;refine Yq ?_)|(apply Yr;refine Ys ?_)|(apply Yt;refine Yu ?_)|(apply Yv;refine Yw fun _=>?_)|refine Yx rfl ?_|refine Yy rfl ?_|refine Yz rfl ?_|(apply Va; first|refine Vb ?_|refine Vc ?_)|refine Vd tab ?_|refine Ve fun _=>?_|(apply Vf;refine Vg ?_)|(apply Vh;refine Vi ?_)|(apply Vj;refine Vk ?_)|(apply Vl;refine Vm ?_)|(apply Vn;refine Vo ?_)|(apply Vp;refine Vq ?_)|(apply Vr;refine Vs ?_)|(apply Vt;refine Vu ?_)|(apply Vv;refine Vw ?_)|(apply Vx;refine Vy ?_)|(apply Vz;refine Ua fun _=>?_)))
    rw [show decide (-z = -z) = true by simp]
    (repeat' (first|refine Za ?_|refine Zb ?_|refine Zc ?_|refine Zd ?_|refine Ze ?_|refine Zf ?_|refine Zg ?_|refine Zh ?_|refine Zi ?_|refine Zj ?_|refine Zk ?_|refine Zl ?_|refine Zm ?_|refine Zn rfl ?_|refine Zo ?_|refine Zp ?_|refine Zq ?_|refine Zr ?_|refine Zs ?_|refine Zt ?_|refine Zu tab rfl rfl ?_|refine Zv rfl rfl ?_|refine Zw rfl rfl rfl rfl ?_|refine Zx rfl rfl rfl ?_|(apply Zy;refine Zz ?_)|(apply Ya;refine Yb ?_)|(apply Yc;refine Yd ?_)|(apply Ye;refine Yf ?_)|(apply Yg; first|refine Yh fun _=>?_|refine Yi (Yj rfl rfl) rfl fun _=>?_)|refine Yk rfl fun _=>?_|(apply Yl;refine Ym ?_)|(apply Yn;refine Yo ?_)|(apply Yp;refine Yq ?_)|(apply Yr;refine Ys ?_)|(apply Yt;refine Yu ?_)|(apply Yv;refine Yw fun _=>?_)|refine Yx rfl ?_|refine Yy rfl ?_|refine Yz rfl ?_|(apply Va; first|refine Vb ?_|refine Vc ?_)|refine Vd tab ?_|refine Ve fun _=>?_|(apply Vf;refine Vg ?_)|(apply Vh;refine Vi ?_)|(apply Vj;refine Vk ?_)|(apply Vl;refine Vm ?_)|(apply Vn;refine Vo ?_)|(apply Vp;refine Vq ?_)|(apply Vr;refine Vs ?_)|(apply Vt;refine Vu ?_)|(apply Vv;refine Vw ?_)|(apply Vx;refine Vy ?_)|(apply Vz;refine Ua fun _=>?_)))
    refine tl_callV (u := .int .i64 0) (fun w5 hw5 => ?_) rfl rfl ?_
    · have := winding_calls w5 _ _ _ (N ++ revL N) (hB w5 _ hw5 fun p hp => by simp [hp]) X Y (by omega)
      rwa [hq2] at this
    (repeat' (first|refine Za ?_|refine Zb ?_|refine Zc ?_|refine Zd ?_|refine Ze ?_|refine Zf ?_|refine Zg ?_|refine Zh ?_|refine Zi ?_|refine Zj ?_|refine Zk ?_|refine Zl ?_|refine Zm ?_|refine Zn rfl ?_|refine Zo ?_|refine Zp ?_|refine Zq ?_|refine Zr ?_|refine Zs ?_|refine Zt ?_|refine Zu tab rfl rfl ?_|refine Zv rfl rfl ?_|refine Zw rfl rfl rfl rfl ?_|refine Zx rfl rfl rfl ?_|(apply Zy;refine Zz ?_)|(apply Ya;refine Yb ?_)|(apply Yc;refine Yd ?_)|(apply Ye;refine Yf ?_)|(apply Yg; first|refine Yh fun _=>?_|refine Yi (Yj rfl rfl) rfl fun _=>?_)|refine Yk rfl fun _=>?_|(apply Yl;refine Ym ?_)|(apply Yn;refine Yo ?_)|(apply Yp;refine Yq ?_)|(apply Yr;refine Ys ?_)|(apply Yt;refine Yu ?_)|(apply Yv;refine Yw fun _=>?_)|refine Yx rfl ?_|refine Yy rfl ?_|refine Yz rfl ?_|(apply Va; first|refine Vb ?_|refine Vc ?_)|refine Vd tab ?_|refine Ve fun _=>?_|(apply Vf;refine Vg ?_)|(apply Vh;refine Vi ?_)|(apply Vj;refine Vk ?_)|(apply Vl;refine Vm ?_)|(apply Vn;refine Vo ?_)|(apply Vp;refine Vq ?_)|(apply Vr;refine Vs ?_)|(apply Vt;refine Vu ?_)|(apply Vv;refine Vw ?_)|(apply Vx;refine Vy ?_)|(apply Vz;refine Ua fun _=>?_)))
    refine tl_callR (Post := fun w1 v w2 => BmI w1 w2 v Bm.nil) (fun w5 hw5 => ?_) rfl rfl ?_
    · have := fill_calls w5 _ _ _ (N ++ revL N) (hB w5 _ hw5 fun p hp => by simp [hp]) (by omega)
      rwa [← hN, against_both] at this
    rintro w5 w6 v8 hw5 he5 ⟨rv8, rfl, hr8⟩
    obtain ⟨A8, n8, c8, rfl, _⟩ := id hr8
    (repeat' (first|refine Za ?_|refine Zb ?_|refine Zc ?_|refine Zd ?_|refine Ze ?_|refine Zf ?_|refine Zg ?_|refine Zh ?_|refine Zi ?_|refine Zj ?_|refine Zk ?_|refine Zl ?_|refine Zm ?_|refine Zn rfl ?_|refine Zo ?_|refine Zp ?_|refine Zq ?_|refine Zr ?_|refine Zs ?_|refine Zt ?_|refine Zu tab rfl rfl ?_|refine Zv rfl rfl ?_|refine Zw rfl rfl rfl rfl ?_|refine Zx rfl rfl rfl ?_|(apply Zy;refine Zz ?_)|(apply Ya;refine Yb ?_)|(apply Yc;refine Yd ?_)|(apply Ye;refine Yf ?_)|(apply Yg; first|refine Yh fun _=>?_|refine Yi (Yj rfl rfl) rfl fun _=>?_)|refine Yk rfl fun _=>?_|(apply Yl;refine Ym ?_)|(apply Yn;refine Yo ?_)|(apply Yp;refine Yq ?_)|(apply Yr;refine Ys ?_)|(apply Yt;refine Yu ?_)|(apply Yv;refine Yw fun _=>?_)|refine Yx rfl ?_|refine Yy rfl ?_|refine Yz rfl ?_|(apply Va; first|refine Vb ?_|refine Vc ?_)|refine Vd tab ?_|refine Ve fun _=>?_|(apply Vf;refine Vg ?_)|(apply Vh;refine Vi ?_)|(apply Vj;refine Vk ?_)|(apply Vl;refine Vm ?_)|(apply Vn;refine Vo ?_)|(apply Vp;refine Vq ?_)|(apply Vr;refine Vs ?_)|(apply Vt;refine Vu ?_)|(apply Vv;refine Vw ?_)|(apply Vx;refine Vy ?_)|(apply Vz;refine Ua fun _=>?_)))
    refine tl_callV (u := .bool true) (fun wb hwb => ?_) rfl rfl ?_
    · exact same_calls wb _ _ Bm.nil Bm.nil ⟨_, rfl, (RdI.move hr8 (hwb.sg fun p hp => by simp [hp])).rd⟩ ⟨_, rfl, (nil_rdI 0 0 wb 1).rd⟩
    (repeat' (first|refine Za ?_|refine Zb ?_|refine Zc ?_|refine Zd ?_|refine Ze ?_|refine Zf ?_|refine Zg ?_|refine Zh ?_|refine Zi ?_|refine Zj ?_|refine Zk ?_|refine Zl ?_|refine Zm ?_|refine Zn rfl ?_|refine Zo ?_|refine Zp ?_|refine Zq ?_|refine Zr ?_|refine Zs ?_|refine Zt ?_|refine Zu tab rfl rfl ?_|refine Zv rfl rfl ?_|refine Zw rfl rfl rfl rfl ?_|refine Zx rfl rfl rfl ?_|(apply Zy;refine Zz ?_)|(apply Ya;refine Yb ?_)|(apply Yc;refine Yd ?_)|(apply Ye;refine Yf ?_)|(apply Yg; first|refine Yh fun _=>?_|refine Yi (Yj rfl rfl) rfl fun _=>?_)|refine Yk rfl fun _=>?_|(apply Yl;refine Ym ?_)|(apply Yn;refine Yo ?_)|(apply Yp;refine Yq ?_)|(apply Yr;refine Ys ?_)|(apply Yt;refine Yu ?_)|(apply Yv;refine Yw fun _=>?_)|refine Yx rfl ?_|refine Yy rfl ?_|refine Yz rfl ?_|(apply Va; first|refine Vb ?_|refine Vc ?_)|refine Vd tab ?_|refine Ve fun _=>?_|(apply Vf;refine Vg ?_)|(apply Vh;refine Vi ?_)|(apply Vj;refine Vk ?_)|(apply Vl;refine Vm ?_)|(apply Vn;refine Vo ?_)|(apply Vp;refine Vq ?_)|(apply Vr;refine Vs ?_)|(apply Vt;refine Vu ?_)|(apply Vv;refine Vw ?_)|(apply Vx;refine Vy ?_)|(apply Vz;refine Ua fun _=>?_)))
    refine tl_callR (Post := fun w1 v w2 => BmI w1 w2 v (fillB N)) (fun w7 hw7 => ?_) rfl rfl ?_
    · have := fill_calls w7 _ _ _ (revL N) (ho4.to hw7.toExt) (by omega)
      rwa [← hN, against_fill, hN] at this
    rintro w7 w8 v9 hw7 he7 ⟨rv9, rfl, hr9⟩
    obtain ⟨A9, n9, c9, rfl, _⟩ := id hr9
    generalize hBq : fillB N = B at *
    (repeat' (first|refine Za ?_|refine Zb ?_|refine Zc ?_|refine Zd ?_|refine Ze ?_|refine Zf ?_|refine Zg ?_|refine Zh ?_|refine Zi ?_|refine Zj ?_|refine Zk ?_|refine Zl ?_|refine Zm ?_|refine Zn rfl ?_|refine Zo ?_|refine Zp ?_|refine Zq ?_|refine Zr ?_|refine Zs ?_|refine Zt ?_|refine Zu tab rfl rfl ?_|refine Zv rfl rfl ?_|refine Zw rfl rfl rfl rfl ?_|refine Zx rfl rfl rfl ?_|(apply Zy;refine Zz ?_)|(apply Ya;refine Yb ?_)|(apply Yc;refine Yd ?_)|(apply Ye;refine Yf ?_)|(apply Yg; first|refine Yh fun _=>?_|refine Yi (Yj rfl rfl) rfl fun _=>?_)|refine Yk rfl fun _=>?_|(apply Yl;refine Ym ?_)|(apply Yn;refine Yo ?_)|(apply Yp;refine Yq ?_)|(apply Yr;refine Ys ?_)|(apply Yt;refine Yu ?_)|(apply Yv;refine Yw fun _=>?_)|refine Yx rfl ?_|refine Yy rfl ?_|refine Yz rfl ?_|(apply Va; first|refine Vb ?_|refine Vc ?_)|refine Vd tab ?_|refine Ve fun _=>?_|(apply Vf;refine Vg ?_)|(apply Vh;refine Vi ?_)|(apply Vj;refine Vk ?_)|(apply Vl;refine Vm ?_)|(apply Vn;refine Vo ?_)|(apply Vp;refine Vq ?_)|(apply Vr;refine Vs ?_)|(apply Vt;refine Vu ?_)|(apply Vv;refine Vw ?_)|(apply Vx;refine Vy ?_)|(apply Vz;refine Ua fun _=>?_)))
    refine tl_callR (Post := fun w1 v w2 => BmI w1 w2 v B) (fun w9 hw9 => ?_) rfl rfl ?_
    · have := fill_calls w9 _ _ _ N (hl4.to hw9.toExt) (by omega)
      rwa [hBq] at this
    rintro w9 wa va hw9 he9 ⟨rva, rfl, hra⟩
    obtain ⟨Aa, na, ca, rfl, _⟩ := id hra
    (repeat' (first|refine Za ?_|refine Zb ?_|refine Zc ?_|refine Zd ?_|refine Ze ?_|refine Zf ?_|refine Zg ?_|refine Zh ?_|refine Zi ?_|refine Zj ?_|refine Zk ?_|refine Zl ?_|refine Zm ?_|refine Zn rfl ?_|refine Zo ?_|refine Zp ?_|refine Zq ?_|refine Zr ?_|refine Zs ?_|refine Zt ?_|refine Zu tab rfl rfl ?_|refine Zv rfl rfl ?_|refine Zw rfl rfl rfl rfl ?_|refine Zx rfl rfl rfl ?_|(apply Zy;refine Zz ?_)|(apply Ya;refine Yb ?_)|(apply Yc;refine Yd ?_)|(apply Ye;refine Yf ?_)|(apply Yg; first|refine Yh fun _=>?_|refine Yi (Yj rfl rfl) rfl fun _=>?_)|refine Yk rfl fun _=>?_|(apply Yl;refine Ym ?_)|(apply Yn;refine Yo ?_)|(apply Yp;refine Yq ?_)|(apply Yr;refine Ys ?_)|(apply Yt;refine Yu ?_)|(apply Yv;refine Yw fun _=>?_)|refine Yx rfl ?_|refine Yy rfl ?_|refine Yz rfl ?_|(apply Va; first|refine Vb ?_|refine Vc ?_)|refine Vd tab ?_|refine Ve fun _=>?_|(apply Vf;refine Vg ?_)|(apply Vh;refine Vi ?_)|(apply Vj;refine Vk ?_)|(apply Vl;refine Vm ?_)|(apply Vn;refine Vo ?_)|(apply Vp;refine Vq ?_)|(apply Vr;refine Vs ?_)|(apply Vt;refine Vu ?_)|(apply Vv;refine Vw ?_)|(apply Vx;refine Vy ?_)|(apply Vz;refine Ua fun _=>?_)))
    refine tl_callV (u := .bool true) (fun wb hwb => ?_) rfl rfl ?_
    · have := same_calls wb _ _ B B ⟨_, rfl, (RdI.move hr9 (hwb.sg fun p hp => by simp [hp])).rd⟩ ⟨_, rfl, (RdI.move hra (hwb.sg fun p hp => by simp [hp])).rd⟩
      rwa [show decide (Bm.same B B) = true by simp [Bm.same]] at this
    (repeat' (first|refine Za ?_|refine Zb ?_|refine Zc ?_|refine Zd ?_|refine Ze ?_|refine Zf ?_|refine Zg ?_|refine Zh ?_|refine Zi ?_|refine Zj ?_|refine Zk ?_|refine Zl ?_|refine Zm ?_|refine Zn rfl ?_|refine Zo ?_|refine Zp ?_|refine Zq ?_|refine Zr ?_|refine Zs ?_|refine Zt ?_|refine Zu tab rfl rfl ?_|refine Zv rfl rfl ?_|refine Zw rfl rfl rfl rfl ?_|refine Zx rfl rfl rfl ?_|(apply Zy;refine Zz ?_)|(apply Ya;refine Yb ?_)|(apply Yc;refine Yd ?_)|(apply Ye;refine Yf ?_)|(apply Yg; first|refine Yh fun _=>?_|refine Yi (Yj rfl rfl) rfl fun _=>?_)|refine Yk rfl fun _=>?_|(apply Yl;refine Ym ?_)|(apply Yn;refine Yo ?_)|(apply Yp;refine Yq ?_)|(apply Yr;refine Ys ?_)|(apply Yt;refine Yu ?_)|(apply Yv;refine Yw fun _=>?_)|refine Yx rfl ?_|refine Yy rfl ?_|refine Yz rfl ?_|(apply Va; first|refine Vb ?_|refine Vc ?_)|refine Vd tab ?_|refine Ve fun _=>?_|(apply Vf;refine Vg ?_)|(apply Vh;refine Vi ?_)|(apply Vj;refine Vk ?_)|(apply Vl;refine Vm ?_)|(apply Vn;refine Vo ?_)|(apply Vp;refine Vq ?_)|(apply Vr;refine Vs ?_)|(apply Vt;refine Vu ?_)|(apply Vv;refine Vw ?_)|(apply Vx;refine Vy ?_)|(apply Vz;refine Ua fun _=>?_)))
    exact xt_ret1 rfl rfl fun wc hwc => ⟨_, rfl, hx4.trans hwc.toExt, rfl⟩

end Go.Proofs.Ytbgolbkolcmldaa
