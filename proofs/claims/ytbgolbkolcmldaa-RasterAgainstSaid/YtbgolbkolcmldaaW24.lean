/-
  The law's own: lines near by.
-/
import Derived.Test.YtbgolbkolcmldaaW23
namespace Go.Proofs.Ytbgolbkolcmldaa
open Go.RowKit
theorem and_mask (x : Int) (j : Nat) (hj : j ≤ 62) : bits .and .i64 x ((2 ^ j - 1 : Nat) : Int) = x % ((2 ^ j : Nat) : Int) := by
  show IntKind.i64.wrap ((BitVec.ofInt 64 x &&& BitVec.ofInt 64 ((2 ^ j - 1 : Nat) : Int)).toNat : Int) = _
  rw [BitVec.toNat_and, BitVec.toNat_ofInt, BitVec.toNat_ofInt]
  have hp : 0 < 2 ^ j := Nat.two_pow_pos j
  have h62 : 2 ^ j ≤ 2 ^ 62 := Nat.pow_le_pow_right (by decide) hj
  have e1 : (((2 ^ j - 1 : Nat) : Int) % ((2 ^ 64 : Nat) : Int)).toNat = 2 ^ j - 1 := by
    rw [Int.emod_eq_of_lt (by omega) (by have : (2:Nat) ^ 62 < 2 ^ 64 := by decide
                                         omega)]
    simp
  rw [e1, Nat.and_two_pow_sub_one_eq_mod]
  have hlt := Nat.mod_lt (x % ((2 ^ 64 : Nat) : Int)).toNat hp
  have h0 : 0 ≤ x % ((2 ^ 64 : Nat) : Int) := Int.emod_nonneg _ (by decide)
  have e2 : ((((x % ((2 ^ 64 : Nat) : Int)).toNat % 2 ^ j : Nat)) : Int) = x % ((2 ^ j : Nat) : Int) := by
    rw [Int.natCast_emod, Int.toNat_of_nonneg h0]
    exact Int.emod_emod_of_dvd x (by exact_mod_cast Nat.pow_dvd_pow 2 (by omega))
  rw [← e2, IntKind.wrap_i64]
  have : (2:Nat) ^ 62 = 4611686018427387904 := by decide
  omega
section
variable {P : Program} {I : World → Prop} {fr : Fr} {d : Option Tmp} {ty t t' : TypeId} {pos : String} {af : Array Edge} {g : Option (Nat × Bool)} {x y : Operand}
theorem o_mask (j : Nat) {a m : Int} (hx : fev fr x = some (.int .i64 a)) (hy : fev fr y = some (.int .i64 m)) (hm : m = ((2 ^ j - 1 : Nat) : Int)) (hj : Nat.ble j 62 = true) : Pv P ⟨d, .binOp .and t x y t', ty, pos, af, g⟩ fr I (.int .i64 (a % (m + 1))) := by
  have := o_and (P := P) (I := I) (d := d) (ty := ty) (t := t) (t' := t') (pos := pos) (af := af) (g := g) hx hy
  rw [hm, and_mask a j (by simpa [Nat.ble_eq] using hj)] at this
  have hp : 0 < 2 ^ j := Nat.two_pow_pos j
  rw [hm, show ((2 ^ j - 1 : Nat) : Int) + 1 = ((2 ^ j : Nat) : Int) by omega]
  exact this
end
end Go.Proofs.Ytbgolbkolcmldaa
namespace Go.Proofs.Ytbgolbkolcmldaa
open Go.RowKit
attribute [local irreducible] T TL Xt O Op1 Kt DV ObsB DE DW DW1 LoopQ LoopJ

def nrP (p : Int × Int) : Int × Int := (p.1 % 4096 - 2048, p.2 % 4096 - 2048)
def nrL (l : Pts) : Pts := (l.take 10).map nrP
def nearL (ls : List Pts) : List Pts := (ls.take 5).map nrL
theorem ptCells_append (a b : Pts) : ptCells (a ++ b) = ptCells a ++ ptCells b := by simp [ptCells]

set_option maxHeartbeats 1000000 in
theorem near_calls (w : World) (A : Option Addr) (n cap : Nat) (ls : List Pts) (hL : Lines w (.slice A n cap) ls) : Calls Try.prog 15 #[.slice A n cap] w (Ret w fun v w' => LinesI w w' v (nearL ls)) := by
  have hn : n = ls.length ∧ n ≤ 9223372036854775807 := by
    obtain ⟨rows, ⟨A', n', cap', he, h1, h2, h3, h4⟩, hl, _⟩ := hL
    cases he
    unfold maxLen at h3
    omega
  refine calls_S (vs := [.slice A n cap]) Try.func15 rfl Try.ntmps15 rfl ?_
  (repeat' (first|refine Za ?_|refine Zb ?_|refine Zc ?_|refine Zd ?_|refine Ze ?_|refine Zf ?_|refine Zg ?_|refine Zh ?_|refine Zi ?_|refine Zj ?_|refine Zk ?_|refine Zl ?_|refine Zm ?_|refine Zn rfl ?_|refine Zo ?_|refine Zp ?_|refine Zq ?_|refine Zr ?_|refine Zs ?_|refine Zt ?_|refine Zu tab rfl rfl ?_|refine Zv rfl rfl ?_|refine Zw rfl rfl rfl rfl ?_|refine Zx rfl rfl rfl ?_|(apply Zy;refine Zz ?_)|(apply Ya;refine Yb ?_)|(apply Yc;refine Yd ?_)|(apply Ye;refine Yf ?_)|(apply Yg; first|refine Yh fun _=>?_|refine Yi (Yj rfl rfl) rfl fun _=>?_)|refine Yk rfl fun _=>?_|(apply Yl;refine Ym ?_)|(apply Yn;refine Yo ?_)|(apply Yp;refine Yq ?_)|(apply Yr;refine Ys ?_)|(apply Yt;refine Yu ?_)|(apply Yv;refine Yw fun _=>?_)|refine Yx rfl ?_|refine Yy rfl ?_|refine Yz rfl ?_|(apply Va; first|refine Vb ?_|refine Vc ?_)|refine Vd tab ?_|refine Ve fun _=>?_|(apply Vf;refine Vg ?_)|(apply Vh;refine Vi ?_)|(apply Vj;refine Vk ?_)|(apply Vl;refine Vm ?_)|(apply Vn;refine Vo ?_)|(apply Vp;refine Vq ?_)|(apply Vr;refine Vs ?_)|(apply Vt;refine Vu ?_)|(apply Vv;refine Vw ?_)|(apply Vx;refine Vy ?_)|(apply Vz;refine Ua fun _=>?_)))
  rename_i b5
  refine t_loopK [0] (α := Nat × Value × List Value × HL × HL) (fun x => [(3, x.2.1), (4, .int .i64 x.1)]) (fun x => x.1 ≤ ls.length ∧ x.1 ≤ 5 ∧ OwnsV x.2.1 38 1 x.1 x.2.2.1 x.2.2.2.2 ∧ x.2.2.1.length = x.1 ∧ ∀ (j : Nat) (r : Value) (l : Pts), x.2.2.1[j]? = some r → ls[j]? = some l → ∃ Lj, OwnsV r 24 2 (min l.length 10) (ptCells (nrL l)) Lj ∧ ∀ p ∈ Lj, p ∈ x.2.2.2.1) (fun x => x.2.2.2.1 ++ x.2.2.2.2) (fun x => 5 - x.1) (0, .slice (some ⟨b5, 0, none⟩) 0 0, [], [], [(b5, row 38 1 0 0 [])]) rfl ⟨rfl, rfl, trivial⟩ ⟨Nat.zero_le _, Nat.zero_le _, OwnsV.at_, rfl, fun j r l h => by simp at h⟩ (fun w h => ?_) ?_
  · exact St.headImp h fun o ho => bx_row0 ho
  rintro ⟨i, v, rs, Lr, Lv⟩ ⟨hi, hi5, hv, hrs, hrow⟩
  dsimp only at hi hi5 hv hrs hrow ⊢
  try dsimp only [List.cons_append, List.nil_append, List.map_cons, List.map_nil]
  (repeat' (first|refine Za ?_|refine Zb ?_|refine Zc ?_|refine Zd ?_|refine Ze ?_|refine Zf ?_|refine Zg ?_|refine Zh ?_|refine Zi ?_|refine Zj ?_|refine Zk ?_|refine Zl ?_|refine Zm ?_|refine Zn rfl ?_|refine Zo ?_|refine Zp ?_|refine Zq ?_|refine Zr ?_|refine Zs ?_|refine Zt ?_|refine Zu tab rfl rfl ?_|refine Zv rfl rfl ?_|refine Zw rfl rfl rfl rfl ?_|refine Zx rfl rfl rfl ?_|(apply Zy;refine Zz ?_)|(apply Ya;refine Yb ?_)|(apply Yc;refine Yd ?_)|(apply Ye;refine Yf ?_)|(apply Yg; first|refine Yh fun _=>?_|refine Yi (Yj rfl rfl) rfl fun _=>?_)|refine Yk rfl fun _=>?_|(apply Yl;refine Ym ?_)|(apply Yn;refine Yo ?_)|(apply Yp;refine Yq ?_)|(apply Yr;refine Ys ?_)|(apply Yt;refine Yu ?_)|(apply Yv;refine Yw fun _=>?_)|refine Yx rfl ?_|refine Yy rfl ?_|refine Yz rfl ?_|(apply Va; first|refine Vb ?_|refine Vc ?_)|refine Vd tab ?_|refine Ve fun _=>?_|(apply Vf;refine Vg ?_)|(apply Vh;refine Vi ?_)|(apply Vj;refine Vk ?_)|(apply Vl;refine Vm ?_)|(apply Vn;refine Vo ?_)|(apply Vp;refine Vq ?_)|(apply Vr;refine Vs ?_)|(apply Vt;refine Vu ?_)|(apply Vv;refine Vw ?_)|(apply Vx;refine Vy ?_)|(apply Vz;refine Ua fun _=>?_)))
  refine tl_if [0, 3, 4] (i < ls.length ∧ i < 5) rfl (fun Q' K => ?_) (fun hC => ?_) (fun hC => ?_)
  · (repeat' (first|refine Za ?_|refine Zb ?_|refine Zc ?_|refine Zd ?_|refine Ze ?_|refine Zf ?_|refine Zg ?_|refine Zh ?_|refine Zi ?_|refine Zj ?_|refine Zk ?_|refine Zl ?_|refine Zm ?_|refine Zn rfl ?_|refine Zo ?_|refine Zp ?_|refine Zq ?_|refine Zr ?_|refine Zs ?_|refine Zt ?_|refine Zu tab rfl rfl ?_|refine Zv rfl rfl ?_|refine Zw rfl rfl rfl rfl ?_|refine Zx rfl rfl rfl ?_|(apply Zy;refine Zz ?_)|(apply Ya;refine Yb ?_)|(apply Yc;refine Yd ?_)|(apply Ye;refine Yf ?_)|(apply Yg; first|refine Yh fun _=>?_|refine Yi (Yj rfl rfl) rfl fun _=>?_)|refine Yk rfl fun _=>?_|(apply Yl;refine Ym ?_)|(apply Yn;refine Yo ?_)|(apply Yp;refine Yq ?_)|(apply Yr;refine Ys ?_)|(apply Yt;refine Yu ?_)|(apply Yv;refine Yw fun _=>?_)|refine Yx rfl ?_|refine Yy rfl ?_|refine Yz rfl ?_|(apply Va; first|refine Vb ?_|refine Vc ?_)|refine Vd tab ?_|refine Ve fun _=>?_|(apply Vf;refine Vg ?_)|(apply Vh;refine Vi ?_)|(apply Vj;refine Vk ?_)|(apply Vl;refine Vm ?_)|(apply Vn;refine Vo ?_)|(apply Vp;refine Vq ?_)|(apply Vr;refine Vs ?_)|(apply Vt;refine Vu ?_)|(apply Vv;refine Vw ?_)|(apply Vx;refine Vy ?_)|(apply Vz;refine Ua fun _=>?_)|refine tl_guard rfl rfl rfl (fun _ => ?_) (fun _ => ?_)))
    all_goals exact K _ _ rfl rfl (by simp_all <;> omega)
  · obtain ⟨l, hl⟩ : ∃ l, ls[i]? = some l := ⟨ls[i], List.getElem?_eq_getElem hC.1⟩
    obtain ⟨b, off, A1, n1, c1, rfl, hcl, hR⟩ := lines_cl hL hl
    have hn1 := row_len hR
    have hn2 := row_le hR
    subst hn1
    (repeat' (first|refine Za ?_|refine Zb ?_|refine Zc ?_|refine Zd ?_|refine Ze ?_|refine Zf ?_|refine Zg ?_|refine Zh ?_|refine Zi ?_|refine Zj ?_|refine Zk ?_|refine Zl ?_|refine Zm ?_|refine Zn rfl ?_|refine Zo ?_|refine Zp ?_|refine Zq ?_|refine Zr ?_|refine Zs ?_|refine Zt ?_|refine Zu tab rfl rfl ?_|refine Zv rfl rfl ?_|refine Zw rfl rfl rfl rfl ?_|refine Zx rfl rfl rfl ?_|(apply Zy;refine Zz ?_)|(apply Ya;refine Yb ?_)|(apply Yc;refine Yd ?_)|(apply Ye;refine Yf ?_)|(apply Yg; first|refine Yh fun _=>?_|refine Yi (Yj rfl rfl) rfl fun _=>?_)|refine Yk rfl fun _=>?_|(apply Yl;refine Ym ?_)|(apply Yn;refine Yo ?_)|(apply Yp;refine Yq ?_)|(apply Yr;refine Ys ?_)|(apply Yt;refine Yu ?_)|(apply Yv;refine Yw fun _=>?_)|refine Yx rfl ?_|refine Yy rfl ?_|refine Yz rfl ?_|(apply Va; first|refine Vb ?_|refine Vc ?_)|refine Vd tab ?_|refine Ve fun _=>?_|(apply Vf;refine Vg ?_)|(apply Vh;refine Vi ?_)|(apply Vj;refine Vk ?_)|(apply Vl;refine Vm ?_)|(apply Vn;refine Vo ?_)|(apply Vp;refine Vq ?_)|(apply Vr;refine Vs ?_)|(apply Vt;refine Vu ?_)|(apply Vv;refine Vw ?_)|(apply Vx;refine Vy ?_)|(apply Vz;refine Ua fun _=>?_)))
    rename_i b18
    refine t_loopK [0, 3, 4] (α := Nat × Value × HL) (fun x => [(5, x.2.1), (6, .int .i64 x.1)]) (fun x => x.1 ≤ l.length ∧ x.1 ≤ 10 ∧ OwnsV x.2.1 24 2 x.1 (ptCells ((l.take x.1).map nrP)) x.2.2) (fun x => Lr ++ Lv ++ x.2.2) (fun x => 10 - x.1) (0, .slice (some ⟨b18, 0, none⟩) 0 0, [(b18, row 24 2 0 0 [])]) rfl ⟨rfl, rfl, trivial⟩ ⟨Nat.zero_le _, Nat.zero_le _, OwnsV.at_⟩ (fun w h => ?_) ?_
    · exact (St.headImp h fun o ho => bx_row0 ho).perm (List.perm_append_comm (l₁ := [_]))
    rintro ⟨k, u, Lu⟩ ⟨hk, hk10, hu⟩
    dsimp only at hk hk10 hu ⊢
    try dsimp only [List.cons_append, List.nil_append, List.map_cons, List.map_nil]
    (repeat' (first|refine Za ?_|refine Zb ?_|refine Zc ?_|refine Zd ?_|refine Ze ?_|refine Zf ?_|refine Zg ?_|refine Zh ?_|refine Zi ?_|refine Zj ?_|refine Zk ?_|refine Zl ?_|refine Zm ?_|refine Zn rfl ?_|refine Zo ?_|refine Zp ?_|refine Zq ?_|refine Zr ?_|refine Zs ?_|refine Zt ?_|refine Zu tab rfl rfl ?_|refine Zv rfl rfl ?_|refine Zw rfl rfl rfl rfl ?_|refine Zx rfl rfl rfl ?_|(apply Zy;refine Zz ?_)|(apply Ya;refine Yb ?_)|(apply Yc;refine Yd ?_)|(apply Ye;refine Yf ?_)|(apply Yg; first|refine Yh fun _=>?_|refine Yi (Yj rfl rfl) rfl fun _=>?_)|refine Yk rfl fun _=>?_|(apply Yl;refine Ym ?_)|(apply Yn;refine Yo ?_)|(apply Yp;refine Yq ?_)|(apply Yr;refine Ys ?_)|(apply Yt;refine Yu ?_)|(apply Yv;refine Yw fun _=>?_)|refine Yx rfl ?_|refine Yy rfl ?_|refine Yz rfl ?_|(apply Va; first|refine Vb ?_|refine Vc ?_)|refine Vd tab ?_|refine Ve fun _=>?_|(apply Vf;refine Vg ?_)|(apply Vh;refine Vi ?_)|(apply Vj;refine Vk ?_)|(apply Vl;refine Vm ?_)|(apply Vn;refine Vo ?_)|(apply Vp;refine Vq ?_)|(apply Vr;refine Vs ?_)|(apply Vt;refine Vu ?_)|(apply Vv;refine Vw ?_)|(apply Vx;refine Vy ?_)|(apply Vz;refine Ua fun _=>?_)))
    refine tl_if [0, 3, 4, 5, 6] (k < l.length ∧ k < 10) rfl (fun Q' K => ?_) (fun hD => ?_) (fun hD => ?_)
    · (repeat' (first|refine Za ?_|refine Zb ?_|refine Zc ?_|refine Zd ?_|refine Ze ?_|refine Zf ?_|refine Zg ?_|refine Zh ?_|refine Zi ?_|refine Zj ?_|refine Zk ?_|refine Zl ?_|refine Zm ?_|refine Zn rfl ?_|refine Zo ?_|refine Zp ?_|refine Zq ?_|refine Zr ?_|refine Zs ?_|refine Zt ?_|refine Zu tab rfl rfl ?_|refine Zv rfl rfl ?_|refine Zw rfl rfl rfl rfl ?_|refine Zx rfl rfl rfl ?_|(apply Zy;refine Zz ?_)|(apply Ya;refine Yb ?_)|(apply Yc;refine Yd ?_)|(apply Ye;refine Yf ?_)|(apply Yg; first|refine Yh fun _=>?_|refine Yi (Yj rfl rfl) rfl fun _=>?_)|refine Yk rfl fun _=>?_|(apply Yl;refine Ym ?_)|(apply Yn;refine Yo ?_)|(apply Yp;refine Yq ?_)|(apply Yr;refine Ys ?_)|(apply Yt;refine Yu ?_)|(apply Yv;refine Yw fun _=>?_)|refine Yx rfl ?_|refine Yy rfl ?_|refine Yz rfl ?_|(apply Va; first|refine Vb ?_|refine Vc ?_)|refine Vd tab ?_|refine Ve fun _=>?_|(apply Vf;refine Vg ?_)|(apply Vh;refine Vi ?_)|(apply Vj;refine Vk ?_)|(apply Vl;refine Vm ?_)|(apply Vn;refine Vo ?_)|(apply Vp;refine Vq ?_)|(apply Vr;refine Vs ?_)|(apply Vt;refine Vu ?_)|(apply Vv;refine Vw ?_)|(apply Vx;refine Vy ?_)|(apply Vz;refine Ua fun _=>?_)|refine tl_guard rfl rfl rfl (fun _ => ?_) (fun _ => ?_)))
      all_goals exact K _ _ rfl rfl (by simp_all <;> omega)
    · obtain ⟨p, hp⟩ : ∃ p, l[k]? = some p := ⟨l[k], List.getElem?_eq_getElem hD.1⟩
      obtain ⟨b2, off2, rfl, hpc⟩ := row_cl hR hp
      (repeat' (first|refine Za ?_|refine Zb ?_|refine Zc ?_|refine Zd ?_|refine Ze ?_|refine Zf ?_|refine Zg ?_|refine Zh ?_|refine Zi ?_|refine Zj ?_|refine Zk ?_|refine Zl ?_|refine Zm ?_|refine Zn rfl ?_|refine Zo ?_|refine Zp ?_|refine Zq ?_|refine Zr ?_|refine Zs ?_|refine Zt ?_|refine Zu tab rfl rfl ?_|refine Zv rfl rfl ?_|refine Zw rfl rfl rfl rfl ?_|refine Zx rfl rfl rfl ?_|(apply Zy;refine Zz ?_)|(apply Ya;refine Yb ?_)|(apply Yc;refine Yd ?_)|(apply Ye;refine Yf ?_)|(apply Yg; first|refine Yh fun _=>?_|refine Yi (Yj rfl rfl) rfl fun _=>?_)|refine Yk rfl fun _=>?_|(apply Yl;refine Ym ?_)|(apply Yn;refine Yo ?_)|(apply Yp;refine Yq ?_)|(apply Yr;refine Ys ?_)|(apply Yt;refine Yu ?_)|(apply Yv;refine Yw fun _=>?_)|refine Yx rfl ?_|refine Yy rfl ?_|refine Yz rfl ?_|(apply Va; first|refine Vb ?_|refine Vc ?_)|refine Vd tab ?_|refine Ve fun _=>?_|(apply Vf;refine Vg ?_)|(apply Vh;refine Vi ?_)|(apply Vj;refine Vk ?_)|(apply Vl;refine Vm ?_)|(apply Vn;refine Vo ?_)|(apply Vp;refine Vq ?_)|(apply Vr;refine Vs ?_)|(apply Vt;refine Vu ?_)|(apply Vv;refine Vw ?_)|(apply Vx;refine Vy ?_)|(apply Vz;refine Ua fun _=>?_)))
      refine t_drawWH 24 [(0, .v), (1, .v), (2, .v), (3, .v), (4, .v), (5, .v), (6, .v), (7, .v), (8, .v), (9, .v), (10, .v), (11, .v), (12, .v), (13, .v), (14, .v), (15, .v), (16, .v), (17, .v), (18, .v), (19, .v), (20, .v), (21, .v), (22, .e), (23, .h)] ?_ rfl (by kernel_rfl) (by kernel_rfl) rfl (by kernel_rfl) mixed (by kernel_rfl) rfl
      (repeat' (first|refine Za ?_|refine Zb ?_|refine Zc ?_|refine Zd ?_|refine Ze ?_|refine Zf ?_|refine Zg ?_|refine Zh ?_|refine Zi ?_|refine Zj ?_|refine Zk ?_|refine Zl ?_|refine Zm ?_|refine Zn rfl ?_|refine Zo ?_|refine Zp ?_|refine Zq ?_|refine Zr ?_|refine Zs ?_|refine Zt ?_|refine Zu tab rfl rfl ?_|refine Zv rfl rfl ?_|refine Zw rfl rfl rfl rfl ?_|refine Zx rfl rfl rfl ?_|(apply Zy;refine Zz ?_)|(apply Ya;refine Yb ?_)|(apply Yc;refine Yd ?_)|(apply Ye;refine Yf ?_)|(apply Yg; first|refine Yh fun _=>?_|refine Yi (Yj rfl rfl) rfl fun _=>?_)|refine Yk rfl fun _=>?_|(apply Yl;refine Ym ?_)|(apply Yn;refine Yo ?_)|(apply Yp;refine Yq ?_)|(apply Yr;refine Ys ?_)|(apply Yt;refine Yu ?_)|(apply Yv;refine Yw fun _=>?_)|refine Yx rfl ?_|refine Yy rfl ?_|refine Yz rfl ?_|(apply Va; first|refine Vb ?_|refine Vc ?_)|refine Vd tab ?_|refine Ve fun _=>?_|(apply Vf;refine Vg ?_)|(apply Vh;refine Vi ?_)|(apply Vj;refine Vk ?_)|(apply Vl;refine Vm ?_)|(apply Vn;refine Vo ?_)|(apply Vp;refine Vq ?_)|(apply Vr;refine Vs ?_)|(apply Vt;refine Vu ?_)|(apply Vv;refine Vw ?_)|(apply Vx;refine Vy ?_)|(apply Vz;refine Ua fun _=>?_)))
      refine dw_opN rfl rfl (fun _ => o_mask 12 rfl rfl rfl rfl) ?_
      (repeat' (first|refine Za ?_|refine Zb ?_|refine Zc ?_|refine Zd ?_|refine Ze ?_|refine Zf ?_|refine Zg ?_|refine Zh ?_|refine Zi ?_|refine Zj ?_|refine Zk ?_|refine Zl ?_|refine Zm ?_|refine Zn rfl ?_|refine Zo ?_|refine Zp ?_|refine Zq ?_|refine Zr ?_|refine Zs ?_|refine Zt ?_|refine Zu tab rfl rfl ?_|refine Zv rfl rfl ?_|refine Zw rfl rfl rfl rfl ?_|refine Zx rfl rfl rfl ?_|(apply Zy;refine Zz ?_)|(apply Ya;refine Yb ?_)|(apply Yc;refine Yd ?_)|(apply Ye;refine Yf ?_)|(apply Yg; first|refine Yh fun _=>?_|refine Yi (Yj rfl rfl) rfl fun _=>?_)|refine Yk rfl fun _=>?_|(apply Yl;refine Ym ?_)|(apply Yn;refine Yo ?_)|(apply Yp;refine Yq ?_)|(apply Yr;refine Ys ?_)|(apply Yt;refine Yu ?_)|(apply Yv;refine Yw fun _=>?_)|refine Yx rfl ?_|refine Yy rfl ?_|refine Yz rfl ?_|(apply Va; first|refine Vb ?_|refine Vc ?_)|refine Vd tab ?_|refine Ve fun _=>?_|(apply Vf;refine Vg ?_)|(apply Vh;refine Vi ?_)|(apply Vj;refine Vk ?_)|(apply Vl;refine Vm ?_)|(apply Vn;refine Vo ?_)|(apply Vp;refine Vq ?_)|(apply Vr;refine Vs ?_)|(apply Vt;refine Vu ?_)|(apply Vv;refine Vw ?_)|(apply Vx;refine Vy ?_)|(apply Vz;refine Ua fun _=>?_)))
      refine dw_opN rfl rfl (fun _ => o_mask 12 rfl rfl rfl rfl) ?_
      (repeat' (first|refine Za ?_|refine Zb ?_|refine Zc ?_|refine Zd ?_|refine Ze ?_|refine Zf ?_|refine Zg ?_|refine Zh ?_|refine Zi ?_|refine Zj ?_|refine Zk ?_|refine Zl ?_|refine Zm ?_|refine Zn rfl ?_|refine Zo ?_|refine Zp ?_|refine Zq ?_|refine Zr ?_|refine Zs ?_|refine Zt ?_|refine Zu tab rfl rfl ?_|refine Zv rfl rfl ?_|refine Zw rfl rfl rfl rfl ?_|refine Zx rfl rfl rfl ?_|(apply Zy;refine Zz ?_)|(apply Ya;refine Yb ?_)|(apply Yc;refine Yd ?_)|(apply Ye;refine Yf ?_)|(apply Yg; first|refine Yh fun _=>?_|refine Yi (Yj rfl rfl) rfl fun _=>?_)|refine Yk rfl fun _=>?_|(apply Yl;refine Ym ?_)|(apply Yn;refine Yo ?_)|(apply Yp;refine Yq ?_)|(apply Yr;refine Ys ?_)|(apply Yt;refine Yu ?_)|(apply Yv;refine Yw fun _=>?_)|refine Yx rfl ?_|refine Yy rfl ?_|refine Yz rfl ?_|(apply Va; first|refine Vb ?_|refine Vc ?_)|refine Vd tab ?_|refine Ve fun _=>?_|(apply Vf;refine Vg ?_)|(apply Vh;refine Vi ?_)|(apply Vj;refine Vk ?_)|(apply Vl;refine Vm ?_)|(apply Vn;refine Vo ?_)|(apply Vp;refine Vq ?_)|(apply Vr;refine Vs ?_)|(apply Vt;refine Vu ?_)|(apply Vv;refine Vw ?_)|(apply Vx;refine Vy ?_)|(apply Vz;refine Ua fun _=>?_)))
      refine dw_appH rfl rfl hu rfl rfl rfl (by omega) (by omega) rfl trivial fun v' Lv' hv' => ?_
      (repeat' (first|refine Za ?_|refine Zb ?_|refine Zc ?_|refine Zd ?_|refine Ze ?_|refine Zf ?_|refine Zg ?_|refine Zh ?_|refine Zi ?_|refine Zj ?_|refine Zk ?_|refine Zl ?_|refine Zm ?_|refine Zn rfl ?_|refine Zo ?_|refine Zp ?_|refine Zq ?_|refine Zr ?_|refine Zs ?_|refine Zt ?_|refine Zu tab rfl rfl ?_|refine Zv rfl rfl ?_|refine Zw rfl rfl rfl rfl ?_|refine Zx rfl rfl rfl ?_|(apply Zy;refine Zz ?_)|(apply Ya;refine Yb ?_)|(apply Yc;refine Yd ?_)|(apply Ye;refine Yf ?_)|(apply Yg; first|refine Yh fun _=>?_|refine Yi (Yj rfl rfl) rfl fun _=>?_)|refine Yk rfl fun _=>?_|(apply Yl;refine Ym ?_)|(apply Yn;refine Yo ?_)|(apply Yp;refine Yq ?_)|(apply Yr;refine Ys ?_)|(apply Yt;refine Yu ?_)|(apply Yv;refine Yw fun _=>?_)|refine Yx rfl ?_|refine Yy rfl ?_|refine Yz rfl ?_|(apply Va; first|refine Vb ?_|refine Vc ?_)|refine Vd tab ?_|refine Ve fun _=>?_|(apply Vf;refine Vg ?_)|(apply Vh;refine Vi ?_)|(apply Vj;refine Vk ?_)|(apply Vl;refine Vm ?_)|(apply Vn;refine Vo ?_)|(apply Vp;refine Vq ?_)|(apply Vr;refine Vs ?_)|(apply Vt;refine Vu ?_)|(apply Vv;refine Vw ?_)|(apply Vx;refine Vy ?_)|(apply Vz;refine Ua fun _=>?_)))
      refine dw_end [0, 3, 4, 6, 55] (rest := []) rfl ?_
      (repeat' (first|refine Za ?_|refine Zb ?_|refine Zc ?_|refine Zd ?_|refine Ze ?_|refine Zf ?_|refine Zg ?_|refine Zh ?_|refine Zi ?_|refine Zj ?_|refine Zk ?_|refine Zl ?_|refine Zm ?_|refine Zn rfl ?_|refine Zo ?_|refine Zp ?_|refine Zq ?_|refine Zr ?_|refine Zs ?_|refine Zt ?_|refine Zu tab rfl rfl ?_|refine Zv rfl rfl ?_|refine Zw rfl rfl rfl rfl ?_|refine Zx rfl rfl rfl ?_|(apply Zy;refine Zz ?_)|(apply Ya;refine Yb ?_)|(apply Yc;refine Yd ?_)|(apply Ye;refine Yf ?_)|(apply Yg; first|refine Yh fun _=>?_|refine Yi (Yj rfl rfl) rfl fun _=>?_)|refine Yk rfl fun _=>?_|(apply Yl;refine Ym ?_)|(apply Yn;refine Yo ?_)|(apply Yp;refine Yq ?_)|(apply Yr;refine Ys ?_)|(apply Yt;refine Yu ?_)|(apply Yv;refine Yw fun _=>?_)|refine Yx rfl ?_|refine Yy rfl ?_|refine Yz rfl ?_|(apply Va; first|refine Vb ?_|refine Vc ?_)|refine Vd tab ?_|refine Ve fun _=>?_|(apply Vf;refine Vg ?_)|(apply Vh;refine Vi ?_)|(apply Vj;refine Vk ?_)|(apply Vl;refine Vm ?_)|(apply Vn;refine Vo ?_)|(apply Vp;refine Vq ?_)|(apply Vr;refine Vs ?_)|(apply Vt;refine Vu ?_)|(apply Vv;refine Vw ?_)|(apply Vx;refine Vy ?_)|(apply Vz;refine Ua fun _=>?_)))
      refine xt_roundK (k + 1, v', Lv') rfl ⟨rfl, rfl, trivial⟩ ⟨by dsimp only; omega, by dsimp only; omega, ?_⟩ (by dsimp only; omega) (fun w1 hw1 => hw1.perm List.perm_append_comm)
      dsimp only
      rw [List.take_add_one, hp, List.map_append, ptCells_append]
      exact hv'
    · obtain ⟨A3, c3, rfl⟩ := hu.shape
      (repeat' (first|refine Za ?_|refine Zb ?_|refine Zc ?_|refine Zd ?_|refine Ze ?_|refine Zf ?_|refine Zg ?_|refine Zh ?_|refine Zi ?_|refine Zj ?_|refine Zk ?_|refine Zl ?_|refine Zm ?_|refine Zn rfl ?_|refine Zo ?_|refine Zp ?_|refine Zq ?_|refine Zr ?_|refine Zs ?_|refine Zt ?_|refine Zu tab rfl rfl ?_|refine Zv rfl rfl ?_|refine Zw rfl rfl rfl rfl ?_|refine Zx rfl rfl rfl ?_|(apply Zy;refine Zz ?_)|(apply Ya;refine Yb ?_)|(apply Yc;refine Yd ?_)|(apply Ye;refine Yf ?_)|(apply Yg; first|refine Yh fun _=>?_|refine Yi (Yj rfl rfl) rfl fun _=>?_)|refine Yk rfl fun _=>?_|(apply Yl;refine Ym ?_)|(apply Yn;refine Yo ?_)|(apply Yp;refine Yq ?_)|(apply Yr;refine Ys ?_)|(apply Yt;refine Yu ?_)|(apply Yv;refine Yw fun _=>?_)|refine Yx rfl ?_|refine Yy rfl ?_|refine Yz rfl ?_|(apply Va; first|refine Vb ?_|refine Vc ?_)|refine Vd tab ?_|refine Ve fun _=>?_|(apply Vf;refine Vg ?_)|(apply Vh;refine Vi ?_)|(apply Vj;refine Vk ?_)|(apply Vl;refine Vm ?_)|(apply Vn;refine Vo ?_)|(apply Vp;refine Vq ?_)|(apply Vr;refine Vs ?_)|(apply Vt;refine Vu ?_)|(apply Vv;refine Vw ?_)|(apply Vx;refine Vy ?_)|(apply Vz;refine Ua fun _=>?_)))
      rename_i b58
      have hkm : k = min l.length 10 := by omega
      refine tl_imp (I' := St w [] ((b58, bx [.slice A3 k c3] 38) :: ((Lr ++ Lu) ++ Lv))) (fun w1 hw1 => hw1.perm (List.Perm.cons _ (by rw [List.append_assoc, List.append_assoc]; exact List.perm_append_comm.append_left Lr))) ?_
      refine tl_app (Lr ++ Lu) rfl rfl hv rfl rfl rfl rfl rfl rfl (by omega) (by omega) fun b' cap' => ?_
      (repeat' (first|refine Za ?_|refine Zb ?_|refine Zc ?_|refine Zd ?_|refine Ze ?_|refine Zf ?_|refine Zg ?_|refine Zh ?_|refine Zi ?_|refine Zj ?_|refine Zk ?_|refine Zl ?_|refine Zm ?_|refine Zn rfl ?_|refine Zo ?_|refine Zp ?_|refine Zq ?_|refine Zr ?_|refine Zs ?_|refine Zt ?_|refine Zu tab rfl rfl ?_|refine Zv rfl rfl ?_|refine Zw rfl rfl rfl rfl ?_|refine Zx rfl rfl rfl ?_|(apply Zy;refine Zz ?_)|(apply Ya;refine Yb ?_)|(apply Yc;refine Yd ?_)|(apply Ye;refine Yf ?_)|(apply Yg; first|refine Yh fun _=>?_|refine Yi (Yj rfl rfl) rfl fun _=>?_)|refine Yk rfl fun _=>?_|(apply Yl;refine Ym ?_)|(apply Yn;refine Yo ?_)|(apply Yp;refine Yq ?_)|(apply Yr;refine Ys ?_)|(apply Yt;refine Yu ?_)|(apply Yv;refine Yw fun _=>?_)|refine Yx rfl ?_|refine Yy rfl ?_|refine Yz rfl ?_|(apply Va; first|refine Vb ?_|refine Vc ?_)|refine Vd tab ?_|refine Ve fun _=>?_|(apply Vf;refine Vg ?_)|(apply Vh;refine Vi ?_)|(apply Vj;refine Vk ?_)|(apply Vl;refine Vm ?_)|(apply Vn;refine Vo ?_)|(apply Vp;refine Vq ?_)|(apply Vr;refine Vs ?_)|(apply Vt;refine Vu ?_)|(apply Vv;refine Vw ?_)|(apply Vx;refine Vy ?_)|(apply Vz;refine Ua fun _=>?_)))
      refine xt_roundK (i + 1, _, rs ++ [.slice A3 k c3], Lr ++ Lu, [(b', row 38 1 (i + 1) cap' (rs ++ [.slice A3 k c3]))]) rfl ⟨rfl, rfl, trivial⟩ ⟨by dsimp only; omega, by dsimp only; omega, OwnsV.at_, by simp [hrs], fun j r l' h1 h2 => ?_⟩ (by dsimp only; omega) (fun w1 hw1 => hw1)
      dsimp only at h1 ⊢
      by_cases hj : j < rs.length
      · rw [List.getElem?_append_left hj] at h1
        obtain ⟨Lj, hj1, hj2⟩ := hrow j r l' h1 h2
        exact ⟨Lj, hj1, fun p hp => List.mem_append_left _ (hj2 p hp)⟩
      · have hlt := (List.getElem?_eq_some_iff.1 h1).1
        simp at hlt
        obtain rfl : j = i := by omega
        rw [List.getElem?_append_right (by omega), hrs, Nat.sub_self] at h1
        simp at h1
        subst h1
        rw [hl] at h2
        cases h2
        refine ⟨Lu, ?_, fun p hp => List.mem_append_right _ hp⟩
        rw [← hkm]
        have e : nrL l = (l.take k).map nrP := by
          unfold nrL
          congr 1
          rw [hkm]
          apply List.ext_getElem?
          intro m
          simp only [List.getElem?_take]
          split
          · split
            · rfl
            · rw [List.getElem?_eq_none (by omega)]
          · rw [if_neg (by omega)]
        rw [e]
        exact hu
  · (repeat' (first|refine Za ?_|refine Zb ?_|refine Zc ?_|refine Zd ?_|refine Ze ?_|refine Zf ?_|refine Zg ?_|refine Zh ?_|refine Zi ?_|refine Zj ?_|refine Zk ?_|refine Zl ?_|refine Zm ?_|refine Zn rfl ?_|refine Zo ?_|refine Zp ?_|refine Zq ?_|refine Zr ?_|refine Zs ?_|refine Zt ?_|refine Zu tab rfl rfl ?_|refine Zv rfl rfl ?_|refine Zw rfl rfl rfl rfl ?_|refine Zx rfl rfl rfl ?_|(apply Zy;refine Zz ?_)|(apply Ya;refine Yb ?_)|(apply Yc;refine Yd ?_)|(apply Ye;refine Yf ?_)|(apply Yg; first|refine Yh fun _=>?_|refine Yi (Yj rfl rfl) rfl fun _=>?_)|refine Yk rfl fun _=>?_|(apply Yl;refine Ym ?_)|(apply Yn;refine Yo ?_)|(apply Yp;refine Yq ?_)|(apply Yr;refine Ys ?_)|(apply Yt;refine Yu ?_)|(apply Yv;refine Yw fun _=>?_)|refine Yx rfl ?_|refine Yy rfl ?_|refine Yz rfl ?_|(apply Va; first|refine Vb ?_|refine Vc ?_)|refine Vd tab ?_|refine Ve fun _=>?_|(apply Vf;refine Vg ?_)|(apply Vh;refine Vi ?_)|(apply Vj;refine Vk ?_)|(apply Vl;refine Vm ?_)|(apply Vn;refine Vo ?_)|(apply Vp;refine Vq ?_)|(apply Vr;refine Vs ?_)|(apply Vt;refine Vu ?_)|(apply Vv;refine Vw ?_)|(apply Vx;refine Vy ?_)|(apply Vz;refine Ua fun _=>?_)))
    refine xt_ret1S rfl rfl fun w1 hw1 => ?_
    refine ⟨rs, hv.rdI hw1 (fun p hp => List.mem_append_right _ hp), ?_, fun j r l h1 h2 => ?_⟩
    · rw [hrs, nearL]; simp; omega
    · rw [nearL, List.getElem?_map] at h2
      have hj : j < i := by rw [← hrs]; exact (List.getElem?_eq_some_iff.1 h1).1
      rw [List.getElem?_take, if_pos (by omega)] at h2
      obtain ⟨l0, hl0, rfl⟩ := Option.map_eq_some_iff.1 h2
      obtain ⟨Lj, hj1, hj2⟩ := hrow j r l0 h1 hl0
      exact hj1.rdI hw1 fun p hp => List.mem_append_left _ (hj2 p hp)

end Go.Proofs.Ytbgolbkolcmldaa
