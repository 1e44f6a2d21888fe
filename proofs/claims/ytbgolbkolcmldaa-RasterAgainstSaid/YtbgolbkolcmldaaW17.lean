/-
  Which pixels lines have.
-/
import Derived.Test.YtbgolbkolcmldaaW16
namespace Go.Proofs.Ytbgolbkolcmldaa
open Go.RowKit
attribute [local irreducible] T TL Xt O Op1 Kt DV ObsB DE DW DW1 LoopQ LoopJ

theorem stretches_calls (v : Value) (h1 : v.cells = #[v]) (w : World) : Calls Try.prog 38 #[v] w (Ret w (Closure1 66 64 v w)) := by
  refine calls_S (vs := [v]) Try.func38 rfl Try.ntmps38 rfl ?_
  (repeat' (first|refine Za ?_|refine Zb ?_|refine Zc ?_|refine Zd ?_|refine Ze ?_|refine Zf ?_|refine Zg ?_|refine Zh ?_|refine Zi ?_|refine Zj ?_|refine Zk ?_|refine Zl ?_|refine Zm ?_|refine Zn rfl ?_|refine Zo ?_|refine Zp ?_|refine Zq ?_|refine Zr ?_|refine Zs ?_|refine Zt ?_|refine Zu tab rfl rfl ?_|refine Zv rfl rfl ?_|refine Zw rfl rfl rfl rfl ?_|refine Zx rfl rfl rfl ?_|(apply Zy;refine Zz ?_)|(apply Ya;refine Yb ?_)|(apply Yc;refine Yd ?_)|(apply Ye;refine Yf ?_)|(apply Yg; first|refine Yh fun _=>?_|refine Yi (Yj rfl rfl) rfl fun _=>?_)|refine Yk rfl fun _=>?_|(apply Yl;refine Ym ?_)|(apply Yn;refine Yo ?_)|(apply Yp;refine Yq ?_)|(apply Yr;refine Ys ?_)|(apply Yt;refine Yu ?_)|(apply Yv;refine Yw fun _=>?_)|refine Yx rfl ?_|refine Yy rfl ?_|refine Yz rfl ?_|(apply Va; first|refine Vb ?_|refine Vc ?_)|refine Vd tab ?_|refine Ve fun _=>?_|(apply Vf;refine Vg ?_)|(apply Vh;refine Vi ?_)|(apply Vj;refine Vk ?_)|(apply Vl;refine Vm ?_)|(apply Vn;refine Vo ?_)|(apply Vp;refine Vq ?_)|(apply Vr;refine Vs ?_)|(apply Vt;refine Vu ?_)|(apply Vv;refine Vw ?_)|(apply Vx;refine Vy ?_)|(apply Vz;refine Ua fun _=>?_)))
  rename_i b
  refine tl_val (o_makeFunc [.pointer (some ⟨b, 0, none⟩)] rfl) rfl rfl ?_
  (repeat' (first|refine Za ?_|refine Zb ?_|refine Zc ?_|refine Zd ?_|refine Ze ?_|refine Zf ?_|refine Zg ?_|refine Zh ?_|refine Zi ?_|refine Zj ?_|refine Zk ?_|refine Zl ?_|refine Zm ?_|refine Zn rfl ?_|refine Zo ?_|refine Zp ?_|refine Zq ?_|refine Zr ?_|refine Zs ?_|refine Zt ?_|refine Zu tab rfl rfl ?_|refine Zv rfl rfl ?_|refine Zw rfl rfl rfl rfl ?_|refine Zx rfl rfl rfl ?_|(apply Zy;refine Zz ?_)|(apply Ya;refine Yb ?_)|(apply Yc;refine Yd ?_)|(apply Ye;refine Yf ?_)|(apply Yg; first|refine Yh fun _=>?_|refine Yi (Yj rfl rfl) rfl fun _=>?_)|refine Yk rfl fun _=>?_|(apply Yl;refine Ym ?_)|(apply Yn;refine Yo ?_)|(apply Yp;refine Yq ?_)|(apply Yr;refine Ys ?_)|(apply Yt;refine Yu ?_)|(apply Yv;refine Yw fun _=>?_)|refine Yx rfl ?_|refine Yy rfl ?_|refine Yz rfl ?_|(apply Va; first|refine Vb ?_|refine Vc ?_)|refine Vd tab ?_|refine Ve fun _=>?_|(apply Vf;refine Vg ?_)|(apply Vh;refine Vi ?_)|(apply Vj;refine Vk ?_)|(apply Vl;refine Vm ?_)|(apply Vn;refine Vo ?_)|(apply Vp;refine Vq ?_)|(apply Vr;refine Vs ?_)|(apply Vt;refine Vu ?_)|(apply Vv;refine Vw ?_)|(apply Vx;refine Vy ?_)|(apply Vz;refine Ua fun _=>?_)))
  refine xt_ret1 rfl rfl fun w' hw => ⟨_, rfl, hw.toExt, b, rfl, ?_, ?_⟩
  · have := hw.mine (b, _) (List.mem_cons_self ..)
    simpa using this
  · have := hw.get (List.mem_cons_self ..)
    rw [this]; simp [h1]

/-- a function over three boxes -/
def Closure3 (f : FuncId) (low high : Int) (v : Value) (w : World) (u : Value) (w' : World) : Prop := ∃ b1 b2 b3, u = .func (.func f) #[] #[.pointer (some ⟨b1, 0, none⟩), .pointer (some ⟨b2, 0, none⟩), .pointer (some ⟨b3, 0, none⟩)] ∧ St w [] [(b1, bx [.int .i64 low] 3), (b2, bx [.int .i64 high] 3), (b3, bx [v] 22)] w'
theorem rows_calls (low high : Int) (A : Option Addr) (n cap : Nat) (w : World) : Calls Try.prog 36 #[.slice A n cap, .int .i64 low, .int .i64 high] w (Ret w (Closure3 59 low high (.slice A n cap) w)) := by
  refine calls_S (vs := [.slice A n cap, .int .i64 low, .int .i64 high]) Try.func36 rfl Try.ntmps36 rfl ?_
  (repeat' (first|refine Za ?_|refine Zb ?_|refine Zc ?_|refine Zd ?_|refine Ze ?_|refine Zf ?_|refine Zg ?_|refine Zh ?_|refine Zi ?_|refine Zj ?_|refine Zk ?_|refine Zl ?_|refine Zm ?_|refine Zn rfl ?_|refine Zo ?_|refine Zp ?_|refine Zq ?_|refine Zr ?_|refine Zs ?_|refine Zt ?_|refine Zu tab rfl rfl ?_|refine Zv rfl rfl ?_|refine Zw rfl rfl rfl rfl ?_|refine Zx rfl rfl rfl ?_|(apply Zy;refine Zz ?_)|(apply Ya;refine Yb ?_)|(apply Yc;refine Yd ?_)|(apply Ye;refine Yf ?_)|(apply Yg; first|refine Yh fun _=>?_|refine Yi (Yj rfl rfl) rfl fun _=>?_)|refine Yk rfl fun _=>?_|(apply Yl;refine Ym ?_)|(apply Yn;refine Yo ?_)|(apply Yp;refine Yq ?_)|(apply Yr;refine Ys ?_)|(apply Yt;refine Yu ?_)|(apply Yv;refine Yw fun _=>?_)|refine Yx rfl ?_|refine Yy rfl ?_|refine Yz rfl ?_|(apply Va; first|refine Vb ?_|refine Vc ?_)|refine Vd tab ?_|refine Ve fun _=>?_|(apply Vf;refine Vg ?_)|(apply Vh;refine Vi ?_)|(apply Vj;refine Vk ?_)|(apply Vl;refine Vm ?_)|(apply Vn;refine Vo ?_)|(apply Vp;refine Vq ?_)|(apply Vr;refine Vs ?_)|(apply Vt;refine Vu ?_)|(apply Vv;refine Vw ?_)|(apply Vx;refine Vy ?_)|(apply Vz;refine Ua fun _=>?_)))
  rename_i b3 b1 b2
  refine tl_val (o_makeFunc [.pointer (some ⟨b1, 0, none⟩), .pointer (some ⟨b2, 0, none⟩), .pointer (some ⟨b3, 0, none⟩)] rfl) rfl rfl ?_
  (repeat' (first|refine Za ?_|refine Zb ?_|refine Zc ?_|refine Zd ?_|refine Ze ?_|refine Zf ?_|refine Zg ?_|refine Zh ?_|refine Zi ?_|refine Zj ?_|refine Zk ?_|refine Zl ?_|refine Zm ?_|refine Zn rfl ?_|refine Zo ?_|refine Zp ?_|refine Zq ?_|refine Zr ?_|refine Zs ?_|refine Zt ?_|refine Zu tab rfl rfl ?_|refine Zv rfl rfl ?_|refine Zw rfl rfl rfl rfl ?_|refine Zx rfl rfl rfl ?_|(apply Zy;refine Zz ?_)|(apply Ya;refine Yb ?_)|(apply Yc;refine Yd ?_)|(apply Ye;refine Yf ?_)|(apply Yg; first|refine Yh fun _=>?_|refine Yi (Yj rfl rfl) rfl fun _=>?_)|refine Yk rfl fun _=>?_|(apply Yl;refine Ym ?_)|(apply Yn;refine Yo ?_)|(apply Yp;refine Yq ?_)|(apply Yr;refine Ys ?_)|(apply Yt;refine Yu ?_)|(apply Yv;refine Yw fun _=>?_)|refine Yx rfl ?_|refine Yy rfl ?_|refine Yz rfl ?_|(apply Va; first|refine Vb ?_|refine Vc ?_)|refine Vd tab ?_|refine Ve fun _=>?_|(apply Vf;refine Vg ?_)|(apply Vh;refine Vi ?_)|(apply Vj;refine Vk ?_)|(apply Vl;refine Vm ?_)|(apply Vn;refine Vo ?_)|(apply Vp;refine Vq ?_)|(apply Vr;refine Vs ?_)|(apply Vt;refine Vu ?_)|(apply Vv;refine Vw ?_)|(apply Vx;refine Vy ?_)|(apply Vz;refine Ua fun _=>?_)))
  exact xt_ret1 rfl rfl fun w' hw => ⟨_, rfl, hw.toExt, b1, b2, b3, rfl, hw.pick [1, 0, 2] (by decide) rfl⟩

/-- the pixels of a stretch -/
def inS (x : Place × Place) (k : Int) : Bool := decide ((fillV x.1.1 x.1.2 x.2.1 x.2.2).1 ≤ k) && decide (k < (fillV x.1.1 x.1.2 x.2.1 x.2.2).2)
def pxOf (left : Int) (sts : List (Place × Place)) (j : Nat) : Bool := sts.any fun x => inS x (left + j)
def rowSp (left : Int) (wid : Nat) (r : Int × List Cr) : List Sp :=
  if firstIdx (rowB wid (pxOf left (strs r.2 0 (0, 0)))) 35 < 0 then [] else [⟨left + firstIdx (rowB wid (pxOf left (strs r.2 0 (0, 0)))) 35, r.1, trim (rowB wid (pxOf left (strs r.2 0 (0, 0))))⟩]
noncomputable def fillS (ls : List Pts) (q : Int × Int × Int × Int × Bool) : List Sp := (rowsX (rowOf q.2.1) (rowOf q.2.2.2.1 - rowOf q.2.1).toNat (edgesAll ls)).flatMap (rowSp (q.1 / 64) (q.2.2.1 / 64 - q.1 / 64 + 1).toNat)
noncomputable def fillB (ls : List Pts) : Bm := if (boxP ls).2.2.2.2 = false ∨ (boxP ls).2.2.1 - (boxP ls).1 > 65536 ∨ (boxP ls).2.2.2.1 - (boxP ls).2.1 > 65536 then Bm.nil else bmOf (fillS ls (boxP ls))

/-! ### the box holds all -/
def BoxOk (q : Int × Int × Int × Int × Bool) : Prop := q.2.2.2.2 = true → q.1 ≤ q.2.2.1 ∧ q.2.1 ≤ q.2.2.2.1 ∧ -268435456 ≤ q.1 ∧ -268435456 ≤ q.2.1 ∧ q.2.2.1 ≤ 268435456 ∧ q.2.2.2.1 ≤ 268435456
def InBox (q : Int × Int × Int × Int × Bool) (p : Int × Int) : Prop := q.2.2.2.2 = true ∧ q.1 ≤ cut p.1 ∧ cut p.1 ≤ q.2.2.1 ∧ q.2.1 ≤ cut p.2 ∧ cut p.2 ≤ q.2.2.2.1
theorem bxS_ok {q : Int × Int × Int × Int × Bool} {p : Int × Int} (h : BoxOk q) : BoxOk (bxS q p) := by
  intro _
  have h1 := cut_bd p.1
  have h2 := cut_bd p.2
  unfold bxS
  cases hq : q.2.2.2.2
  · simp only [Bool.false_eq_true, if_false]; omega
  · have := h hq
    simp only [if_true]; omega
theorem bxS_in {q : Int × Int × Int × Int × Bool} {p p' : Int × Int} (h : InBox q p') : InBox (bxS q p) p' := by
  unfold InBox at *
  unfold bxS
  rw [h.1]
  simp only [if_true]
  refine ⟨trivial, ?_⟩
  omega
theorem bxS_self (q : Int × Int × Int × Int × Bool) (p : Int × Int) : InBox (bxS q p) p := by
  unfold InBox bxS
  cases hq : q.2.2.2.2
  · simp
  · simp only [if_true]
    refine ⟨trivial, ?_⟩
    omega
theorem fold_ok : ∀ (l : Pts) {q : Int × Int × Int × Int × Bool}, BoxOk q → BoxOk (l.foldl bxS q)
  | [], _, h => h
  | _ :: l, _, h => fold_ok l (bxS_ok h)
theorem fold_in : ∀ (l : Pts) {q : Int × Int × Int × Int × Bool} {p : Int × Int}, InBox q p → InBox (l.foldl bxS q) p
  | [], _, _, h => h
  | _ :: l, _, _, h => fold_in l (bxS_in h)
theorem fold_mem : ∀ (l : Pts) {q : Int × Int × Int × Int × Bool} {p : Int × Int}, p ∈ l → InBox (l.foldl bxS q) p
  | a :: l, q, p, h => by
    rcases List.mem_cons.1 h with rfl | h
    · exact fold_in l (bxS_self q p)
    · exact fold_mem l h
theorem box_ok (ls : List Pts) : BoxOk (boxP ls) := fold_ok _ (fun h => by cases h)
theorem box_in {ls : List Pts} {l : Pts} {p : Int × Int} (hl : l ∈ ls) (hp : p ∈ l) : InBox (boxP ls) p := fold_mem _ (List.mem_flatten.2 ⟨l, hl, hp⟩)
theorem edge_in {ls : List Pts} {e : Edg} (h : e ∈ edgesAll ls) : (boxP ls).1 ≤ e.1 ∧ e.1 ≤ (boxP ls).2.2.1 ∧ (boxP ls).1 ≤ e.2.2.1 ∧ e.2.2.1 ≤ (boxP ls).2.2.1 ∧ (boxP ls).2.1 ≤ e.2.1 ∧ e.2.2.2.1 ≤ (boxP ls).2.2.2.1 := by
  unfold edgesAll edgesOf edgesTo at h
  simp only [List.mem_flatMap] at h
  obtain ⟨l, hl, i, _, he⟩ := h
  unfold edgeAt at he
  split at he
  · rename_i p q hp hq
    have h1 := box_in hl (List.mem_of_getElem? hp)
    have h2 := box_in hl (List.mem_of_getElem? hq)
    unfold InBox at h1 h2
    split at he
    · simp only [List.mem_singleton] at he
      subst he
      unfold edgeV
      split <;> simp only <;> omega
    · simp at he
  · simp at he

/-! ### stretches lie between the sides -/
structure PlIn (lx hx : Int) (p : Place) : Prop where
  ok : PlOk p.1 p.2
  lo : lx * p.2 ≤ p.1
  hi : p.1 ≤ hx * p.2
theorem takeRun_sub (c : Cr) : ∀ (l : List Cr) (t : Int), ∀ a ∈ (takeRun c l t).2, a ∈ l
  | [], t, a, h => by simp [takeRun] at h
  | b :: r, t, a, h => by
    unfold takeRun at h
    split at h
    · exact List.mem_cons_of_mem _ (takeRun_sub c r _ a h)
    · exact h
theorem strs_mem {S : Place → Prop} : ∀ (k : Nat) (cs : List Cr) (t : Int) (f : Place), cs.length ≤ k → (t = 0 ∨ S f) → (∀ c ∈ cs, S c.p) → ∀ x ∈ strs cs t f, S x.1 ∧ S x.2
  | 0, cs, t, f, hk, _, _, x, hx => by
    obtain rfl : cs = [] := List.length_eq_zero_iff.1 (by omega)
    simp [strs] at hx
  | k + 1, [], t, f, hk, _, _, x, hx => by simp [strs] at hx
  | k + 1, c :: r, t, f, hk, hf, hS, x, hx => by
    rw [strs, List.mem_append] at hx
    have hc := hS c (List.mem_cons_self ..)
    have hf' : (takeRun c r (t + c.t)).1 = 0 ∨ S (if t = 0 ∧ (takeRun c r (t + c.t)).1 ≠ 0 then c.p else f) := by
      by_cases h1 : (takeRun c r (t + c.t)).1 = 0
      · exact .inl h1
      · right
        by_cases h2 : t = 0
        · rw [if_pos ⟨h2, h1⟩]; exact hc
        · rw [if_neg (fun h => h2 h.1)]
          rcases hf with h | h
          · exact absurd h h2
          · exact h
    rcases hx with hx | hx
    · split at hx
      · rename_i h
        simp only [List.mem_singleton] at hx
        subst hx
        refine ⟨?_, hc⟩
        simp only
        rw [if_neg (fun h' => h.1 h'.1)]
        rcases hf with h' | h'
        · exact absurd h' h.1
        · exact h'
      · simp at hx
    · have := takeRun_len c r (t + c.t)
      simp only [List.length_cons] at hk
      exact strs_mem k _ _ _ (by omega) hf' (fun a ha => hS a (List.mem_cons_of_mem _ (takeRun_sub c r _ a ha))) x hx

theorem div_scale (a e : Int) (k : Int) (he : 0 < e) : (a * e) / (k * e) = a / k := Int.mul_ediv_mul_of_pos_left a k he
theorem cf_ge {lx n e : Int} (he : 0 < e) (h : lx * e ≤ n) : lx / 64 ≤ cf n e := by
  unfold cf
  have h1 : (32 * e - n) / (64 * e) ≤ ((32 - lx) * e) / (64 * e) := Int.ediv_le_ediv (by omega) (by rw [Int.sub_mul]; omega)
  rw [div_scale _ _ _ he] at h1
  omega
theorem cf_le {hx n e : Int} (he : 0 < e) (h : n ≤ hx * e) : cf n e ≤ hx / 64 + 1 := by
  unfold cf
  have h1 : ((32 - hx) * e) / (64 * e) ≤ (32 * e - n) / (64 * e) := Int.ediv_le_ediv (by omega) (by rw [Int.sub_mul]; omega)
  rw [div_scale _ _ _ he] at h1
  omega
theorem md_in {lx hx n e m f : Int} (h1 : PlIn lx hx (n, e)) (h2 : PlIn lx hx (m, f)) : lx / 64 ≤ md n e m f ∧ md n e m f ≤ hx / 64 := by
  have he := h1.ok.e.1
  have hf := h2.ok.e.1
  have a1 := h1.lo; have a2 := h1.hi; have b1 := h2.lo; have b2 := h2.hi
  simp only at he hf a1 a2 b1 b2
  have hef : 0 < e * f := Int.mul_pos he hf
  have c1 : lx * e * f ≤ n * f := Int.mul_le_mul_of_nonneg_right a1 (by omega)
  have c2 : n * f ≤ hx * e * f := Int.mul_le_mul_of_nonneg_right a2 (by omega)
  have d1 : lx * f * e ≤ m * e := Int.mul_le_mul_of_nonneg_right b1 (by omega)
  have d2 : m * e ≤ hx * f * e := Int.mul_le_mul_of_nonneg_right b2 (by omega)
  have e1 : lx * e * f = lx * (e * f) := Int.mul_assoc ..
  have e2 : lx * f * e = lx * (e * f) := by rw [Int.mul_assoc, Int.mul_comm f e]
  have e3 : hx * e * f = hx * (e * f) := Int.mul_assoc ..
  have e4 : hx * f * e = hx * (e * f) := by rw [Int.mul_assoc, Int.mul_comm f e]
  unfold md
  rw [Int.mul_assoc]
  have g1 : (2 * lx) * (e * f) / (128 * (e * f)) ≤ (n * f + m * e) / (128 * (e * f)) := Int.ediv_le_ediv (by omega) (by rw [Int.mul_assoc]; omega)
  have g2 : (n * f + m * e) / (128 * (e * f)) ≤ (2 * hx) * (e * f) / (128 * (e * f)) := Int.ediv_le_ediv (by omega) (by rw [Int.mul_assoc]; omega)
  rw [div_scale _ _ _ hef] at g1 g2
  omega
theorem fill_in {lx hx : Int} {x : Place × Place} (h1 : PlIn lx hx x.1) (h2 : PlIn lx hx x.2) : lx / 64 ≤ (fillV x.1.1 x.1.2 x.2.1 x.2.2).1 ∧ (fillV x.1.1 x.1.2 x.2.1 x.2.2).2 ≤ hx / 64 + 1 := by
  have hm := md_in h1 h2
  have ha := cf_ge h1.ok.e.1 h1.lo
  have hb := cf_le h2.ok.e.1 h2.hi
  unfold fillV
  by_cases h : cf x.1.1 x.1.2 = cf x.2.1 x.2.2
  · rw [if_pos h]; exact ⟨hm.1, Int.add_le_add_right hm.2 1⟩
  · rw [if_neg h]; exact ⟨ha, hb⟩
theorem crOf_in {lx hx y : Int} {e : Edg} (hok : EdgeOk e) (hc : crB y e = true) (hd : e.2.2.2.1 - e.2.1 ≤ 65536) (h0 : lx ≤ e.1 ∧ e.1 ≤ hx) (h1 : lx ≤ e.2.2.1 ∧ e.2.2.1 ≤ hx) : PlIn lx hx (crOf y e).p := by
  refine ⟨(crOf_ok hok hc hd).p, ?_, ?_⟩
  all_goals
    simp only [crB, Bool.and_eq_true] at hc
    have h3 := of_decide_eq_true hc.1
    have h4 := of_decide_eq_true hc.2
    show _ ≤ _
    simp only [crOf, Cr.p]
    have e1 : atN e y = e.1 * (e.2.2.2.1 - y) + e.2.2.1 * (y - e.2.1) := by
      unfold atN
      simp only [Int.mul_sub, Int.sub_mul]
      omega
    have e2 : atD e = (e.2.2.2.1 - y) + (y - e.2.1) := by unfold atD; omega
    rw [e1, e2, Int.mul_add]
  · exact Int.add_le_add (Int.mul_le_mul_of_nonneg_right h0.1 (by omega)) (Int.mul_le_mul_of_nonneg_right h1.1 (by omega))
  · exact Int.add_le_add (Int.mul_le_mul_of_nonneg_right h0.2 (by omega)) (Int.mul_le_mul_of_nonneg_right h1.2 (by omega))

/-- what the rows of lines hold -/
theorem rowsX_ok {ls : List Pts} {N : Nat} {r : Int × List Cr} (h2 : (boxP ls).2.2.2.1 - (boxP ls).2.1 ≤ 65536) (hr : r ∈ rowsX (rowOf (boxP ls).2.1) N (edgesAll ls)) : (∀ c ∈ r.2, CrOk c ∧ PlIn (boxP ls).1 (boxP ls).2.2.1 c.p) ∧ ∃ i : Nat, i < N ∧ r.1 = rowOf (boxP ls).2.1 + i ∧ r.2.length ≤ N * (edgesAll ls).length := by
  obtain ⟨i, hi, rfl⟩ := List.mem_map.1 hr
  have hi := List.mem_range.1 hi
  have hall : ∀ c ∈ (actE (rowOf (boxP ls).2.1) (edgesAll ls) (i + 1)).map (crOf (rowY (rowOf (boxP ls).2.1) i)), CrOk c ∧ PlIn (boxP ls).1 (boxP ls).2.2.1 c.p := fun c hc => by
    obtain ⟨e, he, rfl⟩ := List.mem_map.1 hc
    have hm := actE_mem he
    have hin := edge_in hm
    exact ⟨crOf_ok (edgesAll_ok hm) (actE_cross he) (by omega), crOf_in (edgesAll_ok hm) (actE_cross he) (by omega) (by omega) (by omega)⟩
  have hp := (sortCr_spec fun c hc => (hall c hc).1).1
  refine ⟨fun c hc => hall c (hp.mem_iff.1 hc), i, hi, rfl, ?_⟩
  show (sortCr _).length ≤ _
  rw [hp.length_eq, List.length_map]
  exact Nat.le_trans (actE_le _ _ _) (Nat.mul_le_mul_right _ hi)

end Go.Proofs.Ytbgolbkolcmldaa
