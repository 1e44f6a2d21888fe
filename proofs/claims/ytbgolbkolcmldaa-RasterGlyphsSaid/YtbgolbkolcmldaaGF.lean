/-
  The box of lines, what a stretch fills, a pixel of a bitmap, bitmaps that are the same.
-/
import Derived.Test.YtbgolbkolcmldaaGD
import Derived.Test.YtbgolbkolcmldaaGE

namespace Go.Proofs.Ytbgolbkolcmldaa
open Go.RowKit
attribute [local irreducible] T TL Xt O Op1 Kt DV ObsB DE DW DW1 LoopQ LoopJ

theorem lines_cl {w : World} {ls : List Pts} {A : Option Addr} {n cap i : Nat} {l : Pts} (h : Lines w (.slice A n cap) ls) (hl : ls[i]? = some l) : ∃ b off A' n' cap', A = some ⟨b, off, none⟩ ∧ Cl w b (off + i * 1) (.slice A' n' cap') ∧ Row w (.slice A' n' cap') l := by
  obtain ⟨b, off, A', n', cap', h1, h2, h3, h4⟩ := lines_at h hl
  exact ⟨b, off, A', n', cap', h1, ⟨h2, h3⟩, h4⟩
theorem row_cl {w : World} {l : Pts} {A : Option Addr} {n cap k : Nat} {p : Int × Int} (h : Row w (.slice A n cap) l) (hp : l[k]? = some p) : ∃ b off, A = some ⟨b, off, none⟩ ∧ ClA w b (off + k * 2) [.int .i64 p.1, .int .i64 p.2] := by
  obtain ⟨b, off, h1, h2, _, h3⟩ := row_at h hp
  exact ⟨b, off, h1, h2, h3⟩

instance (n : Int) : CDet Try.prog 33 [.int .i64 n] (.int .i64 (cut n)) := ⟨cut_det n⟩

def bxS (q : Int × Int × Int × Int × Bool) (p : Int × Int) : Int × Int × Int × Int × Bool :=
  if q.2.2.2.2 then (min q.1 (cut p.1), min q.2.1 (cut p.2), max q.2.2.1 (cut p.1), max q.2.2.2.1 (cut p.2), true) else (cut p.1, cut p.2, cut p.1, cut p.2, true)
def boxP (ls : List Pts) : Int × Int × Int × Int × Bool := ls.flatten.foldl bxS (0, 0, 0, 0, false)
def boxV (q : Int × Int × Int × Int × Bool) : Value := .tuple #[pt q.1 q.2.1, pt q.2.2.1 q.2.2.2.1, .bool q.2.2.2.2]

theorem flatten_take {α : Type} {ls : List (List α)} {i k : Nat} {l : List α} (h : ls[i]? = some l) : (ls.take i).flatten ++ l.take l.length = (ls.take (i + 1)).flatten := by
  rw [List.take_add_one, h]; simp

set_option maxHeartbeats 1000000 in
theorem box_calls (w : World) (A : Option Addr) (n cap : Nat) (ls : List Pts) (hL : Lines w (.slice A n cap) ls) : Calls Try.prog 34 #[.slice A n cap] w (Ret w fun v _ => v = boxV (boxP ls)) := by
  have hn := lines_len hL
  have hn' := lines_le hL
  refine calls_S (vs := [.slice A n cap]) Try.func34 rfl Try.ntmps34 rfl ?_
  (repeat' (first|refine Za ?_|refine Zb ?_|refine Zc ?_|refine Zd ?_|refine Ze ?_|refine Zu tab rfl rfl ?_|refine Yk rfl fun _=>?_|fail))
  rename_i b2 b3
  refine t_loopK [2, 3, 11, 12] (α := Nat × (Int × Int × Int × Int × Bool)) (fun x => [(4, .bool x.2.2.2.2.2), (13, .int .i64 x.1)]) (fun x => x.1 ≤ ls.length ∧ x.2 = (ls.take x.1).flatten.foldl bxS (0, 0, 0, 0, false)) (fun x => [(b3, bx [.int .i64 x.2.2.2.1, .int .i64 x.2.2.2.2.1] 24), (b2, bx [.int .i64 x.2.1, .int .i64 x.2.2.1] 24)]) (fun x => ls.length - x.1) (0, (0, 0, 0, 0, false)) rfl ⟨rfl, rfl, trivial⟩ ⟨by simp, by simp⟩ (fun _ h => h) ?_
  rintro ⟨i, lx, ly, hx, hy, ok⟩ ⟨hi, hq⟩
  simp only at hi hq
  try dsimp only [List.cons_append, List.nil_append, List.map_cons, List.map_nil]
  (repeat' (first|refine Za ?_|refine Zb ?_|refine Zc ?_|refine Zd ?_|refine Zu tab rfl rfl ?_|fail))
  refine t_cond rfl (fun h => ?_) (fun h => ?_)
  · have hin : i < ls.length := by have := of_decide_eq_true h; omega
    obtain ⟨l, hl⟩ : ∃ l, ls[i]? = some l := ⟨_, List.getElem?_eq_getElem hin⟩
    obtain ⟨b, off, A', n', cap', rfl, hc, hR⟩ := lines_cl hL hl
    have hr := row_len hR
    have hr' := row_le hR
    (repeat' (first|refine Za ?_|refine Zb ?_|refine Zc ?_|refine Zd ?_|refine Ze ?_|refine Zf ?_|refine Zu tab rfl rfl ?_|(apply Zy;refine Zz ?_)|(apply Yn;refine Yo ?_)|fail))
    refine t_loopK [2, 3, 11, 12, 13, 17, 18] (α := Nat × (Int × Int × Int × Int × Bool)) (fun x => [(4, .bool x.2.2.2.2.2), (19, .int .i64 x.1)]) (fun x => x.1 ≤ l.length ∧ x.2 = ((ls.take i).flatten ++ l.take x.1).foldl bxS (0, 0, 0, 0, false)) (fun x => [(b3, bx [.int .i64 x.2.2.2.1, .int .i64 x.2.2.2.2.1] 24), (b2, bx [.int .i64 x.2.1, .int .i64 x.2.2.1] 24)]) (fun x => l.length - x.1) (0, (lx, ly, hx, hy, ok)) rfl ⟨rfl, rfl, trivial⟩ ⟨by simp, by simpa using hq⟩ (fun _ h => h) ?_
    rintro ⟨k, lx', ly', hx', hy', ok'⟩ ⟨hk, hq'⟩
    simp only at hk hq'
    try dsimp only [List.cons_append, List.nil_append, List.map_cons, List.map_nil]
    (repeat' (first|refine Za ?_|refine Zb ?_|refine Zc ?_|refine Zd ?_|refine Zu tab rfl rfl ?_|fail))
    refine t_cond rfl (fun h => ?_) (fun h => ?_)
    · have hkn : k < l.length := by have := of_decide_eq_true h; omega
      obtain ⟨p, hp⟩ : ∃ p, l[k]? = some p := ⟨_, List.getElem?_eq_getElem hkn⟩
      obtain ⟨b', off', rfl, hcp⟩ := row_cl hR hp
      have hnx : ((ls.take i).flatten ++ l.take (k + 1)).foldl bxS (0, 0, 0, 0, false) = bxS (lx', ly', hx', hy', ok') p := by
        rw [List.take_add_one, hp, ← List.append_assoc, List.foldl_append, ← hq']; rfl
      (repeat' (first|refine Za ?_|refine Zb ?_|refine Zc ?_|refine Zd ?_|refine Ze ?_|refine Zf ?_|(apply Zy;refine Zz ?_)|(apply Ye;refine Yf ?_)|refine Yk rfl fun _=>?_|(apply Yn;refine Yo ?_)|fail))
      refine t_drawW 5 [(0, .v), (1, .v), (3, .v), (4, .v), (2, .e)] ?_ rfl (by kernel_rfl) (by kernel_rfl) rfl (by kernel_rfl) mixed (by kernel_rfl) rfl
      (repeat' (first|refine Yz rfl ?_|refine Vd tab ?_|(apply Vf;refine Vg ?_)|(apply Vp;refine Vq ?_)|fail))
      refine dw_end [2, 3, 4, 11, 12, 13, 17, 18, 19, 25, 27] (rest := []) rfl ?_
      (repeat' (first|refine Za ?_|refine Zb ?_|refine Zc ?_|refine Zd ?_|refine Zu tab rfl rfl ?_|(apply Yt;refine Yu ?_)|fail))
      cases ok' with
      | false =>
        (repeat' (first|refine Za ?_|refine Zb ?_|refine Zc ?_|refine Zd ?_|refine Zi ?_|refine Zu tab rfl rfl ?_|(apply Zy;refine Zz ?_)|(apply Yc;refine Yd ?_)|(apply Ye;refine Yf ?_)|(apply Yl;refine Ym ?_)|refine Yx rfl ?_|fail))
        refine xt_roundK (k + 1, bxS (lx', ly', hx', hy', false) p) rfl ⟨rfl, rfl, trivial⟩ ⟨by simp only; omega, hnx.symm⟩ (by simp only; omega) fun _ h => ?_
        simpa [bxS] using St.pick (L' := [_, _]) h [1, 2] (by decide) rfl
      | true =>
        (repeat' (first|refine Za ?_|refine Zb ?_|refine Zc ?_|refine Zd ?_|refine Zf ?_|refine Zi ?_|refine Zu tab rfl rfl ?_|(apply Zy;refine Zz ?_)|(apply Yc;refine Yd ?_)|(apply Ye;refine Yf ?_)|(apply Yl;refine Ym ?_)|refine Yy rfl ?_|fail))
        refine xt_roundK (k + 1, bxS (lx', ly', hx', hy', true) p) rfl ⟨rfl, rfl, trivial⟩ ⟨by simp only; omega, hnx.symm⟩ (by simp only; omega) fun _ h => ?_
        simpa [bxS] using St.pick (L' := [_, _]) h [1, 2] (by decide) rfl
    · have hkk : k = l.length := by have := of_decide_eq_false h; omega
      subst hkk
      (repeat' (first|refine Zb ?_|refine Zc ?_|refine Zd ?_|refine Zh ?_|refine Zi ?_|refine Zj ?_|refine Zl ?_|refine Zq ?_|refine Zu tab rfl rfl ?_|(apply Yc;refine Yd ?_)|fail))
      refine xt_roundK (i + 1, lx', ly', hx', hy', ok') rfl ⟨rfl, rfl, trivial⟩ ⟨by simp only; omega, by rw [← flatten_take hl (k := i)]; exact hq'⟩ (by simp only; omega) fun _ h => h
  · have hii : i = ls.length := by have := of_decide_eq_false h; omega
    subst hii
    rw [List.take_of_length_le (Nat.le_refl _)] at hq
    (repeat' (first|refine Za ?_|refine Zc ?_|refine Zh ?_|refine Zj ?_|refine Zl ?_|refine Zq ?_|fail))
    refine t_drawW 5 [(0, .v), (1, .v), (2, .v), (3, .e), (4, .e)] ?_ rfl (by kernel_rfl) (by kernel_rfl) rfl (by kernel_rfl) mixed (by kernel_rfl) rfl
    (repeat' (first|refine Yz rfl ?_|refine Vd tab ?_|(apply Vf;refine Vg ?_)|(apply Vt;refine Vu ?_)|fail))
    refine dw_end [2, 3, 59] (rest := []) rfl ?_
    (repeat' (first|refine Zc ?_|refine Zd ?_|refine Zg ?_|refine Zu tab rfl rfl ?_|fail))
    exact xt_retCCT 1 0 rfl rfl rfl rfl rfl rfl rfl rfl fun _ _ => by rw [boxP, ← hq]; rfl

/-- the first pixel whose centre does not lie before n by e -/
def cf (n e : Int) : Int := -((32 * e - n) / (64 * e))
def md (n e m f : Int) : Int := (n * f + m * e) / (128 * e * f)
structure PlOk (n e : Int) : Prop where
  e : 0 < e ∧ e ≤ 65536
  n : -35184372088832 ≤ n ∧ n ≤ 35184372088832
def fillV (n e m f : Int) : Int × Int := if cf n e = cf m f then (md n e m f, md n e m f + 1) else (cf n e, cf m f)

theorem md_bd {n e m f : Int} (h1 : PlOk n e) (h2 : PlOk m f) : (-2305843009213693952 ≤ n * f ∧ n * f ≤ 2305843009213693952) ∧ (-2305843009213693952 ≤ m * e ∧ m * e ≤ 2305843009213693952) ∧ 0 < e * f ∧ e * f ≤ 4294967296 ∧ -9223372036854775808 ≤ md n e m f ∧ md n e m f ≤ 9223372036854775806 := by
  have a := mul_bd (a := n) (b := f) (A := 35184372088832) (B := 65536) h1.n (by have := h2.e; omega)
  have b := mul_bd (a := m) (b := e) (A := 35184372088832) (B := 65536) h2.n (by have := h1.e; omega)
  have c := mul_bd (a := e) (b := f) (A := 65536) (B := 65536) (by have := h1.e; omega) (by have := h2.e; omega)
  have p : 0 < e * f := Int.mul_pos h1.e.1 h2.e.1
  have e1 : 128 * e * f = 128 * (e * f) := by rw [Int.mul_assoc]
  refine ⟨by omega, by omega, p, by omega, ?_, ?_⟩
  · unfold md
    rw [e1, Int.le_ediv_iff_mul_le (by omega)]
    have : -9223372036854775808 * (128 * (e * f)) ≤ -9223372036854775808 * 1 := by omega
    omega
  · unfold md
    have : (n * f + m * e) / (128 * e * f) < 9223372036854775807 := by
      rw [e1, Int.ediv_lt_iff_lt_mul (by omega)]
      have : 9223372036854775807 * 1 ≤ 9223372036854775807 * (128 * (e * f)) := by omega
      omega
    omega

theorem filled_det (n e m f : Int) (h1 : PlOk n e) (h2 : PlOk m f) : Det Try.prog 39 [pl n e, pl m f] (.tuple #[.int .i64 (fillV n e m f).1, .int .i64 (fillV n e m f).2]) := by
  intro w
  have he := h1.e; have hn := h1.n; have hf := h2.e; have hm := h2.n
  obtain ⟨a1, a2, a3, a4, a5, a6⟩ := md_bd h1 h2
  have e1 : 128 * e * f = 128 * (e * f) := by rw [Int.mul_assoc]
  have i1 : CDet Try.prog 67 [pl n e] (.int .i64 (cf n e)) := ⟨centreFrom_det n e (by omega) (by omega)⟩
  have i2 : CDet Try.prog 67 [pl m f] (.int .i64 (cf m f)) := ⟨centreFrom_det m f (by omega) (by omega)⟩
  have i3 : CDet Try.prog 68 [pl n e, pl m f] (.int .i64 (md n e m f)) := ⟨middle_det n e m f (by omega) (by omega) (by omega) (by omega) (by omega) (by omega)⟩
  refine calls_S Try.func39 rfl Try.ntmps39 rfl ?_
  (repeat' (first|refine Za ?_|refine Zb ?_|refine Zc ?_|refine Zd ?_|refine Zu tab rfl rfl ?_|(apply Yg; first|refine Yh fun _=>?_|refine Yi (Yj rfl rfl) rfl fun _=>?_)|fail))
  refine t_drawW 3 [(0, .v), (2, .v), (1, .e)] ?_ rfl (by kernel_rfl) (by kernel_rfl) rfl (by kernel_rfl) mixed (by kernel_rfl) rfl
  (repeat' (first|refine Yz rfl ?_|(apply Vf;refine Vg ?_)|(apply Vp;refine Vq ?_)|fail))
  refine dw_end [2, 3, 7, 8] (rest := []) rfl ?_
  (repeat' (first|refine Za ?_|refine Zb ?_|refine Zc ?_|refine Zd ?_|refine Zu tab rfl rfl ?_|(apply Yt;refine Yu ?_)|fail))
  refine t_cond rfl (fun h => ?_) (fun h => ?_)
  · have hh := of_decide_eq_true h
    (repeat' (first|refine Za ?_|refine Zb ?_|refine Zc ?_|refine Zd ?_|refine Zg ?_|refine Zu tab rfl rfl ?_|(apply Zy;refine Zz ?_)|(apply Yc;refine Yd ?_)|(apply Yt;refine Yu ?_)|fail))
    exact xt_ret2S rfl rfl rfl fun _ _ => by simp [fillV, hh]
  · have hh := of_decide_eq_false h
    (repeat' (first|refine Za ?_|refine Zb ?_|refine Zc ?_|refine Zd ?_|refine Zf ?_|refine Zg ?_|refine Zu tab rfl rfl ?_|fail))
    exact xt_ret2S rfl rfl rfl fun _ _ => by simp [fillV, hh]

theorem bk_ge {s : ByteArray} {i : Nat} (h : s.size ≤ i) : bk s i = false := by
  rw [Bool.eq_false_iff]
  intro hb
  have := bk_lt hb
  omega
theorem rows_len {w : World} {rs : List ByteArray} {A : Option Addr} {n cap : Nat} (h : Rd w 1 (.slice A n cap) (rs.map .string)) : n = rs.length ∧ n ≤ 9223372036854775807 := by
  obtain ⟨A', n', cap', he, hl, h1, h2, _⟩ := h
  cases he
  unfold maxLen at h2
  simp at hl
  omega
theorem rows_cl {w : World} {rs : List ByteArray} {A : Option Addr} {n cap k : Nat} {s : ByteArray} (h : Rd w 1 (.slice A n cap) (rs.map .string)) (hs : rs[k]? = some s) : ∃ b off, A = some ⟨b, off, none⟩ ∧ Cl w b (off + k * 1) (.string s) := by
  have hn := (rows_len h).1
  have hk := (List.getElem?_eq_some_iff.1 hs).1
  obtain ⟨A', n', cap', he, _, _, _, hr⟩ := h
  cases he
  obtain ⟨b, off, ha, hb, hc⟩ := hr (by omega)
  exact ⟨b, off, ha, hb, by rw [Nat.mul_one]; exact hc k _ (by simp [hs])⟩

structure Bm where
  X : Int
  Y : Int
  W : Int
  H : Int
  rows : List ByteArray

def Bm.nil : Bm := ⟨0, 0, 0, 0, []⟩
/-- a bitmap's value, with its rows -/
abbrev bmV (B : Bm) (rv : Value) : Value := .agg #[.int .i64 B.X, .int .i64 B.Y, .int .i64 B.W, .int .i64 B.H, rv]
/-- a bitmap in memory -/
def BmAt (w : World) (v : Value) (B : Bm) : Prop := ∃ rv, v = bmV B rv ∧ Rd w 1 rv (B.rows.map .string)

def Bm.same (A B : Bm) : Prop := A.X = B.X ∧ A.Y = B.Y ∧ A.W = B.W ∧ A.H = B.H ∧ A.rows = B.rows
instance (A B : Bm) : Decidable (Bm.same A B) := by unfold Bm.same; infer_instance

theorem rows_ne {a b : List ByteArray} {k : Nat} {s t : ByteArray} (h1 : a[k]? = some s) (h2 : b[k]? = some t) (h : s ≠ t) : a ≠ b := by
  intro e; subst e; rw [h1] at h2; injection h2 with h2; exact h h2

set_option maxHeartbeats 1000000 in
theorem same_calls (w : World) (a b : Value) (A B : Bm) (ha : BmAt w a A) (hb : BmAt w b B) : Calls Try.prog 20 #[a, b] w (Ret w fun v _ => v = .bool (decide (Bm.same A B))) := by
  obtain ⟨ra, rfl, hra⟩ := ha
  obtain ⟨rb, rfl, hrb⟩ := hb
  obtain ⟨Aa, na, ca, rfl, _⟩ := id hra
  obtain ⟨Ab, nb, cb, rfl, _⟩ := id hrb
  obtain ⟨hna, hna'⟩ := rows_len hra
  obtain ⟨hnb, hnb'⟩ := rows_len hrb
  refine calls_S (vs := [bmV A (.slice Aa na ca), bmV B (.slice Ab nb cb)]) Try.func20 rfl Try.ntmps20 rfl ?_
  (repeat' (first|refine Za ?_|refine Zb ?_|refine Zc ?_|refine Zd ?_|refine Zu tab rfl rfl ?_|(apply Zy;refine Zz ?_)|(apply Yg; first|refine Yh fun _=>?_|refine Yi (Yj rfl rfl) rfl fun _=>?_)|fail))
  refine tl_if [2, 3] (A.X ≠ B.X ∨ A.Y ≠ B.Y ∨ A.W ≠ B.W ∨ A.H ≠ B.H ∨ A.rows.length ≠ B.rows.length) rfl (fun Q' K => ?_) (fun hC => ?_) (fun hC => ?_)
  · (repeat' (first|refine Zd ?_|refine Zu tab rfl rfl ?_|refine Zv rfl rfl ?_|refine Zw rfl rfl rfl rfl ?_|(apply Zy;refine Zz ?_)|(apply Ya;refine Yb ?_)|refine tl_guard rfl rfl rfl (fun _ => ?_) (fun _ => ?_)|fail))
    all_goals exact K _ _ rfl rfl (by simp_all <;> omega)
  · (repeat' (first|refine Za ?_|refine Zb ?_|refine Zc ?_|refine Zd ?_|refine Zg ?_|refine Zk ?_|refine Zu tab rfl rfl ?_|fail))
    exact xt_ret1S rfl rfl fun _ _ => by
      congr 1
      simp only [Bool.false_eq, decide_eq_false_iff_not]
      rintro ⟨h1, h2, h3, h4, h5⟩
      simp_all
  · simp only [not_or, Decidable.not_not] at hC
    obtain ⟨h1, h2, h3, h4, h5⟩ := hC
    (repeat' (first|refine Za ?_|refine Zb ?_|refine Zc ?_|refine Zd ?_|refine Ze ?_|refine Zf ?_|refine Zu tab rfl rfl ?_|fail))
    refine t_loopK [2, 3] (α := Nat) (fun k => [(5, .int .i64 k)]) (fun k => k ≤ A.rows.length ∧ A.rows.take k = B.rows.take k) (fun _ => _) (fun k => A.rows.length - k) 0 rfl ⟨rfl, trivial⟩ ⟨by simp, by simp⟩ (fun _ h => h) ?_
    rintro k ⟨hk, hkk⟩
    try dsimp only [List.cons_append, List.nil_append, List.map_cons, List.map_nil]
    (repeat' (first|refine Za ?_|refine Zb ?_|refine Zc ?_|refine Zd ?_|refine Zu tab rfl rfl ?_|(apply Zy;refine Zz ?_)|fail))
    refine t_cond rfl (fun h => ?_) (fun h => ?_)
    · have hlt : k < A.rows.length := by have := of_decide_eq_true h; omega
      obtain ⟨s, hs⟩ : ∃ s, A.rows[k]? = some s := ⟨_, List.getElem?_eq_getElem hlt⟩
      obtain ⟨t, ht⟩ : ∃ t, B.rows[k]? = some t := ⟨_, List.getElem?_eq_getElem (by omega)⟩
      obtain ⟨b1, o1, rfl, hc1⟩ := rows_cl hra hs
      obtain ⟨b2, o2, rfl, hc2⟩ := rows_cl hrb ht
      (repeat' (first|refine Za ?_|refine Zc ?_|refine Ze ?_|refine Zf ?_|fail))
      refine t_drawW 10 [(0, .v), (1, .v), (2, .v), (3, .v), (4, .v), (5, .v), (6, .v), (7, .v), (8, .v), (9, .v)] ?_ rfl (by kernel_rfl) (by kernel_rfl) rfl (by kernel_rfl) mixed (by kernel_rfl) rfl
      (repeat' (first|refine Yz rfl ?_|refine Vd tab ?_|(apply Vf;refine Vg ?_)|(apply Vl;refine Vm ?_)|fail))
      refine dw_end [2, 3, 5, 52, 57] (rest := []) rfl ?_
      (repeat' (first|refine Zc ?_|refine Zd ?_|(apply Yc;refine Yd ?_)|fail))
      refine t_cond rfl (fun h => ?_) (fun h => ?_)
      · have hne := of_decide_eq_true h
        (repeat' (first|refine Za ?_|refine Zb ?_|refine Zc ?_|refine Zd ?_|refine Zg ?_|refine Zk ?_|refine Zm ?_|refine Zr ?_|refine Zu tab rfl rfl ?_|fail))
        exact xt_ret1S rfl rfl fun _ _ => by
          have := rows_ne hs ht hne
          simp [Bm.same, this]
      · have heq : s = t := by have := of_decide_eq_false h; simpa using this
        (repeat' (first|refine Zb ?_|refine Zc ?_|refine Zd ?_|refine Zf ?_|refine Zi ?_|refine Zu tab rfl rfl ?_|(apply Yc;refine Yd ?_)|fail))
        refine xt_roundK (k + 1) rfl ⟨rfl, trivial⟩ ⟨by omega, ?_⟩ (by omega) fun _ h => h
        rw [List.take_add_one, List.take_add_one, hs, ht, hkk, heq]
    · have hkn : k = A.rows.length := by have := of_decide_eq_false h; omega
      subst hkn
      (repeat' (first|refine Za ?_|refine Zb ?_|refine Zc ?_|refine Zd ?_|refine Zg ?_|refine Zh ?_|refine Zj ?_|refine Zl ?_|refine Zq ?_|refine Zu tab rfl rfl ?_|fail))
      exact xt_ret1S rfl rfl fun _ _ => by
        rw [List.take_of_length_le (Nat.le_refl _), List.take_of_length_le (by omega)] at hkk
        simp [Bm.same, h1, h2, h3, h4, hkk]

def Bm.near (B : Bm) : Bool := nearB B.X B.Y B.W B.H
/-- is a pixel of a bitmap black? -/
def Bm.at (B : Bm) (x y : Int) : Bool := B.near && decide (cut x = x) && decide (cut y = y) && decide (B.X ≤ x) && decide (x - B.X < B.W) && decide (0 ≤ B.Y + B.H - 1 - y) && decide (B.Y + B.H - 1 - y < B.H) &&
  match B.rows[(B.Y + B.H - 1 - y).toNat]? with
  | some s => bk s (x - B.X).toNat
  | none => false

instance (X Y W H : Int) (A : Option Addr) (n c : Nat) : CDet Try.prog 32 [.agg #[.int .i64 X, .int .i64 Y, .int .i64 W, .int .i64 H, .slice A n c]] (.bool (nearB X Y W H)) := ⟨near_det X Y W H _ rfl⟩

set_option maxHeartbeats 1000000 in
theorem at_calls (w : World) (b : Value) (B : Bm) (hb : BmAt w b B) (x y : Int) : Calls Try.prog 16 #[b, .int .i64 x, .int .i64 y] w (Ret w fun v _ => v = .bool (B.at x y)) := by
  obtain ⟨rb, rfl, hrb⟩ := hb
  obtain ⟨Ab, nb, cb, rfl, _⟩ := id hrb
  obtain ⟨hnb, hnb'⟩ := rows_len hrb
  refine calls_S (vs := [bmV B (.slice Ab nb cb), .int .i64 x, .int .i64 y]) Try.func16 rfl Try.ntmps16 rfl ?_
  (repeat' (first|refine Za ?_|refine Zb ?_|refine Zc ?_|refine Zd ?_|refine Zu tab rfl rfl ?_|(apply Zy;refine Zz ?_)|(apply Yg; first|refine Yh fun _=>?_|refine Yi (Yj rfl rfl) rfl fun _=>?_)|(apply Yt;refine Yu ?_)|fail))
  refine tl_if [1, 2, 3] (B.near = false ∨ cut x ≠ x ∨ cut y ≠ y) rfl (fun Q' K => ?_) (fun hC => ?_) (fun hC => ?_)
  · (repeat' (first|refine Zd ?_|refine Zu tab rfl rfl ?_|refine Zv rfl rfl ?_|refine Zw rfl rfl rfl rfl ?_|(apply Ya;refine Yb ?_)|(apply Yt;refine Yu ?_)|refine tl_guard rfl rfl rfl (fun _ => ?_) (fun _ => ?_)|fail))
    all_goals exact K _ _ rfl rfl (by simp_all [Bm.near] <;> omega)
  · (repeat' (first|refine Za ?_|refine Zb ?_|refine Zc ?_|refine Zd ?_|refine Zg ?_|refine Zk ?_|refine Zu tab rfl rfl ?_|fail))
    exact xt_ret1S rfl rfl fun _ _ => by
      congr 1
      unfold Bm.at
      rcases hC with h | h | h <;> simp [h]
  · simp only [not_or, Decidable.not_not, Bool.not_eq_false] at hC
    obtain ⟨h1, h2, h3⟩ := hC
    have hn : B.near = true := h1
    simp only [Bm.near, nearB, inB, Bool.and_eq_true, Bool.not_eq_true', Bool.or_eq_false_iff, decide_eq_false_iff_not] at h1
    have hx := cut_bd x
    have hy := cut_bd y
    rw [h2] at hx
    rw [h3] at hy
    (repeat' (first|refine Za ?_|refine Zc ?_|refine Zf ?_|fail))
    refine t_drawW 13 [(0, .v), (1, .v), (2, .v), (3, .v), (4, .v), (5, .v), (6, .v), (7, .v), (8, .v), (9, .v), (10, .v), (11, .v), (12, .v)] ?_ rfl (by kernel_rfl) (by kernel_rfl) rfl (by kernel_rfl) mixed (by kernel_rfl) rfl
    (repeat' (first|refine Yz rfl ?_|refine Vd tab ?_|(apply Vf;refine Vg ?_)|(apply Vj;refine Vk ?_)|fail))
    refine dw_end [3, 7, 35] (rest := []) rfl ?_
    (repeat' (first|refine Za ?_|refine Zb ?_|refine Zc ?_|refine Zd ?_|refine Zu tab rfl rfl ?_|fail))
    refine tl_if [3, 7, 8] (x - B.X < 0 ∨ B.W ≤ x - B.X ∨ B.Y + B.H - 1 - y < 0 ∨ min B.H B.rows.length ≤ B.Y + B.H - 1 - y) rfl (fun Q' K => ?_) (fun hC => ?_) (fun hC => ?_)
    · (repeat' (first|refine Zd ?_|refine Zu tab rfl rfl ?_|refine Zv rfl rfl ?_|refine Zw rfl rfl rfl rfl ?_|(apply Zy;refine Zz ?_)|(apply Ya;refine Yb ?_)|refine tl_guard rfl rfl rfl (fun _ => ?_) (fun _ => ?_)|fail))
      all_goals exact K _ _ rfl rfl (by simp_all <;> omega)
    · (repeat' (first|refine Za ?_|refine Zb ?_|refine Zc ?_|refine Zd ?_|refine Zg ?_|refine Zk ?_|refine Zu tab rfl rfl ?_|fail))
      exact xt_ret1S rfl rfl fun _ _ => by
        congr 1
        unfold Bm.at
        rcases hC with h | h | h | h
        · have : decide (B.X ≤ x) = false := by simp; omega
          rw [this]; simp
        · have : decide (x - B.X < B.W) = false := by simp; omega
          rw [this]; simp
        · have : decide (0 ≤ B.Y + B.H - 1 - y) = false := by simp; omega
          rw [this]; simp
        · by_cases hh : B.H ≤ B.Y + B.H - 1 - y
          · have : decide (B.Y + B.H - 1 - y < B.H) = false := by simp; omega
            rw [this]; simp
          · rw [List.getElem?_eq_none (by omega)]
            simp
    · simp only [not_or, Int.not_lt, Int.not_le] at hC
      obtain ⟨g1, g2, g3, g4⟩ := hC
      obtain ⟨m, hm⟩ : ∃ m : Nat, B.Y + B.H - 1 - y = m := ⟨(B.Y + B.H - 1 - y).toNat, by omega⟩
      obtain ⟨i, hi⟩ : ∃ i : Nat, x - B.X = i := ⟨(x - B.X).toNat, by omega⟩
      obtain ⟨s, hs⟩ : ∃ s, B.rows[m]? = some s := ⟨_, List.getElem?_eq_getElem (by omega)⟩
      obtain ⟨b1, o1, rfl, hc1⟩ := rows_cl hrb hs
      have hat : B.at x y = bk s i := by
        unfold Bm.at
        have d1 : decide (B.X ≤ x) = true := by simp; omega
        have d2 : decide (x - B.X < B.W) = true := by simp; omega
        have d3 : decide (0 ≤ B.Y + B.H - 1 - y) = true := by simp; omega
        have d4 : decide (B.Y + B.H - 1 - y < B.H) = true := by simp; omega
        rw [hn, h2, h3, d1, d2, d3, d4, hm, hi]
        simp [hs]
      rw [hat, hm, hi]
      (repeat' (first|refine Za ?_|refine Zb ?_|refine Zc ?_|refine Zf ?_|refine Zu tab rfl rfl ?_|(apply Zy;refine Zz ?_)|(apply Yn;refine Yo ?_)|fail))
      refine tl_guard rfl rfl rfl (fun h => ?_) (fun h => ?_)
      · have hlt := of_decide_eq_true h
        obtain ⟨u, hu⟩ : ∃ u, s[i]? = some u := ⟨_, getElem?_pos s i (by omega)⟩
        (repeat' (first|refine Zu tab rfl rfl ?_|refine Zv rfl rfl ?_|(apply Zy;refine Zz ?_)|(apply Yn;refine Yo ?_)|fail))
        refine tl_val (o_index rfl rfl (by omega) hu) rfl rfl ?_
        (repeat' (first|refine Zc ?_|refine Zd ?_|refine Zg ?_|refine Zu tab rfl rfl ?_|refine Zv rfl rfl ?_|(apply Ya;refine Yb ?_)|fail))
        exact xt_ret1S rfl rfl fun _ _ => by
          congr 1
          rw [bk, hu, Bool.eq_iff_iff]
          simp only [decide_eq_true_eq, beq_iff_eq, Option.some.injEq]
          exact ⟨fun h => u35 h, fun h => by rw [h]; rfl⟩
      · have hlt := of_decide_eq_false h
        (repeat' (first|refine Zc ?_|refine Zd ?_|refine Zg ?_|refine Zu tab rfl rfl ?_|refine Zw rfl rfl rfl rfl ?_|(apply Ya;refine Yb ?_)|fail))
        exact xt_ret1S rfl rfl fun _ _ => by rw [bk_ge (by omega)]

end Go.Proofs.Ytbgolbkolcmldaa

/-
  The bitmap of strips.
-/
namespace Go.Proofs.Ytbgolbkolcmldaa
open Go.RowKit
attribute [local irreducible] T TL Xt O Op1 Kt DV ObsB DE DW DW1 LoopQ LoopJ

structure Sp where
  x : Int
  y : Int
  t : ByteArray

theorem flatMap_get {α β : Type} (f : α → List β) (c : Nat) (hf : ∀ a, (f a).length = c) : ∀ (l : List α) (k j : Nat) (a : α) (u : β), l[k]? = some a → (f a)[j]? = some u → (l.flatMap f)[k * c + j]? = some u
  | [], k, j, a, u, h, _ => by simp at h
  | a' :: l, 0, j, a, u, h, hu => by
    simp at h
    subst h
    rw [List.flatMap_cons, Nat.zero_mul, Nat.zero_add, List.getElem?_append_left (List.getElem?_eq_some_iff.1 hu).1]
    exact hu
  | a' :: l, k + 1, j, a, u, h, hu => by
    rw [List.getElem?_cons_succ] at h
    rw [List.flatMap_cons, List.getElem?_append_right (by rw [hf, Nat.add_mul]; omega), hf]
    have e : (k + 1) * c + j - c = k * c + j := by rw [Nat.add_mul]; omega
    rw [e]
    exact flatMap_get f c hf l k j a u h hu
theorem flatMap_len {α β : Type} (f : α → List β) (c : Nat) (hf : ∀ a, (f a).length = c) : ∀ (l : List α), (l.flatMap f).length = l.length * c
  | [] => by simp
  | a :: l => by rw [List.flatMap_cons, List.length_append, hf, flatMap_len f c hf l, List.length_cons, Nat.add_mul]; omega

def spCells (s : Sp) : List Value := [.int .i64 s.x, .int .i64 s.y, .string s.t]
/-- strips in memory -/
def Strips (w : World) (v : Value) (ss : List Sp) : Prop := Rd w 3 v (ss.flatMap spCells)

theorem strips_len {w : World} {ss : List Sp} {A : Option Addr} {n cap : Nat} (h : Strips w (.slice A n cap) ss) : n = ss.length ∧ n ≤ 9223372036854775807 := by
  obtain ⟨A', n', cap', he, hl, h1, h2, _⟩ := h
  cases he
  rw [flatMap_len spCells 3 (fun _ => rfl)] at hl
  unfold maxLen at h2
  omega
theorem strips_at {w : World} {ss : List Sp} {A : Option Addr} {n cap k : Nat} {s : Sp} (h : Strips w (.slice A n cap) ss) (hs : ss[k]? = some s) : ∃ b off, A = some ⟨b, off, none⟩ ∧ b < w.heap.size ∧ ∀ j v, (spCells s)[j]? = some v → w.cell? ⟨b, off + k * 3 + j, none⟩ = some v := by
  have hn := (strips_len h).1
  obtain ⟨A', n', cap', he, hl, _, _, hr⟩ := h
  cases he
  have hk : k < ss.length := (List.getElem?_eq_some_iff.1 hs).1
  obtain ⟨b, off, rfl, hb, hc⟩ := hr (by omega)
  refine ⟨b, off, rfl, hb, fun j v hj => ?_⟩
  have := hc _ _ (flatMap_get spCells 3 (fun _ => rfl) ss k j s v hs hj)
  rwa [← Nat.add_assoc] at this

/-- the box of strips: left, right, bottom, top -/
def bxStep (q : Int × Int × Int × Int) (s : Sp) : Int × Int × Int × Int := (min q.1 s.x, max q.2.1 (s.x + s.t.size - 1), min q.2.2.1 s.y, max q.2.2.2 s.y)
def bxOf (s0 : Sp) (ss : List Sp) : Int × Int × Int × Int := ss.foldl bxStep (s0.x, s0.x, s0.y, s0.y)

/-- bounds that strips keep -/
def SpOk (s : Sp) : Prop := -1073741824 ≤ s.x ∧ s.x ≤ 1073741824 ∧ -1073741824 ≤ s.y ∧ s.y ≤ 1073741824 ∧ 1 ≤ s.t.size ∧ s.t.size ≤ 1073741824

def BxOk (q : Int × Int × Int × Int) : Prop := -4294967296 ≤ q.1 ∧ q.1 ≤ q.2.1 ∧ q.2.1 ≤ 4294967296 ∧ -4294967296 ≤ q.2.2.1 ∧ q.2.2.1 ≤ q.2.2.2 ∧ q.2.2.2 ≤ 4294967296

theorem bxStep_ok {q : Int × Int × Int × Int} {s : Sp} (hq : BxOk q) (hs : SpOk s) : BxOk (bxStep q s) := by
  unfold BxOk at *
  unfold SpOk at hs
  unfold bxStep
  simp only
  omega

theorem bx_bounds : ∀ (ss : List Sp) (q : Int × Int × Int × Int), (ss.foldl bxStep q).1 ≤ q.1 ∧ q.2.1 ≤ (ss.foldl bxStep q).2.1 ∧ (ss.foldl bxStep q).2.2.1 ≤ q.2.2.1 ∧ q.2.2.2 ≤ (ss.foldl bxStep q).2.2.2 ∧
    ∀ s ∈ ss, (ss.foldl bxStep q).1 ≤ s.x ∧ s.x + s.t.size - 1 ≤ (ss.foldl bxStep q).2.1 ∧ (ss.foldl bxStep q).2.2.1 ≤ s.y ∧ s.y ≤ (ss.foldl bxStep q).2.2.2
  | [], q => ⟨Int.le_refl _, Int.le_refl _, Int.le_refl _, Int.le_refl _, fun _ h => by simp at h⟩
  | a :: ss, q => by
    obtain ⟨h1, h2, h3, h4, h5⟩ := bx_bounds ss (bxStep q a)
    simp only [List.foldl_cons]
    have e1 : (bxStep q a).1 = min q.1 a.x := rfl
    have e2 : (bxStep q a).2.1 = max q.2.1 (a.x + a.t.size - 1) := rfl
    have e3 : (bxStep q a).2.2.1 = min q.2.2.1 a.y := rfl
    have e4 : (bxStep q a).2.2.2 = max q.2.2.2 a.y := rfl
    refine ⟨by omega, by omega, by omega, by omega, fun s hs => ?_⟩
    rcases List.mem_cons.1 hs with rfl | hs
    · omega
    · exact h5 s hs

def blackAt (ss : List Sp) (x y : Int) : Bool := ss.any fun s => decide (s.y = y) && decide (s.x ≤ x) && bk s.t (x - s.x).toNat
def bmIn (ss : List Sp) (q : Int × Int × Int × Int) : Bm :=
  if 1024 < q.2.1 - q.1 + 1 ∨ 1024 < q.2.2.2 - q.2.2.1 + 1 then Bm.nil
  else ⟨q.1, q.2.2.1, q.2.1 - q.1 + 1, q.2.2.2 - q.2.2.1 + 1, (List.range (q.2.2.2 - q.2.2.1 + 1).toNat).map fun (m : Nat) => rowB (q.2.1 - q.1 + 1).toNat fun (j : Nat) => blackAt ss (q.1 + j) (q.2.2.2 - m)⟩
def bmOf : List Sp → Bm
  | [] => Bm.nil
  | s0 :: ss => bmIn (s0 :: ss) (bxOf s0 (s0 :: ss))

theorem blackAt_snoc {ss : List Sp} {k : Nat} {s : Sp} (hs : ss[k]? = some s) (x y : Int) : blackAt (ss.take (k + 1)) x y = (blackAt (ss.take k) x y || (decide (s.y = y) && decide (s.x ≤ x) && bk s.t (x - s.x).toNat)) := by
  rw [List.take_add_one, hs, blackAt, blackAt, List.any_append]
  simp
theorem blackAt_other {ss : List Sp} {k : Nat} {s : Sp} (hs : ss[k]? = some s) {y : Int} (hy : s.y ≠ y) (x : Int) : blackAt (ss.take k) x y = blackAt (ss.take (k + 1)) x y := by
  rw [blackAt_snoc hs]
  simp [hy]
theorem blackAt_row {ss : List Sp} {k : Nat} {s : Sp} (hs : ss[k]? = some s) {y lf : Int} {c : Nat} (hy : s.y = y) (hc : s.x - lf = c) (j : Nat) : ink (fun (j : Nat) => blackAt (ss.take k) (lf + j) y) c s.t s.t.size j = blackAt (ss.take (k + 1)) (lf + j) y := by
  rw [blackAt_snoc hs, ink]
  have e0 : decide (s.y = y) = true := by simpa using hy
  rw [e0, Bool.true_and]
  congr 1
  by_cases h1 : c ≤ j
  · have e1 : (lf + j - s.x).toNat = j - c := by omega
    have e2 : decide (s.x ≤ lf + j) = true := by simp; omega
    have e3 : decide (c ≤ j) = true := by simpa using h1
    rw [e1, e2, e3, Bool.true_and, Bool.true_and]
    by_cases h2 : j < c + s.t.size
    · have e4 : decide (j < c + s.t.size) = true := by simpa using h2
      rw [e4, Bool.true_and]
    · rw [bk_ge (by omega), Bool.and_false]
  · have e2 : decide (s.x ≤ lf + j) = false := by simp; omega
    have e3 : decide (c ≤ j) = false := by simpa using h1
    rw [e2, e3]; simp

/-- a row of pixels, as a slice -/
def rowSl (W b : Nat) : Value := .slice (some ⟨b, 0, none⟩) W W

theorem set_end {α : Type} (l : List α) (n : Nat) (z v : α) (h : l.length < n) : (l ++ List.replicate (n - l.length) z).set l.length v = (l ++ [v]) ++ List.replicate (n - (l.length + 1)) z := by
  have e : n - l.length = (n - (l.length + 1)) + 1 := by omega
  rw [e, List.replicate_succ, List.set_append_right _ _ (Nat.le_refl _)]
  simp


/-- a bitmap in memory of the call's own -/
def BmI (w w' : World) (v : Value) (B : Bm) : Prop := ∃ rv, v = bmV B rv ∧ RdI w.heap.size w'.heap.size w' 1 rv (B.rows.map .string)
theorem bmI_nil (w w' : World) : BmI w w' (.agg #[.int .i64 0, .int .i64 0, .int .i64 0, .int .i64 0, .slice none 0 0]) Bm.nil := ⟨_, rfl, nil_rdI _ _ _ _⟩
theorem BmI.at {w w1 w2 : World} {v : Value} {B : Bm} (h : BmI w1 w2 v B) (hw : ∀ b, w1.heap.size ≤ b → b < w2.heap.size → w.heap[b]? = w2.heap[b]?) : BmAt w v B := by
  obtain ⟨rv, hv, hr⟩ := h
  exact ⟨rv, hv, (hr.move hw).rd⟩

theorem strips_cl {w : World} {ss : List Sp} {A : Option Addr} {n cap k : Nat} {s : Sp} (h : Strips w (.slice A n cap) ss) (hs : ss[k]? = some s) : ∃ b off, A = some ⟨b, off, none⟩ ∧ ClA w b (off + k * 3) [.int .i64 s.x, .int .i64 s.y, .string s.t] := by
  obtain ⟨b, off, h1, h2, h3⟩ := strips_at h hs
  exact ⟨b, off, h1, h2, h3⟩

set_option maxHeartbeats 2000000 in
theorem bitmap_calls (ss : List Sp) (hok : ∀ s ∈ ss, SpOk s) (v : Value) (w : World) (hS : Strips w v ss) : Calls Try.prog 41 #[v] w (Ret w fun u w' => BmI w w' u (bmOf ss)) := by
  obtain ⟨A, n, cap, rfl, _⟩ := id hS
  obtain ⟨hn, hn2⟩ := strips_len hS
  refine calls_S (vs := [.slice A n cap]) Try.func41 rfl Try.ntmps41 rfl ?_
  (repeat' (first|refine Za ?_|refine Zb ?_|refine Zc ?_|refine Zd ?_|refine Zu tab rfl rfl ?_|refine Yk rfl fun _=>?_|fail))
  rename_i b2
  refine t_cond rfl (fun h => ?_) (fun h => ?_)
  · have h0 : ss = [] := List.length_eq_zero_iff.1 (by have := of_decide_eq_true h; omega)
    subst h0
    (repeat' (first|refine Za ?_|refine Zb ?_|refine Zc ?_|refine Zd ?_|refine Zg ?_|refine Zk ?_|(apply Ye;refine Yf ?_)|(apply Yl;refine Ym ?_)|fail))
    exact xt_retAS 0 rfl rfl rfl rfl fun w' _ => bmI_nil w w'
  have hne : 0 < ss.length := by have := of_decide_eq_false h; omega
  obtain ⟨s0, hs0⟩ : ∃ s0, ss[0]? = some s0 := ⟨_, List.getElem?_eq_getElem hne⟩
  obtain ⟨b, off, rfl, hc0⟩ := strips_cl hS hs0
  (repeat' (first|refine Za ?_|refine Zc ?_|refine Zf ?_|fail))
  refine t_drawW 9 [(0, .v), (1, .v), (2, .v), (3, .v), (4, .v), (5, .v), (6, .v), (7, .v), (8, .v)] ?_ rfl (by kernel_rfl) (by kernel_rfl) rfl (by kernel_rfl) mixed (by kernel_rfl) rfl
  (repeat' (first|refine Yz rfl ?_|refine Vd tab ?_|(apply Vf;refine Vg ?_)|(apply Vl;refine Vm ?_)|fail))
  refine dw_end [0, 2, 3, 27] (rest := []) rfl ?_
  (repeat' (first|refine Za ?_|refine Zc ?_|refine Zd ?_|refine Zu tab rfl rfl ?_|fail))
  refine t_drawW 9 [(0, .v), (1, .v), (2, .v), (3, .v), (4, .v), (5, .v), (6, .v), (7, .v), (8, .v)] ?_ rfl (by kernel_rfl) (by kernel_rfl) rfl (by kernel_rfl) mixed (by kernel_rfl) rfl
  (repeat' (first|refine Yz rfl ?_|refine Vd tab ?_|(apply Vf;refine Vg ?_)|(apply Vl;refine Vm ?_)|fail))
  refine dw_end [0, 2, 3, 4, 5, 35] (rest := []) rfl ?_
  (repeat' (first|refine Za ?_|refine Zb ?_|refine Zc ?_|refine Zd ?_|refine Ze ?_|refine Zu tab rfl rfl ?_|fail))
  refine t_loopK [0, 2, 36, 37] (α := Nat × (Int × Int × Int × Int)) (fun x => [(3, .int .i64 x.2.1), (4, .int .i64 x.2.2.1), (5, .int .i64 x.2.2.2.1), (6, .int .i64 x.2.2.2.2), (38, .int .i64 (x.1 : Int))]) (fun x => x.1 ≤ ss.length ∧ x.2 = bxOf s0 (ss.take x.1) ∧ BxOk x.2) (fun x => [(b2, bx [.int .i64 0, .int .i64 0, .int .i64 0, .int .i64 0, .slice none 0 0] 30)]) (fun x => ss.length - x.1) (0, (s0.x, s0.x, s0.y, s0.y)) rfl ⟨rfl, rfl, rfl, rfl, rfl, trivial⟩ ⟨by simp, by simp [bxOf], by have := hok s0 (List.mem_of_getElem? hs0); unfold SpOk at this; unfold BxOk; simp only; omega⟩ (fun _ h => h) ?_
  rintro ⟨k, ⟨lf, rt, bt, tp⟩⟩ ⟨hk, hq, hbx⟩
  simp only at hk hq hbx
  try dsimp only [List.cons_append, List.nil_append, List.map_cons, List.map_nil]
  (repeat' (first|refine Za ?_|refine Zb ?_|refine Zc ?_|refine Zd ?_|refine Zu tab rfl rfl ?_|fail))
  refine t_cond rfl (fun h => ?_) (fun h => ?_)
  · have hkn : k < ss.length := by have := of_decide_eq_true h; omega
    obtain ⟨s, hs⟩ : ∃ s, ss[k]? = some s := ⟨_, List.getElem?_eq_getElem hkn⟩
    obtain ⟨b', off', he, hcs⟩ := strips_cl hS hs
    cases he
    have hso := hok s (List.mem_of_getElem? hs)
    have hbx' := bxStep_ok hbx hso
    unfold SpOk at hso
    unfold BxOk at hbx
    simp only at hbx
    (repeat' (first|refine Za ?_|refine Zb ?_|refine Zc ?_|refine Zd ?_|refine Ze ?_|refine Zf ?_|(apply Zy;refine Zz ?_)|(apply Ye;refine Yf ?_)|refine Yk rfl fun _=>?_|(apply Yn;refine Yo ?_)|fail))
    refine t_drawW 14 [(0, .v), (1, .v), (2, .v), (3, .v), (4, .v), (5, .v), (6, .v), (7, .v), (8, .v), (9, .v), (10, .v), (11, .v), (12, .v), (13, .v)] ?_ rfl (by kernel_rfl) (by kernel_rfl) rfl (by kernel_rfl) mixed (by kernel_rfl) rfl
    (repeat' (first|refine Yz rfl ?_|refine Vd tab ?_|(apply Vf;refine Vg ?_)|(apply Vj;refine Vk ?_)|fail))
    refine dw_end [0, 2, 3, 5, 6, 8, 36, 37, 38, 54] (rest := []) rfl ?_
    (repeat' (first|refine Zc ?_|refine Zd ?_|refine Zu tab rfl rfl ?_|fail))
    refine t_drawW 9 [(0, .v), (1, .v), (2, .v), (3, .v), (4, .v), (5, .v), (6, .v), (7, .v), (8, .v)] ?_ rfl (by kernel_rfl) (by kernel_rfl) rfl (by kernel_rfl) mixed (by kernel_rfl) rfl
    (repeat' (first|refine Yz rfl ?_|refine Vd tab ?_|(apply Vf;refine Vg ?_)|fail))
    refine dw_end [0, 2, 3, 4, 5, 36, 37, 38, 62] (rest := []) rfl ?_
    (repeat' (first|refine Zb ?_|refine Zc ?_|refine Zd ?_|refine Zi ?_|refine Zu tab rfl rfl ?_|(apply Yc;refine Yd ?_)|fail))
    refine xt_roundK (k + 1, bxStep (lf, rt, bt, tp) s) rfl ⟨rfl, rfl, rfl, rfl, rfl, trivial⟩ ⟨by simp only; omega, ?_, hbx'⟩ (by simp only; omega) (fun _ h => h.pick [1] (by decide) rfl)
    simp only
    rw [List.take_add_one, hs, hq, bxOf, bxOf, List.foldl_append]
    rfl
  have hkn : k = ss.length := by have := of_decide_eq_false h; omega
  subst hkn
  rw [List.take_of_length_le (Nat.le_refl _)] at hq
  unfold BxOk at hbx
  simp only at hbx
  have hbm : bmOf ss = bmIn ss (lf, rt, bt, tp) := by
    cases ss with
    | nil => simp at hne
    | cons s1 ss => simp at hs0; subst hs0; rw [bmOf, ← hq]
  rw [hbm]
  (repeat' (first|refine Za ?_|refine Zb ?_|refine Zc ?_|refine Zd ?_|refine Zh ?_|refine Zj ?_|refine Zl ?_|refine Zq ?_|refine Zu tab rfl rfl ?_|(apply Zy;refine Zz ?_)|(apply Yc;refine Yd ?_)|(apply Ye;refine Yf ?_)|refine Yk rfl fun _=>?_|(apply Yl;refine Ym ?_)|fail))
  rename_i b9
  refine tl_if [0, 2, 3, 6, 9] (1024 < rt - lf + 1 ∨ 1024 < tp - bt + 1) rfl (fun Q' K => ?_) (fun hC => ?_) (fun hC => ?_)
  · (repeat' (first|refine Zd ?_|refine Zu tab rfl rfl ?_|refine Zv rfl rfl ?_|refine Zw rfl rfl rfl rfl ?_|(apply Zy;refine Zz ?_)|(apply Ya;refine Yb ?_)|refine tl_guard rfl rfl rfl (fun _ => ?_) (fun _ => ?_)|fail))
    all_goals exact K _ _ rfl rfl (by simp_all <;> omega)
  · (repeat' (first|refine Za ?_|refine Zb ?_|refine Zc ?_|refine Zd ?_|refine Zg ?_|refine Zk ?_|(apply Ye;refine Yf ?_)|(apply Yl;refine Ym ?_)|fail))
    refine xt_retAS 1 rfl rfl rfl rfl fun w' _ => ?_
    rw [bmIn, if_pos hC]
    exact bmI_nil w w'
  obtain ⟨Wn, hWn⟩ : ∃ Wn : Nat, rt - lf + 1 = Wn := ⟨(rt - lf + 1).toNat, by omega⟩
  obtain ⟨Hn, hHn⟩ : ∃ Hn : Nat, tp - bt + 1 = Hn := ⟨(tp - bt + 1).toNat, by omega⟩
  rw [hWn, hHn] at hC
  rw [hWn, hHn]
  (repeat' (first|refine Za ?_|refine Zb ?_|refine Zc ?_|refine Zf ?_|refine Zu tab rfl rfl ?_|(apply Zy;refine Zz ?_)|fail))
  refine tl_make (n := Hn) rfl rfl rfl (by omega) (by omega) rfl fun R => ?_
  have eflat : (List.replicate Hn [Value.slice none 0 0]).flatten = List.replicate Hn (Value.slice none 0 0) := by simp
  rw [eflat]
  (repeat' (first|refine Za ?_|refine Zb ?_|refine Zc ?_|refine Zd ?_|refine Ze ?_|refine Zu tab rfl rfl ?_|fail))
  refine t_loopK [0, 2, 3, 6, 9, 10, 88] (α := List Nat) (fun bs => [(89, .int .i64 (bs.length : Int))]) (fun bs => bs.length ≤ Hn)
    (fun bs => (R, bx (bs.map (rowSl Wn) ++ List.replicate (Hn - bs.length) (.slice none 0 0)) 65) :: (b9, bx [.int .i64 lf, .int .i64 bt, .int .i64 Wn, .int .i64 Hn, .slice none 0 0] 30) :: (b2, bx [.int .i64 0, .int .i64 0, .int .i64 0, .int .i64 0, .slice none 0 0] 30) :: bs.map fun b => (b, px 5 Wn fun _ => false))
    (fun bs => Hn - bs.length) [] rfl ⟨rfl, trivial⟩ (Nat.zero_le _) (fun _ h => h) fun bs hbs => ?_
  try dsimp only [List.cons_append, List.nil_append, List.map_cons, List.map_nil]
  (repeat' (first|refine Za ?_|refine Zb ?_|refine Zc ?_|refine Zd ?_|refine Zu tab rfl rfl ?_|fail))
  refine t_cond rfl (fun h => ?_) (fun h => ?_)
  · have hlt : bs.length < Hn := by have := of_decide_eq_true h; omega
    (repeat' (first|refine Za ?_|refine Zb ?_|refine Zc ?_|refine Zd ?_|refine Ze ?_|refine Zf ?_|refine Zu tab rfl rfl ?_|(apply Zy;refine Zz ?_)|fail))
    refine tl_ret (fun b => rowSl Wn b) (fun b => [(b, px 5 Wn fun _ => false)]) (fun w' _ => blank_calls Wn (by omega) w') rfl (fun w1 v w2 hs he ⟨b, o, hv, hb, hh, hq⟩ => ⟨b, hv, hs.addNew he hb hh (px_blank hq)⟩) rfl fun bn => ?_
    (repeat' (first|(apply Yn;refine Yo ?_)|fail))
    refine tl_store (o_storeB 1 rfl rfl rfl (by simp; omega) rfl) ?_
    (repeat' (first|refine Zb ?_|refine Zc ?_|refine Zd ?_|refine Zi ?_|refine Zu tab rfl rfl ?_|(apply Yc;refine Yd ?_)|fail))
    refine xt_roundK (bs ++ [bn]) rfl ⟨?_, trivial⟩ (by simp; omega) (by simp; omega) (fun w' h' => ?_)
    · simp
      rfl
    · have e1 : (List.map (rowSl Wn) bs ++ List.replicate (Hn - bs.length) (Value.slice none 0 0)).set (0 + ((bs.length : Int)).toNat * 1) (rowSl Wn bn) = List.map (rowSl Wn) (bs ++ [bn]) ++ List.replicate (Hn - (bs ++ [bn]).length) (Value.slice none 0 0) := by
        have := set_end (bs.map (rowSl Wn)) Hn (Value.slice none 0 0) (rowSl Wn bn) (by simpa using hlt)
        simp only [List.length_map] at this
        rw [show (0 + ((bs.length : Int)).toNat * 1) = bs.length by omega, this]
        simp
      rw [e1] at h'
      refine St.perm h' ?_
      simp only [List.map_append, List.map_cons, List.map_nil]
      exact (List.perm_append_comm (l₁ := [(bn, px 5 Wn fun _ => false)])).trans (by simp)
  have hbl : bs.length = Hn := by have := of_decide_eq_false h; omega
  (repeat' (first|refine Za ?_|refine Zb ?_|refine Zc ?_|refine Zd ?_|refine Ze ?_|refine Zh ?_|refine Zj ?_|refine Zl ?_|refine Zq ?_|refine Zu tab rfl rfl ?_|fail))
  refine t_loopK [2, 3, 6, 9, 10, 99, 100] (α := Nat) (fun k => [(101, .int .i64 (k : Int))]) (fun k => k ≤ ss.length)
    (fun k => (R, bx (bs.map (rowSl Wn)) 65) :: (b9, bx [.int .i64 lf, .int .i64 bt, .int .i64 Wn, .int .i64 Hn, .slice none 0 0] 30) :: (b2, bx [.int .i64 0, .int .i64 0, .int .i64 0, .int .i64 0, .slice none 0 0] 30) :: bs.mapIdx fun m b => (b, px 5 Wn fun j => blackAt (ss.take k) (lf + j) (tp - m)))
    (fun k => ss.length - k) 0 rfl ⟨rfl, trivial⟩ (Nat.zero_le _) (fun w' h' => ?_) fun k hk3 => ?_
  · rw [hbl, Nat.sub_self, List.replicate_zero, List.append_nil] at h'
    have e : (bs.mapIdx fun m b => (b, px 5 Wn fun j => blackAt (ss.take 0) (lf + j) (tp - m))) = bs.map fun b => (b, px 5 Wn fun _ => false) := by
      apply List.ext_getElem?
      intro i
      simp [blackAt]
    rw [e]
    exact h'
  try dsimp only [List.cons_append, List.nil_append, List.map_cons, List.map_nil]
  (repeat' (first|refine Za ?_|refine Zb ?_|refine Zc ?_|refine Zd ?_|refine Zu tab rfl rfl ?_|fail))
  refine t_cond rfl (fun h => ?_) (fun h => ?_)
  · have hkn : k < ss.length := by have := of_decide_eq_true h; omega
    obtain ⟨s, hs⟩ : ∃ s, ss[k]? = some s := ⟨_, List.getElem?_eq_getElem hkn⟩
    obtain ⟨b', off', he, hcs⟩ := strips_cl hS hs
    cases he
    have hso := hok s (List.mem_of_getElem? hs)
    unfold SpOk at hso
    have hin : lf ≤ s.x ∧ s.x + s.t.size - 1 ≤ rt ∧ bt ≤ s.y ∧ s.y ≤ tp := by
      have := (bx_bounds ss (s0.x, s0.x, s0.y, s0.y)).2.2.2.2 s (List.mem_of_getElem? hs)
      rw [bxOf] at hq
      rw [← hq] at this
      exact this
    obtain ⟨m, hm⟩ : ∃ m : Nat, tp - s.y = m := ⟨(tp - s.y).toNat, by omega⟩
    obtain ⟨c, hc⟩ : ∃ c : Nat, s.x - lf = c := ⟨(s.x - lf).toNat, by omega⟩
    obtain ⟨bm, hbm'⟩ : ∃ bm, bs[m]? = some bm := ⟨_, List.getElem?_eq_getElem (by omega)⟩
    have hrow : (bs.map (rowSl Wn))[0 + (tp - s.y).toNat * 1]? = some (rowSl Wn bm) := by
      rw [show (0 + (tp - s.y).toNat * 1) = m by omega, List.getElem?_map, hbm']
      rfl
    (repeat' (first|refine Za ?_|refine Zb ?_|refine Zc ?_|refine Zd ?_|refine Ze ?_|refine Zf ?_|(apply Zy;refine Zz ?_)|(apply Ye;refine Yf ?_)|refine Yk rfl fun _=>?_|(apply Yn;refine Yo ?_)|fail))
    refine t_drawW 14 [(0, .v), (1, .v), (2, .v), (3, .v), (4, .v), (5, .v), (6, .v), (7, .v), (8, .v), (9, .v), (10, .v), (11, .v), (12, .v), (13, .v)] ?_ rfl (by kernel_rfl) (by kernel_rfl) rfl (by kernel_rfl) mixed (by kernel_rfl) rfl
    (repeat' (first|refine Yz rfl ?_|refine Vd tab ?_|(apply Vf;refine Vg ?_)|(apply Vj;refine Vk ?_)|(apply Vl;refine Vm ?_)|fail))
    refine dw_opN rfl rfl (fun _ => o_loadB 1 rfl rfl hrow) ?_
    (repeat' (first|refine Yz rfl ?_|refine Vd tab ?_|(apply Vf;refine Vg ?_)|(apply Vj;refine Vk ?_)|fail))
    rw [hc]
    refine dw_opN rfl rfl (fun _ => o_sliceL (n := c) rfl rfl (by omega) (by omega)) ?_
    (repeat' (first|refine Yz rfl ?_|refine Vd tab ?_|(apply Vf;refine Vg ?_)|fail))
    refine dw_end [2, 3, 6, 9, 10, 99, 100, 101, 116, 118] (rest := []) rfl ?_
    rw [show 0 + c * 1 = c by omega]
    refine tl_call (o_wrote (m + 4) (b := bm) (q := px 5 Wn fun j => blackAt (ss.take k) (lf + j) (tp - m)) rfl (by simp [hbm']) (fun w1 o1 ho1 hq1 => blacken_calls bm c (Wn - c) (Wn - c) Wn _ s.t (by omega) (by omega) (by omega) w1 o1 ho1 hq1)) rfl ?_
    (repeat' (first|refine Zb ?_|refine Zc ?_|refine Zd ?_|refine Zi ?_|refine Zu tab rfl rfl ?_|(apply Yc;refine Yd ?_)|fail))
    refine xt_roundK (k + 1) rfl ⟨rfl, trivial⟩ (by omega) (by omega) (fun w' h' => ?_)
    refine St.imps (h'.sublist (.cons _ (List.Sublist.refl _))) fun i => ?_
    match i with
    | 0 => exact ⟨rfl, fun _ h => h⟩
    | 1 => exact ⟨rfl, fun _ h => h⟩
    | 2 => exact ⟨rfl, fun _ h => h⟩
    | i + 3 =>
      simp only [List.getElem?_cons_succ]
      rw [lput_get]
      simp only [List.getElem?_cons_succ, Nat.add_right_cancel_iff]
      rw [List.getElem?_mapIdx, List.getElem?_mapIdx]
      cases hi : bs[i]? with
      | none => simp
      | some bi =>
        by_cases him : i = m
        · subst him
          simp only [Option.map_some, if_true]
          refine ⟨trivial, fun o ho => px_congr ho fun j hj => ?_⟩
          exact blackAt_row hs (by omega) hc j
        · simp only [Option.map_some, if_neg him]
          refine ⟨trivial, fun o ho => px_congr ho fun j hj => ?_⟩
          exact blackAt_other hs (by omega) _
  have hkn : k = ss.length := by have := of_decide_eq_false h; omega
  subst hkn
  rw [List.take_of_length_le (Nat.le_refl _)]
  (repeat' (first|refine Za ?_|refine Zb ?_|refine Zc ?_|refine Zd ?_|refine Ze ?_|refine Zh ?_|refine Zj ?_|refine Zl ?_|refine Zq ?_|refine Zu tab rfl rfl ?_|fail))
  refine t_loopK [2, 9, 121, 122] (α := Nat × Value × HL) (fun x => [(123, .int .i64 (x.1 : Int))]) (fun x => x.1 ≤ Hn ∧ OwnsV x.2.1 9 1 x.1 ((List.range x.1).map fun (m : Nat) => .string (rowB Wn fun (j : Nat) => blackAt ss (lf + j) (tp - m))) x.2.2 ∧ x.2.1.oneCell' = true)
    (fun x => (R, bx (bs.map (rowSl Wn)) 65) :: (b9, bx [.int .i64 lf, .int .i64 bt, .int .i64 Wn, .int .i64 Hn, x.2.1] 30) :: (b2, bx [.int .i64 0, .int .i64 0, .int .i64 0, .int .i64 0, .slice none 0 0] 30) :: ((bs.mapIdx fun m b => (b, px 5 Wn fun j => blackAt ss (lf + j) (tp - m))) ++ x.2.2))
    (fun x => Hn - x.1) (0, .slice none 0 0, []) rfl ⟨rfl, trivial⟩ ⟨by simp, OwnsV.nil, rfl⟩ (fun _ h => by simpa using h) ?_
  rintro ⟨m, rv, Lv⟩ ⟨hm, hown, h1c⟩
  simp only at hm hown h1c
  try dsimp only [List.cons_append, List.nil_append, List.map_cons, List.map_nil]
  (repeat' (first|refine Za ?_|refine Zb ?_|refine Zc ?_|refine Zd ?_|refine Zu tab rfl rfl ?_|fail))
  refine t_cond rfl (fun h => ?_) (fun h => ?_)
  · have hmn : m < Hn := by have := of_decide_eq_true h; omega
    obtain ⟨bm, hbm'⟩ : ∃ bm, bs[m]? = some bm := ⟨_, List.getElem?_eq_getElem (by omega)⟩
    have hrow : (bs.map (rowSl Wn))[0 + ((m : Int)).toNat * 1]? = some (rowSl Wn bm) := by
      rw [show (0 + ((m : Int)).toNat * 1) = m by omega, List.getElem?_map, hbm']
      rfl
    (repeat' (first|refine Za ?_|refine Zb ?_|refine Zc ?_|refine Ze ?_|refine Zf ?_|(apply Yn;refine Yo ?_)|fail))
    refine tl_load (o_loadB 0 rfl rfl hrow) rfl ?_
    (repeat' (first|refine Zb ?_|refine Zc ?_|refine Zd ?_|refine Zu tab rfl rfl ?_|(apply Zy;refine Zz ?_)|fail))
    have hmem : (bm, px 5 Wn fun j => blackAt ss (lf + j) (tp - m)) ∈ bs.mapIdx fun m b => (b, px 5 Wn fun j => blackAt ss (lf + j) (tp - m)) := List.mem_mapIdx.2 ⟨m, (List.getElem?_eq_some_iff.1 hbm').1, by rw [(List.getElem?_eq_some_iff.1 hbm').2]⟩
    refine tl_val (o_convPx (p := fun j => blackAt ss (lf + j) (tp - m)) rfl fun w' hw' => hw'.here _ (by simp only [List.mem_cons, List.mem_append]; exact .inr (.inr (.inr (.inl hmem))))) rfl rfl ?_
    (repeat' (first|(apply Yv;refine Yw fun _=>?_)|fail))
    refine tl_app ((R, bx (bs.map (rowSl Wn)) 65) :: (b9, bx [.int .i64 lf, .int .i64 bt, .int .i64 Wn, .int .i64 Hn, rv] 30) :: (b2, bx [.int .i64 0, .int .i64 0, .int .i64 0, .int .i64 0, .slice none 0 0] 30) :: (bs.mapIdx fun m b => (b, px 5 Wn fun j => blackAt ss (lf + j) (tp - m)))) rfl rfl hown rfl rfl rfl rfl rfl rfl (by omega) (by omega) fun bz cz => ?_
    (repeat' (first|refine Zb ?_|refine Zc ?_|refine Zd ?_|refine Zi ?_|refine Zu tab rfl rfl ?_|(apply Yc;refine Yd ?_)|(apply Ye;refine Yf ?_)|fail))
    refine xt_roundK (m + 1, .slice (some ⟨bz, 0, none⟩) (m + 1) cz, [(bz, row 9 1 (m + 1) cz ((List.range (m + 1)).map fun (m : Nat) => .string (rowB Wn fun (j : Nat) => blackAt ss (lf + j) (tp - m))))]) rfl ⟨rfl, trivial⟩ ⟨by simp only; omega, OwnsV.at_, rfl⟩ (by simp only; omega) fun w' h' => ?_
    rw [List.range_succ, List.map_append]
    exact h'
  have hmn : m = Hn := by have := of_decide_eq_false h; omega
  subst hmn
  (repeat' (first|refine Za ?_|refine Zb ?_|refine Zc ?_|refine Zh ?_|refine Zj ?_|refine Zl ?_|refine Zq ?_|(apply Zy;refine Zz ?_)|fail))
  refine tl_store (o_storeAN 2 rfl rfl rfl rfl rfl (by simp only [List.all_cons, h1c, List.all_nil, Bool.and_true]; rfl) rfl) ?_
  (repeat' (first|refine Zc ?_|refine Zd ?_|refine Zg ?_|fail))
  refine xt_retAS 2 rfl rfl rfl rfl fun w' hw' => ?_
  rw [bmIn, if_neg (by simp only; omega)]
  refine ⟨rv, ?_, ?_⟩
  · simp only [bmV]
    rw [hWn, hHn]
  · have hr := hown.rdI hw' (fun p hp => by simp [hp])
    simp only
    rw [hWn, hHn]
    simpa [List.map_map, Function.comp_def] using hr

end Go.Proofs.Ytbgolbkolcmldaa

/-
  The rows of a bitmap, moved; one bitmap over another one.
-/
namespace Go.Proofs.Ytbgolbkolcmldaa
open Go.RowKit
attribute [local irreducible] T TL Xt O Op1 Kt DV ObsB DE DW DW1 LoopQ LoopJ

def mvFrom (B : Bm) (x : Int) : Int := max (max 0 (-268435456 - B.X)) (-268435456 - B.X - x)
def mvTo (B : Bm) (x : Int) (row : ByteArray) : Int := min (min (min (row.size : Int) B.W) (268435456 - B.X + 1)) (268435456 - B.X - x + 1)
def mvRow (B : Bm) (x y : Int) (m : Nat) (row : ByteArray) : List Sp :=
  if cut (B.Y + B.H - 1 - m) ≠ B.Y + B.H - 1 - m ∨ cut (B.Y + B.H - 1 - m + y) ≠ B.Y + B.H - 1 - m + y then [] else
  if mvTo B x row ≤ mvFrom B x then [] else
  if firstIdx (row.extract (mvFrom B x).toNat (mvTo B x row).toNat) 35 < 0 then [] else
  [⟨B.X + x + mvFrom B x + firstIdx (row.extract (mvFrom B x).toNat (mvTo B x row).toNat) 35, B.Y + B.H - 1 - m + y, trim (row.extract (mvFrom B x).toNat (mvTo B x row).toNat)⟩]
def mvN (B : Bm) : Nat := min B.rows.length (max B.H 0).toNat
def mvTake (B : Bm) (x y : Int) (k : Nat) : List Sp := (List.range k).flatMap fun m => match B.rows[m]? with | some row => mvRow B x y m row | none => []
def movedS (B : Bm) (x y : Int) : List Sp := if B.near then mvTake B x y (mvN B) else []

theorem mvTake_succ (B : Bm) (x y : Int) (k : Nat) {row : ByteArray} (h : B.rows[k]? = some row) : mvTake B x y (k + 1) = mvTake B x y k ++ mvRow B x y k row := by
  simp [mvTake, List.range_succ, h]
theorem mvRow_le (B : Bm) (x y : Int) (m : Nat) (row : ByteArray) : (mvRow B x y m row).length ≤ 1 := by
  unfold mvRow
  split
  · simp
  · split
    · simp
    · split <;> simp
theorem mvTake_le (B : Bm) (x y : Int) (k : Nat) : (mvTake B x y k).length ≤ k := by
  induction k with
  | zero => simp [mvTake]
  | succ k ih =>
    have : mvTake B x y (k + 1) = mvTake B x y k ++ (match B.rows[k]? with | some row => mvRow B x y k row | none => []) := by simp [mvTake, List.range_succ]
    rw [this, List.length_append]
    cases h : B.rows[k]? with
    | none => simp; omega
    | some row => have := mvRow_le B x y k row; simp only; omega
theorem spCells_flat_snoc (l : List Sp) (s : Sp) : (l ++ [s]).flatMap spCells = l.flatMap spCells ++ [.int .i64 s.x, .int .i64 s.y, .string s.t] := by simp [spCells]

set_option maxHeartbeats 2000000 in
theorem moved_calls (w : World) (b : Value) (B : Bm) (hb : BmAt w b B) (hsz : B.rows.length ≤ 1000000 ∧ ∀ s ∈ B.rows, s.size ≤ 1000000) (x y : Int) (hx : -268435456 ≤ x ∧ x ≤ 268435456) (hy : -268435456 ≤ y ∧ y ≤ 268435456) : Calls Try.prog 50 #[b, .int .i64 x, .int .i64 y] w (Ret w fun v w' => Own w w' v 75 3 (movedS B x y).length ((movedS B x y).flatMap spCells)) := by
  obtain ⟨rb, rfl, hrb⟩ := hb
  obtain ⟨Ab, nb, cb, rfl, _, hcap, _⟩ := id hrb
  obtain ⟨hnb, hnb'⟩ := rows_len hrb
  refine calls_S (vs := [bmV B (.slice Ab nb cb), .int .i64 x, .int .i64 y]) Try.func50 rfl Try.ntmps50 rfl ?_
  (repeat' (first|refine Za ?_|refine Zb ?_|refine Zc ?_|refine Zd ?_|refine Zu tab rfl rfl ?_|(apply Zy;refine Zz ?_)|(apply Yg; first|refine Yh fun _=>?_|refine Yi (Yj rfl rfl) rfl fun _=>?_)|(apply Yt;refine Yu ?_)|fail))
  refine t_cond rfl (fun h => ?_) (fun h => ?_)
  · have hn : B.near = false := by simpa [Bm.near] using h
    (repeat' (first|refine Za ?_|refine Zb ?_|refine Zc ?_|refine Zd ?_|refine Zg ?_|refine Zk ?_|refine Zu tab rfl rfl ?_|fail))
    exact xt_ret1S rfl rfl fun _ _ => by rw [movedS, hn]; exact .inl ⟨rfl, rfl, rfl⟩
  have hn : B.near = true := by simpa [Bm.near] using h
  rw [movedS, hn, if_pos rfl]
  simp only [Bm.near, nearB, inB, Bool.and_eq_true, Bool.not_eq_true', Bool.or_eq_false_iff, decide_eq_false_iff_not] at hn
  have hN : min (nb : Int) (max B.H 0) = (mvN B : Int) := by unfold mvN; omega
  (repeat' (first|refine Za ?_|refine Zb ?_|refine Zc ?_|refine Zd ?_|refine Zf ?_|refine Zu tab rfl rfl ?_|(apply Zy;refine Zz ?_)|fail))
  rw [hN]
  refine tl_val (o_sliceH rfl rfl (by unfold mvN; omega)) rfl rfl ?_
  (repeat' (first|refine Zc ?_|refine Zd ?_|refine Ze ?_|refine Zu tab rfl rfl ?_|fail))
  rename_i b3
  refine t_loopK [1, 2, 3, 27, 28] (α := Nat × Value × HL) (fun z => [(7, z.2.1), (29, .int .i64 z.1)]) (fun z => z.1 ≤ mvN B ∧ OwnsV z.2.1 75 3 (mvTake B x y z.1).length ((mvTake B x y z.1).flatMap spCells) z.2.2)
    (fun z => (b3, bx [.int .i64 B.X, .int .i64 B.Y, .int .i64 B.W, .int .i64 B.H, .slice Ab nb cb] 30) :: z.2.2) (fun z => mvN B - z.1) (0, .slice none 0 0, []) rfl ⟨rfl, rfl, trivial⟩ ⟨by simp, OwnsV.nil⟩ (fun _ h => h) ?_
  rintro ⟨k, v, Lv⟩ ⟨hk, hown⟩
  simp only at hk hown
  try dsimp only [List.cons_append, List.nil_append, List.map_cons, List.map_nil]
  (repeat' (first|refine Za ?_|refine Zb ?_|refine Zc ?_|refine Zd ?_|refine Zu tab rfl rfl ?_|fail))
  have hmv : mvN B ≤ B.rows.length := Nat.min_le_left ..
  refine t_cond rfl (fun h => ?_) (fun h => ?_)
  · have hkn : k < mvN B := by have := of_decide_eq_true h; omega
    obtain ⟨s, hs⟩ : ∃ s, B.rows[k]? = some s := ⟨_, List.getElem?_eq_getElem (by omega)⟩
    obtain ⟨b1, o1, rfl, hc1⟩ := rows_cl hrb hs
    have hss := hsz.2 s (List.mem_of_getElem? hs)
    have hsucc := mvTake_succ B x y k hs
    have hle := mvTake_le B x y k
    (repeat' (first|refine Za ?_|refine Zb ?_|refine Zc ?_|refine Zd ?_|refine Ze ?_|refine Zf ?_|refine Zu tab rfl rfl ?_|(apply Zy;refine Zz ?_)|(apply Yc;refine Yd ?_)|(apply Yn;refine Yo ?_)|(apply Yt;refine Yu ?_)|fail))
    refine tl_if [1, 2, 3, 7, 9, 10, 27, 28, 29] (cut (B.Y + B.H - 1 - k) ≠ B.Y + B.H - 1 - k ∨ cut (B.Y + B.H - 1 - k + y) ≠ B.Y + B.H - 1 - k + y) rfl (fun Q' K => ?_) (fun hC => ?_) (fun hC => ?_)
    · (repeat' (first|refine Zd ?_|refine Zu tab rfl rfl ?_|refine Zv rfl rfl ?_|refine Zw rfl rfl rfl rfl ?_|(apply Ya;refine Yb ?_)|(apply Yc;refine Yd ?_)|(apply Yt;refine Yu ?_)|refine tl_guard rfl rfl rfl (fun _ => ?_) (fun _ => ?_)|fail))
      all_goals exact K _ _ rfl rfl (by simp_all <;> omega)
    · (repeat' (first|refine Zb ?_|refine Zc ?_|refine Zd ?_|refine Zh ?_|refine Zj ?_|refine Zl ?_|refine Zu tab rfl rfl ?_|(apply Yc;refine Yd ?_)|fail))
      refine xt_roundK (k + 1, v, Lv) rfl ⟨rfl, rfl, trivial⟩ ⟨by simp only; omega, ?_⟩ (by simp only; omega) (fun _ h => h)
      simp only
      rw [hsucc, mvRow, if_pos hC, List.append_nil]
      exact hown
    have hc := hC
    simp only [not_or, Decidable.not_not] at hc
    have hc1' := cut_bd (B.Y + B.H - 1 - k)
    have hc2' := cut_bd (B.Y + B.H - 1 - k + y)
    rw [hc.1] at hc1'
    rw [hc.2] at hc2'
    (repeat' (first|refine Za ?_|refine Zb ?_|refine Zc ?_|refine Zf ?_|refine Zu tab rfl rfl ?_|(apply Zy;refine Zz ?_)|(apply Yc;refine Yd ?_)|fail))
    refine tl_val (o_max3 rfl rfl rfl) rfl rfl ?_
    (repeat' (first|refine Za ?_|refine Zb ?_|refine Zc ?_|refine Zd ?_|refine Zu tab rfl rfl ?_|(apply Zy;refine Zz ?_)|(apply Yc;refine Yd ?_)|fail))
    refine tl_val (o_min4 rfl rfl rfl rfl) rfl rfl ?_
    (repeat' (first|refine Za ?_|refine Zb ?_|refine Zc ?_|refine Zd ?_|refine Zu tab rfl rfl ?_|fail))
    refine t_cond rfl (fun h => ?_) (fun h => ?_)
    · have hft : mvTo B x s ≤ mvFrom B x := of_decide_eq_true h
      (repeat' (first|refine Zb ?_|refine Zc ?_|refine Zd ?_|refine Zh ?_|refine Zj ?_|refine Zl ?_|refine Zu tab rfl rfl ?_|(apply Yc;refine Yd ?_)|fail))
      refine xt_roundK (k + 1, v, Lv) rfl ⟨rfl, rfl, trivial⟩ ⟨by simp only; omega, ?_⟩ (by simp only; omega) (fun _ h => h)
      simp only
      rw [hsucc, mvRow, if_neg hC, if_pos hft, List.append_nil]
      exact hown
    have hft : ¬ mvTo B x s ≤ mvFrom B x := of_decide_eq_false h
    have hf0 : 0 ≤ mvFrom B x := by unfold mvFrom; omega
    have ht0 : mvTo B x s ≤ s.size := by unfold mvTo; omega
    have hf1 : -268435456 ≤ B.X + x + mvFrom B x := by unfold mvFrom; omega
    have hf2 : B.X + x + mvTo B x s ≤ 268435457 := by unfold mvTo; omega
    obtain ⟨fm, hfm⟩ : ∃ fm : Nat, mvFrom B x = fm := ⟨(mvFrom B x).toNat, by omega⟩
    obtain ⟨to, hto⟩ : ∃ to : Nat, mvTo B x s = to := ⟨(mvTo B x s).toNat, by omega⟩
    have hxs : (s.extract fm to).size ≤ 1000000 := by rw [ByteArray.size_extract]; omega
    rw [show max (max 0 (-268435456 - B.X)) (-268435456 - B.X - x) = (fm : Int) from hfm, show min (min (min (s.size : Int) B.W) (268435456 - B.X + 1)) (268435456 - B.X - x + 1) = (to : Int) from hto]
    (repeat' (first|refine Za ?_|refine Zc ?_|refine Zf ?_|fail))
    refine t_drawW 19 [(0, .v), (1, .v), (2, .v), (3, .v), (4, .v), (5, .v), (6, .v), (7, .v), (8, .v), (9, .v), (10, .v), (11, .v), (12, .v), (13, .e), (14, .v), (15, .v), (16, .v), (17, .a), (18, .h)] ?_ rfl (by kernel_rfl) (by kernel_rfl) rfl (by kernel_rfl) mixed (by kernel_rfl) rfl
    (repeat' (first|refine Yz rfl ?_|refine Vd tab ?_|(apply Vf;refine Vg ?_)|(apply Vj;refine Vk ?_)|fail))
    refine dw_opN rfl rfl (fun _ => o_sliceS rfl rfl rfl (by omega) (by omega)) ?_
    have hi : CDet Try.prog 40 [.int .i64 (B.X + x + fm), .int .i64 (B.Y + B.H - 1 - k + y), .string (s.extract fm to)] (trimV (B.X + x + fm) (B.Y + B.H - 1 - k + y) (s.extract fm to)) := ⟨trimmed_det _ _ _ (by omega) (by omega)⟩
    unfold trimV at hi
    by_cases hfi : firstIdx (s.extract fm to) 35 < 0
    · rw [if_pos hfi] at hi
      (repeat' (first|refine Yz rfl ?_|refine Vd tab ?_|refine Ve fun _=>?_|(apply Vp;refine Vq ?_)|(apply Vr;refine Vs ?_)|fail))
      refine dw_end [1, 2, 3, 7, 13, 27, 28, 29, 99] (rest := []) rfl ?_
      (repeat' (first|refine Za ?_|refine Zb ?_|refine Zc ?_|refine Zd ?_|refine Zf ?_|refine Zi ?_|refine Zu tab rfl rfl ?_|(apply Yc;refine Yd ?_)|refine Yy rfl ?_|fail))
      refine xt_roundK (k + 1, v, Lv) rfl ⟨rfl, rfl, trivial⟩ ⟨by simp only; omega, ?_⟩ (by simp only; omega) (fun _ h => h.sublist (.cons _ (List.Sublist.refl _)))
      simp only
      rw [hsucc, mvRow, if_neg hC, if_neg hft, hfm, hto, Int.toNat_natCast, Int.toNat_natCast, if_pos hfi, List.append_nil]
      exact hown
    · rw [if_neg hfi] at hi
      have hrow : mvRow B x y k s = [⟨B.X + x + fm + firstIdx (s.extract fm to) 35, B.Y + B.H - 1 - k + y, trim (s.extract fm to)⟩] := by
        rw [mvRow, if_neg hC, if_neg hft, hfm, hto, Int.toNat_natCast, Int.toNat_natCast, if_neg hfi]
      (repeat' (first|refine Yz rfl ?_|refine Vd tab ?_|refine Ve fun _=>?_|(apply Vp;refine Vq ?_)|(apply Vr;refine Vs ?_)|fail))
      refine dw_end [1, 2, 3, 7, 13, 27, 28, 29, 99] (rest := []) rfl ?_
      (repeat' (first|refine Za ?_|refine Zb ?_|refine Zc ?_|refine Zd ?_|refine Zu tab rfl rfl ?_|(apply Zy;refine Zz ?_)|(apply Yv;refine Yw fun _=>?_)|refine Yx rfl ?_|fail))
      refine tl_app1 2 rfl rfl hown rfl rfl rfl rfl rfl rfl rfl rfl (by omega) (by omega) fun bz cz => ?_
      (repeat' (first|refine Zb ?_|refine Zc ?_|refine Zd ?_|refine Zi ?_|refine Zu tab rfl rfl ?_|(apply Yc;refine Yd ?_)|fail))
      refine xt_roundK (k + 1, .slice (some ⟨bz, 0, none⟩) ((mvTake B x y k).length + 1) cz, [(bz, row 75 3 ((mvTake B x y k).length + 1) cz ((mvTake B x y k).flatMap spCells ++ [.int .i64 (B.X + x + fm + firstIdx (s.extract fm to) 35), .int .i64 (B.Y + B.H - 1 - k + y), .string (trim (s.extract fm to))]))]) rfl ⟨rfl, rfl, trivial⟩ ⟨by simp only; omega, ?_⟩ (by simp only; omega) fun w' h' => ?_
      · simp only
        rw [hsucc, hrow, spCells_flat_snoc, List.length_append]
        exact OwnsV.at_
      · exact h'.sublist (.cons _ (List.Sublist.refl _))
  have hkn : k = mvN B := by have := of_decide_eq_false h; omega
  subst hkn
  (repeat' (first|refine Za ?_|refine Zb ?_|refine Zc ?_|refine Zd ?_|refine Zg ?_|refine Zh ?_|refine Zj ?_|refine Zl ?_|refine Zq ?_|refine Zu tab rfl rfl ?_|fail))
  refine xt_ret1S rfl rfl fun w' hw' => ?_
  exact hown.own hw' (fun p hp => by simp [hp])

theorem firstIdx_trim {s : ByteArray} (h : ¬ firstIdx s 35 < 0) : 0 ≤ firstIdx s 35 ∧ firstIdx s 35 < s.size ∧ 1 ≤ (trim s).size ∧ (trim s).size ≤ s.size ∧ firstIdx s 35 + (trim s).size ≤ s.size := by
  rcases firstIdx_spec s with ⟨h1, _⟩ | ⟨f, hf, hlt, hbk, hfirst⟩
  · omega
  rcases lastIdx_spec s with ⟨_, h2⟩ | ⟨l, hl, hl2, hbl, hlast⟩
  · rw [h2 f] at hbk; cases hbk
  have hfl : f ≤ l := by
    rcases Nat.lt_or_ge l f with h | h
    · rw [hlast f h] at hbk; cases hbk
    · exact h
  have hs : (trim s).size = l + 1 - f := by
    rw [trim, ByteArray.size_extract, hf, hl]
    simp only [Int.toNat_natCast]
    omega
  omega
theorem mvRow_ok {B : Bm} (hn : B.near = true) {x y : Int} (hx : -268435456 ≤ x ∧ x ≤ 268435456) {m : Nat} {row : ByteArray} (hr : row.size ≤ 1000000) {s : Sp} (h : s ∈ mvRow B x y m row) : SpOk s ∧ -268435456 ≤ s.x ∧ s.x + s.t.size - 1 ≤ 268435456 ∧ -268435456 ≤ s.y ∧ s.y ≤ 268435456 := by
  unfold mvRow at h
  split at h
  · simp at h
  rename_i hC
  simp only [not_or, Decidable.not_not] at hC
  have hc2' := cut_bd (B.Y + B.H - 1 - m + y)
  rw [hC.2] at hc2'
  split at h
  · simp at h
  rename_i hft
  split at h
  · simp at h
  rename_i hfi
  have ht := firstIdx_trim hfi
  simp only [List.mem_singleton] at h
  subst h
  have hf0 : 0 ≤ mvFrom B x := by unfold mvFrom; omega
  have ht0 : mvTo B x row ≤ row.size := by unfold mvTo; omega
  have hf1 : -268435456 ≤ B.X + x + mvFrom B x := by unfold mvFrom; omega
  have hf2 : B.X + x + mvTo B x row ≤ 268435457 := by unfold mvTo; omega
  rw [ByteArray.size_extract] at ht
  simp only [SpOk]
  omega
theorem movedS_ok {B : Bm} {x y : Int} (hsz : ∀ s ∈ B.rows, s.size ≤ 1000000) (hx : -268435456 ≤ x ∧ x ≤ 268435456) {s : Sp} (h : s ∈ movedS B x y) : SpOk s ∧ -268435456 ≤ s.x ∧ s.x + s.t.size - 1 ≤ 268435456 ∧ -268435456 ≤ s.y ∧ s.y ≤ 268435456 := by
  unfold movedS at h
  split at h
  · rename_i hn
    unfold mvTake at h
    obtain ⟨m, _, hm⟩ := List.mem_flatMap.1 h
    split at hm
    · rename_i row hrow
      exact mvRow_ok hn hx (hsz row (List.mem_of_getElem? hrow)) hm
    · simp at hm
  · simp at h
theorem movedS_le (B : Bm) (x y : Int) : (movedS B x y).length ≤ B.rows.length := by
  unfold movedS
  split
  · have := mvTake_le B x y (mvN B)
    have : mvN B ≤ B.rows.length := Nat.min_le_left ..
    omega
  · simp
theorem spCells_one (l : List Sp) : ∀ u ∈ l.flatMap spCells, u.oneCell' = true := by
  intro u hu
  obtain ⟨s, _, hs⟩ := List.mem_flatMap.1 hu
  simp only [spCells, List.mem_cons, List.not_mem_nil, or_false] at hs
  rcases hs with rfl | rfl | rfl <;> rfl

def Bm.small (B : Bm) : Prop := B.rows.length ≤ 1000000 ∧ ∀ s ∈ B.rows, s.size ≤ 1000000
def overB (A B : Bm) (x y : Int) : Bm := bmOf (movedS A 0 0 ++ movedS B (cut x) (cut y))

theorem OwnsV.shape {v : Value} {e sz n : Nat} {xs : List Value} {Lv : HL} (h : OwnsV v e sz n xs Lv) : ∃ A c, v = .slice A n c := by
  rcases h with ⟨rfl, rfl, rfl, rfl⟩ | ⟨b, cap, rfl, rfl⟩
  · exact ⟨none, 0, rfl⟩
  · exact ⟨_, _, rfl⟩
theorem OwnsV.cells {v : Value} {e sz n : Nat} {xs : List Value} {Lv : HL} {A : Option Addr} {c : Nat} (h : OwnsV v e sz n xs Lv) (hv : v = .slice A n c) (hn : 0 < n) : ∃ a, A = some a ∧ ∀ {w0 : World} {X : List Nat} {L : HL} {w : World}, St w0 X L w → (∀ p ∈ Lv, p ∈ L) → ∀ j u, xs[j]? = some u → w.cell? (a.add j) = some u := by
  rcases h with ⟨rfl, rfl, rfl, rfl⟩ | ⟨b, cap, rfl, rfl⟩
  · omega
  · injection hv with h1 h2 h3
    refine ⟨_, h1.symm, fun hs hm j u hj => ?_⟩
    rw [add_mk, Nat.zero_add]
    exact hs.rowCell (hm (b, row e sz n cap xs) (by simp)) hj

set_option maxHeartbeats 1000000 in
theorem over_calls (w : World) (a b : Value) (A B : Bm) (ha : BmAt w a A) (hb : BmAt w b B) (hA : A.small) (hB : B.small) (x y : Int) : Calls Try.prog 21 #[a, b, .int .i64 x, .int .i64 y] w (Ret w fun v w' => BmI w w' v (overB A B x y)) := by
  obtain ⟨ra, rfl, hra⟩ := id ha
  obtain ⟨rb, rfl, hrb⟩ := id hb
  obtain ⟨Aa, na, ca, rfl, _⟩ := id hra
  obtain ⟨Ab, nb, cb, rfl, _⟩ := id hrb
  have hbx := cut_bd x
  have hby := cut_bd y
  have hl1 := movedS_le A 0 0
  have hl2 := movedS_le B (cut x) (cut y)
  have hA1 := hA.1
  have hB1 := hB.1
  refine calls_S (vs := [bmV A (.slice Aa na ca), bmV B (.slice Ab nb cb), .int .i64 x, .int .i64 y]) Try.func21 rfl Try.ntmps21 rfl ?_
  (repeat' (first|refine Za ?_|refine Zb ?_|refine Zc ?_|refine Zd ?_|(apply Yg; first|refine Yh fun _=>?_|refine Yi (Yj rfl rfl) rfl fun _=>?_)|refine Yk rfl fun _=>?_|fail))
  rename_i b4 b5 b8
  refine t_drawW 7 [(0, .v), (2, .v), (3, .v), (5, .v), (1, .e), (4, .e), (6, .e)] ?_ rfl (by kernel_rfl) (by kernel_rfl) rfl (by kernel_rfl) mixed (by kernel_rfl) rfl
  (repeat' (first|refine Yz rfl ?_|refine Vd tab ?_|(apply Vf;refine Vg ?_)|fail))
  refine dw_callO (fun L' w1 hw1 => moved_calls w1 _ A ⟨_, rfl, hra.ext hw1.toExt⟩ hA 0 0 (by omega) (by omega)) rfl trivial rfl fun v1 Lv1 ho1 => ?_
  (repeat' (first|refine Yz rfl ?_|(apply Vp;refine Vq ?_)|fail))
  refine dw_end [8, 10, 11, 13, 15] (rest := []) rfl ?_
  refine tl_callO (fun w1 hw1 => moved_calls w1 _ B ⟨_, rfl, hrb.ext hw1.toExt⟩ hB (cut x) (cut y) hbx hby) rfl rfl fun v2 Lv2 ho2 => ?_
  obtain ⟨A2, c2, rfl⟩ := ho2.shape
  refine tl_appA (w0 := w) (X := []) (news := (movedS B (cut x) (cut y)).flatMap spCells) [(b8, bx [.int .i64 0, .int .i64 0, .int .i64 0, .int .i64 0, .slice none 0 0] 30)] rfl rfl ho1 (fun w1 hw1 => ?_) (fun hpos => ?_) rfl (flatMap_len spCells 3 (fun _ => rfl) _) (spCells_one _) (by omega) (by omega) rfl fun v3 Lv3 ho3 => ?_
  · refine (hw1.sublist (L' := [(b8, bx [.int .i64 0, .int .i64 0, .int .i64 0, .int .i64 0, .slice none 0 0] 30)] ++ Lv1) ?_).perm List.perm_append_comm
    exact ((List.Sublist.cons_cons _ (List.nil_sublist _)).append (List.Sublist.refl _)).trans (List.sublist_append_left ..)
  · obtain ⟨a, h1, h2⟩ := ho2.cells rfl hpos
    exact ⟨a, h1, fun w1 hw1 => h2 hw1 (fun p hp => by simp [hp])⟩
  rw [← List.flatMap_append, ← List.length_append] at ho3
  obtain ⟨A3, c3, rfl⟩ := ho3.shape
  refine tl_callR (Post := fun w1 v w2 => BmI w1 w2 v (overB A B x y)) (fun w1 hw1 => ?_) rfl rfl ?_
  · refine bitmap_calls _ (fun s hs => ?_) _ w1 (ho3.rdI hw1 (fun p hp => by simp [hp])).rd
    rcases List.mem_append.1 hs with hs | hs
    · exact (movedS_ok hA.2 (by omega) hs).1
    · exact (movedS_ok hB.2 hbx hs).1
  rintro w1 w2 v hw1 he ⟨rv, rfl, hr⟩
  obtain ⟨A4, n4, c4, rfl, _⟩ := id hr
  (repeat' (first|refine Zc ?_|refine Zd ?_|refine Zg ?_|(apply Ye;refine Yf ?_)|fail))
  refine xt_retAS 0 rfl rfl rfl rfl fun w3 hw3 => ⟨_, rfl, ?_⟩
  exact (hr.move (hw3.sg (fun p hp => by simp [hp]))).top hw1.size

end Go.Proofs.Ytbgolbkolcmldaa

/-
  The edges of lines, one by one, for rounds that make memory.
-/
namespace Go.Proofs.Ytbgolbkolcmldaa
open Go.RowKit
attribute [local irreducible] T TL Xt O Op1 Kt DV ObsB DE DW DW1 LoopQ LoopJ

theorem Keeps.cl {wd w : World} (h : Keeps wd w) {b k : Nat} {v : Value} (hc : Cl wd b k v) : Cl w b k v := ⟨Nat.lt_of_lt_of_le hc.1 h.size, h.cell (a := ⟨b, k, none⟩) hc.1 hc.2⟩
theorem Keeps.clA {wd w : World} (h : Keeps wd w) {b k : Nat} {cs : List Value} (hc : ClA wd b k cs) : ClA w b k cs := ⟨Nat.lt_of_lt_of_le hc.1 h.size, fun j v hj => h.cell (a := ⟨b, k + j, none⟩) hc.1 (hc.2 j v hj)⟩

set_option maxHeartbeats 2000000 in
theorem edges_iter2 (wd : World) (bl : Nat) (A : Option Addr) (n cap : Nat) (ls : List Pts) (hL : Lines wd (.slice A n cap) ls) :
    Iter2 Try.prog 72 [.pointer (some ⟨bl, 0, none⟩)] (fun _ _ _ e vs => vs = encE e) (edgesAll ls) (fun w => Keeps wd w ∧ Cl w bl 0 (.slice A n cap)) := by
  intro l B J W hB hloc hdata hY h0
  obtain ⟨_, _, hk0, hcl⟩ := hdata [] [] W h0
  have hnl := lines_len hL
  have hn := lines_le hL
  refine calls_S Try.func72 rfl Try.ntmps72 rfl ?_
  (repeat' (first|refine Za ?_|refine Zb ?_|refine Zc ?_|refine Zd ?_|refine Ze ?_|refine Zu tab rfl rfl ?_|(apply Zy;refine Zz ?_)|fail))
  refine t_loopJ [0, 10, 11] (α := Nat) (fun i => [(12, .int .i64 i)]) (fun i => i ≤ ls.length) (fun i => Hd B (J ((ls.take i).flatMap edgesOf)) []) (fun i => ls.length - i) 0 rfl ⟨rfl, trivial⟩ (Nat.zero_le _) (fun w hw => St.hd hw (by simpa using h0) (hloc _) (by simp) (by omega) (by simp)) fun i hi => ?_
  refine t_hd fun w1 ids hJ1 hB1 hX1 => ?_
  try dsimp only [List.cons_append, List.nil_append, List.map_cons, List.map_nil]
  obtain ⟨hfp, _, hk1, _⟩ := hdata _ _ _ hJ1
  (repeat' (first|refine Za ?_|refine Zb ?_|refine Zc ?_|refine Zd ?_|refine Zu tab rfl rfl ?_|fail))
  refine t_cond rfl (fun h => ?_) (fun h => ?_)
  · have hin : i < ls.length := by have := of_decide_eq_true h; omega
    obtain ⟨row, hrow⟩ : ∃ row, ls[i]? = some row := ⟨_, List.getElem?_eq_getElem hin⟩
    obtain ⟨b, off, A', n', cap', rfl, hc, hR⟩ := lines_cl hL hrow
    have hc1 := hk1.cl hc
    have hnr := row_len hR
    have hn' := row_le hR
    (repeat' (first|refine Za ?_|refine Zb ?_|refine Zc ?_|refine Zd ?_|refine Ze ?_|refine Zf ?_|refine Zu tab rfl rfl ?_|(apply Zy;refine Zz ?_)|(apply Yn;refine Yo ?_)|fail))
    refine t_loopJ [0, 4, 10, 11, 12, 16, 17] (α := Nat) (fun k => [(18, .int .i64 k)]) (fun k => k ≤ row.length) (fun k => Hd B (J ((ls.take i).flatMap edgesOf ++ edgesTo row k)) []) (fun k => row.length - k) 0 rfl ⟨rfl, trivial⟩ (Nat.zero_le _) (fun w hw => St.hd hw (by simpa [edgesTo] using hJ1) (hloc _) (by simp) (by omega) (fun k hk => (hfp k hk).2)) fun k hk => ?_
    refine t_hd fun w2 ids2 hJ2 hB2 hX2 => ?_
    try dsimp only [List.cons_append, List.nil_append, List.map_cons, List.map_nil]
    obtain ⟨hfp2, _, hk2, _⟩ := hdata _ _ _ hJ2
    (repeat' (first|refine Za ?_|refine Zb ?_|refine Zc ?_|refine Zd ?_|refine Zu tab rfl rfl ?_|fail))
    refine t_cond rfl (fun h => ?_) (fun h => ?_)
    · have hkn : k < row.length := by have := of_decide_eq_true h; omega
      obtain ⟨p, hp⟩ : ∃ p, row[k]? = some p := ⟨_, List.getElem?_eq_getElem hkn⟩
      have hmod : (k + 1) % row.length < row.length := Nat.mod_lt _ (by omega)
      obtain ⟨q, hq⟩ : ∃ q, row[(k + 1) % row.length]? = some q := ⟨_, List.getElem?_eq_getElem hmod⟩
      obtain ⟨b', off', rfl, hcp⟩ := row_cl hR hp
      obtain ⟨b'', off'', he, hcq⟩ := row_cl hR hq
      cases he
      have hcp2 := hk2.clA hcp
      have hcq2 := hk2.clA hcq
      (repeat' (first|refine Za ?_|refine Zb ?_|refine Zc ?_|refine Zd ?_|refine Ze ?_|refine Zf ?_|refine Zu tab rfl rfl ?_|(apply Zy;refine Zz ?_)|(apply Yc;refine Yd ?_)|(apply Ye;refine Yf ?_)|refine Yk rfl fun _=>?_|(apply Yn;refine Yo ?_)|fail))
      refine tl_bin (o_rem rfl rfl (by omega)) rfl ?_
      have hrem : ((k : Int) + 1).tmod (n' : Int) = (((k + 1) % row.length : Nat) : Int) := by
        rw [hnr, Int.tmod_eq_emod_of_nonneg (by omega)]; simp
      rw [hrem]
      have hpre := edges_prefix hrow (k := k + 1) (by omega)
      rw [edgesTo_succ] at hpre
      have hi : CDet Try.prog 73 [pt p.1 p.2, pt q.1 q.2] _ := ⟨edgeOf_det p.1 p.2 q.1 q.2⟩
      by_cases h1 : (edgeV p.1 p.2 q.1 q.2).2.1 < (edgeV p.1 p.2 q.1 q.2).2.2.2.1
      · have hat : edgeAt row k = [edgeV p.1 p.2 q.1 q.2] := by simp only [edgeAt, hp, hq, if_pos h1]
        rw [hat, ← List.append_assoc] at hpre
        rw [decide_eq_true h1] at hi
        (repeat' (first|refine Za ?_|refine Zb ?_|refine Zc ?_|refine Zd ?_|refine Zu tab rfl rfl ?_|refine Zv rfl rfl ?_|(apply Zy;refine Zz ?_)|(apply Ye;refine Yf ?_)|refine Yk rfl fun _=>?_|(apply Yn;refine Yo ?_)|(apply Yt;refine Yu ?_)|fail))
        refine tl_yield2 (Enc := fun _ _ _ e vs => vs = encE e) hloc (fun _ _ _ h k hk => ((hdata _ _ _ h).1 k hk).2) hY hpre hJ2 (by simp) hB2 rfl rfl (fun _ _ => rfl) rfl fun w3 ids3 hJ3 hB3 hX3 => ?_
        try dsimp only [List.cons_append, List.nil_append, List.map_cons, List.map_nil]
        (repeat' (first|refine Zb ?_|refine Zc ?_|refine Zd ?_|refine Zf ?_|refine Zi ?_|refine Zu tab rfl rfl ?_|refine Zv rfl rfl ?_|(apply Ya;refine Yb ?_)|(apply Yc;refine Yd ?_)|refine Yy rfl ?_|fail))
        refine xt_roundJ (k + 1) rfl ⟨rfl, trivial⟩ (by omega) (by omega) fun w hw => ?_
        refine St.hd (hw.sublist (List.nil_sublist _)) (ids := ids3) ?_ (hloc _) (by simpa using hX3) hB3 (fun k hk => ((hdata _ _ _ hJ3).1 k hk).2)
        rw [edgesTo_succ, hat, ← List.append_assoc]
        exact hJ3
      · have hat : edgeAt row k = [] := by simp only [edgeAt, hp, hq, if_neg h1]
        rw [decide_eq_false h1] at hi
        (repeat' (first|refine Za ?_|refine Zb ?_|refine Zc ?_|refine Zd ?_|refine Zf ?_|refine Zi ?_|refine Zu tab rfl rfl ?_|refine Zw rfl rfl rfl rfl ?_|(apply Zy;refine Zz ?_)|(apply Ya;refine Yb ?_)|(apply Yc;refine Yd ?_)|(apply Ye;refine Yf ?_)|refine Yk rfl fun _=>?_|(apply Yn;refine Yo ?_)|(apply Yt;refine Yu ?_)|refine Yy rfl ?_|fail))
        refine xt_roundJ (k + 1) rfl ⟨rfl, trivial⟩ (by omega) (by omega) fun w hw => ?_
        refine St.hd (hw.sublist (List.nil_sublist _)) (ids := ids2) ?_ (hloc _) (by simp) hB2 (fun k hk => (hfp2 k hk).2)
        rw [edgesTo_succ, hat, List.append_nil]
        exact hJ2
    · have hkk : k = row.length := by have := of_decide_eq_false h; omega
      subst hkk
      (repeat' (first|refine Zb ?_|refine Zc ?_|refine Zd ?_|refine Zh ?_|refine Zi ?_|refine Zj ?_|refine Zl ?_|refine Zs ?_|refine Zu tab rfl rfl ?_|(apply Yc;refine Yd ?_)|fail))
      refine xt_roundJ (i + 1) rfl ⟨rfl, trivial⟩ (by omega) (by omega) fun w hw => ?_
      refine St.hd hw (ids := ids2) ?_ (hloc _) (by simp) hB2 (fun k hk => (hfp2 k hk).2)
      rw [flatMap_take_succ edgesOf ls i row hrow]
      exact hJ2
  · have hii : i = ls.length := by have := of_decide_eq_false h; omega
    subst hii
    rw [List.take_length] at hJ1
    (repeat' (first|refine Zh ?_|refine Zj ?_|refine Zl ?_|refine Zs ?_|fail))
    refine xt_end0 rfl fun w' hw' => ⟨⟨_, rfl⟩, ?_⟩
    obtain ⟨ids', h1, _⟩ := St.hd hw' hJ1 (hloc _) (by simp) hB1 (fun k hk => (hfp k hk).2)
    exact ⟨ids', h1⟩

end Go.Proofs.Ytbgolbkolcmldaa

/-
  The stretches of a row of crossings, one by one.
-/
namespace Go.Proofs.Ytbgolbkolcmldaa
open Go.RowKit
attribute [local irreducible] T TL Xt O Op1 Kt DV ObsB DE DW DW1 LoopQ LoopJ

structure Cr where
  n : Int
  d : Int
  t : Int
def crCells (c : Cr) : List Value := [.int .i64 c.n, .int .i64 c.d, .int .i64 c.t]
abbrev Place := Int × Int
def Cr.p (c : Cr) : Place := (c.n, c.d)

def eqAt (a b : Cr) : Bool := decide (cmpI (a.n * b.d) (b.n * a.d) = 0)
def takeRun (c : Cr) : List Cr → Int → Int × List Cr
  | [], t => (t, [])
  | a :: r, t => if eqAt a c then takeRun c r (t + a.t) else (t, a :: r)
theorem takeRun_len (c : Cr) : ∀ (l : List Cr) (t : Int), (takeRun c l t).2.length ≤ l.length
  | [], t => by simp [takeRun]
  | a :: r, t => by
    unfold takeRun
    split
    · have := takeRun_len c r (t + a.t); simp; omega
    · simp
def strs : List Cr → Int → Place → List (Place × Place)
  | [], _, _ => []
  | c :: r, t, f =>
    (if t ≠ 0 ∧ (takeRun c r (t + c.t)).1 = 0 then [((if t = 0 ∧ (takeRun c r (t + c.t)).1 ≠ 0 then c.p else f), c.p)] else []) ++
      strs (takeRun c r (t + c.t)).2 (takeRun c r (t + c.t)).1 (if t = 0 ∧ (takeRun c r (t + c.t)).1 ≠ 0 then c.p else f)
termination_by l => l.length
decreasing_by
  have := takeRun_len c r (t + c.t)
  simp
  omega

theorem eqAt_self (c : Cr) : eqAt c c = true := by simp [eqAt, cmpI]
def encP (x : Place × Place) : List Value := [pl x.1.1 x.1.2, pl x.2.1 x.2.2]

structure CrOk (c : Cr) : Prop where
  p : PlOk c.n c.d
  t : c.t = 1 ∨ c.t = -1

theorem crs_len {w : World} {cs : List Cr} {A : Option Addr} {n cap : Nat} (h : Rd w 3 (.slice A n cap) (cs.flatMap crCells)) : n = cs.length ∧ n ≤ 9223372036854775807 := by
  obtain ⟨A', n', cap', he, hl, h1, h2, _⟩ := h
  cases he
  rw [flatMap_len crCells 3 (fun _ => rfl)] at hl
  unfold maxLen at h2
  omega
theorem crs_cl {w : World} {cs : List Cr} {A : Option Addr} {n cap k : Nat} {c : Cr} (h : Rd w 3 (.slice A n cap) (cs.flatMap crCells)) (hs : cs[k]? = some c) : ∃ b off, A = some ⟨b, off, none⟩ ∧ ClA w b (off + k * 3) [.int .i64 c.n, .int .i64 c.d, .int .i64 c.t] := by
  have hn := (crs_len h).1
  obtain ⟨A', n', cap', he, hl, _, _, hr⟩ := h
  cases he
  have hk : k < cs.length := (List.getElem?_eq_some_iff.1 hs).1
  obtain ⟨b, off, rfl, hb, hc⟩ := hr (by omega)
  refine ⟨b, off, rfl, hb, fun j v hj => ?_⟩
  have := hc _ _ (flatMap_get crCells 3 (fun _ => rfl) cs k j c v hs hj)
  rwa [← Nat.add_assoc] at this
/-- the first two cells -/
theorem ClA.two {w : World} {b k : Nat} {u v x : Value} (h : ClA w b k [u, v, x]) : ClA w b (k + 0) [u, v] := ⟨h.1, fun j z hj => by
  rw [Nat.add_zero]
  refine h.2 j z ?_
  match j, hj with
  | 0, hj => simpa using hj
  | 1, hj => simpa using hj
  | j + 2, hj => simp at hj⟩

theorem takeRun_drop {cs : List Cr} {c a : Cr} {j : Nat} {t : Int} (ha : cs[j]? = some a) (he : eqAt a c = true) : takeRun c (cs.drop j) t = takeRun c (cs.drop (j + 1)) (t + a.t) := by
  have : cs.drop j = a :: cs.drop (j + 1) := by
    rw [List.drop_eq_getElem_cons (List.getElem?_eq_some_iff.1 ha).1, (List.getElem?_eq_some_iff.1 ha).2]
  rw [this, takeRun, if_pos he]
theorem takeRun_stop {cs : List Cr} {c a : Cr} {j : Nat} {t : Int} (ha : cs[j]? = some a) (he : eqAt a c = false) : takeRun c (cs.drop j) t = (t, cs.drop j) := by
  have : cs.drop j = a :: cs.drop (j + 1) := by
    rw [List.drop_eq_getElem_cons (List.getElem?_eq_some_iff.1 ha).1, (List.getElem?_eq_some_iff.1 ha).2]
  rw [this, takeRun, if_neg (by simp [he])]

theorem dw_gd {P : Program} {r : Option Nat} {Q : Exit → Act → World → Prop} {nt : Nat} {D : List Deferred} {fr : Fr} {w0 : World} {X : List Nat} {L : HL} {l : List Oper} {n0 : Nat} {k j : Nat} {s : Sk} {sk : SkL} {acc : Fr} {Hn : HL} {want b : Bool} {dd : Option Tmp} {op : Op} {ty : TypeId} {pos : String} {af : Array Edge} (hj : lv acc j = .bool b) (ht : b = want → DW1 P l fr w0 X (finW P r l n0 Q nt D fr w0 X) k s ⟨dd, op, ty, pos, af, some (j, want)⟩ sk ((j, .bool want) :: acc) L Hn) (hf : b = !want → DW1 P l fr w0 X (finW P r l n0 Q nt D fr w0 X) k s ⟨dd, op, ty, pos, af, some (j, want)⟩ sk ((j, .bool (!want)) :: acc) L Hn) : DW1 P l fr w0 X (finW P r l n0 Q nt D fr w0 X) k s ⟨dd, op, ty, pos, af, some (j, want)⟩ sk acc L Hn := dw_guard hj ht hf

/-- ways out of a loop meet -/
theorem t_join {P : Program} {r : Option Nat} {Q : Exit → Act → World → Prop} {nt : Nat} {D : List Deferred} {fr : Fr} {I : World → Prop} {w0 : World} {X : List Nat} {cd : Code} {id : Nat} {β : Type} (ks : List Nat) {fr0 : Fr} (st' : β → Fr) (C' : β → Prop) (J' : β → HL) (hks : keep fr ks = some fr0)
    (h : ∀ Q', (∀ fr' y I', C' y → fle (st' y) fr' → keep fr' ks = some fr0 → (∀ w, I' w → St w0 X (J' y) w) → Xt P (.exit id) Q' nt D fr' I') → T P r cd Q' nt D fr I) (h2 : ∀ y, C' y → Xt P .normal Q nt D (st' y ++ fr0) (St w0 X (J' y))) : T P r cd (Exit.inBlock id Q) nt D fr I :=
  h _ fun fr' y I' hC hf hk hI => xt_blk_exit (xt_weak (fle_append _ _ _ hf (keep_fle _ _ hk)) hI (h2 y hC))

set_option maxHeartbeats 4000000 in
theorem stretches_iter (bl : Nat) (A : Option Addr) (n cap : Nat) (cs : List Cr) (hok : ∀ c ∈ cs, CrOk c) (hcs : cs.length ≤ 1000000000) :
    Iter2 Try.prog 66 [.pointer (some ⟨bl, 0, none⟩)] (fun _ _ _ e vs => vs = encP e) (strs cs 0 (0, 0)) (fun w => Rd w 3 (.slice A n cap) (cs.flatMap crCells) ∧ Cl w bl 0 (.slice A n cap)) := by
  intro l B J W hB hloc hdata hY h0
  obtain ⟨_, _, hr0, hcl0⟩ := hdata [] [] W h0
  obtain ⟨hn, hn'⟩ := crs_len hr0
  have hblB : bl < B := by rw [← hB]; exact hcl0.1
  refine calls_S Try.func66 rfl Try.ntmps66 rfl ?_
  (repeat' (first|refine Za ?_|refine Zb ?_|refine Zc ?_|refine Zd ?_|refine Ze ?_|refine Zu tab rfl rfl ?_|refine Yk rfl fun _=>?_|fail))
  rename_i b4
  refine t_loopJ [0, 1, 4] (α := Nat × Int × Place × List (Place × Place)) (fun x => [(3, .int .i64 x.2.1), (5, .int .i64 x.1)]) (fun x => x.1 ≤ cs.length ∧ -(x.1 : Int) ≤ x.2.1 ∧ x.2.1 ≤ x.1 ∧ x.2.2.2 ++ strs (cs.drop x.1) x.2.1 x.2.2.1 = strs cs 0 (0, 0)) (fun x => Hd B (J x.2.2.2) [(b4, bx [.int .i64 x.2.2.1.1, .int .i64 x.2.2.1.2] 71)]) (fun x => cs.length - x.1) (0, 0, (0, 0), []) rfl ⟨rfl, rfl, trivial⟩ ⟨by simp, by simp, by simp, by simp⟩ (fun w hw => St.hd hw h0 (hloc _) (by simp) (by omega) (by simp)) ?_
  rintro ⟨i, t, f, pre⟩ ⟨hi, ht1, ht2, hq⟩
  simp only at hi ht1 ht2 hq
  refine t_hd fun w1 ids hJ1 hB1 hX1 => ?_
  try dsimp only [List.cons_append, List.nil_append, List.map_cons, List.map_nil]
  simp only [List.map_cons, List.map_nil, List.mem_singleton, forall_eq] at hX1
  obtain ⟨hfp, _, hr1, hcl1⟩ := hdata _ _ _ hJ1
  have hblX : bl ∉ [b4] := by simp; omega
  (repeat' (first|refine Za ?_|refine Zb ?_|refine Zc ?_|refine Zd ?_|refine Zu tab rfl rfl ?_|(apply Zy;refine Zz ?_)|fail))
  refine t_cond rfl (fun h => ?_) (fun h => ?_)
  · have hin : i < cs.length := by have := of_decide_eq_true h; omega
    obtain ⟨c, hc⟩ : ∃ c, cs[i]? = some c := ⟨_, List.getElem?_eq_getElem hin⟩
    obtain ⟨b, off, hA, hc0⟩ := crs_cl hr0 hc
    obtain ⟨b', off', hA', hc1⟩ := crs_cl hr1 hc
    rw [hA] at hA'
    cases hA'
    subst hA
    have hbB : b < B := by rw [← hB]; exact hc0.1
    have hbX : b ∉ [b4] := by simp; omega
    have hc2 := hc1.two
    have hoc := hok c (List.mem_of_getElem? hc)
    have hpc := hoc.p
    (repeat' (first|refine Za ?_|refine Zb ?_|refine Zc ?_|refine Zd ?_|refine Ze ?_|refine Zf ?_|refine Zu tab rfl rfl ?_|(apply Zy;refine Zz ?_)|(apply Ye;refine Yf ?_)|refine Yk rfl fun _=>?_|(apply Yn;refine Yo ?_)|fail))
    rename_i b6
    refine t_join (w0 := w1) (X := [b4]) [0, 1, 4, 6, 7] (β := Nat × Int) (fun y => [(3, .int .i64 y.2), (5, .int .i64 y.1)]) (fun y => i < y.1 ∧ y.1 ≤ cs.length ∧ -(y.1 : Int) ≤ y.2 ∧ y.2 ≤ y.1 ∧ takeRun c (cs.drop i) t = (y.2, cs.drop y.1)) (fun y => [(b6, bx [.int .i64 c.n, .int .i64 c.d] 71), (b4, bx [.int .i64 f.1, .int .i64 f.2] 71)]) rfl (fun Q' K => ?_) ?_
    rotate_left
    · rintro ⟨j, t'⟩ ⟨hij, hj, hj1, hj2, hrun⟩
      simp only at hij hj hj1 hj2 hrun
      try dsimp only [List.cons_append, List.nil_append, List.map_cons, List.map_nil]
      have hdr : cs.drop i = c :: cs.drop (i + 1) := by rw [List.drop_eq_getElem_cons hin, (List.getElem?_eq_some_iff.1 hc).2]
      have hrun' : takeRun c (cs.drop (i + 1)) (t + c.t) = (t', cs.drop j) := by
        rw [← hrun, hdr, takeRun, if_pos (eqAt_self c)]
      rw [hdr, strs, hrun'] at hq
      simp only at hq
      have hX2 : ∀ k ∈ [b4], B ≤ k ∧ k ∉ ids := by simpa using hX1
      by_cases ht0 : t = 0
      · subst ht0
        by_cases ht' : t' = 0
        · subst ht'
          simp at hq
          (repeat' (first|refine Za ?_|refine Zb ?_|refine Zc ?_|refine Zd ?_|refine Zf ?_|refine Zi ?_|refine Zu tab rfl rfl ?_|refine Zv rfl rfl ?_|refine Zw rfl rfl rfl rfl ?_|(apply Ya;refine Yb ?_)|refine Yy rfl ?_|fail))
          refine xt_roundJ (j, 0, f, pre) rfl ⟨rfl, rfl, trivial⟩ ⟨hj, hj1, hj2, hq⟩ (by simp only; omega) fun w hw => ?_
          exact St.hd (hw.sublist (.cons _ (List.Sublist.refl _))) hJ1 (hloc _) hX2 hB1 (fun k hk => (hfp k hk).2)
        · simp [ht'] at hq
          (repeat' (first|refine Za ?_|refine Zb ?_|refine Zc ?_|refine Zd ?_|refine Zu tab rfl rfl ?_|refine Zv rfl rfl ?_|(apply Ya;refine Yb ?_)|fail))
          refine t_cond rfl (fun _ => ?_) (fun h => absurd (of_decide_eq_false h) (by simpa using ht'))
          (repeat' (first|refine Za ?_|refine Zb ?_|refine Zc ?_|refine Zd ?_|refine Zf ?_|refine Zi ?_|refine Zu tab rfl rfl ?_|refine Zw rfl rfl rfl rfl ?_|(apply Zy;refine Zz ?_)|(apply Ya;refine Yb ?_)|(apply Ye;refine Yf ?_)|refine Yy rfl ?_|fail))
          refine xt_roundJ (j, t', c.p, pre) rfl ⟨rfl, rfl, trivial⟩ ⟨hj, hj1, hj2, hq⟩ (by simp only; omega) fun w hw => ?_
          exact St.hd (hw.sublist (.cons _ (List.Sublist.refl _))) hJ1 (hloc _) hX2 hB1 (fun k hk => (hfp k hk).2)
      · by_cases ht' : t' = 0
        · subst ht'
          simp only [ne_eq, ht0, not_false_eq_true, and_self, if_true, false_and, if_false] at hq
          rw [← List.append_assoc] at hq
          (repeat' (first|refine Za ?_|refine Zb ?_|refine Zc ?_|refine Zu tab rfl rfl ?_|fail))
          refine tl_guard rfl rfl rfl (fun h => absurd (of_decide_eq_true h) ht0) (fun _ => ?_)
          (repeat' (first|refine Za ?_|refine Zb ?_|refine Zc ?_|refine Zd ?_|refine Zf ?_|refine Zu tab rfl rfl ?_|refine Zw rfl rfl rfl rfl ?_|(apply Ya;refine Yb ?_)|refine Yy rfl ?_|fail))
          refine tl_guard rfl rfl rfl (fun _ => ?_) (fun h => absurd ht0 (by simpa using h))
          (repeat' (first|refine Zu tab rfl rfl ?_|refine Zv rfl rfl ?_|(apply Zy;refine Zz ?_)|(apply Ya;refine Yb ?_)|fail))
          refine tl_yield2 (Enc := fun _ _ _ e vs => vs = encP e) (y := (f, c.p)) hloc (fun _ _ _ h k hk => ((hdata _ _ _ h).1 k hk).2) hY ⟨_, hq⟩ hJ1 hX2 hB1 rfl rfl (fun _ _ => rfl) rfl fun w3 ids3 hJ3 hB3 hX3 => ?_
          try dsimp only [List.cons_append, List.nil_append, List.map_cons, List.map_nil]
          (repeat' (first|refine Zc ?_|refine Zd ?_|refine Zf ?_|refine Zi ?_|refine Zu tab rfl rfl ?_|refine Zv rfl rfl ?_|(apply Ya;refine Yb ?_)|refine Yy rfl ?_|fail))
          refine xt_roundJ (j, 0, f, pre ++ [(f, c.p)]) rfl ⟨rfl, rfl, trivial⟩ ⟨hj, hj1, hj2, hq⟩ (by simp only; omega) fun w hw => ?_
          exact St.hd (hw.sublist (.cons _ (List.Sublist.refl _))) hJ3 (hloc _) hX3 hB3 (fun k hk => ((hdata _ _ _ hJ3).1 k hk).2)
        · simp only [ne_eq, ht0, ht', not_false_eq_true, and_false, if_false, false_and, List.nil_append] at hq
          (repeat' (first|refine Za ?_|refine Zb ?_|refine Zc ?_|refine Zu tab rfl rfl ?_|fail))
          refine tl_guard rfl rfl rfl (fun h => absurd (of_decide_eq_true h) ht0) (fun _ => ?_)
          (repeat' (first|refine Za ?_|refine Zb ?_|refine Zc ?_|refine Zd ?_|refine Zf ?_|refine Zu tab rfl rfl ?_|refine Zw rfl rfl rfl rfl ?_|(apply Ya;refine Yb ?_)|refine Yy rfl ?_|fail))
          refine tl_guard rfl rfl rfl (fun _ => ?_) (fun h => absurd ht0 (by simpa using h))
          (repeat' (first|refine Zu tab rfl rfl ?_|refine Zv rfl rfl ?_|(apply Ya;refine Yb ?_)|fail))
          refine tl_guard rfl rfl rfl (fun h => absurd (of_decide_eq_true h) ht') (fun _ => ?_)
          (repeat' (first|refine Zc ?_|refine Zd ?_|refine Zf ?_|refine Zi ?_|refine Zw rfl rfl rfl rfl ?_|(apply Ya;refine Yb ?_)|refine Yy rfl ?_|fail))
          refine xt_roundJ (j, t', f, pre) rfl ⟨rfl, rfl, trivial⟩ ⟨hj, hj1, hj2, hq⟩ (by simp only; omega) fun w hw => ?_
          exact St.hd (hw.sublist (.cons _ (List.Sublist.refl _))) hJ1 (hloc _) hX2 hB1 (fun k hk => (hfp k hk).2)
    refine t_loopK [0, 1, 4, 6, 7] (α := Nat × Int) (fun x => [(3, .int .i64 x.2), (5, .int .i64 x.1)]) (fun x => i ≤ x.1 ∧ x.1 ≤ cs.length ∧ -(x.1 : Int) ≤ x.2 ∧ x.2 ≤ x.1 ∧ takeRun c (cs.drop i) t = takeRun c (cs.drop x.1) x.2) (fun x => [(b6, bx [.int .i64 c.n, .int .i64 c.d] 71), (b4, bx [.int .i64 f.1, .int .i64 f.2] 71)]) (fun x => cs.length - x.1) (i, t) rfl ⟨rfl, rfl, trivial⟩ ⟨Nat.le_refl _, hi, ht1, ht2, rfl⟩ (fun _ h => h) ?_
    rintro ⟨j, t'⟩ ⟨hij, hj, hj1, hj2, hrun⟩
    simp only at hij hj hj1 hj2 hrun
    try dsimp only [List.cons_append, List.nil_append, List.map_cons, List.map_nil]
    (repeat' (first|refine Za ?_|fail))
    refine t_drawW 11 [(0, .v), (1, .v), (2, .v), (3, .v), (4, .v), (5, .v), (6, .v), (7, .v), (8, .v), (9, .v), (10, .v)] ?_ rfl (by kernel_rfl) (by kernel_rfl) rfl (by kernel_rfl) mixed (by kernel_rfl) rfl
    (repeat' (first|refine Yz rfl ?_|refine Vd tab ?_|(apply Vf;refine Vg ?_)|fail))
    refine dw_gd rfl (fun h => ?_) (fun h => ?_)
    · have hjn : j < cs.length := by have := of_decide_eq_true h; omega
      obtain ⟨a, ha⟩ : ∃ a, cs[j]? = some a := ⟨_, List.getElem?_eq_getElem hjn⟩
      obtain ⟨b', off', hA', hca⟩ := crs_cl hr1 ha
      cases hA'
      have hca2 := hca.two
      have hoa := hok a (List.mem_of_getElem? ha)
      have hmb := md_bd hoa.p hpc
      have hd : CDet Try.prog 45 [pl a.n a.d, pl c.n c.d] (.int .i64 (cmpI (a.n * c.d) (c.n * a.d))) := ⟨compare_det _ _ _ _ (by omega) (by omega)⟩
      have hta := hoa.t
      (repeat' (first|refine Yz rfl ?_|refine Vd tab ?_|(apply Vf;refine Vg ?_)|(apply Vl;refine Vm ?_)|fail))
      refine dw_end [0, 1, 3, 4, 5, 6, 7, 22, 27, 28] (rest := []) rfl ?_
      clear hca2 hc2
      (repeat' (first|refine Zc ?_|refine Zd ?_|refine Zu tab rfl rfl ?_|refine Zv rfl rfl ?_|(apply Ya;refine Yb ?_)|(apply Yt;refine Yu ?_)|fail))
      refine t_cond rfl (fun h => ?_) (fun h => ?_)
      · have he : eqAt a c = true := by simpa [eqAt] using h
        (repeat' (first|refine Za ?_|refine Zb ?_|refine Zc ?_|refine Zd ?_|refine Ze ?_|refine Zf ?_|refine Zi ?_|refine Zu tab rfl rfl ?_|(apply Zy;refine Zz ?_)|(apply Yc;refine Yd ?_)|(apply Yn;refine Yo ?_)|fail))
        refine xt_roundK (j + 1, t' + a.t) rfl ⟨rfl, rfl, trivial⟩ ⟨by simp only; omega, by simp only; omega, by simp only; omega, by simp only; omega, by rw [hrun]; exact takeRun_drop ha he⟩ (by simp only; omega) (fun _ h => h)
      · have he : eqAt a c = false := by simpa [eqAt] using h
        rw [takeRun_stop ha he] at hrun
        have hij' : i < j := by
          rcases Nat.lt_or_ge i j with h' | h'
          · exact h'
          · obtain rfl : i = j := by omega
            rw [hc] at ha
            injection ha with ha
            subst ha
            rw [eqAt_self] at he
            cases he
        (repeat' (first|refine Zh ?_|refine Zl ?_|refine Zq ?_|fail))
        exact K _ (j, t') _ ⟨hij', hj, hj1, hj2, hrun⟩ ⟨rfl, rfl, trivial⟩ rfl (fun _ h => h)
    · have hjn : j = cs.length := by have := of_decide_eq_false h; omega
      have hrun2 : takeRun c (cs.drop i) t = (t', cs.drop j) := by
        rw [hrun, List.drop_of_length_le (by omega)]; rfl
      (repeat' (first|refine Yz rfl ?_|(apply Va; first|refine Vb ?_|refine Vc ?_)|fail))
      refine dw_end [0, 1, 3, 4, 5, 6, 7, 22, 27, 28] (rest := []) rfl ?_
      (repeat' (first|refine Zc ?_|refine Zd ?_|refine Zh ?_|refine Zl ?_|refine Zq ?_|refine Zw rfl rfl rfl rfl ?_|(apply Ya;refine Yb ?_)|refine Yy rfl ?_|fail))
      exact K _ (j, t') _ ⟨by simp only; omega, hj, hj1, hj2, hrun2⟩ ⟨rfl, rfl, trivial⟩ rfl (fun _ h => h)
  · have hii : i = cs.length := by have := of_decide_eq_false h; omega
    subst hii
    rw [List.drop_of_length_le (Nat.le_refl _), strs, List.append_nil] at hq
    subst hq
    (repeat' (first|refine Zh ?_|refine Zj ?_|refine Zl ?_|refine Zs ?_|fail))
    refine xt_end0 rfl fun w' hw' => ⟨⟨_, rfl⟩, ?_⟩
    obtain ⟨ids', h1, _⟩ := St.hd hw' hJ1 (hloc _) (by simpa using hX1) hB1 (fun k hk => (hfp k hk).2)
    exact ⟨ids', h1⟩

end Go.Proofs.Ytbgolbkolcmldaa
