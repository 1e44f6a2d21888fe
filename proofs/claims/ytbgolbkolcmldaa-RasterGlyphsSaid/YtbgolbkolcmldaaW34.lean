/-
  The document's answer: the bitmap of some pixels.
-/
import Derived.Test.YtbgolbkolcmldaaGI
namespace Go.Proofs.Ytbgolbkolcmldaa
open Go.RowKit
section
variable {P : Program} {fr : Fr} {I : World → Prop} {w0 : World} {X : List Nat} {L : HL} {d : Option Tmp} {ty t t' : TypeId} {pos : String} {af : Array Edge} {g : Option (Nat × Bool)} {x y z : Operand} {u : Value}
/-- a cut at both ends -/
theorem o_sliceLH {e sz by_ : Nat} {b off len cap m n : Nat} {k k' : IntKind} [hc : CSl P t e sz by_] (hx : fev fr x = some (.slice (some ⟨b, off, none⟩) len cap)) (hy : fev fr y = some (.int k (m : Int))) (hz : fev fr z = some (.int k' (n : Int))) (h : m ≤ n) (h' : n ≤ cap) (h2 : m < cap) : Pv P ⟨d, .slice t x (some y) (some z) none, ty, pos, af, g⟩ fr I (.slice (some ⟨b, off + m * sz, none⟩) (n - m) (cap - m)) :=
  pv_of fun ρ w hρ _ => by
    have h3 : (m : Int) ≤ n := by omega
    have h4 : (n : Int) ≤ cap := by omega
    have h5 : ¬ cap = m := by omega
    simp [execOp, hρ _ _ hx, hρ _ _ hy, hρ _ _ hz, Instr.sliceAt, Instr.slice, Instr.sliceBounds, Instr.sliceBound, asIntOf, run_underlying hc.under, run_sizeOf (t := t), h3, h4, h5, add_mk]
    rw [if_pos h', if_pos h]
/-- a part of a row of pixels as a string -/
theorem o_convPxO {b off n nn cap e by_ : Nat} {p : Nat → Bool} [hs : CSl P t e 1 by_] [he : CInt P e .u8] [hd : CStr P t'] (hx : fev fr x = some (.slice (some ⟨b, off, none⟩) n cap)) (hle : off + n ≤ nn) (hL : ∀ w, I w → ∃ o, w.heap[b]? = some o ∧ px e nn p o) : Pv P ⟨d, .convert t t' x, ty, pos, af, g⟩ fr I (.string (rowB n fun j => p (off + j))) :=
  pv_of fun ρ w hρ hw => by
    obtain ⟨o, ho, cur, rfl, hn, hc⟩ := hL w hw
    have := run_convert_bytes_back (P := P) w t t' e ⟨b, off, none⟩ cap ((List.range n).map fun j => if p (off + j) then (35 : UInt8) else 46) hs.under he.under hd.under (fun j hj => by
      have hj' : j < n := by simpa using hj
      rw [add_mk, cell_of ho, hc (off + j) (by omega)]
      simp only [List.getElem_map, List.getElem_range, pixV]
      cases p (off + j) <;> rfl)
    simp only [List.length_map, List.length_range] at this
    simp [execOp, hρ _ _ hx, this, rowB]
end
def ptS (p : Int × Int) : Sp := ⟨p.1, p.2, ⟨#[35]⟩⟩
theorem ptS_size (p : Int × Int) : ((ptS p).t.size : Int) = 1 := rfl
def stepP2 (q : Int × Int × Int × Int) (p : Int × Int) : Int × Int × Int × Int := (min q.1 p.1, max q.2.1 p.1, min q.2.2.1 p.2, max q.2.2.2 p.2)
theorem fold_pt : ∀ (l : Pts) (q : Int × Int × Int × Int), (l.map ptS).foldl bxStep q = l.foldl stepP2 q
  | [], q => rfl
  | p :: l, q => by
    have e : bxStep q (ptS p) = stepP2 q p := by
      simp only [bxStep, stepP2, ptS_size]
      rw [show (ptS p).x = p.1 from rfl, show (ptS p).y = p.2 from rfl, show p.1 + 1 - 1 = p.1 by omega]
    rw [List.map_cons, List.foldl_cons, List.foldl_cons, e]
    exact fold_pt l _
theorem fold_bd : ∀ (l : Pts) (q : Int × Int × Int × Int), (-268435456 ≤ q.1 ∧ q.1 ≤ q.2.1 ∧ q.2.1 ≤ 268435456 ∧ -268435456 ≤ q.2.2.1 ∧ q.2.2.1 ≤ q.2.2.2 ∧ q.2.2.2 ≤ 268435456) → (∀ p ∈ l, -268435456 ≤ p.1 ∧ p.1 ≤ 268435456 ∧ -268435456 ≤ p.2 ∧ p.2 ≤ 268435456) →
    (-268435456 ≤ (l.foldl stepP2 q).1 ∧ (l.foldl stepP2 q).1 ≤ (l.foldl stepP2 q).2.1 ∧ (l.foldl stepP2 q).2.1 ≤ 268435456 ∧ -268435456 ≤ (l.foldl stepP2 q).2.2.1 ∧ (l.foldl stepP2 q).2.2.1 ≤ (l.foldl stepP2 q).2.2.2 ∧ (l.foldl stepP2 q).2.2.2 ≤ 268435456) ∧ ((l.foldl stepP2 q).1 ≤ q.1 ∧ q.2.1 ≤ (l.foldl stepP2 q).2.1 ∧ (l.foldl stepP2 q).2.2.1 ≤ q.2.2.1 ∧ q.2.2.2 ≤ (l.foldl stepP2 q).2.2.2) ∧ ∀ p ∈ l, (l.foldl stepP2 q).1 ≤ p.1 ∧ p.1 ≤ (l.foldl stepP2 q).2.1 ∧ (l.foldl stepP2 q).2.2.1 ≤ p.2 ∧ p.2 ≤ (l.foldl stepP2 q).2.2.2
  | [], q, hq, _ => ⟨hq, by simp, by simp⟩
  | a :: l, q, hq, h => by
    have ha := h a (by simp)
    have hs : -268435456 ≤ (stepP2 q a).1 ∧ (stepP2 q a).1 ≤ (stepP2 q a).2.1 ∧ (stepP2 q a).2.1 ≤ 268435456 ∧ -268435456 ≤ (stepP2 q a).2.2.1 ∧ (stepP2 q a).2.2.1 ≤ (stepP2 q a).2.2.2 ∧ (stepP2 q a).2.2.2 ≤ 268435456 := by simp only [stepP2]; omega
    have h5 : (stepP2 q a).1 ≤ q.1 ∧ q.2.1 ≤ (stepP2 q a).2.1 ∧ (stepP2 q a).2.2.1 ≤ q.2.2.1 ∧ q.2.2.2 ≤ (stepP2 q a).2.2.2 ∧ (stepP2 q a).1 ≤ a.1 ∧ a.1 ≤ (stepP2 q a).2.1 ∧ (stepP2 q a).2.2.1 ≤ a.2 ∧ a.2 ≤ (stepP2 q a).2.2.2 := by simp only [stepP2]; omega
    obtain ⟨h1, h2, h3⟩ := fold_bd l (stepP2 q a) hs fun p hp => h p (by simp [hp])
    rw [List.foldl_cons]
    generalize l.foldl stepP2 (stepP2 q a) = r at *
    generalize stepP2 q a = s at *
    refine ⟨h1, by omega, fun p hp => ?_⟩
    rcases List.mem_cons.1 hp with rfl | hp
    · omega
    · exact h3 p hp
/-- the place of a pixel in a row of all rows -/
def ix (q : Int × Int × Int × Int) (p : Int × Int) : Int := (q.2.2.2 - p.2) * (q.2.1 - q.1 + 1) + p.1 - q.1
def hit (q : Int × Int × Int × Int) (l : Pts) (j : Nat) : Bool := l.any fun p => decide (ix q p = j)
theorem blackAt_iffW (ss : List Sp) (x y : Int) : blackAt ss x y = true ↔ ∃ s ∈ ss, s.y = y ∧ s.x ≤ x ∧ bk s.t (x - s.x).toNat = true := by
  simp [blackAt, List.any_eq_true, and_assoc]
theorem blackAt_pt (l : Pts) (x y : Int) : blackAt (l.map ptS) x y = l.any fun p => decide (p = (x, y)) := by
  rw [Bool.eq_iff_iff, blackAt_iffW]
  simp only [List.any_eq_true, decide_eq_true_eq]
  constructor
  · rintro ⟨s, hs, h1, h2, h3⟩
    obtain ⟨p, hp, rfl⟩ := List.mem_map.1 hs
    refine ⟨p, hp, ?_⟩
    have := bk_lt h3
    have hsz : (ptS p).t.size = 1 := rfl
    have e1 : (ptS p).x = p.1 := rfl
    have e2 : (ptS p).y = p.2 := rfl
    obtain ⟨a, b⟩ := p
    simp only at e1 e2
    simp only [Prod.mk.injEq]
    omega
  · rintro ⟨p, hp, rfl⟩
    refine ⟨ptS (x, y), List.mem_map_of_mem hp, rfl, Int.le_refl _, ?_⟩
    show bk ⟨#[35]⟩ (x - x).toNat = true
    rw [Int.sub_self]
    rfl
theorem ix_bd {q : Int × Int × Int × Int} {p : Int × Int} (h : q.1 ≤ p.1 ∧ p.1 ≤ q.2.1 ∧ q.2.2.1 ≤ p.2 ∧ p.2 ≤ q.2.2.2) (hw : q.2.1 - q.1 + 1 ≤ 1024) : 0 ≤ ix q p ∧ ix q p < (q.2.1 - q.1 + 1) * (q.2.2.2 - q.2.2.1 + 1) := by
  unfold ix
  have h1 : 0 ≤ (q.2.2.2 - p.2) * (q.2.1 - q.1 + 1) := Int.mul_nonneg (by omega) (by omega)
  have h2 : (q.2.2.2 - p.2 + 1) * (q.2.1 - q.1 + 1) ≤ (q.2.2.2 - q.2.2.1 + 1) * (q.2.1 - q.1 + 1) := Int.mul_le_mul_of_nonneg_right (by omega) (by omega)
  rw [Int.add_mul, Int.one_mul] at h2
  rw [Int.mul_comm (q.2.1 - q.1 + 1)]
  omega
theorem hit_row {q : Int × Int × Int × Int} {l : Pts} (h : ∀ p ∈ l, q.1 ≤ p.1 ∧ p.1 ≤ q.2.1 ∧ q.2.2.1 ≤ p.2 ∧ p.2 ≤ q.2.2.2) (m j W : Nat) (hW : q.2.1 - q.1 + 1 = W) (hj : j < W) : hit q l (m * W + j) = blackAt (l.map ptS) (q.1 + j) (q.2.2.2 - m) := by
  rw [blackAt_pt, Bool.eq_iff_iff]
  unfold hit
  simp only [List.any_eq_true, decide_eq_true_eq]
  constructor
  · rintro ⟨p, hp, h1⟩
    refine ⟨p, hp, ?_⟩
    have hb := h p hp
    unfold ix at h1
    rw [hW] at h1
    obtain ⟨a, b⟩ := p
    simp only at h1 hb ⊢
    have hm : q.2.2.2 - b = m := by
      have e1 : (q.2.2.2 - b) * (W : Int) + (a - q.1) = (m : Int) * W + j := by
        rw [Int.natCast_add, Int.natCast_mul] at h1; omega
      have e2 : ((q.2.2.2 - b) * (W : Int) + (a - q.1)) / W = q.2.2.2 - b := by
        rw [Int.add_comm, Int.add_mul_ediv_right _ _ (by omega), Int.ediv_eq_zero_of_lt (by omega) (by omega)]; omega
      have e3 : ((m : Int) * W + j) / W = m := by
        rw [Int.add_comm, Int.add_mul_ediv_right _ _ (by omega), Int.ediv_eq_zero_of_lt (by omega) (by omega)]; omega
      rw [e1, e3] at e2
      exact e2.symm
    rw [hm, Int.natCast_add, Int.natCast_mul] at h1
    simp only [Prod.mk.injEq]
    omega
  · rintro ⟨p, hp, rfl⟩
    refine ⟨_, hp, ?_⟩
    unfold ix
    dsimp only
    rw [hW, show q.2.2.2 - (q.2.2.2 - (m : Int)) = m by omega, Int.natCast_add, Int.natCast_mul]
    omega
end Go.Proofs.Ytbgolbkolcmldaa
namespace Go.Proofs.Ytbgolbkolcmldaa
open Go.RowKit
attribute [local irreducible] T TL Xt O Op1 Kt DV ObsB DE DW DW1 LoopQ LoopJ

theorem flat_rep (n : Nat) (z : Value) : (List.replicate n [z]).flatten = List.replicate n z := by
  induction n with
  | zero => rfl
  | succ n ih => rw [List.replicate_succ, List.flatten_cons, ih, List.replicate_succ]; rfl
theorem rep_set (n k : Nat) (a z : Value) (h : k < n) : (List.replicate k a ++ List.replicate (n - k) z).set (0 + (k : Int).toNat * 1) a = List.replicate (k + 1) a ++ List.replicate (n - (k + 1)) z := by
  rw [Nat.zero_add, Int.toNat_natCast, Nat.mul_one]
  have e : n - k = (n - (k + 1)) + 1 := by omega
  rw [e, List.replicate_succ, List.set_append_right _ _ (by simp), List.length_replicate, Nat.sub_self, List.set_cons_zero, List.replicate_succ', List.append_assoc]
  rfl
theorem bx_px {e : TypeId} {n : Nat} {o : Obj} (h : bx (List.replicate n (.int .u8 46)) e o) : px e n (fun _ => false) o := by
  unfold bx at h
  subst h
  refine ⟨_, rfl, by simp, fun j hj => ?_⟩
  simp [hj, pixV]
theorem rowB_congr {Wd : Nat} {p p' : Nat → Bool} (h : ∀ j, j < Wd → p j = p' j) : rowB Wd p = rowB Wd p' := by
  unfold rowB
  congr 2
  exact List.map_congr_left fun j hj => by rw [h j (List.mem_range.1 hj)]
theorem pts_row {w : World} {A : Option Addr} {n cap : Nat} {l : Pts} (h : Row w (.slice A n cap) l) : n = l.length ∧ n ≤ 9223372036854775807 := ⟨row_len h, row_le h⟩
set_option maxHeartbeats 2000000 in
theorem of_calls (w : World) (A : Option Addr) (n cap : Nat) (l : Pts) (hR : Row w (.slice A n cap) l) (hb : ∀ p ∈ l, -268435456 ≤ p.1 ∧ p.1 ≤ 268435456 ∧ -268435456 ≤ p.2 ∧ p.2 ≤ 268435456) : Calls Try.prog 55 #[.slice A n cap] w (Ret w fun v w' => BmI w w' v (bmOf (l.map ptS))) := by
  obtain ⟨hn, hn2⟩ := pts_row hR
  subst hn
  refine calls_S (vs := [.slice A l.length cap]) Try.func55 rfl Try.ntmps55 rfl ?_
  (repeat' (first|refine Za ?_|refine Zb ?_|refine Zc ?_|refine Zd ?_|refine Zu tab rfl rfl ?_|refine Yk rfl fun _=>?_|fail))
  rename_i b2
  refine t_cond rfl (fun h => ?_) (fun h => ?_)
  · have hl : l = [] := List.length_eq_zero_iff.1 (by have := of_decide_eq_true h; omega)
    subst hl
    (repeat' (first|refine Za ?_|refine Zb ?_|refine Zc ?_|refine Zd ?_|refine Zg ?_|refine Zk ?_|(apply Ye;refine Yf ?_)|(apply Yl;refine Ym ?_)|fail))
    exact xt_retAS 0 rfl rfl rfl rfl fun w1 hw1 => bmI_nil w w1
  · have hl : 0 < l.length := by have := of_decide_eq_false h; omega
    obtain ⟨p0, hp0⟩ : ∃ p, l[0]? = some p := ⟨l[0], List.getElem?_eq_getElem hl⟩
    obtain ⟨b, off, rfl, hc0⟩ := row_cl hR hp0
    have hb0 := hb p0 (List.mem_of_getElem? hp0)
    (repeat' (first|refine Za ?_|refine Zb ?_|refine Zc ?_|refine Zd ?_|refine Ze ?_|refine Zf ?_|refine Zu tab rfl rfl ?_|(apply Zy;refine Zz ?_)|(apply Ye;refine Yf ?_)|refine Yk rfl fun _=>?_|(apply Yn;refine Yo ?_)|fail))
    rename_i b3 b4
    obtain ⟨q0, hq0⟩ : ∃ q0 : Int × Int × Int × Int, q0 = (p0.1, p0.1, p0.2, p0.2) := ⟨_, rfl⟩
    have hq0b : -268435456 ≤ q0.1 ∧ q0.1 ≤ q0.2.1 ∧ q0.2.1 ≤ 268435456 ∧ -268435456 ≤ q0.2.2.1 ∧ q0.2.2.1 ≤ q0.2.2.2 ∧ q0.2.2.2 ≤ 268435456 := by rw [hq0]; dsimp only; omega
    refine t_loopK [0, 2, 3, 4] (α := Nat) (fun i => [(5, .int .i64 i)]) (fun i => i ≤ l.length) (fun i => [(b4, bx [.int .i64 ((l.take i).foldl stepP2 q0).2.1, .int .i64 ((l.take i).foldl stepP2 q0).2.2.2] 24), (b3, bx [.int .i64 ((l.take i).foldl stepP2 q0).1, .int .i64 ((l.take i).foldl stepP2 q0).2.2.1] 24), (b2, bx [.int .i64 0, .int .i64 0, .int .i64 0, .int .i64 0, .slice none 0 0] 30)]) (fun i => l.length - i) 0 rfl ⟨rfl, trivial⟩ (Nat.zero_le _) (fun w h => by rw [hq0]; exact h) ?_
    intro i hi
    have htk : ∀ p, l[i]? = some p → (l.take (i + 1)).foldl stepP2 q0 = stepP2 ((l.take i).foldl stepP2 q0) p := fun p hp => by rw [List.take_add_one, hp, List.foldl_append]; rfl
    have hbdi := (fold_bd (l.take i) q0 hq0b fun p hp => hb p (List.mem_of_mem_take hp)).1
    try dsimp only [List.cons_append, List.nil_append, List.map_cons, List.map_nil]
    (repeat' (first|refine Za ?_|refine Zb ?_|refine Zc ?_|refine Zd ?_|refine Zu tab rfl rfl ?_|fail))
    refine t_cond rfl (fun h => ?_) (fun h => ?_)
    · have hil : i < l.length := by have := of_decide_eq_true h; omega
      obtain ⟨p, hp⟩ : ∃ p, l[i]? = some p := ⟨l[i], List.getElem?_eq_getElem hil⟩
      have htp := htk p hp
      obtain ⟨_, _, he, hcp⟩ := row_cl hR hp
      cases he
      generalize (l.take i).foldl stepP2 q0 = q at *
      (repeat' (first|refine Za ?_|refine Zc ?_|refine Ze ?_|refine Zf ?_|fail))
      refine t_drawW 16 [(0, .v), (1, .v), (2, .v), (3, .v), (4, .v), (5, .v), (6, .v), (7, .v), (8, .v), (9, .v), (10, .v), (11, .v), (12, .v), (13, .v), (14, .v), (15, .v)] ?_ rfl (by kernel_rfl) (by kernel_rfl) rfl (by kernel_rfl) mixed (by kernel_rfl) rfl
      (repeat' (first|refine Yz rfl ?_|refine Vd tab ?_|(apply Vf;refine Vg ?_)|(apply Vl;refine Vm ?_)|fail))
      refine dw_end [0, 2, 3, 4, 5, 36, 44] (rest := []) rfl ?_
      (repeat' (first|refine Zc ?_|refine Zd ?_|(apply Ye;refine Yf ?_)|(apply Yl;refine Ym ?_)|fail))
      refine t_drawW 16 [(0, .v), (1, .v), (2, .v), (3, .v), (4, .v), (5, .v), (6, .v), (7, .v), (8, .v), (9, .v), (10, .v), (11, .v), (12, .v), (13, .v), (14, .v), (15, .v)] ?_ rfl (by kernel_rfl) (by kernel_rfl) rfl (by kernel_rfl) mixed (by kernel_rfl) rfl
      (repeat' (first|refine Yz rfl ?_|refine Vd tab ?_|(apply Vf;refine Vg ?_)|(apply Vl;refine Vm ?_)|fail))
      refine dw_end [0, 2, 3, 4, 5, 53, 61] (rest := []) rfl ?_
      (repeat' (first|refine Zb ?_|refine Zc ?_|refine Zd ?_|refine Zi ?_|refine Zu tab rfl rfl ?_|(apply Yc;refine Yd ?_)|(apply Ye;refine Yf ?_)|(apply Yl;refine Ym ?_)|fail))
      refine xt_roundK (i + 1) rfl ⟨rfl, trivial⟩ (by omega) (by omega) (fun _ h => ?_)
      rw [htp]
      exact h
    · have hil : i = l.length := by have := of_decide_eq_false h; omega
      subst hil
      rw [List.take_length]
      rw [List.take_length] at hbdi
      have hbm : bmOf (l.map ptS) = bmIn (l.map ptS) (l.foldl stepP2 q0) := by
        cases l with
        | nil => cases hp0
        | cons a l =>
          simp at hp0
          subst hp0
          have := fold_pt (a :: l) q0
          rw [← this, hq0]
          rfl
      obtain ⟨-, -, hall⟩ := fold_bd l q0 hq0b hb
      generalize l.foldl stepP2 q0 = q at *
      rw [hbm]
      clear hbm htk hq0b
      (repeat' (first|refine Za ?_|refine Zb ?_|refine Zc ?_|refine Zd ?_|refine Zh ?_|refine Zj ?_|refine Zl ?_|refine Zq ?_|refine Zu tab rfl rfl ?_|(apply Zy;refine Zz ?_)|(apply Yc;refine Yd ?_)|fail))
      refine tl_if [0, 2, 3, 4, 6, 7] (1024 < q.2.1 - q.1 + 1 ∨ 1024 < q.2.2.2 - q.2.2.1 + 1) rfl (fun Q' K => ?_) (fun hC => ?_) (fun hC => ?_)
      · (repeat' (first|refine Zd ?_|refine Zu tab rfl rfl ?_|refine Zv rfl rfl ?_|refine Zw rfl rfl rfl rfl ?_|(apply Ya;refine Yb ?_)|refine tl_guard rfl rfl rfl (fun _ => ?_) (fun _ => ?_)|fail))
        all_goals exact K _ _ rfl rfl (by simp_all <;> omega)
      · (repeat' (first|refine Za ?_|refine Zb ?_|refine Zc ?_|refine Zd ?_|refine Zg ?_|refine Zk ?_|(apply Ye;refine Yf ?_)|(apply Yl;refine Ym ?_)|fail))
        refine xt_retAS 2 rfl rfl rfl rfl fun w1 hw1 => ?_
        rw [bmIn, if_pos hC]
        exact bmI_nil w w1
      · obtain ⟨Wn, hW⟩ : ∃ Wn : Nat, q.2.1 - q.1 + 1 = Wn ∧ 1 ≤ Wn ∧ Wn ≤ 1024 := ⟨(q.2.1 - q.1 + 1).toNat, by omega, by omega, by omega⟩
        obtain ⟨Hn, hH⟩ : ∃ Hn : Nat, q.2.2.2 - q.2.2.1 + 1 = Hn ∧ 1 ≤ Hn ∧ Hn ≤ 1024 := ⟨(q.2.2.2 - q.2.2.1 + 1).toNat, by omega, by omega, by omega⟩
        have hWH : Wn * Hn ≤ 1048576 := Nat.le_trans (Nat.mul_le_mul hW.2.2 hH.2.2) (by omega)
        have hmul : (Wn : Int) * Hn = ((Wn * Hn : Nat) : Int) := (Int.natCast_mul ..).symm
        (repeat' (first|refine Za ?_|refine Zb ?_|refine Zc ?_|refine Zf ?_|refine Zu tab rfl rfl ?_|fail))
        rw [hW.1, hH.1]
        refine tl_bin (o_mul64 rfl rfl (by rw [hmul]; omega)) rfl ?_
        rw [hmul]
        generalize hNN : Wn * Hn = NN at *
        refine tl_make (n := NN) (z := [.int .u8 0]) rfl rfl rfl (by omega) (by omega) rfl fun b8 => ?_
        rw [flat_rep]
        (repeat' (first|refine Za ?_|refine Zb ?_|refine Zc ?_|refine Zd ?_|refine Ze ?_|refine Zu tab rfl rfl ?_|fail))
        refine t_loopK [0, 2, 3, 4, 6, 7, 8] (α := Nat) (fun k => [(9, .int .i64 k)]) (fun k => k ≤ NN) (fun k => [(b8, bx (List.replicate k (.int .u8 46) ++ List.replicate (NN - k) (.int .u8 0)) 5), (b4, bx [.int .i64 q.2.1, .int .i64 q.2.2.2] 24), (b3, bx [.int .i64 q.1, .int .i64 q.2.2.1] 24), (b2, bx [.int .i64 0, .int .i64 0, .int .i64 0, .int .i64 0, .slice none 0 0] 30)]) (fun k => NN - k) 0 rfl ⟨rfl, trivial⟩ (Nat.zero_le _) (fun w h => h) ?_
        intro k hk
        try dsimp only [List.cons_append, List.nil_append, List.map_cons, List.map_nil]
        (repeat' (first|refine Za ?_|refine Zb ?_|refine Zc ?_|refine Zd ?_|refine Zu tab rfl rfl ?_|fail))
        refine t_cond rfl (fun h => ?_) (fun h => ?_)
        · have hkl : k < NN := by have := of_decide_eq_true h; omega
          (repeat' (first|refine Za ?_|refine Zb ?_|refine Zc ?_|refine Ze ?_|refine Zf ?_|refine Zu tab rfl rfl ?_|(apply Yn;refine Yo ?_)|fail))
          refine tl_store (o_storeB 0 rfl rfl rfl (by simp [Nat.blt_eq]; omega) rfl) ?_
          rw [rep_set NN k _ _ hkl]
          (repeat' (first|refine Zb ?_|refine Zc ?_|refine Zd ?_|refine Zi ?_|refine Zu tab rfl rfl ?_|(apply Yc;refine Yd ?_)|fail))
          exact xt_roundK (k + 1) rfl ⟨rfl, trivial⟩ (by omega) (by omega) (fun _ h => h)
        · have hkl : k = NN := by have := of_decide_eq_false h; omega
          subst hkl
          rw [Nat.sub_self, List.replicate_zero, List.append_nil]
          (repeat' (first|refine Za ?_|refine Zb ?_|refine Zc ?_|refine Zd ?_|refine Ze ?_|refine Zh ?_|refine Zj ?_|refine Zl ?_|refine Zq ?_|refine Zu tab rfl rfl ?_|fail))
          refine t_loopK [0, 2, 3, 4, 6, 7, 8] (α := Nat) (fun i => [(10, .int .i64 i)]) (fun i => i ≤ l.length) (fun i => [(b8, px 5 k (hit q (l.take i))), (b4, bx [.int .i64 q.2.1, .int .i64 q.2.2.2] 24), (b3, bx [.int .i64 q.1, .int .i64 q.2.2.1] 24), (b2, bx [.int .i64 0, .int .i64 0, .int .i64 0, .int .i64 0, .slice none 0 0] 30)]) (fun i => l.length - i) 0 rfl ⟨rfl, trivial⟩ (Nat.zero_le _) (fun w h => St.headImp h fun o ho => bx_px ho) ?_
          intro i hi
          try dsimp only [List.cons_append, List.nil_append, List.map_cons, List.map_nil]
          (repeat' (first|refine Za ?_|refine Zb ?_|refine Zc ?_|refine Zd ?_|refine Zu tab rfl rfl ?_|fail))
          refine t_cond rfl (fun h => ?_) (fun h => ?_)
          · have hil : i < l.length := by have := of_decide_eq_true h; omega
            obtain ⟨p, hp⟩ : ∃ p, l[i]? = some p := ⟨l[i], List.getElem?_eq_getElem hil⟩
            obtain ⟨_, _, he, hcp⟩ := row_cl hR hp
            cases he
            have hpa := hall p (List.mem_of_getElem? hp)
            have hix := ix_bd hpa (by omega)
            have hm1 : 0 ≤ (q.2.2.2 - p.2) * (Wn : Int) := Int.mul_nonneg (by omega) (by omega)
            obtain ⟨J, hJ⟩ : ∃ J : Nat, ix q p = J := ⟨(ix q p).toNat, by omega⟩
            rw [hW.1, hH.1, hmul] at hix
            have hJ2 := hJ
            unfold ix at hJ2
            rw [hW.1] at hJ2
            have hmb : -9223372036854775808 ≤ (q.2.2.2 - p.2) * (Wn : Int) ∧ (q.2.2.2 - p.2) * (Wn : Int) ≤ 9223372036854775807 := by omega
            (repeat' (first|refine Za ?_|refine Zc ?_|refine Ze ?_|refine Zf ?_|fail))
            refine t_drawW 20 [(0, .v), (1, .v), (2, .v), (3, .v), (4, .v), (5, .v), (6, .v), (7, .v), (8, .v), (9, .v), (10, .v), (11, .v), (12, .v), (13, .v), (14, .v), (15, .v), (16, .v), (17, .v), (18, .v), (19, .v)] ?_ rfl (by kernel_rfl) (by kernel_rfl) rfl (by kernel_rfl) mixed (by kernel_rfl) rfl
            (repeat' (first|refine Yz rfl ?_|refine Vd tab ?_|(apply Vf;refine Vg ?_)|(apply Vj;refine Vk ?_)|(apply Vl;refine Vm ?_)|fail))
            rw [hJ2]
            (repeat' (first|fail))
            refine dw_end [0, 2, 3, 4, 6, 7, 8, 10, 101, 120] (rest := []) rfl ?_
            (repeat' (first|(apply Yn;refine Yo ?_)|fail))
            refine tl_store (o_storePx 0 rfl rfl rfl (by omega)) ?_
            (repeat' (first|refine Zb ?_|refine Zc ?_|refine Zd ?_|refine Zi ?_|refine Zu tab rfl rfl ?_|(apply Yc;refine Yd ?_)|fail))
            refine xt_roundK (i + 1) rfl ⟨rfl, trivial⟩ (by omega) (by omega) (fun w1 h1 => St.headImp h1 fun o ho => px_congr ho fun j hj => ?_)
            rw [hit, hit, List.take_add_one, hp, List.any_append]
            congr 1
            simp only [Option.toList_some, List.any_cons, List.any_nil, Bool.or_false, hJ]
            rw [decide_eq_decide]
            omega
          · have hil : i = l.length := by have := of_decide_eq_false h; omega
            subst hil
            rw [List.take_length]
            (repeat' (first|refine Za ?_|refine Zb ?_|refine Zc ?_|refine Zd ?_|refine Ze ?_|refine Zh ?_|refine Zj ?_|refine Zl ?_|refine Zq ?_|refine Zu tab rfl rfl ?_|(apply Zy;refine Zz ?_)|(apply Ye;refine Yf ?_)|refine Yk rfl fun _=>?_|(apply Yl;refine Ym ?_)|fail))
            rename_i b11
            have hrow : ∀ m : Nat, (rowB Wn fun j => hit q l (m * Wn + j)) = rowB Wn fun (j : Nat) => blackAt (l.map ptS) (q.1 + j) (q.2.2.2 - m) := fun m => rowB_congr fun j hj => hit_row hall m j Wn hW.1 hj
            refine t_loopK [2, 6, 7, 8, 11] (α := Nat × Value × HL) (fun x => [(12, .int .i64 x.1)]) (fun x => x.1 ≤ Hn ∧ OwnsV x.2.1 9 1 x.1 ((List.range x.1).map fun (m : Nat) => .string (rowB Wn fun (j : Nat) => blackAt (l.map ptS) (q.1 + j) (q.2.2.2 - m))) x.2.2 ∧ x.2.1.oneCell' = true) (fun x => [(b11, bx [.int .i64 q.1, .int .i64 q.2.2.1, .int .i64 Wn, .int .i64 Hn, x.2.1] 30), (b8, px 5 k (hit q l)), (b2, bx [.int .i64 0, .int .i64 0, .int .i64 0, .int .i64 0, .slice none 0 0] 30)] ++ x.2.2) (fun x => Hn - x.1) (0, .slice none 0 0, []) rfl ⟨rfl, trivial⟩ ⟨Nat.zero_le _, OwnsV.nil, rfl⟩ (fun w h => h.pick [0, 1, 4] (by decide) rfl) ?_
            rintro ⟨m, u, Lu⟩ ⟨hm, hu, hu1⟩
            dsimp only at hm hu hu1 ⊢
            try dsimp only [List.cons_append, List.nil_append, List.map_cons, List.map_nil]
            (repeat' (first|refine Za ?_|refine Zb ?_|refine Zc ?_|refine Zd ?_|refine Zu tab rfl rfl ?_|fail))
            refine t_cond rfl (fun h => ?_) (fun h => ?_)
            · have hml : m < Hn := by have := of_decide_eq_true h; omega
              have hmW : (m : Int) * (Wn : Int) = ((m * Wn : Nat) : Int) := (Int.natCast_mul ..).symm
              have hmk : m * Wn + Wn ≤ k := by
                have := Nat.mul_le_mul_right Wn (show m + 1 ≤ Hn from hml)
                rw [Nat.succ_mul, Nat.mul_comm Hn, hNN] at this
                exact this
              have hmb : -9223372036854775808 ≤ (m : Int) * (Wn : Int) ∧ (m : Int) * (Wn : Int) ≤ 1048576 := by rw [hmW]; omega
              have e1 : m * Wn + Wn - m * Wn = Wn := by omega
              have e2 : (fun j => hit q l (0 + m * Wn * 1 + j)) = fun j => hit q l (m * Wn + j) := by funext j; rw [Nat.zero_add, Nat.mul_one]
              obtain ⟨Au, cu, rfl⟩ := hu.shape
              (repeat' (first|refine Za ?_|refine Zc ?_|refine Ze ?_|refine Zf ?_|fail))
              refine t_drawW 14 [(0, .v), (1, .v), (2, .v), (3, .v), (4, .v), (5, .v), (6, .v), (7, .v), (8, .v), (9, .v), (10, .v), (11, .v), (12, .v), (13, .e)] ?_ rfl (by kernel_rfl) (by kernel_rfl) rfl (by kernel_rfl) mixed (by kernel_rfl) rfl
              (repeat' (first|refine Yz rfl ?_|refine Vd tab ?_|(apply Vf;refine Vg ?_)|(apply Vj;refine Vk ?_)|fail))
              rw [hmW, show ((m * Wn : Nat) : Int) + (Wn : Int) = ((m * Wn + Wn : Nat) : Int) from (Int.natCast_add ..).symm]
              refine dw_opN rfl rfl (fun _ => o_sliceLH (m := m * Wn) (n := m * Wn + Wn) rfl rfl rfl (by omega) hmk (by omega)) ?_
              (repeat' (first|refine Yz rfl ?_|fail))
              refine dw_opN rfl rfl (fun _ => o_convPxO (nn := k) (p := hit q l) rfl (by omega) (fun w7 hw7 => hw7.here (b8, px 5 k (hit q l)) (by simp))) ?_
              rw [e1, e2, hrow m]
              (repeat' (first|refine Yz rfl ?_|(apply Vz;refine Ua fun _=>?_)|fail))
              refine dw_end [2, 6, 7, 8, 11, 12, 135, 147] (rest := []) rfl ?_
              rename_i b147
              generalize hRS : (rowB Wn fun (j : Nat) => blackAt (l.map ptS) (q.1 + j) (q.2.2.2 - m)) = RS at *
              refine tl_app [(b11, bx [.int .i64 q.1, .int .i64 q.2.2.1, .int .i64 Wn, .int .i64 Hn, .slice Au m cu] 30), (b8, px 5 k (hit q l)), (b2, bx [.int .i64 0, .int .i64 0, .int .i64 0, .int .i64 0, .slice none 0 0] 30)] rfl rfl hu rfl rfl rfl rfl rfl rfl (by omega) (by omega) fun b' cap' => ?_
              (repeat' (first|refine Zb ?_|refine Zc ?_|refine Zd ?_|refine Zi ?_|refine Zu tab rfl rfl ?_|(apply Yc;refine Yd ?_)|(apply Ye;refine Yf ?_)|fail))
              refine xt_roundK (m + 1, .slice (some ⟨b', 0, none⟩) (m + 1) cap', [(b', row 9 1 (m + 1) cap' (((List.range m).map fun (m : Nat) => .string (rowB Wn fun (j : Nat) => blackAt (l.map ptS) (q.1 + j) (q.2.2.2 - m))) ++ [.string RS]))]) rfl ⟨rfl, trivial⟩ ⟨by dsimp only; omega, ?_, rfl⟩ (by dsimp only; omega) (fun w1 h1 => ?_)
              · dsimp only
                rw [List.range_succ, List.map_append, List.map_cons, List.map_nil, hRS]
                exact OwnsV.at_
              · exact h1
            · have hml : m = Hn := by have := of_decide_eq_false h; omega
              subst hml
              obtain ⟨Au, cu, rfl⟩ := hu.shape
              (repeat' (first|refine Za ?_|refine Zb ?_|refine Zc ?_|refine Zd ?_|refine Zg ?_|refine Zh ?_|refine Zj ?_|refine Zl ?_|refine Zq ?_|(apply Zy;refine Zz ?_)|(apply Ye;refine Yf ?_)|fail))
              refine xt_retAS 2 rfl rfl rfl rfl fun w1 hw1 => ?_
              rw [bmIn, if_neg hC, hW.1, hH.1]
              refine ⟨_, rfl, ?_⟩
              simp only [Int.toNat_natCast, List.map_map]
              exact hu.rdI hw1 fun p hp => by simp [hp]

end Go.Proofs.Ytbgolbkolcmldaa
