/-
  Outlines: numbers, points between others, curves.
-/
import Derived.Test.YtbgolbkolcmldaaW42
namespace Go.Proofs.Ytbgolbkolcmldaa
open Go.RowKit
section
variable {P : Program} {I : World → Prop} {fr : Fr} {d : Option Tmp} {ty t t' : TypeId} {pos : String} {af : Array Edge} {g : Option (Nat × Bool)} {x y z : Operand}
theorem o_shr (j : Nat) {a b m : Int} {kk : IntKind} (hx : fev fr x = some (.int .i64 a)) (hy : fev fr y = some (.int kk b)) (hb : b = (j : Int)) (hj : Nat.ble j 64 = true) (hm : m = ((2 ^ j : Nat) : Int)) : Pv P ⟨d, .binOp .shr t x y t', ty, pos, af, g⟩ fr I (.int .i64 (a / m)) := by
  subst hb hm
  refine pv_of fun ρ w hρ _ => ?_
  have h1 : ¬ ((j : Int) < 0) := by omega
  have h2 : j ≤ 64 := by simpa [Nat.ble_eq] using hj
  have h3 : min j IntKind.i64.bits = j := by show min j 64 = j; omega
  have h4 : a.fdiv (2 ^ j) = a / ((2 ^ j : Nat) : Int) := by
    rw [Int.fdiv_eq_ediv_of_nonneg _ (by exact_mod_cast Nat.zero_le _)]
    congr 1
  simp [execOp, hρ _ _ hx, hρ _ _ hy, eqGuard, binOp, Op.shift, h1, h3, h4]
/-- an element's address in an array -/
theorem o_indexPA {b off n : Nat} {k : IntKind} {i : Int} [h : CAr P t n] (hx : fev fr x = some (.pointer (some ⟨b, off, none⟩))) (hy : fev fr y = some (.int k i)) (h0 : 0 ≤ i ∧ i < n) : Pv P ⟨d, .indexAddr t x y, ty, pos, af, g⟩ fr I (.pointer (some ⟨b, off + i.toNat, none⟩)) :=
  pv_of fun ρ w hρ _ => by
    obtain ⟨e, hun, hag, hone⟩ := h.under
    have hsz : (sizeOf e).run P w = .ok 1 w := by
      cases hq : P.info? e with
      | none => rw [hq] at hone; cases hone
      | some i =>
        rw [hq] at hone
        simp only [Option.map_some, Option.some.injEq] at hone
        simp [sizeOf, typeInfo, hq, hone]
    simp [execOp, hρ _ _ hx, hρ _ _ hy, Instr.indexAt, Instr.sureAddr, asIntOf, run_underlying hun, h0.1, h0.2, hsz, add_mk]
end
theorem build131 (a b : Int) (w : World) : (Instr.build 131 #[(0, .int .i64 a), (1, .int .i64 b)]).run Try.prog w = .ok (.agg #[.int .i64 a, .int .i64 b]) w := by kernel_rfl
end Go.Proofs.Ytbgolbkolcmldaa
namespace Go.Proofs.Ytbgolbkolcmldaa
open Go.RowKit
attribute [local irreducible] T TL Xt O Op1 Kt DV ObsB DE DW DW1 LoopQ LoopJ

def InP (p : Int × Int) : Prop := -2048 ≤ p.1 ∧ p.1 ≤ 2047 ∧ -2048 ≤ p.2 ∧ p.2 ≤ 2047
def cvV (s a c b : Int) : Int := ((8 - s) * (8 - s) * a + 2 * s * (8 - s) * c + s * s * b + 32) / 64
def midP (a b : Int × Int) : Int × Int := ((a.1 + b.1) / 2, (a.2 + b.2) / 2)
def cvP (a c b : Int × Int) (s : Int) : Int × Int := (cvV s a.1 c.1 b.1, cvV s a.2 c.2 b.2)
theorem mid_in {a b : Int × Int} (ha : InP a) (hb : InP b) : InP (midP a b) := by
  unfold InP midP at *
  dsimp only
  omega
theorem cv_bd {s a c b : Int} (hs : 1 ≤ s ∧ s ≤ 8) (ha : -2048 ≤ a ∧ a ≤ 2047) (hc : -2048 ≤ c ∧ c ≤ 2047) (hb : -2048 ≤ b ∧ b ≤ 2047) : (0 ≤ (8 - s) * (8 - s) ∧ (8 - s) * (8 - s) ≤ 64) ∧ (0 ≤ 2 * s * (8 - s) ∧ 2 * s * (8 - s) ≤ 64) ∧ (0 ≤ s * s ∧ s * s ≤ 64) ∧ (-1000000 ≤ (8 - s) * (8 - s) * a ∧ (8 - s) * (8 - s) * a ≤ 1000000) ∧ (-1000000 ≤ 2 * s * (8 - s) * c ∧ 2 * s * (8 - s) * c ≤ 1000000) ∧ (-1000000 ≤ s * s * b ∧ s * s * b ≤ 1000000) ∧ (-2048 ≤ cvV s a c b ∧ cvV s a c b ≤ 2047) := by
  have h : s = 1 ∨ s = 2 ∨ s = 3 ∨ s = 4 ∨ s = 5 ∨ s = 6 ∨ s = 7 ∨ s = 8 := by omega
  unfold cvV
  rcases h with rfl | rfl | rfl | rfl | rfl | rfl | rfl | rfl <;> omega
theorem cv_in {a c b : Int × Int} {s : Int} (hs : 1 ≤ s ∧ s ≤ 8) (ha : InP a) (hc : InP c) (hb : InP b) : InP (cvP a c b s) := by
  unfold InP at *
  have h1 := (cv_bd hs ⟨ha.1, ha.2.1⟩ ⟨hc.1, hc.2.1⟩ ⟨hb.1, hb.2.1⟩).2.2.2.2.2.2
  have h2 := (cv_bd hs ha.2.2 hc.2.2 hb.2.2).2.2.2.2.2.2
  exact ⟨h1.1, h1.2, h2.1, h2.2⟩

theorem tdiv_cases (a b : Int) : (0 ≤ a ∧ a.tdiv b = a / b) ∨ (a < 0 ∧ a.tdiv b = -((-a) / b)) := by
  rcases Int.lt_or_le a 0 with h | h
  · refine .inr ⟨h, ?_⟩
    have : a = -(-a) := by omega
    rw [this, Int.neg_tdiv, Int.tdiv_eq_ediv_of_nonneg (by omega)]
    simp
  · exact .inl ⟨h, Int.tdiv_eq_ediv_of_nonneg h⟩
theorem half_det (n : Int) (hn : -1000000 ≤ n ∧ n ≤ 1000000) : Det Try.prog 106 [.int .i64 n] (.int .i64 (n / 2)) := by
  intro w
  have h1 := Int.tmod_add_mul_tdiv n 2
  have h2 := Int.tmod_add_mul_tdiv (n - 1) 2
  have h3 := tdiv_bound n 2 (by omega) 1000000 hn
  have h6 := tdiv_cases n 2
  have h7 := tdiv_cases (n - 1) 2
  have h4 : (n.tmod 2 ≠ 0 ∧ n < 0) → (n - 1).tdiv 2 = n / 2 := by omega
  have h5 : ¬ (n.tmod 2 ≠ 0 ∧ n < 0) → n.tdiv 2 = n / 2 := by omega
  refine calls_S Try.func106 rfl Try.ntmps106 rfl ?_
  (repeat' (first|refine Za ?_|refine Zb ?_|refine Zc ?_|refine Zd ?_|refine Zu tab rfl rfl ?_|fail))
  refine tl_bin (o_rem rfl rfl (by omega)) rfl ?_
  refine tl_if [0] (n.tmod 2 ≠ 0 ∧ n < 0) rfl (fun Q' K => ?_) (fun hC => ?_) (fun hC => ?_)
  · (repeat' (first|refine Zd ?_|refine Zu tab rfl rfl ?_|refine Zv rfl rfl ?_|refine Zw rfl rfl rfl rfl ?_|(apply Ya;refine Yb ?_)|refine tl_guard rfl rfl rfl (fun _ => ?_) (fun _ => ?_)|fail))
    all_goals exact K _ _ rfl rfl (by simp_all <;> omega)
  · (repeat' (first|refine Za ?_|refine Zb ?_|refine Zu tab rfl rfl ?_|(apply Yc;refine Yd ?_)|fail))
    refine tl_bin (o_quo64 rfl rfl (by omega) (by omega)) rfl ?_
    (repeat' (first|refine Zc ?_|refine Zd ?_|refine Zg ?_|refine Zk ?_|refine Zu tab rfl rfl ?_|fail))
    exact xt_ret1S rfl rfl fun _ _ => by rw [h4 hC]
  · (repeat' (first|refine Za ?_|refine Zb ?_|refine Zc ?_|refine Zf ?_|refine Zu tab rfl rfl ?_|fail))
    refine tl_bin (o_quo64 rfl rfl (by omega) (by omega)) rfl ?_
    (repeat' (first|refine Zc ?_|refine Zd ?_|refine Zg ?_|refine Zu tab rfl rfl ?_|fail))
    exact xt_ret1S rfl rfl fun _ _ => by rw [h5 hC]

theorem down3_det (n : Int) (hn : -100000000 ≤ n ∧ n ≤ 100000000) : Det Try.prog 107 [.int .i64 n] (.int .i64 (n / 64)) := by
  intro w
  have h1 := Int.tmod_add_mul_tdiv n 64
  have h3 := tdiv_bound n 64 (by omega) 100000000 hn
  have h6 := tdiv_cases n 64
  have h4 : (n.tmod 64 ≠ 0 ∧ n < 0) → n.tdiv 64 - 1 = n / 64 := by omega
  have h5 : ¬ (n.tmod 64 ≠ 0 ∧ n < 0) → n.tdiv 64 = n / 64 := by omega
  refine calls_S Try.func107 rfl Try.ntmps107 rfl ?_
  (repeat' (first|refine Za ?_|refine Zb ?_|refine Zc ?_|refine Zd ?_|refine Zu tab rfl rfl ?_|fail))
  refine tl_bin (o_rem rfl rfl (by omega)) rfl ?_
  refine tl_if [0] (n.tmod 64 ≠ 0 ∧ n < 0) rfl (fun Q' K => ?_) (fun hC => ?_) (fun hC => ?_)
  · (repeat' (first|refine Zd ?_|refine Zu tab rfl rfl ?_|refine Zv rfl rfl ?_|refine Zw rfl rfl rfl rfl ?_|(apply Ya;refine Yb ?_)|refine tl_guard rfl rfl rfl (fun _ => ?_) (fun _ => ?_)|fail))
    all_goals exact K _ _ rfl rfl (by simp_all <;> omega)
  · (repeat' (first|refine Za ?_|refine Zb ?_|refine Zu tab rfl rfl ?_|fail))
    refine tl_bin (o_quo64 rfl rfl (by omega) (by omega)) rfl ?_
    (repeat' (first|refine Zc ?_|refine Zd ?_|refine Zg ?_|refine Zk ?_|refine Zu tab rfl rfl ?_|(apply Yc;refine Yd ?_)|fail))
    exact xt_ret1S rfl rfl fun _ _ => by rw [h4 hC]
  · (repeat' (first|refine Za ?_|refine Zb ?_|refine Zc ?_|refine Zf ?_|refine Zu tab rfl rfl ?_|fail))
    refine tl_bin (o_quo64 rfl rfl (by omega) (by omega)) rfl ?_
    (repeat' (first|refine Zc ?_|refine Zd ?_|refine Zg ?_|refine Zu tab rfl rfl ?_|fail))
    exact xt_ret1S rfl rfl fun _ _ => by rw [h5 hC]

theorem mix_det (s a c b : Int) (hs : 1 ≤ s ∧ s ≤ 8) (ha : -2048 ≤ a ∧ a ≤ 2047) (hc : -2048 ≤ c ∧ c ≤ 2047) (hb : -2048 ≤ b ∧ b ≤ 2047) : Det Try.prog 92 [.int .i64 s, .int .i64 a, .int .i64 c, .int .i64 b] (.int .i64 (cvV s a c b)) := by
  intro w
  have h1 := cv_bd hs ha hc hb
  have hd : CDet Try.prog 107 [.int .i64 ((8 - s) * (8 - s) * a + 2 * s * (8 - s) * c + s * s * b + 32)] (.int .i64 (cvV s a c b)) := ⟨down3_det _ (by omega)⟩
  refine calls_S Try.func92 rfl Try.ntmps92 rfl ?_
  (repeat' (first|refine Za ?_|refine Zb ?_|refine Zc ?_|refine Zd ?_|refine Zg ?_|refine Zu tab rfl rfl ?_|(apply Yc;refine Yd ?_)|(apply Yt;refine Yu ?_)|fail))
  exact xt_ret1S rfl rfl fun _ _ => rfl

theorem between_det (a b : Int × Int) (ha : InP a) (hb : InP b) : Det Try.prog 90 [pt a.1 a.2, pt b.1 b.2] (pt (midP a b).1 (midP a b).2) := by
  intro w
  unfold InP at ha hb
  refine calls_S Try.func90 rfl Try.ntmps90 rfl ?_
  (repeat' (first|refine Za ?_|refine Zb ?_|refine Zc ?_|refine Zd ?_|refine Zu tab rfl rfl ?_|(apply Zy;refine Zz ?_)|(apply Yc;refine Yd ?_)|(apply Yg; first|refine Yh fun _=>?_|refine Yi (Yj rfl rfl) rfl fun _=>?_)|refine Yk rfl fun _=>?_|fail))
  refine tl_bin (o_shr 1 (m := 2) rfl rfl rfl rfl rfl) rfl ?_
  (repeat' (first|refine Zu tab rfl rfl ?_|(apply Zy;refine Zz ?_)|(apply Yc;refine Yd ?_)|fail))
  refine tl_bin (o_shr 1 (m := 2) rfl rfl rfl rfl rfl) rfl ?_
  (repeat' (first|refine Zc ?_|refine Zd ?_|refine Zg ?_|(apply Ye;refine Yf ?_)|(apply Yl;refine Ym ?_)|fail))
  exact xt_retAS 0 rfl rfl rfl rfl fun _ _ => rfl

set_option maxHeartbeats 1000000 in
theorem curve_det (a c b : Int × Int) (s : Int) (hs : 1 ≤ s ∧ s ≤ 8) (ha : InP a) (hc : InP c) (hb : InP b) : Det Try.prog 89 [pt a.1 a.2, pt c.1 c.2, pt b.1 b.2, .int .i64 s] (pt (cvP a c b s).1 (cvP a c b s).2) := by
  intro w
  unfold InP at ha hb hc
  have h1 := cv_bd hs ⟨ha.1, ha.2.1⟩ ⟨hc.1, hc.2.1⟩ ⟨hb.1, hb.2.1⟩
  have h2 := cv_bd hs ha.2.2 hc.2.2 hb.2.2
  refine calls_S Try.func89 rfl Try.ntmps89 rfl ?_
  (repeat' (first|refine Za ?_|refine Zb ?_|refine Zc ?_|refine Zd ?_|refine Zu tab rfl rfl ?_|(apply Zy;refine Zz ?_)|(apply Yc;refine Yd ?_)|(apply Yg; first|refine Yh fun _=>?_|refine Yi (Yj rfl rfl) rfl fun _=>?_)|refine Yk rfl fun _=>?_|fail))
  refine tl_bin (o_shr 6 (m := 64) rfl rfl rfl rfl rfl) rfl ?_
  (repeat' (first|refine Zu tab rfl rfl ?_|(apply Zy;refine Zz ?_)|(apply Yc;refine Yd ?_)|fail))
  refine tl_bin (o_shr 6 (m := 64) rfl rfl rfl rfl rfl) rfl ?_
  (repeat' (first|refine Zc ?_|refine Zd ?_|refine Zg ?_|(apply Ye;refine Yf ?_)|(apply Yl;refine Ym ?_)|fail))
  exact xt_retAS 0 rfl rfl rfl rfl fun _ _ => rfl

end Go.Proofs.Ytbgolbkolcmldaa
