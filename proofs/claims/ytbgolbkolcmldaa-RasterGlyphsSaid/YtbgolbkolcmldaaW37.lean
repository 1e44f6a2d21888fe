/-
  The law's own: a bitmap's own rows, forty, of forty bytes.
-/
import Derived.Test.YtbgolbkolcmldaaW36
namespace Go.Proofs.Ytbgolbkolcmldaa
open Go.RowKit
section
variable {P : Program} {fr : Fr} {I : World → Prop} {d : Option Tmp} {ty t : TypeId} {pos : String} {af : Array Edge} {g : Option (Nat × Bool)} {x y : Operand}
theorem o_sliceSH {s : ByteArray} {j : Nat} {k : IntKind} [hc : CStr P t] (hx : fev fr x = some (.string s)) (hy : fev fr y = some (.int k (j : Int))) (h' : j ≤ s.size) : Pv P ⟨d, .slice t x none (some y) none, ty, pos, af, g⟩ fr I (.string (s.extract 0 j)) :=
  pv_of fun ρ w hρ _ => by
    have h2 : (j : Int) ≤ s.size := by omega
    simp [execOp, hρ _ _ hx, hρ _ _ hy, Instr.sliceAt, Instr.slice, Instr.sliceBounds, Instr.sliceBound, asIntOf, run_underlying hc.under, h2]
    intro h3
    omega
end
def cut40 (s : ByteArray) : ByteArray := s.extract 0 (min s.size 40)
def rowsB (B : Bm) : Bm := ⟨B.X, B.Y, B.W, B.H, (B.rows.take 40).map cut40⟩
theorem rowsB_small (B : Bm) : (rowsB B).rows.length ≤ 1000 ∧ ∀ s ∈ (rowsB B).rows, s.size ≤ 1000 := by
  refine ⟨by simp only [rowsB]; rw [List.length_map, List.length_take]; omega, fun s hs => ?_⟩
  obtain ⟨r, _, rfl⟩ := List.mem_map.1 hs
  rw [cut40, ByteArray.size_extract]; omega
end Go.Proofs.Ytbgolbkolcmldaa
namespace Go.Proofs.Ytbgolbkolcmldaa
open Go.RowKit
attribute [local irreducible] T TL Xt O Op1 Kt DV ObsB DE DW DW1 LoopQ LoopJ

set_option maxHeartbeats 1000000 in
theorem lrows_calls (w : World) (b : Value) (B : Bm) (hb : BmAt w b B) : Calls Try.prog 26 #[b] w (Ret w fun v w' => BmI w w' v (rowsB B)) := by
  obtain ⟨rb, rfl, hrb⟩ := hb
  obtain ⟨Ab, nb, cb, rfl, _, hcap, _⟩ := id hrb
  obtain ⟨hnb, hnb'⟩ := rows_len hrb
  refine calls_S (vs := [bmV B (.slice Ab nb cb)]) Try.func26 rfl Try.ntmps26 rfl ?_
  (repeat' (first|refine Za ?_|refine Zb ?_|refine Zc ?_|refine Zd ?_|refine Ze ?_|refine Zu tab rfl rfl ?_|(apply Yg; first|refine Yh fun _=>?_|refine Yi (Yj rfl rfl) rfl fun _=>?_)|refine Yk rfl fun _=>?_|(apply Yv;refine Yw fun _=>?_)|fail))
  rename_i b1 b2 b5
  refine t_loopK [1, 2] (α := Nat × Value × HL) (fun z => [(3, z.2.1), (4, .int .i64 z.1)]) (fun z => z.1 ≤ B.rows.length ∧ z.1 ≤ 40 ∧ OwnsV z.2.1 9 1 z.1 (((B.rows.take z.1).map cut40).map .string) z.2.2) (fun z => (b2, bx [.int .i64 0, .int .i64 0, .int .i64 0, .int .i64 0, .slice none 0 0] 30) :: (b1, bx [.int .i64 B.X, .int .i64 B.Y, .int .i64 B.W, .int .i64 B.H, .slice Ab nb cb] 30) :: z.2.2) (fun z => 40 - z.1) (0, .slice (some ⟨b5, 0, none⟩) 0 0, [(b5, row 9 1 0 0 [])]) rfl ⟨rfl, rfl, trivial⟩ ⟨Nat.zero_le _, Nat.zero_le _, OwnsV.at_⟩ (fun w1 h1 => ?_) ?_
  · exact (St.headImp h1 fun o ho => bx_row0 ho).perm ((List.Perm.swap _ _ _).trans (List.Perm.cons _ (List.Perm.swap _ _ _)))
  rintro ⟨i, v, Lv⟩ ⟨hi, hi4, hv⟩
  dsimp only at hi hi4 hv ⊢
  try dsimp only [List.cons_append, List.nil_append, List.map_cons, List.map_nil]
  (repeat' (first|refine Za ?_|refine Zb ?_|refine Zu tab rfl rfl ?_|(apply Zy;refine Zz ?_)|fail))
  refine tl_if [1, 2, 3, 4] (i < B.rows.length ∧ i < 40) rfl (fun Q' K => ?_) (fun hC => ?_) (fun hC => ?_)
  · (repeat' (first|refine Zd ?_|refine Zu tab rfl rfl ?_|refine Zv rfl rfl ?_|refine Zw rfl rfl rfl rfl ?_|(apply Ya;refine Yb ?_)|refine tl_guard rfl rfl rfl (fun _ => ?_) (fun _ => ?_)|fail))
    all_goals exact K _ _ rfl rfl (by simp_all <;> omega)
  · obtain ⟨s, hs⟩ : ∃ s, B.rows[i]? = some s := ⟨_, List.getElem?_eq_getElem hC.1⟩
    obtain ⟨b5', o5, rfl, hc5⟩ := rows_cl hrb hs
    have hmin : (min (s.size : Int) 40) = ((min s.size 40 : Nat) : Int) := by omega
    (repeat' (first|refine Za ?_|refine Zc ?_|refine Ze ?_|refine Zf ?_|fail))
    refine t_drawWH (L := [(b2, bx [.int .i64 0, .int .i64 0, .int .i64 0, .int .i64 0, .slice none 0 0] 30), (b1, bx [.int .i64 B.X, .int .i64 B.Y, .int .i64 B.W, .int .i64 B.H, .slice (some ⟨b5', o5, none⟩) nb cb] 30)]) (Hn := Lv) 16 [(0, .v), (1, .v), (2, .v), (3, .v), (4, .v), (5, .v), (6, .v), (7, .v), (8, .v), (9, .v), (10, .v), (11, .v), (12, .v), (13, .v), (14, .e), (15, .h)] ?_ rfl (by kernel_rfl) (by kernel_rfl) rfl (by kernel_rfl) mixed (by kernel_rfl) rfl
    (repeat' (first|refine Yz rfl ?_|refine Vd tab ?_|(apply Vf;refine Vg ?_)|(apply Vl;refine Vm ?_)|fail))
    refine dw_opN rfl rfl (fun _ => o_sliceSH (j := min s.size 40) rfl (congrArg (fun z => some (Value.int .i64 z)) hmin) (by omega)) ?_
    rw [show s.extract 0 (min s.size 40) = cut40 s from rfl]
    (repeat' (first|refine Yz rfl ?_|(apply Vz;refine Ua fun _=>?_)|fail))
    refine dw_appH rfl rfl hv rfl rfl rfl (by omega) (by omega) rfl trivial fun v' Lv' hv' => ?_
    (repeat' (first|fail))
    refine dw_end [1, 2, 4, 32] (rest := []) rfl ?_
    (repeat' (first|refine Zb ?_|refine Zc ?_|refine Zd ?_|refine Zi ?_|refine Zu tab rfl rfl ?_|(apply Yc;refine Yd ?_)|fail))
    refine xt_roundK (i + 1, v', Lv') rfl ⟨rfl, rfl, trivial⟩ ⟨by dsimp only; omega, by dsimp only; omega, ?_⟩ (by dsimp only; omega) (fun w1 h1 => h1.perm List.perm_append_comm)
    dsimp only
    rw [List.take_add_one, hs, List.map_append, List.map_append]
    exact hv'
  · obtain ⟨Av, cv, rfl⟩ := hv.shape
    have htk : B.rows.take i = B.rows.take 40 := by
      rcases Nat.lt_or_ge i 40 with h | h
      · rw [List.take_of_length_le (by omega), List.take_of_length_le (by omega)]
      · rw [show i = 40 by omega]
    rw [htk] at hv
    (repeat' (first|refine Za ?_|refine Zb ?_|refine Zc ?_|refine Zd ?_|refine Zg ?_|refine Zh ?_|refine Zj ?_|refine Zl ?_|refine Zq ?_|refine Zu tab rfl rfl ?_|(apply Zy;refine Zz ?_)|(apply Ye;refine Yf ?_)|fail))
    refine xt_retAS 0 rfl rfl rfl rfl fun w3 hw3 => ⟨_, rfl, ?_⟩
    exact hv.rdI hw3 fun p hp => by simp [hp]

end Go.Proofs.Ytbgolbkolcmldaa
