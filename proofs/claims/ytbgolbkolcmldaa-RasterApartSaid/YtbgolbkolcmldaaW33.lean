/-
  'RasterApart', walked.
-/
import Derived.Test.YtbgolbkolcmldaaW32
import Derived.Test.YtbgolbkolcmldaaW29
import Derived.Test.YtbgolbkolcmldaaP16
import Derived.Test.YtbgolbkolcmldaaP11
namespace Go.Proofs.Ytbgolbkolcmldaa
open Go.RowKit
section
variable {P : Program} {r : Option Nat} {Q : Exit → Act → World → Prop} {nt : Nat} {D : List Deferred} {fr : Fr} {I : World → Prop} {w0 : World} {X : List Nat} {L : HL} {ops : Array Oper} {rest : List Oper} {d : Nat} {ty : TypeId} {pos : String} {af : Array Edge}
/-- a call, whatever it has made -/
theorem tl_callE {f : FuncId} {args : Array Operand} {ts : Array TypeId} {vs : List Value} {Post : World → Value → World → Prop} [CFn P f] (hc : ∀ w, St w0 X L w → Calls P f vs.toArray w (Ret w (Post w))) (hv : fevs fr args.toList = some vs) (hd : Nat.ble nt d = false)
    (h : ∀ w1 w2 v, St w0 X L w1 → Ext w1 w2 → Post w1 v w2 → TL P r ops Q nt D rest ((d, v) :: fr) (fun w => w = w2)) : TL P r ops Q nt D (⟨some d, .call ⟨.value (.func f), args, ts⟩, ty, pos, af, none⟩ :: rest) fr (St w0 X L) :=
  tl_op hd rfl (o_ret hv hc) fun v a w' ha hw => by
    obtain ⟨w, hw, he, hpost⟩ := hw
    exact h w w' v hw he hpost a w' ha rfl
end
theorem pt_set0 {M : Pts} {k : Nat} {p : Int × Int} (h : M[k]? = some p) (x : Int) : putL (ptCells M) (0 + (k : Int).toNat * 2 + 0) [.int .i64 x] = ptCells (M.set k (x, p.2)) := by
  rw [Nat.zero_add, Int.toNat_natCast, Nat.add_zero]
  have hk := (List.getElem?_eq_some_iff.1 h).1
  have e := flat_put (fun p : Int × Int => [Value.int .i64 p.1, .int .i64 p.2]) 2 (by omega) (fun _ => rfl) (a := (x, p.2)) hk
  have h2 := (ptCells_get M k p h).2
  show (ptCells M).set (k * 2) (.int .i64 x) = _
  refine Eq.trans ?_ e
  show _ = ((ptCells M).set (k * 2) (.int .i64 x)).set (k * 2 + 1) (.int .i64 p.2)
  symm
  apply List.ext_getElem?
  intro j
  by_cases hj : k * 2 + 1 = j
  · subst hj
    have hlt := (List.getElem?_eq_some_iff.1 h2).1
    rw [List.getElem?_set_self (by rw [List.length_set]; exact hlt), List.getElem?_set_ne (by omega), h2]
  · rw [List.getElem?_set_ne hj]
theorem pt_set1 {M : Pts} {k : Nat} {p : Int × Int} (h : M[k]? = some p) (y : Int) : putL (ptCells M) (0 + (k : Int).toNat * 2 + 1) [.int .i64 y] = ptCells (M.set k (p.1, y)) := by
  rw [Nat.zero_add, Int.toNat_natCast]
  have hk := (List.getElem?_eq_some_iff.1 h).1
  have e := flat_put (fun p : Int × Int => [Value.int .i64 p.1, .int .i64 p.2]) 2 (by omega) (fun _ => rfl) (a := (p.1, y)) hk
  have h2 := (ptCells_get M k p h).1
  show (ptCells M).set (k * 2 + 1) (.int .i64 y) = _
  refine Eq.trans ?_ e
  show _ = ((ptCells M).set (k * 2) (.int .i64 p.1)).set (k * 2 + 1) (.int .i64 y)
  congr 1
  symm
  apply List.ext_getElem?
  intro j
  by_cases hj : k * 2 = j
  · subst hj
    have hlt := (List.getElem?_eq_some_iff.1 h2).1
    rw [List.getElem?_set_self hlt, h2]
  · rw [List.getElem?_set_ne hj]
theorem pt_g0 {M : Pts} {k : Nat} {p : Int × Int} (h : M[k]? = some p) : (ptCells M)[0 + (k : Int).toNat * 2 + 0]? = some (.int .i64 p.1) := by
  rw [Nat.zero_add, Int.toNat_natCast, Nat.add_zero]; exact (ptCells_get M k p h).1
theorem pt_g1 {M : Pts} {k : Nat} {p : Int × Int} (h : M[k]? = some p) : (ptCells M)[0 + (k : Int).toNat * 2 + 1]? = some (.int .i64 p.2) := by
  rw [Nat.zero_add, Int.toNat_natCast]; exact (ptCells_get M k p h).2
theorem lines_sub {w : World} {b off c c' : Nat} {l0 l1 : Pts} (h : Lines w (.slice (some ⟨b, off, none⟩) 2 c) [l0, l1]) (hc : 1 ≤ c' ∧ c' ≤ c) : Lines w (.slice (some ⟨b, off, none⟩) 1 c') [l0] ∧ Lines w (.slice (some ⟨b, off + 1 * 1, none⟩) (2 - 1) (c - 1)) [l1] := by
  obtain ⟨rows, ⟨A', n', cap', he, h1, h2, h3, h4⟩, hl, hrow⟩ := h
  cases he
  obtain ⟨b', off', he, hb, hcl⟩ := h4 (by omega)
  cases he
  match rows, h1 with
  | [r0, r1], _ =>
    refine ⟨⟨[r0], ⟨_, 1, c', rfl, rfl, hc.1, by omega, fun _ => ⟨b, off, rfl, hb, fun j u hj => ?_⟩⟩, rfl, fun i r l h5 h6 => ?_⟩, ⟨[r1], ⟨_, 1, c - 1, rfl, rfl, by omega, by omega, fun _ => ⟨b, off + 1 * 1, rfl, hb, fun j u hj => ?_⟩⟩, rfl, fun i r l h5 h6 => ?_⟩⟩
    · cases j with
      | zero => simp at hj; subst hj; exact hcl 0 _ rfl
      | succ j => simp at hj
    · cases i with
      | zero => simp at h5 h6; subst h5; subst h6; exact hrow 0 _ _ rfl rfl
      | succ i => simp at h5
    · cases j with
      | zero => simp at hj; subst hj; exact hcl 1 _ rfl
      | succ j => simp at hj
    · cases i with
      | zero => simp at h5 h6; subst h5; subst h6; exact hrow 1 _ _ rfl rfl
      | succ i => simp at h5
def shA (above : Bool) (p : Int × Int) : Int × Int := if above then (p.1, p.2 + 4096) else (p.1 + 4096, p.2)
def mixA (above : Bool) (l : Pts) (k : Nat) : Pts := (l.take k).map (shA above) ++ l.drop k
theorem mix_len (above : Bool) (l : Pts) (k : Nat) : (mixA above l k).length = l.length := by
  rw [mixA, List.length_append, List.length_map, List.length_take, List.length_drop]; omega
theorem mix_at {above : Bool} {l : Pts} {k : Nat} {p : Int × Int} (h : l[k]? = some p) : (mixA above l k)[k]? = some p ∧ (mixA above l k).set k (shA above p) = mixA above l (k + 1) := by
  have hk := (List.getElem?_eq_some_iff.1 h).1
  have hl : ((l.take k).map (shA above)).length = k := by rw [List.length_map, List.length_take]; omega
  have hd : l.drop k = p :: l.drop (k + 1) := by rw [List.drop_eq_getElem_cons hk, (List.getElem?_eq_some_iff.1 h).2]
  unfold mixA
  refine ⟨by rw [List.getElem?_append_right (by omega), hl, Nat.sub_self, hd]; rfl, ?_⟩
  rw [List.set_append_right _ _ (by omega), hl, Nat.sub_self, hd, List.set_cons_zero, List.take_add_one, h, List.map_append, List.append_assoc]
  rfl
end Go.Proofs.Ytbgolbkolcmldaa
namespace Go.Proofs.Ytbgolbkolcmldaa
open Go.RowKit
attribute [local irreducible] T TL Xt O Op1 Kt DV ObsB DE DW DW1 LoopQ LoopJ

set_option maxHeartbeats 1000000 in
theorem apart_calls (w : World) (A0 : Option Addr) (n0 cap0 : Nat) (o0 : Pts) (hR0 : Row w (.slice A0 n0 cap0) o0) (A1 : Option Addr) (n1 cap1 : Nat) (o1 : Pts) (hR1 : Row w (.slice A1 n1 cap1) o1) (above : Bool) : Calls Try.prog 7 #[.slice A0 n0 cap0, .slice A1 n1 cap1, .bool above] w (Ret w fun v _ => v = .bool true) := by
  obtain ⟨hfl, hn5, hn10⟩ := near_len [o0, o1]
  have hin0 : ∀ p ∈ nrL o0, -2048 ≤ p.1 ∧ p.1 ≤ 2047 ∧ -2048 ≤ p.2 ∧ p.2 ≤ 2047 := fun p hp => near_in (ls := [o0, o1]) (by simp [nearL, hp])
  have hin1 : ∀ p ∈ nrL o1, -2048 ≤ p.1 ∧ p.1 ≤ 2047 ∧ -2048 ≤ p.2 ∧ p.2 ≤ 2047 := fun p hp => near_in (ls := [o0, o1]) (by simp [nearL, hp])
  have hl0 : (nrL o0).length ≤ 10 := hn10 _ (by simp [nearL])
  have hl1 : (nrL o1).length ≤ 10 := hn10 _ (by simp [nearL])
  refine calls_S (vs := [.slice A0 n0 cap0, .slice A1 n1 cap1, .bool above]) Try.func7 rfl Try.ntmps7 rfl ?_
  (repeat' (first|refine Za ?_|refine Zb ?_|refine Zc ?_|refine Zd ?_|refine Zu tab rfl rfl ?_|(apply Yt;refine Yu ?_)|(apply Yv;refine Yw fun _=>?_)|fail))
  rename_i b15
  refine tl_callE (Post := fun w1 v w2 => NearI w1 w2 v [nrL o0, nrL o1]) (fun w1 hw1 => near_own w1 _ _ _ [o0, o1] ?_) rfl rfl ?_
  · refine ⟨[.slice A0 n0 cap0, .slice A1 n1 cap1], (bx_rdI hw1 (List.mem_cons_self ..) rfl (by unfold maxLen; omega)).rd, rfl, fun i r l h1 h2 => ?_⟩
    match i, h1, h2 with
    | 0, h1, h2 => simp at h1 h2; subst h1; subst h2; exact hR0.ext hw1.toExt
    | 1, h1, h2 => simp at h1 h2; subst h1; subst h2; exact hR1.ext hw1.toExt
    | i + 2, h1, h2 => simp at h1
  rintro w1 w2 v1 hw1 he1 ⟨rs, Ls, Lv, hov, hrs, hLs, hrow, hst⟩
  generalize nrL o0 = N0 at *
  generalize nrL o1 = N1 at *
  match rs, hrs, Ls, hLs with
  | [r0, r1], _, [L0, L1], _ =>
    have ho0 := hrow 0 r0 N0 L0 rfl rfl rfl
    have ho1 := hrow 1 r1 N1 L1 rfl rfl rfl
    have hst2 := hw1.addSt hst
    rcases hov with ⟨_, h2, _, _⟩ | ⟨bv, cv, rfl, rfl⟩
    · cases h2
    obtain ⟨Lst, hLst0, hown, hcase⟩ : ∃ Lst : Nat → HL, Lst 0 = L1 ∧ (∀ k, OwnsV r1 24 2 N1.length (ptCells (mixA above N1 k)) (Lst k)) ∧ (N1.length = 0 ∨ ∃ b cp, r1 = .slice (some ⟨b, 0, none⟩) N1.length cp ∧ ∀ k, Lst k = [(b, row 24 2 N1.length cp (ptCells (mixA above N1 k)))]) := by
      rcases ho1 with ⟨h1, h2, h3, h4⟩ | ⟨b, cp, h1, h2⟩
      · refine ⟨fun _ => [], h4.symm, fun k => .inl ⟨h1, h2, ?_, rfl⟩, .inl h2⟩
        have : mixA above N1 k = [] := List.length_eq_zero_iff.1 (by rw [mix_len, h2])
        rw [this]; rfl
      · exact ⟨fun k => [(b, row 24 2 N1.length cp (ptCells (mixA above N1 k)))], h2.symm, fun k => .inr ⟨b, cp, h1, rfl⟩, .inr ⟨b, cp, h1, fun _ => rfl⟩⟩
    have hcv : 2 ≤ cv ∧ cv ≤ 9223372036854775807 := by
      obtain ⟨o, ho, cur, rfl, _, _, _, h4, h5⟩ := hst.here (bv, row 38 1 2 cv [r0, r1]) (by simp)
      unfold maxLen at h5
      omega
    refine tl_imp (I' := St w [] ([(bv, row 38 1 2 cv [r0, r1])] ++ (Lst 0 ++ L0))) (fun w' hw' => ?_) ?_
    · subst hw'
      rw [hLst0]
      have h3 : St w [] ([L0, L1].flatten ++ [(bv, row 38 1 2 cv [r0, r1])]) w' := hst2.sublist (List.sublist_append_left ..)
      refine h3.perm ?_
      simp only [List.flatten_cons, List.flatten_nil, List.append_nil]
      exact (List.perm_append_comm.append_right _).trans List.perm_append_comm
    obtain ⟨Ar, cr, hr1⟩ : ∃ Ar cr, r1 = .slice Ar N1.length cr := (hown 0).shape
    rw [show ([N0, N1] : List Pts).length = 2 from rfl]
    (repeat' (first|refine Za ?_|refine Zb ?_|refine Zc ?_|refine Zd ?_|refine Ze ?_|refine Zu tab rfl rfl ?_|fail))
    refine t_loopK [2, 7, 8] (α := Nat) (fun k => [(9, .int .i64 k)]) (fun k => k ≤ N1.length) (fun k => (bv, row 38 1 2 cv [r0, r1]) :: (Lst k ++ L0)) (fun k => N1.length - k) 0 rfl ⟨rfl, trivial⟩ (Nat.zero_le _) (fun w h => h) ?_
    intro k hk
    try dsimp only [List.cons_append, List.nil_append, List.map_cons, List.map_nil]
    (repeat' (first|refine Za ?_|refine Zb ?_|refine Zu tab rfl rfl ?_|(apply Yn;refine Yo ?_)|fail))
    refine tl_load (o_loadRow1 0 (v := r1) rfl rfl rfl) rfl ?_
    rw [hr1]
    (repeat' (first|refine Zc ?_|refine Zd ?_|refine Zu tab rfl rfl ?_|fail))
    refine t_cond rfl (fun h => ?_) (fun h => ?_)
    · have hkl : k < N1.length := by have := of_decide_eq_true h; omega
      obtain ⟨p, hp⟩ : ∃ p, N1[k]? = some p := ⟨N1[k], List.getElem?_eq_getElem hkl⟩
      have hpi := hin1 p (List.mem_of_getElem? hp)
      obtain ⟨hma, hms⟩ := mix_at (above := above) hp
      have hml := mix_len above N1 k
      rcases hcase with hcase | ⟨b, cp, hrb, hLk⟩
      · omega
      rw [hr1] at hrb
      injection hrb with e1 e2 e3
      subst e1
      subst e3
      rw [hLk]
      (repeat' (first|refine Za ?_|refine Zb ?_|refine Zc ?_|refine Zd ?_|refine Ze ?_|refine Zf ?_|refine Zu tab rfl rfl ?_|fail))
      refine t_cond rfl (fun ha => ?_) (fun ha => ?_)
      · subst ha
        (repeat' (first|fail))
        refine t_drawW 12 [(0, .v), (1, .v), (2, .v), (3, .v), (4, .v), (5, .v), (6, .v), (7, .v), (8, .v), (9, .v), (10, .v), (11, .v)] ?_ rfl (by kernel_rfl) (by kernel_rfl) rfl (by kernel_rfl) mixed (by kernel_rfl) rfl
        (repeat' (first|refine Yz rfl ?_|refine Vd tab ?_|(apply Vl;refine Vm ?_)|fail))
        refine dw_opN rfl rfl (fun _ => o_loadRow1 0 (v := .slice (some ⟨b, 0, none⟩) N1.length cr) rfl rfl rfl) ?_
        (repeat' (first|refine Yz rfl ?_|refine Vd tab ?_|(apply Vl;refine Vm ?_)|fail))
        refine dw_opN rfl rfl (fun _ => o_loadRow1 0 (v := .slice (some ⟨b, 0, none⟩) N1.length cr) rfl rfl rfl) ?_
        (repeat' (first|refine Yz rfl ?_|refine Vd tab ?_|(apply Vl;refine Vm ?_)|fail))
        refine dw_opN rfl rfl (fun _ => o_loadRow1 1 rfl rfl (pt_g1 hma)) ?_
        (repeat' (first|refine Yz rfl ?_|(apply Vj;refine Vk ?_)|fail))
        refine dw_end [2, 7, 8, 9, 28, 29, 37] (rest := []) rfl ?_
        (repeat' (first|refine Zu tab rfl rfl ?_|(apply Yn;refine Yo ?_)|fail))
        refine tl_store (o_storeRow1 1 rfl rfl rfl rfl (by omega)) ?_
        rw [pt_set1 hma, show (p.1, p.2 + 4096) = shA true p from rfl, hms]
        (repeat' (first|refine Zb ?_|refine Zc ?_|refine Zd ?_|refine Zi ?_|refine Zu tab rfl rfl ?_|(apply Yc;refine Yd ?_)|fail))
        refine xt_roundK (k + 1) rfl ⟨rfl, trivial⟩ (by omega) (by omega) (fun _ h => ?_)
        rw [hLk]
        exact h
      · subst ha
        (repeat' (first|fail))
        refine t_drawW 12 [(0, .v), (1, .v), (2, .v), (3, .v), (4, .v), (5, .v), (6, .v), (7, .v), (8, .v), (9, .v), (10, .v), (11, .v)] ?_ rfl (by kernel_rfl) (by kernel_rfl) rfl (by kernel_rfl) mixed (by kernel_rfl) rfl
        (repeat' (first|refine Yz rfl ?_|refine Vd tab ?_|(apply Vl;refine Vm ?_)|fail))
        refine dw_opN rfl rfl (fun _ => o_loadRow1 0 (v := .slice (some ⟨b, 0, none⟩) N1.length cr) rfl rfl rfl) ?_
        (repeat' (first|refine Yz rfl ?_|refine Vd tab ?_|(apply Vl;refine Vm ?_)|fail))
        refine dw_opN rfl rfl (fun _ => o_loadRow1 0 (v := .slice (some ⟨b, 0, none⟩) N1.length cr) rfl rfl rfl) ?_
        (repeat' (first|refine Yz rfl ?_|refine Vd tab ?_|(apply Vl;refine Vm ?_)|fail))
        refine dw_opN rfl rfl (fun _ => o_loadRow1 1 rfl rfl (pt_g0 hma)) ?_
        (repeat' (first|refine Yz rfl ?_|(apply Vj;refine Vk ?_)|fail))
        refine dw_end [2, 7, 8, 9, 42, 43, 51] (rest := []) rfl ?_
        (repeat' (first|refine Zu tab rfl rfl ?_|(apply Yn;refine Yo ?_)|fail))
        refine tl_store (o_storeRow1 1 rfl rfl rfl rfl (by omega)) ?_
        rw [pt_set0 hma, show (p.1 + 4096, p.2) = shA false p from rfl, hms]
        (repeat' (first|refine Zb ?_|refine Zc ?_|refine Zd ?_|refine Zi ?_|refine Zu tab rfl rfl ?_|(apply Yc;refine Yd ?_)|fail))
        refine xt_roundK (k + 1) rfl ⟨rfl, trivial⟩ (by omega) (by omega) (fun _ h => ?_)
        rw [hLk]
        exact h
    · have hkl : k = N1.length := by have := of_decide_eq_false h; omega
      subst hkl
      refine t_rebase fun w4 hw4 => ?_
      have hmix : mixA above N1 N1.length = N1.map (shA above) := by rw [mixA, List.take_length, List.drop_length, List.append_nil]
      have hl4 : Lines w4 (.slice (some ⟨bv, 0, none⟩) 2 cv) [N0, N1.map (shA above)] := by
        rw [← hr1] at hw4
        have hov : OwnsV (.slice (some ⟨bv, 0, none⟩) 2 cv) 38 1 2 [r0, r1] [(bv, row 38 1 2 cv [r0, r1])] := OwnsV.at_
        refine lines_own hov hw4 (fun p hp => by rw [List.mem_singleton] at hp; subst hp; exact List.mem_cons_self ..) rfl fun i r l h1 h2 => ?_
        match i, h1, h2 with
        | 0, h1, h2 =>
          simp at h1 h2; subst h1; subst h2
          exact (ho0.rdI hw4 fun p hp => List.mem_cons_of_mem _ (List.mem_append_right _ hp)).rd
        | 1, h1, h2 =>
          simp at h1 h2; subst h1; subst h2
          rw [← hmix]
          have := (hown N1.length).rdI hw4 fun p hp => List.mem_cons_of_mem _ (List.mem_append_left _ hp)
          exact this.rd
        | i + 2, h1, h2 => simp at h1
      have hx4 := hw4.toExt
      obtain ⟨hs0, hs1⟩ := lines_sub (c' := cv) hl4 (by omega)
      have hlaw : overB (fillB [N0]) (fillB [N1.map (shA above)]) 0 0 = fillB [N0, N1.map (shA above)] := by
        refine apart_law hin0 ?_
        cases above with
        | true =>
          refine .inr fun p hp => ?_
          obtain ⟨q, hq, rfl⟩ := List.mem_map.1 hp
          have := hin1 q hq
          simp only [shA, if_true]
          omega
        | false =>
          refine .inl fun p hp => ?_
          obtain ⟨q, hq, rfl⟩ := List.mem_map.1 hp
          have := hin1 q hq
          simp only [shA, Bool.false_eq_true, if_false]
          omega
      have hlM : (N1.map (shA above)).length = N1.length := List.length_map _
      generalize N1.map (shA above) = M1 at *
      have d0 := edgesAll_le [N0]
      have d1 := edgesAll_le [M1]
      have d2 := edgesAll_le [N0, M1]
      simp only [List.flatten_cons, List.flatten_nil, List.append_nil, List.length_append] at d0 d1 d2
      have sm0 := fill_small [N0]
      have sm1 := fill_small [M1]
      clear hw4 hown hcase hLst0 hst2 hst
      generalize hB0 : fillB [N0] = B0 at *
      generalize hB1 : fillB [M1] = B1 at *
      generalize hB2 : fillB [N0, M1] = B2 at *
      (repeat' (first|refine Za ?_|refine Zb ?_|refine Zc ?_|refine Zh ?_|refine Zj ?_|refine Zl ?_|refine Zq ?_|refine Zu tab rfl rfl ?_|fail))
      refine tl_val (o_sliceH (n := 1) rfl rfl (by omega)) rfl rfl ?_
      (repeat' (first|fail))
      refine tl_callR (Post := fun w1 v w2 => BmI w1 w2 v B0) (fun w5 hw5 => ?_) rfl rfl ?_
      · rw [← hB0]
        exact fill_calls w5 _ _ _ [N0] (hs0.to hw5.toExt) (by omega)
      rintro w5 w6 v6 hw5 he5 ⟨rv6, rfl, hr6⟩
      obtain ⟨A6, n6, c6, rfl, _⟩ := id hr6
      (repeat' (first|refine Za ?_|refine Zb ?_|refine Zc ?_|refine Zd ?_|refine Zu tab rfl rfl ?_|(apply Ye;refine Yf ?_)|refine Yk rfl fun _=>?_|fail))
      rename_i b10
      refine tl_val (o_sliceL (n := 1) rfl rfl (by omega) (by omega)) rfl rfl ?_
      (repeat' (first|fail))
      refine tl_callR (Post := fun w1 v w2 => BmI w1 w2 v B1) (fun w7 hw7 => ?_) rfl rfl ?_
      · rw [← hB1]
        exact fill_calls w7 _ _ _ [M1] (hs1.to hw7.toExt) (by omega)
      rintro w7 w8 v8 hw7 he7 ⟨rv8, rfl, hr8⟩
      obtain ⟨A8, n8, c8, rfl, _⟩ := id hr8
      (repeat' (first|refine Za ?_|refine Zc ?_|refine Zd ?_|(apply Ye;refine Yf ?_)|refine Yk rfl fun _=>?_|fail))
      rename_i b11
      refine t_drawW 6 [(0, .v), (1, .v), (2, .v), (4, .v), (5, .v), (3, .e)] ?_ rfl (by kernel_rfl) (by kernel_rfl) rfl (by kernel_rfl) mixed (by kernel_rfl) rfl
      (repeat' (first|refine Yz rfl ?_|refine Vd tab ?_|(apply Vf;refine Vg ?_)|fail))
      refine dw_callR (Post := fun w1 v w2 => BmI w1 w2 v B2) (fun L' w9 hw9 => ?_) rfl rfl rfl ?_
      · rw [← hB2]
        exact fill_calls w9 _ _ _ [N0, M1] (hl4.to hw9.toExt) (by omega)
      rintro w9 wa va L9 hw9 he9 ⟨rva, rfl, hra⟩
      obtain ⟨Aa, na, ca, rfl, _⟩ := id hra
      (repeat' (first|fail))
      refine dw_end [61, 63, 64, 65] (rest := []) rfl ?_
      (repeat' (first|refine Zv rfl rfl ?_|fail))
      refine tl_callR (Post := fun w1 v w2 => BmI w1 w2 v B2) (fun wb hwb => ?_) rfl rfl ?_
      · rw [← hlaw]
        exact over_calls wb _ _ B0 B1 ⟨_, rfl, (RdI.move hr6 (hwb.sg fun p hp => by simp [hp])).rd⟩ ⟨_, rfl, (RdI.move hr8 (hwb.sg fun p hp => by simp [hp])).rd⟩ sm0 sm1 0 0
      rintro wb wc vc hwb heb ⟨rvc, rfl, hrc⟩
      obtain ⟨Ac, nc, cc, rfl, _⟩ := id hrc
      (repeat' (first|refine Zv rfl rfl ?_|fail))
      refine tl_callV (u := .bool true) (fun wd hwd => ?_) rfl rfl ?_
      · have := same_calls wd _ _ B2 B2 ⟨_, rfl, (RdI.move hra (hwd.sg fun p hp => by simp [hp])).rd⟩ ⟨_, rfl, (RdI.move hrc (hwd.sg fun p hp => by simp [hp])).rd⟩
        rw [show decide (Bm.same B2 B2) = true by simp [Bm.same]] at this
        exact this
      (repeat' (first|refine Zc ?_|refine Zd ?_|refine Zg ?_|refine Zu tab rfl rfl ?_|(apply Ya;refine Yb ?_)|fail))
      exact xt_ret1 rfl rfl fun wc hwc => ⟨_, rfl, hx4.trans hwc.toExt, rfl⟩

end Go.Proofs.Ytbgolbkolcmldaa
