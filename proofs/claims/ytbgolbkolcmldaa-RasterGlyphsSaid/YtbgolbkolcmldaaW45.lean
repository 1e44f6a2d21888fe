/-
  Outlines: the row of points of a ring.
-/
import Derived.Test.YtbgolbkolcmldaaW44
namespace Go.Proofs.Ytbgolbkolcmldaa
open Go.RowKit
def cvTo (a c b : Int × Int) (j : Nat) : Pts := (List.range j).map fun (m : Nat) => cvP a c b ((m : Int) + 1)
theorem cvTo_succ (a c b : Int × Int) (j : Nat) : cvTo a c b (j + 1) = cvTo a c b j ++ [cvP a c b ((j : Int) + 1)] := by simp [cvTo, List.range_succ]
theorem cvTo_len (a c b : Int × Int) (j : Nat) : (cvTo a c b j).length = j := by simp [cvTo]
def rowGo (r : List Spt) (n : Nat) : Pts :=
  if h : n < r.length then
    match r[n]?, r[(n + 1) % r.length]?, r[(n + 2) % r.length]? with
    | some a, some c, some b => if c.2 then c.1 :: rowGo r (n + 1) else cvTo a.1 c.1 b.1 8 ++ rowGo r (n + 2)
    | _, _, _ => []
  else []
termination_by r.length - n
def rowPts (r : List Spt) : Pts := match r[0]? with
  | some s => (s.1 :: rowGo r 0).dropLast
  | none => []
theorem rowGo_end {r : List Spt} {n : Nat} (h : r.length ≤ n) : rowGo r n = [] := by
  unfold rowGo
  rw [dif_neg (by omega)]
theorem rowGo_on {r : List Spt} {n : Nat} {a c b : Spt} (h1 : r[n]? = some a) (h2 : r[(n + 1) % r.length]? = some c) (h3 : r[(n + 2) % r.length]? = some b) (hc : c.2 = true) : rowGo r n = c.1 :: rowGo r (n + 1) := by
  rw [rowGo, dif_pos (List.getElem?_eq_some_iff.1 h1).1]
  simp only [h1, h2, h3, hc, if_true]
theorem rowGo_off {r : List Spt} {n : Nat} {a c b : Spt} (h1 : r[n]? = some a) (h2 : r[(n + 1) % r.length]? = some c) (h3 : r[(n + 2) % r.length]? = some b) (hc : c.2 = false) : rowGo r n = cvTo a.1 c.1 b.1 8 ++ rowGo r (n + 2) := by
  rw [rowGo, dif_pos (List.getElem?_eq_some_iff.1 h1).1]
  simp only [h1, h2, h3, hc]
  rfl
def InL (l : Pts) : Prop := ∀ p ∈ l, InP p
theorem cvTo_in {a c b : Int × Int} (ha : InP a) (hc : InP c) (hb : InP b) {j : Nat} (hj : j ≤ 8) : InL (cvTo a c b j) := by
  intro p hp
  obtain ⟨m, hm, rfl⟩ := List.mem_map.1 hp
  rw [List.mem_range] at hm
  exact cv_in (by omega) ha hc hb
theorem rowGo_in {r : List Spt} (hr : InC r) : ∀ (k n : Nat), r.length - n ≤ k → InL (rowGo r n) ∧ (rowGo r n).length ≤ 8 * (r.length - n)
  | k, n, hk => by
    by_cases h : n < r.length
    · have h1 : r[n]? = some r[n] := List.getElem?_eq_getElem h
      have m2 : (n + 1) % r.length < r.length := Nat.mod_lt _ (by omega)
      have m3 : (n + 2) % r.length < r.length := Nat.mod_lt _ (by omega)
      have h2 : r[(n + 1) % r.length]? = some r[(n + 1) % r.length] := List.getElem?_eq_getElem m2
      have h3 : r[(n + 2) % r.length]? = some r[(n + 2) % r.length] := List.getElem?_eq_getElem m3
      generalize r[n] = a at *
      generalize r[(n + 1) % r.length] = c at *
      generalize r[(n + 2) % r.length] = b at *
      have ha := hr a (List.mem_of_getElem? h1)
      have hc := hr c (List.mem_of_getElem? h2)
      have hb := hr b (List.mem_of_getElem? h3)
      match k, hk with
      | 0, hk => omega
      | k + 1, hk =>
        cases hon : c.2 with
        | true =>
          rw [rowGo_on h1 h2 h3 hon]
          obtain ⟨i1, i2⟩ := rowGo_in hr k (n + 1) (by omega)
          refine ⟨fun p hp => ?_, by rw [List.length_cons]; omega⟩
          rcases List.mem_cons.1 hp with rfl | hp
          · exact hc
          · exact i1 p hp
        | false =>
          rw [rowGo_off h1 h2 h3 hon]
          obtain ⟨i1, i2⟩ := rowGo_in hr k (n + 2) (by omega)
          refine ⟨fun p hp => ?_, by rw [List.length_append, cvTo_len]; omega⟩
          rcases List.mem_append.1 hp with hp | hp
          · exact cvTo_in ha hc hb (Nat.le_refl _) p hp
          · exact i1 p hp
    · rw [rowGo_end (by omega)]
      exact ⟨fun p hp => (by cases hp), by simp⟩
theorem rowPts_in {r : List Spt} (hr : InC r) : InL (rowPts r) ∧ (rowPts r).length ≤ 8 * r.length := by
  obtain ⟨h1, h2⟩ := rowGo_in hr _ 0 (Nat.le_refl _)
  unfold rowPts
  split
  · rename_i s hs
    refine ⟨fun p hp => ?_, by rw [List.length_dropLast, List.length_cons]; omega⟩
    rcases List.mem_cons.1 (List.dropLast_subset _ hp) with rfl | hp
    · exact hr s (List.mem_of_getElem? hs)
    · exact h1 p hp
  · exact ⟨fun p hp => (by cases hp), by simp⟩
theorem rowGo_pos {r : List Spt} (h : 0 < r.length) : 1 ≤ (rowGo r 0).length := by
  have h1 : r[0]? = some r[0] := List.getElem?_eq_getElem h
  have m2 : (0 + 1) % r.length < r.length := Nat.mod_lt _ (by omega)
  have m3 : (0 + 2) % r.length < r.length := Nat.mod_lt _ (by omega)
  have h2 : r[(0 + 1) % r.length]? = some r[(0 + 1) % r.length] := List.getElem?_eq_getElem m2
  have h3 : r[(0 + 2) % r.length]? = some r[(0 + 2) % r.length] := List.getElem?_eq_getElem m3
  cases hon : (r[(0 + 1) % r.length]).2 with
  | true => rw [rowGo_on h1 h2 h3 hon]; simp
  | false => rw [rowGo_off h1 h2 h3 hon, List.length_append, cvTo_len]; omega
theorem bx_row {e sz n : Nat} {cs : List Value} {o : Obj} (hl : cs.length = n * sz) (hn : n ≤ 9223372036854775807) (h : bx cs e o) : row e sz n n cs o := by
  unfold bx at h
  subst h
  exact ⟨cs.toArray, rfl, by simpa using hl, by rw [← hl]; simp, hl, Nat.le_refl _, by unfold maxLen; omega⟩
/-- the first elements of a slice of the call's own -/
theorem OwnsV.cutRdI {v : Value} {e sz n m c2 : Nat} {xs : List Value} {Lv L' : HL} {w w' : World} {A : Option Addr} {c1 : Nat} (h : OwnsV v e sz n xs Lv) (hv : v = .slice A n c1) (hs : St w [] L' w') (hm : ∀ p ∈ Lv, p ∈ L') (hmn : m ≤ n) (hm2 : m ≤ c2) (hc2 : c2 ≤ 9223372036854775807) : RdI w.heap.size w'.heap.size w' sz (.slice A m c2) (xs.take (m * sz)) := by
  subst hv
  obtain ⟨A', n', c', he, h1, h2, h3, h4⟩ := h.rdI hs hm
  cases he
  have hle : m * sz ≤ n * sz := Nat.mul_le_mul_right _ hmn
  refine ⟨A, m, c2, rfl, by rw [List.length_take]; omega, hm2, by unfold maxLen; omega, fun h0 => ?_⟩
  obtain ⟨b, off, ha, a1, a2, a3, a4⟩ := h4 (by omega)
  refine ⟨b, off, ha, a1, a2, a3, fun j u hj => a4 j u ?_⟩
  rw [List.getElem?_take] at hj
  split at hj
  · exact hj
  · cases hj
end Go.Proofs.Ytbgolbkolcmldaa
namespace Go.Proofs.Ytbgolbkolcmldaa
open Go.RowKit
attribute [local irreducible] T TL Xt O Op1 Kt DV ObsB DE DW DW1 LoopQ LoopJ

set_option maxHeartbeats 1000000 in
theorem orow_calls (w : World) (A : Option Addr) (n cap : Nat) (r : List Spt) (hR : Rd w 3 (.slice A n cap) (r.flatMap spC)) (hr : InC r) (h0 : 0 < r.length) (h1 : r.length ≤ 1000) : Calls Try.prog 76 #[.slice A n cap] w (Ret w fun v w' => RowI w w' v (rowPts r)) := by
  obtain ⟨hn, hn'⟩ := sp_len hR
  subst hn
  obtain ⟨s0, hs0⟩ : ∃ s, r[0]? = some s := ⟨_, List.getElem?_eq_getElem h0⟩
  obtain ⟨b, off, rfl, hc0⟩ := sp_cl hR hs0
  have hc02 : ClA w b (off + 0 * 3 + 0) [.int .i64 s0.1.1, .int .i64 s0.1.2] := hc0.two
  obtain ⟨hg1, hg2⟩ := rowGo_in hr _ 0 (Nat.le_refl _)
  have hgp := rowGo_pos h0
  refine calls_S (vs := [.slice (some ⟨b, off, none⟩) r.length cap]) Try.func76 rfl Try.ntmps76 rfl ?_
  (repeat' (first|refine Za ?_|refine Zb ?_|refine Zc ?_|refine Zd ?_|refine Ze ?_|refine Zu tab rfl rfl ?_|(apply Zy;refine Zz ?_)|(apply Yn;refine Yo ?_)|(apply Yv;refine Yw fun _=>?_)|fail))
  rename_i b12
  refine t_loopK [0] (α := Nat × Pts × Value × HL) (fun x => [(3, x.2.2.1), (4, .int .i64 x.1)]) (fun x => x.1 ≤ r.length + 1 ∧ x.2.1 ++ rowGo r x.1 = s0.1 :: rowGo r 0 ∧ OwnsV x.2.2.1 24 2 x.2.1.length (ptCells x.2.1) x.2.2.2) (fun x => x.2.2.2) (fun x => r.length + 1 - x.1) (0, [s0.1], .slice (some ⟨b12, 0, none⟩) 1 1, [(b12, row 24 2 1 1 (ptCells [s0.1]))]) rfl ⟨rfl, rfl, trivial⟩ ⟨Nat.zero_le _, rfl, OwnsV.at_⟩ (fun w h => St.headImp h fun o ho => bx_row rfl (by omega) ho) ?_
  rintro ⟨i, T0, v, Lv⟩ ⟨hi, hq, hv⟩
  dsimp only at hi hq hv ⊢
  have hT0 : T0.length ≤ 8 * r.length + 1 := by
    have := congrArg List.length hq
    rw [List.length_append, List.length_cons] at this
    omega
  obtain ⟨Av, cv, rfl⟩ := hv.shape
  try dsimp only [List.cons_append, List.nil_append, List.map_cons, List.map_nil]
  (repeat' (first|refine Za ?_|refine Zb ?_|refine Zc ?_|refine Zd ?_|refine Zu tab rfl rfl ?_|fail))
  refine t_cond rfl (fun h => ?_) (fun h => ?_)
  · have hil : i < r.length := by have := of_decide_eq_true h; omega
    obtain ⟨a, ha⟩ : ∃ s, r[i]? = some s := ⟨_, List.getElem?_eq_getElem hil⟩
    have m2 : (i + 1) % r.length < r.length := Nat.mod_lt _ (by omega)
    have m3 : (i + 2) % r.length < r.length := Nat.mod_lt _ (by omega)
    obtain ⟨c, hc⟩ : ∃ t, r[(i + 1) % r.length]? = some t := ⟨_, List.getElem?_eq_getElem m2⟩
    obtain ⟨d, hd⟩ : ∃ t, r[(i + 2) % r.length]? = some t := ⟨_, List.getElem?_eq_getElem m3⟩
    obtain ⟨b', off', he, hca⟩ := sp_cl hR ha
    cases he
    obtain ⟨b', off', he, hcc⟩ := sp_cl hR hc
    cases he
    obtain ⟨b', off', he, hcd⟩ := sp_cl hR hd
    cases he
    have hain := hr a (List.mem_of_getElem? ha)
    have hcin := hr c (List.mem_of_getElem? hc)
    have hdin := hr d (List.mem_of_getElem? hd)
    have hrem1 : ((i : Int) + 1).tmod (r.length : Int) = (((i + 1) % r.length : Nat) : Int) := by
      rw [Int.tmod_eq_emod_of_nonneg (by omega)]; simp
    have hrem2 : ((i : Int) + 2).tmod (r.length : Int) = (((i + 2) % r.length : Nat) : Int) := by
      rw [Int.tmod_eq_emod_of_nonneg (by omega)]; simp
    have hca2 := hca.two
    clear hc02 hc0
    (repeat' (first|refine Za ?_|refine Zb ?_|refine Zc ?_|refine Ze ?_|refine Zf ?_|refine Zu tab rfl rfl ?_|(apply Yc;refine Yd ?_)|fail))
    refine tl_bin (o_rem rfl rfl (by omega)) rfl ?_
    rw [hrem1]
    (repeat' (first|refine Za ?_|refine Zb ?_|refine Zc ?_|refine Zd ?_|refine Zu tab rfl rfl ?_|(apply Zy;refine Zz ?_)|(apply Ye;refine Yf ?_)|refine Yk rfl fun _=>?_|(apply Yn;refine Yo ?_)|fail))
    rename_i b5
    cases hon : c.2 with
    | true =>
      rw [rowGo_on ha hc hd hon] at hq
      (repeat' (first|refine Za ?_|refine Zb ?_|refine Zu tab rfl rfl ?_|refine Yx rfl ?_|fail))
      refine tl_load (o_loadBP 0 (vs := [.int .i64 c.1.1, .int .i64 c.1.2]) rfl rfl rfl rfl) rfl ?_
      (repeat' (first|(apply Yv;refine Yw fun _=>?_)|fail))
      rename_i b30
      refine tl_app [(b5, bx [.int .i64 c.1.1, .int .i64 c.1.2, .bool true] 123)] rfl rfl hv rfl rfl rfl rfl rfl rfl (by omega) (by omega) fun b31 cap31 => ?_
      (repeat' (first|refine Za ?_|refine Zb ?_|refine Zc ?_|refine Zd ?_|refine Zh ?_|refine Zj ?_|refine Zl ?_|refine Zu tab rfl rfl ?_|(apply Yc;refine Yd ?_)|fail))
      refine xt_roundK (i + 1, T0 ++ [c.1], .slice (some ⟨b31, 0, none⟩) (T0.length + 1) cap31, [(b31, row 24 2 (T0.length + 1) cap31 (ptCells T0 ++ [Value.int .i64 c.1.1, Value.int .i64 c.1.2]))]) rfl ⟨rfl, rfl, trivial⟩ ⟨by dsimp only; omega, by dsimp only; rw [List.append_assoc]; exact hq, ?_⟩ (by dsimp only; omega) (fun _ h => h.sublist (.cons _ (List.Sublist.refl _)))
      dsimp only
      rw [ptCells_append, List.length_append]
      exact OwnsV.at_
    | false =>
      rw [rowGo_off ha hc hd hon, ← List.append_assoc] at hq
      (repeat' (first|refine Za ?_|refine Zb ?_|refine Zc ?_|refine Zf ?_|refine Zu tab rfl rfl ?_|(apply Yc;refine Yd ?_)|refine Yy rfl ?_|fail))
      refine tl_bin (o_rem rfl rfl (by omega)) rfl ?_
      rw [hrem2]
      (repeat' (first|refine Za ?_|refine Zb ?_|refine Zc ?_|refine Zd ?_|refine Ze ?_|refine Zu tab rfl rfl ?_|(apply Zy;refine Zz ?_)|(apply Ye;refine Yf ?_)|refine Yk rfl fun _=>?_|(apply Yn;refine Yo ?_)|fail))
      rename_i b6
      refine t_loopK [0, 4, 5, 6] (α := Nat × Value × HL) (fun x => [(3, x.2.1), (7, .int .i64 ((x.1 : Int) + 1))]) (fun x => x.1 ≤ 8 ∧ OwnsV x.2.1 24 2 (T0 ++ cvTo a.1 c.1 d.1 x.1).length (ptCells (T0 ++ cvTo a.1 c.1 d.1 x.1)) x.2.2) (fun x => [(b6, bx [.int .i64 d.1.1, .int .i64 d.1.2, .bool d.2] 123), (b5, bx [.int .i64 c.1.1, .int .i64 c.1.2, .bool false] 123)] ++ x.2.2) (fun x => 8 - x.1) (0, .slice Av T0.length cv, Lv) rfl ⟨rfl, rfl, trivial⟩ ⟨by simp, by dsimp only; rw [show cvTo a.1 c.1 d.1 0 = [] from rfl, List.append_nil]; exact hv⟩ (fun w h => h) ?_
      rintro ⟨k, u, Lu⟩ ⟨hk, hu⟩
      dsimp only at hk hu ⊢
      have hul : (T0 ++ cvTo a.1 c.1 d.1 k).length ≤ 8 * r.length + 9 := by rw [List.length_append, cvTo_len]; omega
      try dsimp only [List.cons_append, List.nil_append, List.map_cons, List.map_nil]
      (repeat' (first|refine Za ?_|refine Zb ?_|refine Zc ?_|refine Zd ?_|refine Zu tab rfl rfl ?_|fail))
      refine t_cond rfl (fun h2 => ?_) (fun h2 => ?_)
      · have hk8 : k < 8 := by have := of_decide_eq_true h2; omega
        have hcv : CDet Try.prog 89 [pt a.1.1 a.1.2, pt c.1.1 c.1.2, pt d.1.1 d.1.2, .int .i64 ((k : Int) + 1)] _ := ⟨curve_det a.1 c.1 d.1 ((k : Int) + 1) (by omega) hain hcin hdin⟩
        (repeat' (first|refine Za ?_|refine Zc ?_|refine Ze ?_|refine Zf ?_|fail))
        refine t_drawW 13 [(0, .v), (1, .v), (2, .v), (3, .v), (4, .v), (5, .v), (6, .v), (7, .v), (8, .v), (9, .v), (10, .v), (11, .v), (12, .e)] ?_ rfl (by kernel_rfl) (by kernel_rfl) rfl (by kernel_rfl) mixed (by kernel_rfl) rfl
        (repeat' (first|refine Yz rfl ?_|refine Vd tab ?_|(apply Vf;refine Vg ?_)|(apply Vl;refine Vm ?_)|fail))
        refine dw_opN rfl rfl (fun _ => o_loadBP 1 (vs := [.int .i64 c.1.1, .int .i64 c.1.2]) rfl rfl rfl rfl) ?_
        (repeat' (first|refine Yz rfl ?_|refine Vd tab ?_|fail))
        refine dw_opN rfl rfl (fun _ => o_loadBP 0 (vs := [.int .i64 d.1.1, .int .i64 d.1.2]) rfl rfl rfl rfl) ?_
        (repeat' (first|refine Yz rfl ?_|refine Vd tab ?_|(apply Vp;refine Vq ?_)|(apply Vz;refine Ua fun _=>?_)|fail))
        rename_i b58
        refine dw_end [0, 4, 5, 6, 7, 46, 58] (rest := []) rfl ?_
        refine tl_app [(b6, bx [.int .i64 d.1.1, .int .i64 d.1.2, .bool d.2] 123), (b5, bx [.int .i64 c.1.1, .int .i64 c.1.2, .bool false] 123)] rfl rfl hu rfl rfl rfl rfl rfl rfl (by omega) (by omega) fun b59 cap59 => ?_
        (repeat' (first|refine Zb ?_|refine Zc ?_|refine Zd ?_|refine Zi ?_|refine Zu tab rfl rfl ?_|(apply Yc;refine Yd ?_)|fail))
        refine xt_roundK (k + 1, .slice (some ⟨b59, 0, none⟩) ((T0 ++ cvTo a.1 c.1 d.1 k).length + 1) cap59, [(b59, row 24 2 ((T0 ++ cvTo a.1 c.1 d.1 k).length + 1) cap59 (ptCells (T0 ++ cvTo a.1 c.1 d.1 k) ++ [Value.int .i64 (cvP a.1 c.1 d.1 ((k : Int) + 1)).1, Value.int .i64 (cvP a.1 c.1 d.1 ((k : Int) + 1)).2]))]) rfl ⟨rfl, by dsimp only; rw [Int.natCast_add]; rfl, trivial⟩ ⟨by dsimp only; omega, ?_⟩ (by dsimp only; omega) (fun _ h => h)
        dsimp only
        have e3 : (T0 ++ cvTo a.1 c.1 d.1 k ++ [cvP a.1 c.1 d.1 ((k : Int) + 1)]).length = (T0 ++ cvTo a.1 c.1 d.1 k).length + 1 := List.length_append
        rw [cvTo_succ, ← List.append_assoc, ptCells_append, e3]
        exact OwnsV.at_
      · have hk8 : k = 8 := by have := of_decide_eq_false h2; omega
        subst hk8
        (repeat' (first|refine Zb ?_|refine Zc ?_|refine Zd ?_|refine Zh ?_|refine Zi ?_|refine Zj ?_|refine Zl ?_|refine Zq ?_|refine Zu tab rfl rfl ?_|(apply Yc;refine Yd ?_)|fail))
        refine xt_roundK (i + 2, T0 ++ cvTo a.1 c.1 d.1 8, u, Lu) rfl ⟨rfl, rfl, trivial⟩ ⟨by dsimp only; omega, hq, hu⟩ (by dsimp only; omega) (fun _ h => h.sublist (.cons _ (.cons _ (List.Sublist.refl _))))
  · have hil : r.length ≤ i := by have := of_decide_eq_false h; omega
    rw [rowGo_end hil, List.append_nil] at hq
    subst hq
    refine t_get (φ := (s0.1 :: rowGo r 0).length ≤ cv ∧ cv ≤ 9223372036854775807) (fun w hw => ?_) fun hcv => ?_
    · rcases hv with ⟨_, h2, _, _⟩ | ⟨bo, co, h1, h2⟩
      · simp at h2
      · injection h1 with _ _ e2
        rw [e2]
        rw [h2] at hw
        exact hw.rowLe (List.mem_singleton.2 rfl)
    have hlen : (s0.1 :: rowGo r 0).length = (rowGo r 0).length + 1 := rfl
    have hrp : rowPts r = (s0.1 :: rowGo r 0).take (rowGo r 0).length := by
      unfold rowPts
      rw [hs0]
      show (s0.1 :: rowGo r 0).dropLast = _
      rw [List.dropLast_eq_take]
      rfl
    have e7 : (((s0.1 :: rowGo r 0).length : Nat) : Int) - 1 = ((rowGo r 0).length : Int) := by omega
    (repeat' (first|refine Za ?_|refine Zb ?_|refine Zc ?_|refine Zh ?_|refine Zj ?_|refine Zl ?_|refine Zq ?_|refine Zu tab rfl rfl ?_|(apply Yc;refine Yd ?_)|fail))
    rw [e7]
    refine tl_val (o_sliceHM rfl rfl rfl (Nat.le_refl _) (by omega)) rfl rfl ?_
    (repeat' (first|refine Zc ?_|refine Zd ?_|refine Zg ?_|refine Zu tab rfl rfl ?_|fail))
    refine xt_ret1S rfl rfl fun w1 hw1 => ?_
    rw [hrp]
    show RdI _ _ _ 2 _ (ptCells _)
    rw [ptCells_take]
    exact hv.cutRdI rfl hw1 (fun p hp => hp) (by omega) (Nat.le_refl _) (by omega)

end Go.Proofs.Ytbgolbkolcmldaa
