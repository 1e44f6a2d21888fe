/-
  The document's answer: a contour's ring.
-/
import Derived.Test.YtbgolbkolcmldaaW48
import Derived.Test.YtbgolbkolcmldaaW47a
namespace Go.Proofs.Ytbgolbkolcmldaa
open Go.RowKit
theorem rot_get {α : Type} (R : List α) (F i : Nat) (hF : F < R.length) (hi : i < R.length) : (R.drop F ++ R.take F)[i]? = R[(F + i) % R.length]? := by
  rcases Nat.lt_or_ge i (R.length - F) with h | h
  · rw [List.getElem?_append_left (by rw [List.length_drop]; exact h), List.getElem?_drop, Nat.mod_eq_of_lt (by omega)]
  · rw [List.getElem?_append_right (by rw [List.length_drop]; exact h), List.length_drop, List.getElem?_take, if_pos (by omega)]
    have : (F + i) % R.length = i - (R.length - F) := by
      rw [Nat.mod_eq_sub_mod (by omega), Nat.mod_eq_of_lt (by omega)]
      omega
    rw [this]
end Go.Proofs.Ytbgolbkolcmldaa
namespace Go.Proofs.Ytbgolbkolcmldaa
open Go.RowKit
attribute [local irreducible] T TL Xt O Op1 Kt DV ObsB DE DW DW1 LoopQ LoopJ

set_option maxHeartbeats 2000000 in
theorem ring3_calls (w : World) (A Ao : Option Addr) (n cap no co : Nat) (p : Pts) (on : List Bool) (hp : Row w (.slice A n cap) p) (ho : Rd w 1 (.slice Ao no co) (boolC on)) (heq : on.length = p.length) (hc : InC (p.zip on)) (h0 : 0 < p.length) (h1 : p.length ≤ 1000) : Calls Try.prog 91 #[.slice A n cap, .slice Ao no co] w (Ret w fun v w' => RdI w.heap.size w'.heap.size w' 3 v ((ringOf (p.zip on)).flatMap spC)) := by
  have hn := row_len hp
  obtain ⟨hno, _⟩ := rd1_len ho
  rw [show (boolC on).length = on.length by simp [boolC]] at hno
  subst hn hno
  obtain ⟨c, hcq⟩ : ∃ c, c = p.zip on := ⟨_, rfl⟩
  have hcl : c.length = p.length := by rw [hcq, List.length_zip]; omega
  have hcg : ∀ (k : Nat) (s : Int × Int) (t : Bool), p[k]? = some s → on[k]? = some t → c[k]? = some (s, t) := by
    intro k s t e1 e2
    rw [hcq, List.getElem?_zip_eq_some]
    exact ⟨e1, e2⟩
  rw [← hcq] at hc ⊢
  refine calls_S (vs := [.slice A p.length cap, .slice Ao on.length co]) Try.func91 rfl Try.ntmps91 rfl ?_
  rw [heq]
  rw [heq] at ho
  (repeat' (first|refine Za ?_|refine Zb ?_|refine Zc ?_|refine Zd ?_|refine Ze ?_|refine Zu tab rfl rfl ?_|(apply Yv;refine Yw fun _=>?_)|fail))
  rename_i b14
  refine t_loopK [0, 1, 5] (α := Nat × Value × HL) (fun x => [(6, x.2.1), (7, .int .i64 (firstTo c x.1)), (8, .int .i64 x.1)]) (fun x => x.1 ≤ c.length ∧ OwnsV x.2.1 145 3 (ringTo c x.1).length ((ringTo c x.1).flatMap spC) x.2.2) (fun x => x.2.2) (fun x => c.length - x.1) (0, .slice (some ⟨b14, 0, none⟩) 0 0, [(b14, row 145 3 0 0 [])]) rfl ⟨rfl, rfl, rfl, trivial⟩ ⟨Nat.zero_le _, OwnsV.at_⟩ (fun w h => St.headImp h fun o ho => bx_row0 ho) ?_
  rintro ⟨i, v, Lv⟩ ⟨hi, hv⟩
  dsimp only at hi hv ⊢
  obtain ⟨hrl1, hrl2⟩ := ringTo_len c i hi
  obtain ⟨hf1, hf2⟩ := firstTo_bd c i hi
  obtain ⟨Av, cv, rfl⟩ := hv.shape
  try dsimp only [List.cons_append, List.nil_append, List.map_cons, List.map_nil]
  (repeat' (first|refine Za ?_|refine Zb ?_|refine Zc ?_|refine Zd ?_|refine Zu tab rfl rfl ?_|fail))
  refine t_cond rfl (fun h => ?_) (fun h => ?_)
  · have hil : i < p.length := by have := of_decide_eq_true h; omega
    obtain ⟨s, hs⟩ : ∃ s, p[i]? = some s := ⟨_, List.getElem?_eq_getElem hil⟩
    obtain ⟨sb, hsb⟩ : ∃ s, on[i]? = some s := ⟨_, List.getElem?_eq_getElem (by omega)⟩
    have hmod : (i + 1) % p.length < p.length := Nat.mod_lt _ (by omega)
    obtain ⟨t, ht⟩ : ∃ t, p[(i + 1) % p.length]? = some t := ⟨_, List.getElem?_eq_getElem hmod⟩
    obtain ⟨tb, htb⟩ : ∃ t, on[(i + 1) % p.length]? = some t := ⟨_, List.getElem?_eq_getElem (by omega)⟩
    have hcs := hcg i s sb hs hsb
    have hct := hcg _ t tb ht htb
    obtain ⟨b, off, rfl, hks⟩ := row_cl hp hs
    obtain ⟨b', off', he, hkt⟩ := row_cl hp ht
    cases he
    obtain ⟨bo, oo, rfl, hos⟩ := rd1_cl ho (k := i) (v := .bool sb) (by simp [boolC, hsb])
    obtain ⟨bo', oo', he, hot⟩ := rd1_cl ho (k := (i + 1) % p.length) (v := .bool tb) (by simp [boolC, htb])
    cases he
    have hsin : InP s := hc (s, sb) (List.mem_of_getElem? hcs)
    have htin : InP t := hc (t, tb) (List.mem_of_getElem? hct)
    have hrem : ((i : Int) + 1).tmod (p.length : Int) = (((i + 1) % p.length : Nat) : Int) := by
      rw [Int.tmod_eq_emod_of_nonneg (by omega)]; simp
    have hfs : firstTo c (i + 1) = if sb = true ∧ firstTo c i < 0 then ((ringTo c i).length : Int) else firstTo c i := by
      show (if (c[i]?.map (·.2)) = some true ∧ firstTo c i < 0 then ((ringTo c i).length : Int) else firstTo c i) = _
      rw [hcs]
      simp
    have hra : ringAt c i = (s, sb) :: (if sb = false ∧ tb = false then [(midP s t, true)] else []) := by
      rw [← hcl] at hct
      simp only [ringAt, hcs, hct]
    have hsucc := ringTo_succ c i
    generalize firstTo c i = F0 at *
    (repeat' (first|refine Za ?_|refine Zb ?_|refine Zc ?_|refine Ze ?_|refine Zf ?_|refine Zu tab rfl rfl ?_|(apply Zy;refine Zz ?_)|(apply Yn;refine Yo ?_)|fail))
    refine tl_if [0, 1, 5, 6, 7, 8] (sb = true ∧ F0 < 0) rfl (fun Q' K => ?_) (fun hC => ?_) (fun hC => ?_)
    · (repeat' (first|refine Zd ?_|refine Zu tab rfl rfl ?_|refine Zv rfl rfl ?_|refine Zw rfl rfl rfl rfl ?_|(apply Ya;refine Yb ?_)|refine tl_guard rfl rfl rfl (fun _ => ?_) (fun _ => ?_)|fail))
      all_goals exact K _ _ rfl rfl (by simp_all <;> omega)
    rw [if_pos hC] at hfs
    rotate_left
    rw [if_neg hC] at hfs
    all_goals
      (repeat' (first|refine Za ?_|refine Zb ?_|refine Zc ?_|refine Zd ?_|refine Zf ?_|refine Zu tab rfl rfl ?_|fail))
      refine t_drawW 11 [(0, .v), (1, .v), (2, .v), (3, .v), (4, .v), (5, .v), (6, .v), (7, .v), (8, .v), (9, .v), (10, .e)] ?_ rfl (by kernel_rfl) (by kernel_rfl) rfl (by kernel_rfl) mixed (by kernel_rfl) rfl
      (repeat' (first|refine Yz rfl ?_|refine Vd tab ?_|(apply Vf;refine Vg ?_)|(apply Vl;refine Vm ?_)|(apply Vn;refine Vo ?_)|(apply Vz;refine Ua fun _=>?_)|fail))
      rename_i b40
      refine dw_end [0, 1, 5, 7, 8, 30, 40] (rest := []) rfl ?_
      refine tl_app [] rfl rfl hv rfl rfl rfl rfl rfl rfl (by omega) (by omega) fun b41 cap41 => ?_
      (repeat' (first|refine Za ?_|refine Zb ?_|refine Zc ?_|refine Zd ?_|refine Zu tab rfl rfl ?_|(apply Yc;refine Yd ?_)|fail))
      refine tl_bin (o_rem rfl rfl (by omega)) rfl ?_
      rw [hrem]
      (repeat' (first|refine Za ?_|refine Zb ?_|refine Zc ?_|refine Zd ?_|refine Zu tab rfl rfl ?_|(apply Zy;refine Zz ?_)|(apply Yn;refine Yo ?_)|fail))
      refine tl_if [0, 1, 5, 6, 7, 8, 9] (sb = false ∧ tb = false) rfl (fun Q' K => ?_) (fun hD => ?_) (fun hD => ?_)
      · (repeat' (first|refine Zd ?_|refine Zu tab rfl rfl ?_|refine Zv rfl rfl ?_|refine Zw rfl rfl rfl rfl ?_|(apply Zy;refine Zz ?_)|(apply Ya;refine Yb ?_)|(apply Yn;refine Yo ?_)|refine tl_guard rfl rfl rfl (fun _ => ?_) (fun _ => ?_)|fail))
        all_goals exact K _ _ rfl rfl (by simp_all <;> omega)
      · rw [if_pos hD] at hra
        have hd1 : CDet Try.prog 106 [.int .i64 (s.1 + t.1)] (.int .i64 (midP s t).1) := ⟨half_det _ (by unfold InP at hsin htin; omega)⟩
        have hd2 : CDet Try.prog 106 [.int .i64 (s.2 + t.2)] (.int .i64 (midP s t).2) := ⟨half_det _ (by unfold InP at hsin htin; omega)⟩
        have hss : -10000 ≤ s.1 + t.1 ∧ s.1 + t.1 ≤ 10000 ∧ -10000 ≤ s.2 + t.2 ∧ s.2 + t.2 ≤ 10000 := by unfold InP at hsin htin; omega
        (repeat' (first|fail))
        have hv2 : OwnsV (.slice (some ⟨b41, 0, none⟩) ((ringTo c i).length + 1) cap41) 145 3 ((ringTo c i).length + 1) ((ringTo c i).flatMap spC ++ [Value.int .i64 s.1, .int .i64 s.2, .bool sb]) [(b41, row 145 3 ((ringTo c i).length + 1) cap41 ((ringTo c i).flatMap spC ++ [Value.int .i64 s.1, .int .i64 s.2, .bool sb]))] := OwnsV.at_
        refine t_perm (L' := [] ++ [(b41, row 145 3 ((ringTo c i).length + 1) cap41 ((ringTo c i).flatMap spC ++ [Value.int .i64 s.1, .int .i64 s.2, .bool sb]))]) (fun w hw => hw) ?_
        refine t_drawWH 29 [(0, .v), (1, .v), (2, .v), (3, .v), (4, .v), (5, .v), (6, .v), (7, .v), (8, .v), (9, .v), (10, .v), (11, .v), (12, .v), (13, .v), (14, .v), (15, .v), (16, .v), (17, .v), (18, .v), (19, .v), (20, .v), (21, .v), (22, .v), (23, .v), (24, .v), (25, .v), (26, .v), (27, .e), (28, .h)] ?_ rfl (by kernel_rfl) (by kernel_rfl) rfl (by kernel_rfl) mixed (by kernel_rfl) rfl
        (repeat' (first|refine Yz rfl ?_|refine Vd tab ?_|(apply Vf;refine Vg ?_)|(apply Vj;refine Vk ?_)|(apply Vl;refine Vm ?_)|(apply Vn;refine Vo ?_)|(apply Vp;refine Vq ?_)|(apply Vz;refine Ua fun _=>?_)|fail))
        refine dw_appH rfl rfl hv2 rfl rfl rfl (by omega) (by omega) rfl trivial fun v' Lv' hv' => ?_
        (repeat' (first|fail))
        refine dw_end [0, 1, 5, 7, 8, 86] (rest := []) rfl ?_
        (repeat' (first|refine Zb ?_|refine Zc ?_|refine Zd ?_|refine Zi ?_|refine Zu tab rfl rfl ?_|(apply Yc;refine Yd ?_)|fail))
        refine xt_roundK (i + 1, v', Lv') rfl ⟨rfl, by dsimp only; rw [hfs]; rfl, rfl, trivial⟩ ⟨by dsimp only; omega, ?_⟩ (by dsimp only; omega) (fun _ h => by simpa using h)
        dsimp only
        have e3 : (ringTo c (i + 1)).length = (ringTo c i).length + 1 + 1 := by rw [hsucc, hra]; simp
        have e4 : (ringTo c (i + 1)).flatMap spC = (ringTo c i).flatMap spC ++ [Value.int .i64 s.1, .int .i64 s.2, .bool sb] ++ [Value.int .i64 (midP s t).1, .int .i64 (midP s t).2, .bool true] := by rw [hsucc, hra]; simp [spC]
        rw [e3, e4]
        exact hv'
      · rw [if_neg hD] at hra
        (repeat' (first|refine Zb ?_|refine Zc ?_|refine Zd ?_|refine Zf ?_|refine Zi ?_|refine Zu tab rfl rfl ?_|(apply Yc;refine Yd ?_)|fail))
        refine xt_roundK (i + 1, .slice (some ⟨b41, 0, none⟩) ((ringTo c i).length + 1) cap41, [(b41, row 145 3 ((ringTo c i).length + 1) cap41 ((ringTo c i).flatMap spC ++ [Value.int .i64 s.1, .int .i64 s.2, .bool sb]))]) rfl ⟨rfl, by dsimp only; rw [hfs]; rfl, rfl, trivial⟩ ⟨by dsimp only; omega, ?_⟩ (by dsimp only; omega) (fun _ h => h)
        dsimp only
        have e3 : (ringTo c (i + 1)).length = (ringTo c i).length + 1 := by rw [hsucc, hra]; simp
        have e4 : (ringTo c (i + 1)).flatMap spC = (ringTo c i).flatMap spC ++ [Value.int .i64 s.1, .int .i64 s.2, .bool sb] := by rw [hsucc, hra]; simp [spC]
        rw [e3, e4]
        exact OwnsV.at_
  · have hil : i = c.length := by have := of_decide_eq_false h; omega
    subst hil
    have hlt := ringF_lt (c := c) (by omega)
    have hro : ringOf c = (ringTo c c.length).drop (ringF c) ++ (ringTo c c.length).take (ringF c) := rfl
    have hrf : ringF c = if firstTo c c.length < 0 then (ringTo c c.length).length - 1 else (firstTo c c.length).toNat := rfl
    generalize ringF c = F at *
    generalize ringTo c c.length = R at *
    generalize firstTo c c.length = F0 at *
    generalize ringOf c = O at *
    obtain ⟨bR, cR, hvR⟩ : ∃ bR cR, Value.slice Av R.length cv = .slice (some ⟨bR, 0, none⟩) R.length cR ∧ Lv = [(bR, row 145 3 R.length cR (R.flatMap spC))] := by
      rcases hv with ⟨_, h2, _, _⟩ | ⟨bo, co, h1, h2⟩
      · omega
      · exact ⟨bo, co, h1, h2⟩
    obtain ⟨hvR, rfl⟩ := hvR
    injection hvR with e1 _ e2
    subst e1 e2
    have hll : (R.flatMap spC).length = R.length * 3 := flatMap_len spC 3 (fun _ => rfl) R
    (repeat' (first|refine Za ?_|refine Zb ?_|refine Zc ?_|refine Zd ?_|refine Zh ?_|refine Zj ?_|refine Zl ?_|refine Zq ?_|refine Zu tab rfl rfl ?_|fail))
    have hOl : O.length = R.length := by rw [hro, List.length_append, List.length_drop, List.length_take]; omega
    refine t_cond rfl (fun h2 => ?_) (fun h2 => ?_)
    have h3 := of_decide_eq_true h2
    rw [if_pos h3] at hrf
    have e5 : (R.length : Int) - 1 = (F : Int) := by omega
    rotate_left
    have h3 := of_decide_eq_false h2
    rw [if_neg h3] at hrf
    have e5 : F0 = (F : Int) := by omega
    all_goals
      (repeat' (first|refine Za ?_|refine Zb ?_|refine Zc ?_|refine Zd ?_|refine Ze ?_|refine Zf ?_|refine Zu tab rfl rfl ?_|(apply Yc;refine Yd ?_)|(apply Yv;refine Yw fun _=>?_)|fail))
      rw [e5]
      rename_i b92
      refine t_loopK [6, 7] (α := Nat × Value × HL) (fun x => [(10, x.2.1), (11, .int .i64 x.1)]) (fun x => x.1 ≤ R.length ∧ OwnsV x.2.1 145 3 x.1 ((O.take x.1).flatMap spC) x.2.2) (fun x => (bR, row 145 3 R.length cv (R.flatMap spC)) :: x.2.2) (fun x => R.length - x.1) (0, .slice (some ⟨b92, 0, none⟩) 0 0, [(b92, row 145 3 0 0 [])]) rfl ⟨rfl, rfl, trivial⟩ ⟨Nat.zero_le _, OwnsV.at_⟩ (fun w h => (St.headImp h fun o ho => bx_row0 ho).perm (List.Perm.swap _ _ _)) ?_
      rintro ⟨k, u, Lu⟩ ⟨hk, hu⟩
      dsimp only at hk hu ⊢
      try dsimp only [List.cons_append, List.nil_append, List.map_cons, List.map_nil]
      (repeat' (first|refine Za ?_|refine Zb ?_|refine Zc ?_|refine Zd ?_|refine Zu tab rfl rfl ?_|fail))
      refine t_cond rfl (fun h4 => ?_) (fun h4 => ?_)
      · have hkl : k < R.length := by have := of_decide_eq_true h4; omega
        have hmod2 : (F + k) % R.length < R.length := Nat.mod_lt _ (by omega)
        obtain ⟨z, hz⟩ : ∃ z, R[(F + k) % R.length]? = some z := ⟨_, List.getElem?_eq_getElem hmod2⟩
        have hzO : O[k]? = some z := by rw [hro, rot_get R F k hlt hkl, hz]
        have hrem2 : ((F : Int) + (k : Int)).tmod (R.length : Int) = (((F + k) % R.length : Nat) : Int) := by
          rw [Int.tmod_eq_emod_of_nonneg (by omega)]; simp
        (repeat' (first|refine Za ?_|refine Zb ?_|refine Zc ?_|refine Ze ?_|refine Zf ?_|refine Zu tab rfl rfl ?_|(apply Yc;refine Yd ?_)|fail))
        refine tl_bin (o_rem rfl rfl (by omega)) rfl ?_
        rw [hrem2]
        (repeat' (first|(apply Yn;refine Yo ?_)|fail))
        refine tl_load (o_loadRow 0 (cs := [.int .i64 z.1.1, .int .i64 z.1.2, .bool z.2]) rfl rfl rfl (fun j v hj => by rw [Int.toNat_natCast, Nat.zero_add]; exact flatMap_get spC 3 (fun _ => rfl) R _ j z v hz hj)) rfl ?_
        (repeat' (first|(apply Yv;refine Yw fun _=>?_)|fail))
        rename_i b109
        refine tl_app [(bR, row 145 3 R.length cv (R.flatMap spC))] rfl rfl hu rfl rfl rfl rfl rfl rfl (by omega) (by omega) fun b110 cap110 => ?_
        (repeat' (first|refine Zb ?_|refine Zc ?_|refine Zd ?_|refine Zi ?_|refine Zu tab rfl rfl ?_|(apply Yc;refine Yd ?_)|fail))
        refine xt_roundK (k + 1, .slice (some ⟨b110, 0, none⟩) (k + 1) cap110, [(b110, row 145 3 (k + 1) cap110 ((O.take k).flatMap spC ++ [Value.int .i64 z.1.1, .int .i64 z.1.2, .bool z.2]))]) rfl ⟨rfl, rfl, trivial⟩ ⟨by dsimp only; omega, ?_⟩ (by dsimp only; omega) (fun _ h => h)
        dsimp only
        have e6 : (O.take (k + 1)).flatMap spC = (O.take k).flatMap spC ++ [Value.int .i64 z.1.1, .int .i64 z.1.2, .bool z.2] := by rw [List.take_add_one, hzO, List.flatMap_append]; simp [spC]
        rw [e6]
        exact OwnsV.at_
      · have hkl : k = R.length := by have := of_decide_eq_false h4; omega
        subst hkl
        rw [List.take_of_length_le (by omega)] at hu
        (repeat' (first|refine Za ?_|refine Zb ?_|refine Zc ?_|refine Zd ?_|refine Zg ?_|refine Zh ?_|refine Zj ?_|refine Zl ?_|refine Zq ?_|refine Zu tab rfl rfl ?_|fail))
        exact xt_ret1S rfl rfl fun w1 hw1 => hu.rdI hw1 (fun p hp => List.mem_cons_of_mem _ hp)

end Go.Proofs.Ytbgolbkolcmldaa
