/-
  'RasterGlyphs', walked.
-/
import Derived.Test.YtbgolbkolcmldaaW53a
namespace Go.Proofs.Ytbgolbkolcmldaa
open Go.RowKit
attribute [local irreducible] T TL Xt O Op1 Kt DV ObsB DE DW DW1 LoopQ LoopJ

set_option maxHeartbeats 2000000 in
theorem glyphs_calls (w : World) (A : Option Addr) (n cap : Nat) (l : Pts) (hR : Row w (.slice A n cap) l) (Ao : Option Addr) (no co : Nat) (on : List Bool) (hO : Rd w 1 (.slice Ao no co) (boolC on)) (Ae : Option Addr) (ne ce : Nat) (es : List Int) (hE : Rd w 1 (.slice Ae ne ce) (intC es)) : Calls Try.prog 13 #[.slice A n cap, .slice Ao no co, .slice Ae ne ce] w (Ret w fun v _ => v = .bool true) := by
  have hn1 := row_len hR
  have hn2 := row_le hR
  subst hn1
  obtain ⟨hno, hno2⟩ := rd1_len hO
  rw [show (boolC on).length = on.length by simp [boolC]] at hno
  obtain ⟨hne, hne2⟩ := rd1_len hE
  rw [show (intC es).length = es.length by simp [intC]] at hne
  subst hno hne
  have hco : on.length ≤ co := by
    obtain ⟨_, _, _, hq, _, h, _⟩ := id hO
    cases hq
    exact h
  have hce : es.length ≤ ce := by
    obtain ⟨_, _, _, hq, _, h, _⟩ := id hE
    cases hq
    exact h
  refine calls_S (vs := [.slice A l.length cap, .slice Ao on.length co, .slice Ae es.length ce]) Try.func13 rfl Try.ntmps13 rfl ?_
  (repeat' (first|refine Za ?_|refine Zb ?_|refine Zc ?_|refine Zd ?_|refine Ze ?_|refine Zu tab rfl rfl ?_|(apply Yt;refine Yu ?_)|(apply Yv;refine Yw fun _=>?_)|fail))
  rename_i b12
  refine t_loopK [0, 1, 2, 7] (α := Nat × Value × HL) (fun x => [(8, x.2.1), (9, .int .i64 x.1)]) (fun x => x.1 ≤ l.length ∧ x.1 ≤ 30 ∧ OwnsV x.2.1 24 2 x.1 (ptCells ((l.take x.1).map nrP)) x.2.2) (fun x => x.2.2) (fun x => 30 - x.1) (0, .slice (some ⟨b12, 0, none⟩) 0 0, [(b12, row 24 2 0 0 [])]) rfl ⟨rfl, rfl, trivial⟩ ⟨Nat.zero_le _, Nat.zero_le _, OwnsV.at_⟩ (fun w h => ?_) ?_
  · exact St.headImp h fun o ho => bx_row0 ho
  rintro ⟨k, u, Lu⟩ ⟨hk, hk10, hu⟩
  dsimp only at hk hk10 hu ⊢
  try dsimp only [List.cons_append, List.nil_append, List.map_cons, List.map_nil]
  (repeat' (first|refine Za ?_|refine Zb ?_|refine Zu tab rfl rfl ?_|fail))
  refine tl_if [0, 1, 2, 7, 8, 9] (k < l.length ∧ k < 30) rfl (fun Q' K => ?_) (fun hD => ?_) (fun hD => ?_)
  · (repeat' (first|refine Zd ?_|refine Zu tab rfl rfl ?_|refine Zv rfl rfl ?_|refine Zw rfl rfl rfl rfl ?_|(apply Ya;refine Yb ?_)|refine tl_guard rfl rfl rfl (fun _ => ?_) (fun _ => ?_)|fail))
    all_goals exact K _ _ rfl rfl (by simp_all <;> omega)
  · obtain ⟨p, hp⟩ : ∃ p, l[k]? = some p := ⟨l[k], List.getElem?_eq_getElem hD.1⟩
    obtain ⟨b2, off2, rfl, hpc⟩ := row_cl hR hp
    (repeat' (first|refine Za ?_|refine Zc ?_|refine Ze ?_|refine Zf ?_|fail))
    refine t_drawWH (L := []) (Hn := Lu) 18 [(0, .v), (1, .v), (2, .v), (3, .v), (4, .v), (5, .v), (6, .v), (7, .v), (8, .v), (9, .v), (10, .v), (11, .v), (12, .v), (13, .v), (14, .v), (15, .v), (16, .e), (17, .h)] ?_ rfl (by kernel_rfl) (by kernel_rfl) rfl (by kernel_rfl) mixed (by kernel_rfl) rfl
    (repeat' (first|refine Yz rfl ?_|refine Vd tab ?_|(apply Vf;refine Vg ?_)|(apply Vl;refine Vm ?_)|fail))
    refine dw_opN rfl rfl (fun _ => o_mask 12 rfl rfl rfl rfl) ?_
    (repeat' (first|refine Yz rfl ?_|refine Vd tab ?_|(apply Vf;refine Vg ?_)|(apply Vj;refine Vk ?_)|(apply Vl;refine Vm ?_)|fail))
    refine dw_opN rfl rfl (fun _ => o_mask 12 rfl rfl rfl rfl) ?_
    (repeat' (first|refine Yz rfl ?_|(apply Vj;refine Vk ?_)|(apply Vn;refine Vo ?_)|(apply Vz;refine Ua fun _=>?_)|fail))
    refine dw_appH rfl rfl hu rfl rfl rfl (by omega) (by omega) rfl trivial fun v' Lv' hv' => ?_
    (repeat' (first|fail))
    refine dw_end [0, 1, 2, 7, 9, 40] (rest := []) rfl ?_
    (repeat' (first|refine Zb ?_|refine Zc ?_|refine Zd ?_|refine Zi ?_|refine Zu tab rfl rfl ?_|(apply Yc;refine Yd ?_)|fail))
    refine xt_roundK (k + 1, v', Lv') rfl ⟨rfl, rfl, trivial⟩ ⟨by dsimp only; omega, by dsimp only; omega, ?_⟩ (by dsimp only; omega) (fun w1 hw1 => hw1.perm List.perm_append_comm)
    dsimp only
    rw [List.take_add_one, hp, List.map_append, ptCells_append]
    exact hv'
  · have hkm : l.take k = l.take 30 := by
      rcases Nat.lt_or_ge k 30 with h | h
      · rw [List.take_of_length_le (by omega), List.take_of_length_le (by omega)]
      · rw [show k = 30 by omega]
    rw [hkm] at hu
    have hmo : (min (on.length : Int) 30) = ((min on.length 30 : Nat) : Int) := by omega
    (repeat' (first|refine Za ?_|refine Zb ?_|refine Zc ?_|refine Zh ?_|refine Zj ?_|refine Zl ?_|refine Zq ?_|refine Zu tab rfl rfl ?_|(apply Yv;refine Yw fun _=>?_)|fail))
    rename_i b41
    refine tl_val (o_sliceH (n := min on.length 30) rfl (congrArg (fun z => some (Value.int .i64 z)) hmo) (by omega)) rfl rfl ?_
    refine tl_appA (w0 := w) (X := []) (news := boolC (on.take 30)) Lu rfl rfl (OwnsV.at_ (b := b41) (e := 4) (sz := 1) (n := 0) (cap := 0) (xs := [])) (fun w1 hw1 => St.headImp hw1 fun o ho => bx_row0 ho) (fun hpos => ?_) rfl (by simp [boolC]; omega) (fun u hu => by obtain ⟨z, _, rfl⟩ := List.mem_map.1 hu; rfl) (by omega) (by omega) rfl ?_
    · obtain ⟨_, _, _, hq, _, _, _, hro⟩ := id hO
      cases hq
      obtain ⟨bo, offo, rfl, go1, go2⟩ := hro (by omega)
      refine ⟨_, rfl, fun w1 hw1 j u hj => ?_⟩
      rw [add_mk, hw1.oldCell (a := ⟨bo, offo + j, none⟩) go1 (by simp)]
      refine go2 j u ?_
      simp only [boolC, List.getElem?_map, List.getElem?_take] at hj ⊢
      split at hj
      · exact hj
      · simp at hj
    intro v47 Lo ho47
    (repeat' (first|refine Za ?_|refine Zc ?_|refine Zd ?_|refine Zu tab rfl rfl ?_|fail))
    refine t_rebase fun w3 hw3 => ?_
    have hx3 := hw3.toExt
    rw [Nat.zero_add, List.nil_append] at ho47
    have hO3 := (ho47.rdI hw3 (fun p hp => by simp [hp])).rd
    have hR3 := (hu.rdI hw3 (fun p hp => by simp [hp])).rd
    have hE3 := hE.ext hx3
    obtain ⟨A47, c47, rfl⟩ := ho47.shape
    obtain ⟨A8, c8, rfl⟩ := hu.shape
    have hkl : ((l.take 30).map nrP).length = k := by rw [← hkm, List.length_map, List.length_take]; omega
    clear hw3 ho47 hu
    have hme : (min (es.length : Int) 10) = ((min es.length 10 : Nat) : Int) := by omega
    refine t_drawG 14 (J := JG w3 [(0, .slice A8 k c8), (1, .slice A8 k c8), (2, .slice A8 k c8), (3, .int .i64 k), (6, .slice Ae es.length ce), (7, .slice Ae es.length ce), (8, .int .i64 es.length), (9, .int .i64 (min (es.length : Int) 10)), (10, .slice Ae (min es.length 10) ce)] (min es.length 10) k (intC (es.take 10)) [.slice none 0 0, .slice none 0 0, .slice none 0 0, .slice none 0 0] (.slice A8 k c8)) (of_decide_eq_true rfl) (by kernel_rfl) mixed (by kernel_rfl) rfl (fun w4 n4 hw4 => ?_) (fun j o hj ho S ε hc hSj hdp => ?_) (fun ε => ?_)
    · exact ⟨fun p hp h => by simp at h, fun h => by simp at h, fun h => by simp at h, 0, 0, [], fun h => by simp at h, fun h => by simp at h, fun h => by simp at h, by simpa using hw4.drew n4⟩
    · have h12 : S 12 = true → S 4 = true ∧ S 11 = true := fun h => ⟨reach_spec hc 6 12 4 (by kernel_rfl) h, reach_spec hc 6 12 11 (by kernel_rfl) h⟩
      have h11 : S 11 = true → S 5 = true := fun h => reach_spec hc 6 11 5 (by kernel_rfl) h
      rcases j with _ | _ | _ | _ | _ | _ | _ | _ | _ | _ | _ | _ | _ | _ | j
      rotate_right
      · omega
      all_goals cases ho
      all_goals dsimp only
      · exact jg_val 0 _ rfl rfl (by simp [lv, flook_cons]) (fun I => stepP_spec tab rfl) (fun e he => hdp e (Array.mem_def.2 he)) (by simp)
      · exact jg_val 1 _ rfl rfl (by simp [lv, flook_cons]) (fun I => stepP_spec tab rfl) (fun e he => hdp e (Array.mem_def.2 he)) (by simp)
      · exact jg_val 2 _ rfl rfl (by simp [lv, flook_cons]) (fun I => stepP_spec tab rfl) (fun e he => hdp e (Array.mem_def.2 he)) (by simp)
      · exact jg_val 3 _ rfl rfl (by simp [lv, flook_cons]) (fun I => stepP_spec tab rfl) (fun e he => hdp e (Array.mem_def.2 he)) (by simp [flook_cons])
      · refine jg_make (fun e he => hdp e (Array.mem_def.2 he)) (Bool.eq_false_iff.2 fun h => by rw [(h12 h).1] at hSj; cases hSj) (by simp) (fun L => (o_make (n := k) rfl rfl rfl (by omega) (by omega)).mono fun v w ⟨b, h1, h2⟩ => ⟨b, _, h1, h2⟩) (by simp [flook_cons])
      · have g11 : S 11 = false := Bool.eq_false_iff.2 fun h => by rw [h11 h] at hSj; cases hSj
        refine jg_lit (fun e he => hdp e (Array.mem_def.2 he)) g11 (Bool.eq_false_iff.2 fun h => by rw [(h12 h).2] at g11; cases g11) hSj (by simp) (fun L => (o_lit (n := 0) rfl rfl rfl rfl rfl rfl rfl).mono fun v w ⟨b, h1, h2⟩ => ⟨b, h1, St.headImp h2 fun o ho => bx_row0 ho⟩) (by simp [flook_cons])
      · exact jg_val 6 _ rfl rfl (by simp [lv, flook_cons]) (fun I => stepP_spec tab rfl) (fun e he => hdp e (Array.mem_def.2 he)) (by simp)
      · exact jg_val 7 _ rfl rfl (by simp [lv, flook_cons]) (fun I => stepP_spec tab rfl) (fun e he => hdp e (Array.mem_def.2 he)) (by simp)
      · exact jg_val 8 _ rfl rfl (by simp [lv, flook_cons]) (fun I => stepP_spec tab rfl) (fun e he => hdp e (Array.mem_def.2 he)) (by simp [flook_cons])
      · exact jg_val 9 _ rfl rfl (by simp [lv, flook_cons]) (fun I => stepP_spec tab rfl) (fun e he => hdp e (Array.mem_def.2 he)) (by simp [flook_cons])
      · exact jg_val 10 _ rfl rfl (by simp [lv, flook_cons]) (fun I => o_sliceH (n := min es.length 10) rfl (congrArg (fun z => some (Value.int .i64 z)) hme) (by omega)) (fun e he => hdp e (Array.mem_def.2 he)) (by simp [flook_cons])
      · have g5 : S 5 = true := hdp { on := 5, ground := .data } (by simp) rfl
        refine jg_app (fun e he => hdp e (Array.mem_def.2 he)) g5 (Bool.eq_false_iff.2 fun h => by rw [(h12 h).2] at hSj; cases hSj) hSj (by simp) (fun b5 L => ?_) (by simp [flook_cons])
        refine (o_appA (w0 := w3) (X := []) (news := intC (es.take 10)) L rfl rfl (OwnsV.at_ (b := b5) (e := 3) (sz := 1) (n := 0) (cap := 0) (xs := [])) (fun w1 hw1 => hw1.perm List.perm_append_comm) (fun hpos => ?_) rfl (by simp [intC]; omega) (fun u hu => by obtain ⟨z, _, rfl⟩ := List.mem_map.1 hu; rfl) (by omega) (by omega)).mono fun v w1 ⟨Lv', h1, h2⟩ => ?_
        · obtain ⟨_, _, _, hq, _, _, _, hro⟩ := id hE3
          cases hq
          obtain ⟨bo, offo, rfl, go1, go2⟩ := hro (by omega)
          refine ⟨_, rfl, fun w1 hw1 j u hj => ?_⟩
          rw [add_mk, hw1.oldCell (a := ⟨bo, offo + j, none⟩) go1 (by simp)]
          refine go2 j u ?_
          simp only [intC, List.getElem?_map, List.getElem?_take] at hj ⊢
          split at hj
          · exact hj
          · simp at hj
        · rw [Nat.zero_add, List.nil_append] at h1
          obtain ⟨A9, c9, rfl⟩ := h1.shape
          exact ⟨A9, c9, Lv', rfl, h1, h2⟩
      · refine jg_bld (fun e he => hdp e (Array.mem_def.2 he)) (hdp { on := 4, ground := .data } (by simp) rfl) (hdp { on := 11, ground := .data } (by simp) rfl) (by simp) (fun b4 A c I => o_bd rfl rfl) (by simp [flook_cons])
      · refine jg_alo (fun e he => hdp e (Array.mem_def.2 he)) hSj (by simp) (fun L => o_alloc) (by simp [flook_cons])
    · refine tl_jg (fun b4 b13 A9 c9 => [(10, .pointer (some ⟨b13, 0, none⟩)), (60, .agg #[.slice A8 k c8, .slice A8 k c8, .slice (some ⟨b4, 0, none⟩) k k, .slice A9 (min es.length 10) c9]), (1, .slice A47 (min on.length 30) c47), (7, .bool true)]) (fun b4 b13 A9 c9 e13 e12 => ⟨congrArg some e13, congrArg some e12, rfl, rfl, trivial⟩) fun b4 b13 A9 c9 Lv ho9 => ?_
      dsimp only [List.drop]
      (repeat' (first|refine Za ?_|refine Zc ?_|refine Zd ?_|(apply Ye;refine Yf ?_)|fail))
      refine t_rebase fun w5 hw5 => ?_
      have hx5 := hw5.toExt
      have hE5 := (ho9.rdI hw5 (fun p hp => by simp [hp])).rd
      have hR5 := hR3.ext hx5
      have hO5 := hO3.ext hx5
      have hcl := own_cl hw5 (List.mem_cons_self ..)
      have hxx := hx3.trans hx5
      clear hw5 ho9 hR3 hO3 hE3 hE hO hR
      have hin : InL ((l.take 30).map nrP) := fun q hq => by
        obtain ⟨s, _, rfl⟩ := List.mem_map.1 hq
        unfold InP nrP
        dsimp only
        omega
      have hpl : ((l.take 30).map nrP).length ≤ 30 := by omega
      have hel : (es.take 10).length ≤ 10 := by rw [List.length_take]; omega
      generalize (l.take 30).map nrP = p at *
      generalize es.take 10 = e at *
      generalize on.take 30 = o at *
      refine t_drawW 7 [(0, .v), (1, .v), (2, .v), (3, .v), (5, .v), (6, .v), (4, .e)] ?_ rfl (by kernel_rfl) (by kernel_rfl) rfl (by kernel_rfl) mixed (by kernel_rfl) rfl
      (repeat' (first|refine Yz rfl ?_|refine Vd tab ?_|(apply Vf;refine Vg ?_)|fail))
      refine dw_callR (Post := fun w v w' => BmI w w' v (fillB (linesO p o e))) (fun L' w6 hw6 => oglyph_calls w6 _ _ _ _ _ _ _ _ _ _ _ p o e (hR5.ext hw6.toExt) (hO5.ext hw6.toExt) (hE5.ext hw6.toExt) hin hpl hel rfl rfl) rfl rfl rfl ?_
      rintro w6 w7 v65 L7 hw6 he6 ⟨rv1, rfl, hr1⟩
      obtain ⟨A1, n1, c1, rfl, _⟩ := id hr1
      (repeat' (first|fail))
      refine dw_end [62, 65, 66, 67] (rest := []) rfl ?_
      (repeat' (first|refine Zv rfl rfl ?_|fail))
      refine tl_callR (Post := fun w v w' => BmI w w' v (fillB (linesO p o e))) (fun w8 hw8 => rglyph_calls w8 _ _ _ _ _ _ _ _ _ _ _ p o e (hR5.ext hw8.toExt) (hO5.ext hw8.toExt) (hE5.ext hw8.toExt) hin hpl hel rfl rfl) rfl rfl ?_
      rintro w8 w9 v68 hw8 he8 ⟨rv2, rfl, hr2⟩
      obtain ⟨A2, n2, c2, rfl, _⟩ := id hr2
      generalize fillB (linesO p o e) = B at *
      (repeat' (first|refine Zv rfl rfl ?_|fail))
      refine tl_callV (u := .bool true) (fun wd hwd => ?_) rfl rfl ?_
      · have := same_calls wd _ _ B B ⟨_, rfl, (RdI.move hr1 (hwd.sg fun p hp => by simp [hp])).rd⟩ ⟨_, rfl, (RdI.move hr2 (hwd.sg fun p hp => by simp [hp])).rd⟩
        rw [show decide (Bm.same B B) = true by simp [Bm.same]] at this
        exact this
      (repeat' (first|refine Zc ?_|refine Zd ?_|refine Zg ?_|refine Zu tab rfl rfl ?_|(apply Ya;refine Yb ?_)|fail))
      exact xt_ret1 rfl rfl fun w1 hw1 => ⟨_, rfl, hxx.trans hw1.toExt, rfl⟩
end Go.Proofs.Ytbgolbkolcmldaa
