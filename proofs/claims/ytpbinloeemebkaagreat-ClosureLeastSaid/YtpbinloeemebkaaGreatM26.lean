/-
  What is kept is the least set that has what a request begins with, and that nothing more can come of.
-/
import Derived.Test.YtpbinloeemebkaaGreatM25
namespace Go.Proofs.YtpbinloeemebkaaGreat
section
variable {f : FFont}
theorem tell_adv {S T : List Int} (h : ∀ z ∈ S, z ∈ T) (x : Hop) : tellAdds f T (adv f S x) = tellAdds f T x := by
  have hall : ∀ l : List (List Int), ((l.dropWhile fun s => s.any (seenB f S x.ign)).all fun s => s.any (seenB f T x.ign)) = l.all fun s => s.any (seenB f T x.ign) := by
    intro l
    induction l with
    | nil => rfl
    | cons s l ih =>
      rw [List.dropWhile_cons]
      split
      · rename_i hs
        have : (s.any (seenB f T x.ign)) = true := by
          rw [List.any_eq_true] at hs ⊢
          obtain ⟨y, hy, hp⟩ := hs
          exact ⟨y, hy, seenB_mono h hp⟩
        rw [ih, List.all_cons, this, Bool.true_and]
      · rfl
  unfold tellAdds adv Hop.rest
  dsimp only
  rw [hall]
  rfl
def HopSame (f : FFont) (S : List Int) (hs hs' : List Hop) : Prop := ∀ T, (∀ z ∈ S, z ∈ T) → hs.map (tellAdds f T) = hs'.map (tellAdds f T)
theorem HopSame.step {S : List Int} {hs hs' : List Hop} (h : HopSame f S hs hs') {T : List Int} (hT : ∀ z ∈ S, z ∈ T) : stepN f T hs = stepN f T hs' := by
  unfold stepN
  rw [List.flatMap_def, List.flatMap_def, h T hT]
theorem HopSame.adv {S : List Int} {hs hs' : List Hop} (h : HopSame f S hs hs') {T : List Int} (hT : ∀ z ∈ S, z ∈ T) : HopSame f T (hs.map (adv f S)) hs' := by
  intro U hU
  rw [← h U fun z hz => hU z (hT z hz), List.map_map]
  exact List.map_congr_left fun x _ => tell_adv (fun z hz => hU z (hT z hz)) x
theorem stepN_mem {S : List Int} {hs : List Hop} {z : Int} : z ∈ stepN f S hs ↔ (z ∈ selfAdds f S ∨ ∃ h ∈ hs, z ∈ tellAdds f S h) ∧ 0 ≤ z ∧ z < f.Glyphs.length := by
  unfold stepN
  rw [addN_mem, List.mem_append, List.mem_flatMap]
  exact ⟨fun h => h.elim (fun h => by cases h) id, .inr⟩
theorem stepN_mono {S T : List Int} (h : ∀ z ∈ S, z ∈ T) {hs : List Hop} {z : Int} (hz : z ∈ stepN f S hs) : z ∈ stepN f T hs := by
  rw [stepN_mem] at hz ⊢
  refine ⟨?_, hz.2⟩
  rcases hz.1 with k | ⟨x, hx, k⟩
  · refine .inl ?_
    unfold selfAdds at k ⊢
    obtain ⟨y, hy, k⟩ := List.mem_flatMap.1 k
    exact List.mem_flatMap.2 ⟨y, h y hy, k⟩
  · exact .inr ⟨x, hx, tellAdds_mono h k⟩
theorem same_mem {S T : List Int} (hS : S.Nodup) (hT : T.Nodup) (h : ∀ z ∈ S, z ∈ T) (hl : T.length = S.length) : ∀ z ∈ T, z ∈ S := by
  intro z hz
  refine Classical.byContradiction fun hn => ?_
  have := nd_len (S := z :: S) (T := T) (List.nodup_cons.2 ⟨hn, hS⟩) fun y hy => by
    rcases List.mem_cons.1 hy with rfl | hy
    · exact hz
    · exact h y hy
  rw [List.length_cons] at this
  omega
theorem run_spec (hs0 : List Hop) : ∀ (k : Nat) (S : List Int) (hs : List Hop), SetOk f.Glyphs.length S → f.Glyphs.length < S.length + k → HopSame f S hs hs0 → ∀ K, glyphRun f k S hs = K → SetOk f.Glyphs.length K ∧ (∀ z ∈ S, z ∈ K) ∧ (∀ z ∈ stepN f K hs0, z ∈ K) ∧ ∀ C, (∀ z ∈ S, z ∈ C) → (∀ z ∈ stepN f C hs0, z ∈ C) → ∀ z ∈ K, z ∈ C
  | 0, S, hs, hS, hl, _, K, _ => by have := hS.len; omega
  | k + 1, S, hs, hS, hl, hh, K, hK => by
    have he : stepN f S hs = stepN f S hs0 := hh.step fun _ h => h
    have hsub := stepN_sub (hs := hs) hS
    have hok := stepN_ok f S hs
    rw [glyphRun] at hK
    split at hK
    · rename_i heq
      subst hK
      refine ⟨hS, fun _ h => h, fun z hz => ?_, fun C hC _ => hC⟩
      rw [← he] at hz
      exact same_mem hS.nodup hok.nodup hsub heq z hz
    · rename_i hne
      have hlen := nd_len hS.nodup hsub
      obtain ⟨h1, h2, h3, h4⟩ := run_spec hs0 k (stepN f S hs) (hs.map (Go.Proofs.YtpbinloeemebkaaGreat.adv f S)) hok (by omega) (hh.adv hsub) K hK
      refine ⟨h1, fun z hz => h2 z (hsub z hz), h3, fun C hC hcl => h4 C (fun z hz => ?_) hcl⟩
      rw [he] at hz
      exact hcl z (stepN_mono hC hz)
theorem SetOk.start {n : Nat} {l : List Int} : SetOk n (addN n [] l) := SetOk.nil.add _
open Classical in
theorem reach_in {fs : List ByteArray} {z : Int} : z ∈ reachN f fs ↔ Reach f fs z := by
  unfold reachN
  rw [List.mem_filter, decide_eq_true_iff, List.mem_map]
  refine ⟨fun h => h.2, fun h => ⟨?_, h⟩⟩
  have := h.in
  exact ⟨z.toNat, by rw [List.mem_range]; omega, by simp; omega⟩
structure KeptOk (f : FFont) (rs : List Int) (fs : List ByteArray) (K : List Int) : Prop where
  ok : SetOk f.Glyphs.length K
  start : ∀ z ∈ startG f rs, z ∈ K
  closed : ∀ z ∈ progStep f (reachN f fs) K, z ∈ K
  least : ∀ C, (∀ z ∈ startG f rs, z ∈ C) → (∀ z ∈ progStep f (reachN f fs) C, z ∈ C) → ∀ z ∈ K, z ∈ C
theorem progStep_stepN {ks C : List Int} {z : Int} (hz : z ∈ progStep f ks C) : z ∈ stepN f C (hopsOf f (addN f.Lookups.length [] ks)) := by
  unfold progStep at hz
  refine stepN_mono (fun y hy => ?_) hz
  rcases addN_mem.1 hy with k | k
  · cases k
  · exact k.1
theorem stepN_progStep {ks C : List Int} {z : Int} (hC : ∀ z ∈ C, 0 ≤ z ∧ z < f.Glyphs.length) (hz : z ∈ stepN f C (hopsOf f (addN f.Lookups.length [] ks))) : z ∈ progStep f ks C := by
  unfold progStep
  exact stepN_mono (fun y hy => addN_mem.2 (.inr ⟨hy, hC y hy⟩)) hz
theorem kept_ok (rs : List Int) (fs : List ByteArray) : KeptOk f rs fs (keptN f rs fs) := by
  have hS : SetOk f.Glyphs.length (startG f rs) := SetOk.start
  obtain ⟨h1, h2, h3, h4⟩ := run_spec (f := f) (hopsOf f (addN f.Lookups.length [] (reachN f fs))) (f.Glyphs.length + 1) (startG f rs) _ hS (by omega) (fun T _ => rfl) _ rfl
  refine ⟨h1, h2, fun z hz => h3 z (progStep_stepN hz), fun C hC hcl z hz => ?_⟩
  have := h4 (C.filter fun z => decide (0 ≤ z ∧ z < f.Glyphs.length)) (fun z hz => List.mem_filter.2 ⟨hC z hz, decide_eq_true (hS.dom z hz)⟩) (fun z hz => ?_) z hz
  · exact (List.mem_filter.1 this).1
  · have hd := (stepN_ok f _ _).dom z hz
    refine List.mem_filter.2 ⟨hcl z ?_, decide_eq_true hd⟩
    refine progStep_mono (fun _ h => h) (fun y hy => (List.mem_filter.1 hy).1) z (stepN_progStep (fun y hy => ?_) hz)
    exact of_decide_eq_true (List.mem_filter.1 hy).2
theorem reach_mono {fs fs' : List ByteArray} (h : ∀ s, hasS fs s = true → hasS fs' s = true) {z : Int} (hz : Reach f fs z) : Reach f fs' z := by
  induction hz with
  | base ht hn hm h0 h1 => exact .base ht (h _ hn) hm h0 h1
  | call _ hl hk hr hc hn ih => exact .call ih hl hk hr hc hn
theorem ask_mono {rs rs' : List Int} (h : ∀ z ∈ rs, z ∈ rs') {z : Int} (hz : z ∈ startG f rs) : z ∈ startG f rs' := by
  unfold startG at hz ⊢
  refine addN_sub (fun y hy => ?_) z hz
  rcases List.mem_cons.1 hy with rfl | hy
  · exact List.mem_cons_self ..
  · refine List.mem_cons_of_mem _ ?_
    unfold askG at hy ⊢
    obtain ⟨c, hc, rfl⟩ := List.mem_map.1 hy
    rw [List.mem_filter, decide_eq_true_iff] at hc
    exact List.mem_map.2 ⟨c, List.mem_filter.2 ⟨hc.1, decide_eq_true (h _ hc.2)⟩, rfl⟩
theorem kept_mono {rs rs' : List Int} {fs fs' : List ByteArray} (hr : ∀ z ∈ rs, z ∈ rs') (hf : ∀ s, hasS fs s = true → hasS fs' s = true) : ∀ z ∈ keptN f rs fs, z ∈ keptN f rs' fs' := by
  have h := kept_ok (f := f) rs fs
  have k := kept_ok (f := f) rs' fs'
  refine h.least _ (fun z hz => k.start z (ask_mono hr hz)) fun z hz => k.closed z ?_
  exact progStep_mono (fun y hy => reach_in.2 (reach_mono hf (reach_in.1 hy))) (fun _ h => h) z hz
end
end Go.Proofs.YtpbinloeemebkaaGreat

namespace Go.Proofs.YtpbinloeemebkaaGreat
open Go.RowKit
attribute [local irreducible] AT ATL AX AO Av Kt ALoopK OkA DA DA1
theorem textL_ok : ∀ z ∈ textL, badR z = false := by decide
theorem reqRs_ok (bs : List Int) : (reqRs bs).any badR = false := by
  rw [Bool.eq_false_iff]
  intro h
  obtain ⟨z, hz, hb⟩ := List.any_eq_true.1 h
  unfold reqRs textF at hz
  obtain ⟨y, _, rfl⟩ := List.mem_map.1 hz
  have hm : textL.getD (y % 17).toNat 0 ∈ textL := getD_mem (by
    have h0 : 0 ≤ y % 17 := Int.emod_nonneg y (by omega)
    have h1 : y % 17 < 17 := Int.emod_lt_of_pos y (by omega)
    simp only [textL, runesL, List.length_append, List.length_cons, List.length_nil]
    omega) 0
  rw [textL_ok _ hm] at hb
  cases hb
theorem reqRs_len (bs : List Int) : (reqRs bs).length ≤ 20 := by
  unfold reqRs textF
  rw [List.length_map, List.length_take]
  omega
theorem made_glyphs {f : FFont} (h : MadeG f) (rs : List Int) (fs : List ByteArray) (hr : rs.any badR = false) : ADet Tryz.prog 15 [aFont f, aReq rs fs] (.tup [.imm 1 (ints (sorted (keptN f rs fs))), I64 0]) := by
  have hg := Glyphs_ac f h.small (fun _ => h.acyc) rs fs
  unfold glyphsV at hg
  rw [if_pos h.right, if_neg (by rw [hr]; exact fun e => by cases e)] at hg
  exact hg
theorem hasS_app {a b : List ByteArray} {x : ByteArray} (h : hasS a x = true) : hasS (a ++ b) x = true := by
  unfold hasS at h ⊢
  simp_all
theorem within_any {a b : List Int} (h : ∀ z ∈ a, z ∈ b) : (a.all fun z => b.contains z) = true := by
  rw [List.all_eq_true]
  intro z hz
  exact List.contains_iff_mem.2 (h z hz)
theorem fs_len (f : FFont) (h : MadeG f) (bs : List Int) : (reqFs f bs).length ≤ 8 := by
  have := pickN_len f bs f.Features.length
  have hfl := h.featN.length_le
  simp only [List.length_map, namesL, List.length_cons, List.length_nil] at hfl
  unfold reqFs
  omega
theorem strs_app2 (a b : List ByteArray) : strs a ++ strs b = strs (a ++ b) := (List.map_append ..).symm
set_option maxHeartbeats 8000000 in
theorem more_law (ns bs ms : List Int) : ADet Tryz.prog 5 [.imm 1 (ints ns), .imm 1 (ints bs), .imm 1 (ints ms)] (Bol true) := by
  refine ac_of Tryz.func5 rfl Tryz.ntmps5 rfl fun B => ?_
  haveI c1 : AD Tryz.prog 11 [] (Bol true) := ⟨closed_ac⟩
  (repeat' (first|refine at_seq ?_|refine at_region ?_|refine ax_then ?_|refine atl_nil ?_|refine n_run ttok rfl rfl ?_|fail))
  refine n_call (hc := ⟨lawMade_det ns bs⟩) ?_
  (repeat' (first|refine at_seq ?_|refine at_region ?_|refine ax_then ?_|refine atl_nil ?_|refine n_run ttok rfl rfl ?_|(apply s_store; first|refine n_storeF 7 ttok 0 rfl rfl rfl rfl rfl rfl rfl rfl ?_|refine n_storeF 7 ttok 1 rfl rfl rfl rfl rfl rfl rfl rfl ?_|refine n_storeF 7 ttok 2 rfl rfl rfl rfl rfl rfl rfl rfl ?_|refine n_storeF 8 ttok 0 rfl rfl rfl rfl rfl rfl rfl rfl ?_|refine n_storeF 8 ttok 1 rfl rfl rfl rfl rfl rfl rfl rfl ?_|refine n_storeF 8 ttok 2 rfl rfl rfl rfl rfl rfl rfl rfl ?_|refine n_storeF 9 ttok 0 rfl rfl rfl rfl rfl rfl rfl rfl ?_|refine n_storeF 9 ttok 1 rfl rfl rfl rfl rfl rfl rfl rfl ?_|refine n_storeF 9 ttok 2 rfl rfl rfl rfl rfl rfl rfl rfl ?_|refine n_storeF 10 ttok 0 rfl rfl rfl rfl rfl rfl rfl rfl ?_|refine n_storeF 10 ttok 1 rfl rfl rfl rfl rfl rfl rfl rfl ?_|refine n_storeF 10 ttok 2 rfl rfl rfl rfl rfl rfl rfl rfl ?_|refine n_store ttok 0 rfl rfl rfl rfl rfl rfl rfl ?_|refine n_store ttok 1 rfl rfl rfl rfl rfl rfl rfl ?_|refine n_store ttok 2 rfl rfl rfl rfl rfl rfl rfl ?_|refine n_store ttok 3 rfl rfl rfl rfl rfl rfl rfl ?_|fail)|refine n_alloc ttok fun _=>?_|fail))
  refine n_call (hc := ⟨lawMade_det ns ms⟩) ?_
  have hG := lawMade_ok ns
  generalize lawMade ns = f at hG ⊢
  have h1 := reqRs_ok bs
  have h2 := reqRs_ok ms
  have l1 := reqRs_len bs
  have l2 := reqRs_len ms
  have l3 := fs_len f hG bs
  have l4 := fs_len f hG ms
  generalize reqRs bs = rs at h1 l1 ⊢
  generalize reqRs ms = rq at h2 l2 ⊢
  generalize reqFs f bs = fs at l3 ⊢
  generalize reqFs f ms = fq at l4 ⊢
  (repeat' (first|refine at_seq ?_|refine at_region ?_|refine ax_then ?_|refine atl_nil ?_|refine n_run ttok rfl rfl ?_|(apply s_load; first|refine n_load ttok 0 rfl rfl rfl rfl rfl ?_|refine n_load ttok 1 rfl rfl rfl rfl rfl ?_|refine n_load ttok 2 rfl rfl rfl rfl rfl ?_|refine n_load ttok 3 rfl rfl rfl rfl rfl ?_|refine n_loadA ttok 0 rfl rfl rfl rfl rfl ?_|refine n_loadA ttok 1 rfl rfl rfl rfl rfl ?_|refine n_loadA ttok 2 rfl rfl rfl rfl rfl ?_|refine n_load ttok 1 rfl rfl rfl (by assumption) rfl ?_|refine n_load ttok 0 rfl rfl rfl (by assumption) rfl ?_|fail)|(apply s_store; first|refine n_storeF 7 ttok 0 rfl rfl rfl rfl rfl rfl rfl rfl ?_|refine n_storeF 7 ttok 1 rfl rfl rfl rfl rfl rfl rfl rfl ?_|refine n_storeF 7 ttok 2 rfl rfl rfl rfl rfl rfl rfl rfl ?_|refine n_storeF 8 ttok 0 rfl rfl rfl rfl rfl rfl rfl rfl ?_|refine n_storeF 8 ttok 1 rfl rfl rfl rfl rfl rfl rfl rfl ?_|refine n_storeF 8 ttok 2 rfl rfl rfl rfl rfl rfl rfl rfl ?_|refine n_storeF 9 ttok 0 rfl rfl rfl rfl rfl rfl rfl rfl ?_|refine n_storeF 9 ttok 1 rfl rfl rfl rfl rfl rfl rfl rfl ?_|refine n_storeF 9 ttok 2 rfl rfl rfl rfl rfl rfl rfl rfl ?_|refine n_storeF 10 ttok 0 rfl rfl rfl rfl rfl rfl rfl rfl ?_|refine n_storeF 10 ttok 1 rfl rfl rfl rfl rfl rfl rfl rfl ?_|refine n_storeF 10 ttok 2 rfl rfl rfl rfl rfl rfl rfl rfl ?_|refine n_store ttok 0 rfl rfl rfl rfl rfl rfl rfl ?_|refine n_store ttok 1 rfl rfl rfl rfl rfl rfl rfl ?_|refine n_store ttok 2 rfl rfl rfl rfl rfl rfl rfl ?_|refine n_store ttok 3 rfl rfl rfl rfl rfl rfl rfl ?_|fail)|refine n_alloc ttok fun _=>?_|fail))
  refine atl_turn (turn_val (t := 30) (c' := .vec none 1 []) rfl fun σ v h => vr_nil 1 h) ?_
  refine n_append ttok _ rfl rfl rfl rfl (List.Perm.refl _) (by simp [ints_len]; omega) (by simp [ints_len]; omega) rfl fun q1 => ?_
  refine atl_turn (turn_perm (List.perm_append_comm (l₂ := [_]))) ?_
  (repeat' (first|refine at_seq ?_|refine at_region ?_|refine ax_then ?_|refine atl_nil ?_|refine n_run ttok rfl rfl ?_|(apply s_load; first|refine n_load ttok 0 rfl rfl rfl rfl rfl ?_|refine n_load ttok 1 rfl rfl rfl rfl rfl ?_|refine n_load ttok 2 rfl rfl rfl rfl rfl ?_|refine n_load ttok 3 rfl rfl rfl rfl rfl ?_|refine n_loadA ttok 0 rfl rfl rfl rfl rfl ?_|refine n_loadA ttok 1 rfl rfl rfl rfl rfl ?_|refine n_loadA ttok 2 rfl rfl rfl rfl rfl ?_|refine n_load ttok 1 rfl rfl rfl (by assumption) rfl ?_|refine n_load ttok 0 rfl rfl rfl (by assumption) rfl ?_|fail)|(apply s_store; first|refine n_storeF 7 ttok 0 rfl rfl rfl rfl rfl rfl rfl rfl ?_|refine n_storeF 7 ttok 1 rfl rfl rfl rfl rfl rfl rfl rfl ?_|refine n_storeF 7 ttok 2 rfl rfl rfl rfl rfl rfl rfl rfl ?_|refine n_storeF 8 ttok 0 rfl rfl rfl rfl rfl rfl rfl rfl ?_|refine n_storeF 8 ttok 1 rfl rfl rfl rfl rfl rfl rfl rfl ?_|refine n_storeF 8 ttok 2 rfl rfl rfl rfl rfl rfl rfl rfl ?_|refine n_storeF 9 ttok 0 rfl rfl rfl rfl rfl rfl rfl rfl ?_|refine n_storeF 9 ttok 1 rfl rfl rfl rfl rfl rfl rfl rfl ?_|refine n_storeF 9 ttok 2 rfl rfl rfl rfl rfl rfl rfl rfl ?_|refine n_storeF 10 ttok 0 rfl rfl rfl rfl rfl rfl rfl rfl ?_|refine n_storeF 10 ttok 1 rfl rfl rfl rfl rfl rfl rfl rfl ?_|refine n_storeF 10 ttok 2 rfl rfl rfl rfl rfl rfl rfl rfl ?_|refine n_store ttok 0 rfl rfl rfl rfl rfl rfl rfl ?_|refine n_store ttok 1 rfl rfl rfl rfl rfl rfl rfl ?_|refine n_store ttok 2 rfl rfl rfl rfl rfl rfl rfl ?_|refine n_store ttok 3 rfl rfl rfl rfl rfl rfl rfl ?_|fail)|fail))
  refine n_append ttok _ rfl rfl rfl rfl (List.perm_append_comm (l₁ := [_])) (by simp [ints_len]; omega) (by simp [ints_len]; omega) rfl fun q2 => ?_
  refine atl_turn (turn_perm (List.perm_append_comm (l₂ := [_]))) ?_
  (repeat' (first|refine at_seq ?_|refine at_region ?_|refine ax_then ?_|refine atl_nil ?_|refine n_run ttok rfl rfl ?_|(apply s_load; first|refine n_load ttok 0 rfl rfl rfl rfl rfl ?_|refine n_load ttok 1 rfl rfl rfl rfl rfl ?_|refine n_load ttok 2 rfl rfl rfl rfl rfl ?_|refine n_load ttok 3 rfl rfl rfl rfl rfl ?_|refine n_loadA ttok 0 rfl rfl rfl rfl rfl ?_|refine n_loadA ttok 1 rfl rfl rfl rfl rfl ?_|refine n_loadA ttok 2 rfl rfl rfl rfl rfl ?_|refine n_load ttok 1 rfl rfl rfl (by assumption) rfl ?_|refine n_load ttok 0 rfl rfl rfl (by assumption) rfl ?_|fail)|(apply s_store; first|refine n_storeF 7 ttok 0 rfl rfl rfl rfl rfl rfl rfl rfl ?_|refine n_storeF 7 ttok 1 rfl rfl rfl rfl rfl rfl rfl rfl ?_|refine n_storeF 7 ttok 2 rfl rfl rfl rfl rfl rfl rfl rfl ?_|refine n_storeF 8 ttok 0 rfl rfl rfl rfl rfl rfl rfl rfl ?_|refine n_storeF 8 ttok 1 rfl rfl rfl rfl rfl rfl rfl rfl ?_|refine n_storeF 8 ttok 2 rfl rfl rfl rfl rfl rfl rfl rfl ?_|refine n_storeF 9 ttok 0 rfl rfl rfl rfl rfl rfl rfl rfl ?_|refine n_storeF 9 ttok 1 rfl rfl rfl rfl rfl rfl rfl rfl ?_|refine n_storeF 9 ttok 2 rfl rfl rfl rfl rfl rfl rfl rfl ?_|refine n_storeF 10 ttok 0 rfl rfl rfl rfl rfl rfl rfl rfl ?_|refine n_storeF 10 ttok 1 rfl rfl rfl rfl rfl rfl rfl rfl ?_|refine n_storeF 10 ttok 2 rfl rfl rfl rfl rfl rfl rfl rfl ?_|refine n_store ttok 0 rfl rfl rfl rfl rfl rfl rfl ?_|refine n_store ttok 1 rfl rfl rfl rfl rfl rfl rfl ?_|refine n_store ttok 2 rfl rfl rfl rfl rfl rfl rfl ?_|refine n_store ttok 3 rfl rfl rfl rfl rfl rfl rfl ?_|fail)|fail))
  rw [List.nil_append, ints_app]
  rename_i bb
  refine atl_turn (turn_cells 0 (cs' := [.imm 1 (ints (rs ++ rq)), .vec none 1 []]) rfl fun σ vs h => VLs.vrs (a := [.vec q2 1 (ints (rs ++ rq)), nilV]) (b := [.imm 1 (ints (rs ++ rq)), .vec none 1 []]) ⟨VLe.im, VLe.vecN 1, trivial⟩ h) ?_
  refine atl_turn (turn_sub (L' := [(bb, .box [.imm 1 (ints (rs ++ rq)), .vec none 1 []] 39)]) (List.Sublist.cons_cons _ (List.nil_sublist _))) ?_
  refine atl_turn (turn_val (t := 42) (c' := .vec none 1 []) rfl fun σ v h => vr_nil 1 h) ?_
  refine n_append ttok _ rfl rfl rfl rfl (List.Perm.refl _) (by simp [strs_len]; omega) (by simp [strs_len]; omega) rfl fun q3 => ?_
  refine atl_turn (turn_perm (List.perm_append_comm (l₂ := [_]))) ?_
  (repeat' (first|refine at_seq ?_|refine at_region ?_|refine ax_then ?_|refine atl_nil ?_|refine n_run ttok rfl rfl ?_|(apply s_load; first|refine n_load ttok 0 rfl rfl rfl rfl rfl ?_|refine n_load ttok 1 rfl rfl rfl rfl rfl ?_|refine n_load ttok 2 rfl rfl rfl rfl rfl ?_|refine n_load ttok 3 rfl rfl rfl rfl rfl ?_|refine n_loadA ttok 0 rfl rfl rfl rfl rfl ?_|refine n_loadA ttok 1 rfl rfl rfl rfl rfl ?_|refine n_loadA ttok 2 rfl rfl rfl rfl rfl ?_|refine n_load ttok 1 rfl rfl rfl (by assumption) rfl ?_|refine n_load ttok 0 rfl rfl rfl (by assumption) rfl ?_|fail)|(apply s_store; first|refine n_storeF 7 ttok 0 rfl rfl rfl rfl rfl rfl rfl rfl ?_|refine n_storeF 7 ttok 1 rfl rfl rfl rfl rfl rfl rfl rfl ?_|refine n_storeF 7 ttok 2 rfl rfl rfl rfl rfl rfl rfl rfl ?_|refine n_storeF 8 ttok 0 rfl rfl rfl rfl rfl rfl rfl rfl ?_|refine n_storeF 8 ttok 1 rfl rfl rfl rfl rfl rfl rfl rfl ?_|refine n_storeF 8 ttok 2 rfl rfl rfl rfl rfl rfl rfl rfl ?_|refine n_storeF 9 ttok 0 rfl rfl rfl rfl rfl rfl rfl rfl ?_|refine n_storeF 9 ttok 1 rfl rfl rfl rfl rfl rfl rfl rfl ?_|refine n_storeF 9 ttok 2 rfl rfl rfl rfl rfl rfl rfl rfl ?_|refine n_storeF 10 ttok 0 rfl rfl rfl rfl rfl rfl rfl rfl ?_|refine n_storeF 10 ttok 1 rfl rfl rfl rfl rfl rfl rfl rfl ?_|refine n_storeF 10 ttok 2 rfl rfl rfl rfl rfl rfl rfl rfl ?_|refine n_store ttok 0 rfl rfl rfl rfl rfl rfl rfl ?_|refine n_store ttok 1 rfl rfl rfl rfl rfl rfl rfl ?_|refine n_store ttok 2 rfl rfl rfl rfl rfl rfl rfl ?_|refine n_store ttok 3 rfl rfl rfl rfl rfl rfl rfl ?_|fail)|fail))
  refine n_append ttok _ rfl rfl rfl rfl (List.perm_append_comm (l₁ := [_])) (by simp [strs_len]; omega) (by simp [strs_len]; omega) rfl fun q4 => ?_
  refine atl_turn (turn_perm (List.perm_append_comm (l₂ := [_]))) ?_
  (repeat' (first|refine at_seq ?_|refine at_region ?_|refine ax_then ?_|refine atl_nil ?_|refine n_run ttok rfl rfl ?_|(apply s_store; first|refine n_storeF 7 ttok 0 rfl rfl rfl rfl rfl rfl rfl rfl ?_|refine n_storeF 7 ttok 1 rfl rfl rfl rfl rfl rfl rfl rfl ?_|refine n_storeF 7 ttok 2 rfl rfl rfl rfl rfl rfl rfl rfl ?_|refine n_storeF 8 ttok 0 rfl rfl rfl rfl rfl rfl rfl rfl ?_|refine n_storeF 8 ttok 1 rfl rfl rfl rfl rfl rfl rfl rfl ?_|refine n_storeF 8 ttok 2 rfl rfl rfl rfl rfl rfl rfl rfl ?_|refine n_storeF 9 ttok 0 rfl rfl rfl rfl rfl rfl rfl rfl ?_|refine n_storeF 9 ttok 1 rfl rfl rfl rfl rfl rfl rfl rfl ?_|refine n_storeF 9 ttok 2 rfl rfl rfl rfl rfl rfl rfl rfl ?_|refine n_storeF 10 ttok 0 rfl rfl rfl rfl rfl rfl rfl rfl ?_|refine n_storeF 10 ttok 1 rfl rfl rfl rfl rfl rfl rfl rfl ?_|refine n_storeF 10 ttok 2 rfl rfl rfl rfl rfl rfl rfl rfl ?_|refine n_store ttok 0 rfl rfl rfl rfl rfl rfl rfl ?_|refine n_store ttok 1 rfl rfl rfl rfl rfl rfl rfl ?_|refine n_store ttok 2 rfl rfl rfl rfl rfl rfl rfl ?_|refine n_store ttok 3 rfl rfl rfl rfl rfl rfl rfl ?_|fail)|fail))
  rw [List.nil_append, strs_app2]
  refine atl_turn (turn_cells 0 (cs' := [.imm 1 (ints (rs ++ rq)), .imm 1 (strs (fs ++ fq))]) rfl fun σ vs h => VLs.vrs (a := [.imm 1 (ints (rs ++ rq)), .vec q4 1 (strs (fs ++ fq))]) (b := [.imm 1 (ints (rs ++ rq)), .imm 1 (strs (fs ++ fq))]) ⟨VLe.refl _, VLe.im, trivial⟩ h) ?_
  refine atl_turn (turn_sub (L' := [(bb, .box [.imm 1 (ints (rs ++ rq)), .imm 1 (strs (fs ++ fq))] 39)]) (List.Sublist.cons_cons _ (List.nil_sublist _))) ?_
  refine n_call (hc := ⟨made_glyphs hG rs fs h1⟩) ?_
  (repeat' (first|refine at_seq ?_|refine at_region ?_|refine ax_then ?_|refine atl_nil ?_|refine n_run ttok rfl rfl ?_|(apply s_load; first|refine n_load ttok 0 rfl rfl rfl rfl rfl ?_|refine n_load ttok 1 rfl rfl rfl rfl rfl ?_|refine n_load ttok 2 rfl rfl rfl rfl rfl ?_|refine n_load ttok 3 rfl rfl rfl rfl rfl ?_|refine n_loadA ttok 0 rfl rfl rfl rfl rfl ?_|refine n_loadA ttok 1 rfl rfl rfl rfl rfl ?_|refine n_loadA ttok 2 rfl rfl rfl rfl rfl ?_|refine n_load ttok 1 rfl rfl rfl (by assumption) rfl ?_|refine n_load ttok 0 rfl rfl rfl (by assumption) rfl ?_|fail)|fail))
  refine n_call (hc := ⟨made_glyphs hG (rs ++ rq) (fs ++ fq) (by rw [List.any_append, h1, h2]; rfl)⟩) ?_
  haveI a1 : AD Tryz.prog 13 [aFont f, .imm 1 (strs fs)] (.imm 1 (ints (reachN f fs))) := ⟨lookupsP_det f fs hG.small⟩
  haveI a2 : AD Tryz.prog 13 [aFont f, .imm 1 (strs (fs ++ fq))] (.imm 1 (ints (reachN f (fs ++ fq)))) := ⟨lookupsP_det f (fs ++ fq) hG.small⟩
  have m1 := within_sorted (kept_mono (f := f) (rs := rs) (rs' := rs ++ rq) (fs := fs) (fs' := fs ++ fq) (fun z hz => List.mem_append_left _ hz) (fun x hx => hasS_app hx))
  have m2 := within_any (a := reachN f fs) (b := reachN f (fs ++ fq)) (fun z hz => reach_in.2 (reach_mono (fun x hx => hasS_app hx) (reach_in.1 hz)))
  (repeat' (first|refine at_seq ?_|refine ax_then ?_|refine atl_nil ?_|refine n_run ttok rfl rfl ?_|fail))
  refine at_draw 25 [(0, .v), (1, .v), (2, .v), (3, .v), (4, .v), (5, .v), (6, .v), (7, .v), (8, .v), (9, .v), (10, .v), (11, .v), (12, .v), (13, .v), (14, .v), (15, .v), (16, .v), (17, .v), (18, .v), (19, .v), (20, .v), (21, .l), (22, .v), (23, .v), (24, .v)] none ?_ trivial rfl (by kernel_rfl) (by kernel_rfl) (by kernel_rfl) mixed (by kernel_rfl) rfl
  (repeat' (first|refine da_open ?_|refine d_run ttok ?_|(apply ds_call;refine d_call ?_)|fail))
  rw [m1]
  (repeat' (first|refine da_open ?_|refine d_run ttok ?_|(apply ds_call;refine d_call ?_)|refine d_load ttok 0 rfl rfl rfl rfl (by first|trivial|rfl) ?_|fail))
  rw [m2]
  (repeat' (first|fail))
  refine da_end [89] rfl rfl ?_
  (repeat' (first|refine at_ret ?_|refine ax_then ?_|refine atl_nil ?_|refine n_run ttok rfl rfl ?_|fail))
  exact ax_ret1 rfl rfl rfl
end Go.Proofs.YtpbinloeemebkaaGreat

namespace Go.Proofs.YtpbinloeemebkaaGreat
open Go.RowKit
attribute [local irreducible] AT ATL AX AO Av Kt ALoopK OkA DA DA1
theorem start_have {f : FFont} {rs : List Int} {H : List Int} (h : ∀ z ∈ 0 :: askG rs f.Chars, z ∈ H) : ∀ z ∈ startG f rs, z ∈ H := by
  intro z hz
  unfold startG at hz
  rcases addN_mem.1 hz with k | k
  · cases k
  · exact h z k.1
theorem ask_kept {f : FFont} (hG : MadeG f) {rs : List Int} {fs : List ByteArray} : ∀ z ∈ 0 :: askG rs f.Chars, z ∈ keptN f rs fs := by
  intro z hz
  refine (kept_ok (f := f) rs fs).start z ?_
  unfold startG
  refine addN_mem.2 (.inr ⟨hz, ?_⟩)
  have hn := hG.glyN
  rcases List.mem_cons.1 hz with rfl | hz
  · omega
  · unfold askG at hz
    obtain ⟨c, hc, rfl⟩ := List.mem_map.1 hz
    exact hG.charG c (List.mem_filter.1 hc).1
def grow1 (H : List Int) (z : Int) : List Int := if z ∈ H then H else H ++ [z]
def growAll (H S : List Int) : List Int := S.foldl grow1 H
theorem growAll_take {H S : List Int} {i : Nat} {z : Int} (h : S[i]? = some z) : growAll H (S.take (i + 1)) = grow1 (growAll H (S.take i)) z := by
  unfold growAll
  rw [List.take_add_one, h, List.foldl_append]
  rfl
theorem growAll_mem {S : List Int} : ∀ {H : List Int} {z : Int}, z ∈ growAll H S ↔ z ∈ H ∨ z ∈ S := by
  induction S with
  | nil => intro H z; simp [growAll]
  | cons x S ih =>
    intro H z
    show z ∈ growAll (grow1 H x) S ↔ _
    rw [ih]
    unfold grow1
    split
    · rename_i hx
      rw [List.mem_cons]
      constructor
      · rintro (h | h)
        · exact .inl h
        · exact .inr (.inr h)
      · rintro (h | rfl | h)
        · exact .inl h
        · exact .inl hx
        · exact .inr h
    · rw [List.mem_append, List.mem_singleton, List.mem_cons]
      constructor
      · rintro ((h | h) | h)
        · exact .inl h
        · exact .inr (.inl h)
        · exact .inr (.inr h)
      · rintro (h | h | h)
        · exact .inl (.inl h)
        · exact .inl (.inr h)
        · exact .inr h
def Grown (n : Nat) (H0 H : List Int) : Prop := ∃ E, H = H0 ++ E ∧ E.Nodup ∧ ∀ z ∈ E, 0 ≤ z ∧ z < n
theorem Grown.grow {n : Nat} {H0 S : List Int} (hS : ∀ z ∈ S, 0 ≤ z ∧ z < n) : ∀ {H : List Int}, Grown n H0 H → Grown n H0 (growAll H S) := by
  induction S with
  | nil => intro H h; exact h
  | cons x S ih =>
    intro H h
    refine ih (fun z hz => hS z (List.mem_cons_of_mem _ hz)) ?_
    unfold grow1
    split
    · exact h
    · rename_i hx
      obtain ⟨E, rfl, hn, hd⟩ := h
      refine ⟨E ++ [x], by simp, ?_, fun z hz => ?_⟩
      · rw [List.nodup_append]
        refine ⟨hn, by simp, fun a ha b hb => ?_⟩
        rw [List.mem_singleton.1 hb]
        exact fun e => hx (List.mem_append_right _ (e ▸ ha))
      · rcases List.mem_append.1 hz with hz | hz
        · exact hd z hz
        · rw [List.mem_singleton.1 hz]; exact hS x (List.mem_cons_self ..)
theorem Grown.len {n : Nat} {H0 H : List Int} (h : Grown n H0 H) : H.length ≤ H0.length + n := by
  obtain ⟨E, rfl, hn, hd⟩ := h
  have := nodup_le hn hd
  simp
  omega
theorem growAll_len {S : List Int} : ∀ {H : List Int}, H.length ≤ (growAll H S).length := by
  induction S with
  | nil => intro H; exact Nat.le_refl _
  | cons x S ih =>
    intro H
    refine Nat.le_trans ?_ (ih (H := grow1 H x))
    unfold grow1
    split
    · exact Nat.le_refl _
    · simp
theorem growAll_stay {S : List Int} : ∀ {H : List Int}, (growAll H S).length = H.length → ∀ z ∈ S, z ∈ H := by
  induction S with
  | nil => intro H _ z hz; cases hz
  | cons x S ih =>
    intro H h
    have h1 := growAll_len (H := grow1 H x) (S := S)
    have h2 : (growAll (grow1 H x) S).length = H.length := h
    by_cases hx : x ∈ H
    · have hg : grow1 H x = H := if_pos hx
      rw [hg] at h2
      intro z hz
      rcases List.mem_cons.1 hz with rfl | hz
      · exact hx
      · exact ih h2 z hz
    · have hg : grow1 H x = H ++ [x] := if_neg hx
      rw [hg, List.length_append] at h1
      simp only [List.length_cons, List.length_nil] at h1
      rw [hg] at h2
      omega
theorem step_dom {f : FFont} {ks gs : List Int} : ∀ z ∈ sorted (progStep f ks gs), 0 ≤ z ∧ z < f.Glyphs.length := fun z hz => (progStep_mem.1 ((sorted_perm _).mem_iff.1 hz)).2
theorem askG_get (rs : List Int) {cs : List FChar} {i : Nat} {c : FChar} (h : cs[i]? = some c) : askG rs (cs.take (i + 1)) = askG rs (cs.take i) ++ if rs.contains c.Rune = true then [c.Glyph] else [] := by
  rw [askG_take rs h]
  congr 1
  simp
theorem askG_len (rs : List Int) (cs : List FChar) : (askG rs cs).length ≤ cs.length := by
  unfold askG
  rw [List.length_map]
  exact List.length_filter_le ..
theorem ints_snoc (a : List Int) (z : Int) : ints (a ++ [z]) = ints a ++ [[I64 z]] := List.map_append ..
structure NS where
  q : Option (Nat × Nat)
  H : List Int
  n : Nat
set_option maxHeartbeats 8000000 in
theorem needs_law (ns bs : List Int) : ADet Tryz.prog 7 [.imm 1 (ints ns), .imm 1 (ints bs)] (Bol true) := by
  refine ac_of Tryz.func7 rfl Tryz.ntmps7 rfl fun B => ?_
  haveI c1 : AD Tryz.prog 11 [] (Bol true) := ⟨closed_ac⟩
  (repeat' (first|refine at_seq ?_|refine at_region ?_|refine ax_then ?_|refine atl_nil ?_|refine n_run ttok rfl rfl ?_|fail))
  refine n_call (hc := ⟨lawMade_det ns bs⟩) ?_
  have hG := lawMade_ok ns
  generalize lawMade ns = f at hG ⊢
  have h1 := reqRs_ok bs
  have l1 := reqRs_len bs
  have l3 := fs_len f hG bs
  generalize reqRs bs = rs at h1 l1 ⊢
  generalize reqFs f bs = fs at l3 ⊢
  have hch := hG.chars
  have hgn := hG.glyN
  have hcm : (f.Chars.map cChar).length = f.Chars.length := List.length_map ..
  (repeat' (first|refine at_seq ?_|refine at_region ?_|refine ax_then ?_|refine atl_nil ?_|refine n_run ttok rfl rfl ?_|(apply s_store; first|refine n_storeF 5 ttok 0 rfl rfl rfl rfl rfl rfl rfl rfl ?_|refine n_storeF 5 ttok 1 rfl rfl rfl rfl rfl rfl rfl rfl ?_|refine n_storeF 5 ttok 2 rfl rfl rfl rfl rfl rfl rfl rfl ?_|refine n_storeF 6 ttok 0 rfl rfl rfl rfl rfl rfl rfl rfl ?_|refine n_storeF 6 ttok 1 rfl rfl rfl rfl rfl rfl rfl rfl ?_|refine n_storeF 6 ttok 2 rfl rfl rfl rfl rfl rfl rfl rfl ?_|refine n_store ttok 0 rfl rfl rfl rfl rfl rfl rfl ?_|refine n_store ttok 1 rfl rfl rfl rfl rfl rfl rfl ?_|refine n_store ttok 2 rfl rfl rfl rfl rfl rfl rfl ?_|refine n_store ttok 3 rfl rfl rfl rfl rfl rfl rfl ?_|fail)|refine n_alloc ttok fun _=>?_|fail))
  refine n_call (hc := ⟨made_glyphs hG rs fs h1⟩) ?_
  (repeat' (first|refine at_seq ?_|refine at_region ?_|refine ax_then ?_|refine atl_nil ?_|refine n_run ttok rfl rfl ?_|fail))
  refine n_call (hc := ⟨lookupsP_det f fs hG.small⟩) ?_
  have hK := kept_ok (f := f) rs fs
  have hA := ask_kept hG (rs := rs) (fs := fs)
  generalize keptN f rs fs = K at hK hA ⊢
  (repeat' (first|refine at_seq ?_|refine at_region ?_|refine at_block ?_|refine at_skip ?_|refine ax_then ?_|refine atl_nil ?_|refine n_run ttok rfl rfl ?_|refine n_lit (d := 33) ttok fun _=>?_|refine n_condF rfl ?_|fail))
  rename_i hb
  refine at_turn (turn_perm (L' := tok (some (hb, 1)) 3 1 1) (List.Perm.refl _)) ?_
  refine at_loopK [5, 6, 7, 9] (α := Nat × Option (Nat × Nat)) (fun x => [(11, I64 x.1), (10, .vec x.2 1 (ints (0 :: askG rs (f.Chars.take x.1))))]) (fun x => x.1 ≤ f.Chars.length) (fun x => tok x.2 3 1 (ints (0 :: askG rs (f.Chars.take x.1))).length) (fun x => f.Chars.length - x.1) (0, some (hb, 1)) rfl ⟨rfl, rfl, trivial⟩ (Nat.zero_le _) (fun _ _ h => h) ?_
  rintro ⟨i, q⟩ hi
  dsimp only at hi ⊢
  have hal : (ints (0 :: askG rs (f.Chars.take i))).length ≤ 17 := by
    have := askG_len rs (f.Chars.take i)
    rw [List.length_take] at this
    rw [ints_len, List.length_cons]
    omega
  try dsimp only [List.cons_append, List.nil_append, List.map_cons, List.map_nil]
  (repeat' (first|refine at_seq ?_|refine at_region ?_|refine ax_then ?_|refine atl_nil ?_|refine n_run ttok rfl rfl ?_|fail))
  refine at_cond rfl (fun h => ?_) (fun h => ?_)
  · have hil : i < f.Chars.length := by have := of_decide_eq_true h; omega
    obtain ⟨c, hc⟩ : ∃ c, f.Chars[i]? = some c := ⟨_, List.getElem?_eq_getElem hil⟩
    have hcg := map_get (c := cChar) hc
    have hst := askG_get rs hc
    (repeat' (first|refine at_seq ?_|refine at_block ?_|refine at_skip ?_|refine ax_then ?_|fail))
    refine at_draw 8 [(0, .v), (1, .v), (2, .v), (3, .v), (4, .v), (5, .v), (6, .v), (7, .v)] none ?_ trivial rfl (by kernel_rfl) (by kernel_rfl) (by kernel_rfl) mixed (by kernel_rfl) rfl
    (repeat' (first|refine da_open ?_|refine d_run ttok ?_|(apply ds_index;refine d_index ttok ?_)|fail))
    refine da_end [5, 6, 7, 9, 10, 11, 42, 48] rfl rfl ?_
    (repeat' (first|refine ax_then ?_|refine atl_nil ?_|(apply s_call;refine n_call ?_)|fail))
    refine at_cond rfl (fun hin => ?_) (fun hin => ?_)
    · rw [if_pos hin] at hst
      (repeat' (first|refine at_region ?_|refine n_run ttok rfl rfl ?_|(apply s_index; first|refine n_index ttok ?_|refine n_indexP ttok ?_)|refine n_litI ttok ?_|fail))
      refine n_append ttok [] rfl rfl rfl rfl (by rw [List.append_nil]) (by simp; omega) (by simp; omega) rfl fun q' => ?_
      rw [List.append_nil]
      (repeat' (first|refine at_region ?_|refine ax_then ?_|refine ax_blk ?_|refine atl_nil ?_|refine n_run ttok rfl rfl ?_|(apply s_bin; refine n_bin ?_)|fail))
      exact ax_roundK (i + 1, q') rfl ⟨by rw [Int.natCast_add]; rfl, by rw [hst]; dsimp only; rw [← List.cons_append, ints_snoc]; rfl, trivial⟩ (by dsimp only; omega) (by dsimp only; omega) (fun _ _ h => by dsimp only; rw [hst, ← List.cons_append, ints_snoc]; exact h)
    · have hin : ¬ rs.contains c.Rune = true := by rw [hin]; exact fun e => by cases e
      rw [if_neg hin, List.append_nil] at hst
      (repeat' (first|refine at_region ?_|refine at_skip ?_|refine ax_then ?_|refine ax_blk ?_|refine atl_nil ?_|refine n_run ttok rfl rfl ?_|(apply s_bin; refine n_bin ?_)|fail))
      exact ax_roundK (i + 1, q) rfl ⟨by rw [Int.natCast_add]; rfl, by rw [hst]; rfl, trivial⟩ (by dsimp only; omega) (by dsimp only; omega) (fun _ _ h => by dsimp only; rw [hst]; exact h)
  have hil : i = f.Chars.length := by have := of_decide_eq_false h; omega
  subst hil
  rw [List.take_length] at hal ⊢
  have hH0 : (0 :: askG rs f.Chars).length ≤ 17 := by rwa [ints_len] at hal
  have hH1 : 1 ≤ (0 :: askG rs f.Chars).length := by simp
  generalize hH : 0 :: askG rs f.Chars = H0 at hH0 hH1 hA hal ⊢
  (repeat' (first|refine at_seq ?_|refine at_region ?_|refine at_block ?_|refine at_exit ?_|refine ax_then ?_|refine ax_then_exit ?_|refine ax_blk_exit ?_|refine ax_loop_exit ?_|refine atl_nil ?_|refine n_run ttok rfl rfl ?_|fail))
  refine at_loopK [5, 7, 9] (α := NS) (fun x => [(12, I64 x.n), (10, .vec x.q 1 (ints x.H))]) (fun x => Grown f.Glyphs.length H0 x.H ∧ (∀ z ∈ H0, z ∈ x.H) ∧ (∀ z ∈ x.H, z ∈ K) ∧ x.n ≤ x.H.length ∧ (x.n = x.H.length → ∀ z ∈ progStep f (reachN f fs) x.H, z ∈ x.H)) (fun x => tok x.q 3 1 (ints x.H).length) (fun x => (H0.length + f.Glyphs.length + 1 - x.H.length) + (if x.n < x.H.length then 1 else 0)) ⟨q, H0, 0⟩ rfl ⟨rfl, rfl, trivial⟩ ⟨⟨[], by simp, by simp, by simp⟩, fun _ h => h, hA, Nat.zero_le _, fun h => by dsimp only at h; omega⟩ (fun _ _ h => h) ?_
  rintro ⟨q, H, n⟩ ⟨hx, h0, hk, hn, hcl⟩
  dsimp only at hx h0 hk hn hcl ⊢
  have hHl := hx.len
  have hil := ints_len H
  try dsimp only [List.cons_append, List.nil_append, List.map_cons, List.map_nil]
  (repeat' (first|refine at_seq ?_|refine at_region ?_|refine ax_then ?_|refine atl_nil ?_|refine n_run ttok rfl rfl ?_|fail))
  refine at_cond rfl (fun h => ?_) (fun h => ?_)
  · have hnl : n < H.length := by have := of_decide_eq_true h; omega
    (repeat' (first|refine at_seq ?_|refine at_region ?_|refine at_block ?_|refine at_skip ?_|refine ax_then ?_|refine atl_nil ?_|refine n_run ttok rfl rfl ?_|fail))
    refine n_call (hc := ⟨Step_ac f hG.small (reachN f fs) H⟩) ?_
    have hS : ∀ z ∈ sorted (progStep f (reachN f fs) H), 0 ≤ z ∧ z < f.Glyphs.length := step_dom
    have hSm : ∀ z, z ∈ sorted (progStep f (reachN f fs) H) ↔ z ∈ progStep f (reachN f fs) H := fun z => (sorted_perm _).mem_iff
    have hSN : (sorted (progStep f (reachN f fs) H)).length ≤ f.Glyphs.length := by rw [sorted_len]; exact (stepN_ok f _ _).len
    generalize sorted (progStep f (reachN f fs) H) = S at hS hSm hSN ⊢
    have hSl := ints_len S
    (repeat' (first|refine at_seq ?_|refine at_region ?_|refine at_block ?_|refine ax_then ?_|refine atl_nil ?_|refine n_run ttok rfl rfl ?_|fail))
    refine at_loopK [5, 7, 9, 12, 13] (α := Nat × Option (Nat × Nat)) (fun x => [(14, I64 x.1), (10, .vec x.2 1 (ints (growAll H (S.take x.1))))]) (fun x => x.1 ≤ S.length) (fun x => tok x.2 3 1 (ints (growAll H (S.take x.1))).length) (fun x => S.length - x.1) (0, q) rfl ⟨rfl, rfl, trivial⟩ (Nat.zero_le _) (fun _ _ h => h) ?_
    rintro ⟨j, q⟩ hj
    dsimp only at hj ⊢
    have hgx := hx.grow (S := S.take j) (fun z hz => hS z (List.mem_of_mem_take hz))
    have hgl := hgx.len
    have hgi := ints_len (growAll H (S.take j))
    try dsimp only [List.cons_append, List.nil_append, List.map_cons, List.map_nil]
    (repeat' (first|refine at_seq ?_|refine at_region ?_|refine ax_then ?_|refine atl_nil ?_|refine n_run ttok rfl rfl ?_|fail))
    refine at_cond rfl (fun h => ?_) (fun h => ?_)
    · have hjl : j < S.length := by have := of_decide_eq_true h; omega
      obtain ⟨z, hz⟩ : ∃ z, S[j]? = some z := ⟨_, List.getElem?_eq_getElem hjl⟩
      have hzg := ints_get hz
      have hst := growAll_take (H := H) hz
      generalize growAll H (S.take j) = G at hgi hgl hgx hst ⊢
      (repeat' (first|refine at_seq ?_|refine at_region ?_|refine at_block ?_|refine at_skip ?_|refine ax_then ?_|refine atl_nil ?_|refine n_run ttok rfl rfl ?_|(apply s_index; first|refine n_index ttok ?_|refine n_indexP ttok ?_)|(apply s_call;refine n_call ?_)|fail))
      refine at_cond rfl (fun hin => ?_) (fun hin => ?_)
      · have hin : ¬ z ∈ G := by
          intro hm
          rw [List.contains_iff_mem.2 hm] at hin
          cases hin
        have hst : growAll H (S.take (j + 1)) = G ++ [z] := by rw [hst]; exact if_neg hin
        (repeat' (first|refine at_region ?_|refine n_run ttok rfl rfl ?_|(apply s_index; first|refine n_index ttok ?_|refine n_indexP ttok ?_)|refine n_litI ttok ?_|fail))
        refine n_append ttok [] rfl rfl rfl rfl (by rw [List.append_nil]) (by simp; omega) (by simp; omega) rfl fun q' => ?_
        rw [List.append_nil]
        (repeat' (first|refine at_region ?_|refine ax_then ?_|refine ax_blk ?_|refine atl_nil ?_|refine n_run ttok rfl rfl ?_|(apply s_bin; refine n_bin ?_)|fail))
        exact ax_roundK (j + 1, q') rfl ⟨by rw [Int.natCast_add]; rfl, by rw [hst]; dsimp only; rw [ints_snoc]; rfl, trivial⟩ (by dsimp only; omega) (by dsimp only; omega) (fun _ _ h => by dsimp only; rw [hst, ints_snoc]; exact h)
      · have hin : z ∈ G := by
          rw [Bool.not_eq_false'] at hin
          exact List.contains_iff_mem.1 hin
        have hst : growAll H (S.take (j + 1)) = G := by rw [hst]; exact if_pos hin
        (repeat' (first|refine at_region ?_|refine at_skip ?_|refine ax_then ?_|refine ax_blk ?_|refine atl_nil ?_|refine n_run ttok rfl rfl ?_|(apply s_bin; refine n_bin ?_)|fail))
        exact ax_roundK (j + 1, q) rfl ⟨by rw [Int.natCast_add]; rfl, by rw [hst]; rfl, trivial⟩ (by dsimp only; omega) (by dsimp only; omega) (fun _ _ h => by dsimp only; rw [hst]; exact h)
    have hjl : j = S.length := by have := of_decide_eq_false h; omega
    subst hjl
    rw [List.take_length] at hgx hgl hgi ⊢
    have hle := growAll_len (H := H) (S := S)
    (repeat' (first|refine at_exit ?_|refine ax_then_exit ?_|refine ax_blk ?_|refine ax_blk_exit ?_|refine ax_loop_exit ?_|fail))
    refine ax_roundK ⟨q, growAll H S, H.length⟩ rfl ⟨by dsimp only; rw [← hil]; rfl, rfl, trivial⟩ ⟨hgx, fun z hz => growAll_mem.2 (.inl (h0 z hz)), fun z hz => ?_, hle, fun he z hz => ?_⟩ ?_ (fun _ _ h => h)
    · rcases growAll_mem.1 hz with hz | hz
      · exact hk z hz
      · exact hK.closed z (progStep_mono (fun _ h => h) hk z ((hSm z).1 hz))
    · dsimp only at he hz ⊢
      have hstay := growAll_stay he.symm
      have hsub : ∀ y ∈ growAll H S, y ∈ H := fun y hy => by
        rcases growAll_mem.1 hy with hy | hy
        · exact hy
        · exact hstay y hy
      exact growAll_mem.2 (.inr ((hSm z).2 (progStep_mono (fun _ h => h) hsub z hz)))
    · dsimp only
      rw [if_pos hnl]
      split <;> omega
  have hnl : n = H.length := by have := of_decide_eq_false h; omega
  have hKH : ∀ z ∈ K, z ∈ H := hK.least H (start_have fun z hz => h0 z (by rw [← hH]; exact hz)) (hcl hnl)
  have m1 : ((sorted K).all fun z => H.contains z) = true := within_any fun z hz => hKH z ((sorted_perm _).mem_iff.1 hz)
  have m2 : (H.all fun z => (sorted K).contains z) = true := within_any fun z hz => (sorted_perm _).mem_iff.2 (hk z hz)
  (repeat' (first|refine at_seq ?_|refine at_region ?_|refine at_exit ?_|refine ax_then ?_|refine ax_then_exit ?_|refine ax_blk_exit ?_|refine ax_loop_exit ?_|refine n_run ttok rfl rfl ?_|refine atl_guard_yes rfl rfl ?_|(apply s_call;refine n_call ?_)|fail))
  rw [m1]
  (repeat' (first|refine at_ret ?_|refine ax_then ?_|refine atl_nil ?_|refine n_run ttok rfl rfl ?_|refine atl_guard_yes rfl rfl ?_|(apply s_call;refine n_call ?_)|fail))
  rw [m2]
  (repeat' (first|fail))
  exact ax_ret1 rfl rfl rfl
end Go.Proofs.YtpbinloeemebkaaGreat
