/-
  The law: what is kept is the least set that nothing more can come of.
-/
import Derived.Test.YtpbinloeemebkaaGreatM26
namespace Go.Proofs.YtpbinloeemebkaaGreat
open Go.RowKit
attribute [local irreducible] AT ATL AX AO Av Kt ALoopK OkA DA DA1
def Shut (f : FFont) (ks W : List Int) : Prop := ∀ z ∈ progStep f ks W, z ∈ W
theorem progClosed_of {f : FFont} {ks W : List Int} (h : Shut f ks W) : progClosed f ks W = true := by
  unfold progClosed
  rw [List.all_eq_true]
  intro z hz
  have hd := (progStep_mem.1 hz).2
  exact inB_iff.2 ⟨hd, addN_mem.2 (.inr ⟨h z hz, hd⟩)⟩
theorem Shut.sorted {f : FFont} {ks W : List Int} (h : Shut f ks W) : Shut f ks (sorted W) := fun z hz => (sorted_perm _).mem_iff.2 (h z (progStep_mono (fun _ h => h) (fun y hy => (sorted_perm _).mem_iff.1 hy) z hz))
structure Wide (f : FFont) (ks A W : List Int) (i : Nat) : Prop where
  have_ : ∀ z ∈ A, z ∈ W
  len : W.length ≤ 1000
  set : i = 0 ∨ (SetOk f.Glyphs.length W ∧ (Shut f ks W ∨ i ≤ W.length))
theorem Wide.step {f : FFont} {ks A W : List Int} {i : Nat} (h : Wide f ks A W i) (hA : ∀ z ∈ A, 0 ≤ z ∧ z < f.Glyphs.length) (hA1 : A ≠ []) (hn : f.Glyphs.length ≤ 10) : Wide f ks A (sorted (progStep f ks W)) (i + 1) := by
  have hm : ∀ z, z ∈ sorted (progStep f ks W) ↔ z ∈ progStep f ks W := fun z => (sorted_perm _).mem_iff
  have hok : SetOk f.Glyphs.length (progStep f ks W) := stepN_ok f _ _
  have hsok : SetOk f.Glyphs.length (sorted (progStep f ks W)) := ⟨(sorted_perm _).nodup_iff.2 hok.nodup, fun z hz => hok.dom z ((hm z).1 hz)⟩
  have hall : ∀ z ∈ A, z ∈ progStep f ks W := fun z hz => progStep_self (h.have_ z hz) (hA z hz).1 (hA z hz).2
  refine ⟨fun z hz => (hm z).2 (hall z hz), by have := hsok.len; omega, .inr ⟨hsok, ?_⟩⟩
  rcases h.set with h0 | ⟨hW, hs | hl⟩
  · refine .inr ?_
    obtain ⟨a, ha⟩ := List.exists_mem_of_ne_nil A hA1
    have := List.length_pos_of_mem ((hm a).2 (hall a ha))
    omega
  · refine .inl fun z hz => (hm z).2 ?_
    exact progStep_mono (fun _ h => h) (fun y hy => hs y ((hm y).1 hy)) z hz
  · by_cases hs : Shut f ks W
    · exact .inl fun z hz => (hm z).2 (progStep_mono (fun _ h => h) (fun y hy => hs y ((hm y).1 hy)) z hz)
    · refine .inr ?_
      obtain ⟨z, hz⟩ := Classical.not_forall.1 hs
      obtain ⟨hz1, hz2⟩ := Classical.not_imp.1 hz
      have := nd_len (S := z :: W) (T := progStep f ks W) (List.nodup_cons.2 ⟨hz2, hW.nodup⟩) fun y hy => by
        rcases List.mem_cons.1 hy with rfl | hy
        · exact hz1
        · exact progStep_self hy (hW.dom y hy).1 (hW.dom y hy).2
      rw [List.length_cons] at this
      rw [sorted_len]
      omega
theorem Wide.shut {f : FFont} {ks A W : List Int} (h : Wide f ks A W f.Glyphs.length) (hn : 1 ≤ f.Glyphs.length) : Shut f ks W := by
  rcases h.set with h0 | ⟨hW, hs | hl⟩
  · omega
  · exact hs
  · intro z hz
    have hd := (progStep_mem.1 hz).2
    refine Classical.byContradiction fun hno => ?_
    have := nodup_le (List.nodup_cons.2 ⟨hno, hW.nodup⟩) (n := f.Glyphs.length) fun y hy => by
      rcases List.mem_cons.1 hy with rfl | hy
      · exact hd
      · exact hW.dom y hy
    rw [List.length_cons] at this
    omega
theorem rising_get {l : List Int} (hn : l.Nodup) {i : Nat} (hi : 1 ≤ i) {a b : Int} (ha : (sorted l)[i]? = some a) (hb : (sorted l)[i - 1]? = some b) : b < a := by
  obtain ⟨i1, i2⟩ := List.getElem?_eq_some_iff.1 ha
  obtain ⟨j1, j2⟩ := List.getElem?_eq_some_iff.1 hb
  have hle := List.pairwise_iff_getElem.1 (sorted_le l) (i - 1) i j1 i1 (by omega)
  have hne := List.pairwise_iff_getElem.1 (List.nodup_iff_pairwise_ne.1 ((sorted_perm l).nodup_iff.2 hn)) (i - 1) i j1 i1 (by omega)
  rw [i2, j2] at hle hne
  omega
set_option maxHeartbeats 16000000 in
theorem least_law (ns bs ms : List Int) : ADet Tryz.prog 6 [.imm 1 (ints ns), .imm 1 (ints bs), .imm 1 (ints ms)] (Bol true) := by
  refine ac_of Tryz.func6 rfl Tryz.ntmps6 rfl fun B => ?_
  haveI c1 : AD Tryz.prog 11 [] (Bol true) := ⟨closed_ac⟩
  have hml := ints_len ms
  (repeat' (first|refine at_seq ?_|refine at_region ?_|refine ax_then ?_|refine atl_nil ?_|refine n_run ttok rfl rfl ?_|fail))
  refine n_call (hc := ⟨lawMade_det ns bs⟩) ?_
  have hG := lawMade_ok ns
  generalize lawMade ns = f at hG ⊢
  have h1 := reqRs_ok bs
  have l1 := reqRs_len bs
  have l3 := fs_len f hG bs
  generalize reqRs bs = rs at h1 l1 ⊢
  generalize reqFs f bs = fs at l3 ⊢
  have hch := hG.chars
  have hgn := hG.glyN
  have hcm : (f.Chars.map cChar).length = f.Chars.length := List.length_map ..
  have hgm : (f.Glyphs.map cGlyph).length = f.Glyphs.length := List.length_map ..
  (repeat' (first|refine at_seq ?_|refine at_region ?_|refine ax_then ?_|refine atl_nil ?_|refine n_run ttok rfl rfl ?_|(apply s_store; first|refine n_storeF 7 ttok 0 rfl rfl rfl rfl rfl rfl rfl rfl ?_|refine n_storeF 7 ttok 1 rfl rfl rfl rfl rfl rfl rfl rfl ?_|refine n_storeF 7 ttok 2 rfl rfl rfl rfl rfl rfl rfl rfl ?_|refine n_storeF 8 ttok 0 rfl rfl rfl rfl rfl rfl rfl rfl ?_|refine n_storeF 8 ttok 1 rfl rfl rfl rfl rfl rfl rfl rfl ?_|refine n_storeF 8 ttok 2 rfl rfl rfl rfl rfl rfl rfl rfl ?_|refine n_store ttok 0 rfl rfl rfl rfl rfl rfl rfl ?_|refine n_store ttok 1 rfl rfl rfl rfl rfl rfl rfl ?_|refine n_store ttok 2 rfl rfl rfl rfl rfl rfl rfl ?_|refine n_store ttok 3 rfl rfl rfl rfl rfl rfl rfl ?_|fail)|refine n_alloc ttok fun _=>?_|fail))
  refine n_call (hc := ⟨made_glyphs hG rs fs h1⟩) ?_
  (repeat' (first|refine at_seq ?_|refine at_region ?_|refine ax_then ?_|refine atl_nil ?_|refine n_run ttok rfl rfl ?_|fail))
  refine n_call (hc := ⟨lookupsP_det f fs hG.small⟩) ?_
  have hK := kept_ok (f := f) rs fs
  have hA := ask_kept hG (rs := rs) (fs := fs)
  have hA2 : ∀ z ∈ 0 :: askG rs f.Chars, 0 ≤ z ∧ z < f.Glyphs.length := fun z hz => hK.ok.dom z (hA z hz)
  generalize keptN f rs fs = K at hK hA ⊢
  generalize hks : reachN f fs = ks at hK ⊢
  have hsK : Shut f ks (sorted K) := Shut.sorted fun z hz => hK.closed z (by rw [hks]; exact hz)
  haveI c2 : AD Tryz.prog 19 [aFont f, .imm 1 (ints ks), .imm 1 (ints (sorted K))] (Bol (progClosed f ks (sorted K))) := ⟨Closed_ac f hG.small ks (sorted K)⟩
  have hin : ∀ z ∈ K, (sorted K).contains z = true := fun z hz => List.contains_iff_mem.2 ((sorted_perm _).mem_iff.2 hz)
  have hin0 : (sorted K).contains 0 = true := hin 0 (hA 0 (List.mem_cons_self ..))
  (repeat' (first|refine at_seq ?_|refine at_region ?_|refine ax_then ?_|refine atl_nil ?_|refine n_run ttok rfl rfl ?_|refine atl_guard_yes rfl rfl ?_|(apply s_call;refine n_call ?_)|fail))
  rw [progClosed_of hsK]
  (repeat' (first|refine ax_then ?_|refine atl_nil ?_|refine n_run ttok rfl rfl ?_|refine atl_guard_yes rfl rfl ?_|(apply s_call;refine n_call ?_)|fail))
  rw [hin0]
  (repeat' (first|refine at_seq ?_|refine at_region ?_|refine at_skip ?_|refine ax_then ?_|refine atl_nil ?_|refine n_run ttok rfl rfl ?_|refine n_lit (n := 0) ttok fun _=>?_|refine n_condF rfl ?_|fail))
  rename_i wb
  refine n_cutH ttok (min ms.length 20) rfl rfl rfl rfl rfl (by omega) (by omega) rfl ?_
  rw [ints_take]
  have hmm : (ms.take (min ms.length 20)).length ≤ 20 := by rw [List.length_take]; omega
  generalize ms.take (min ms.length 20) = mm at hmm ⊢
  have hmi := ints_len mm
  refine n_append ttok _ rfl rfl rfl rfl (List.Perm.refl _) (by simp [ints_len]; omega) (by simp [ints_len]; omega) rfl fun q1 => ?_
  refine atl_turn (turn_sub (List.sublist_append_left _ _)) ?_
  (repeat' (first|refine at_seq ?_|refine at_region ?_|refine ax_then ?_|refine atl_nil ?_|refine n_run ttok rfl rfl ?_|refine n_litI ttok ?_|fail))
  refine n_append ttok [] rfl rfl rfl rfl (by rw [List.append_nil]) (by simp [ints_len]; omega) (by simp [ints_len]; omega) rfl fun q2 => ?_
  rw [List.append_nil, List.nil_append, show ints mm ++ [[AV.sc (.int .i64 0)]] = ints (mm ++ [0]) from (ints_snoc mm 0).symm]
  have hW0 : (mm ++ [0]).length ≤ 21 := by simp; omega
  have hW1 : (0 : Int) ∈ mm ++ [0] := by simp
  generalize mm ++ [0] = W0 at hW0 hW1 ⊢
  (repeat' (first|refine at_seq ?_|refine at_region ?_|refine at_block ?_|refine ax_then ?_|refine atl_nil ?_|refine n_run ttok rfl rfl ?_|fail))
  have ht0 : W0 ++ askG rs (f.Chars.take 0) = W0 := List.append_nil _
  refine at_loopK [7, 8, 9, 11] (α := Nat × Option (Nat × Nat)) (fun x => [(13, I64 x.1), (12, .vec x.2 1 (ints (W0 ++ askG rs (f.Chars.take x.1))))]) (fun x => x.1 ≤ f.Chars.length) (fun x => tok x.2 3 1 (ints (W0 ++ askG rs (f.Chars.take x.1))).length) (fun x => f.Chars.length - x.1) (0, q2) rfl ⟨rfl, by rw [ht0]; rfl, trivial⟩ (Nat.zero_le _) (fun _ _ h => by dsimp only; rw [ht0]; exact h) ?_
  rintro ⟨i, q⟩ hi
  dsimp only at hi ⊢
  have hal : (ints (W0 ++ askG rs (f.Chars.take i))).length ≤ 40 := by
    have := askG_len rs (f.Chars.take i)
    rw [List.length_take] at this
    rw [ints_len, List.length_append]
    omega
  try dsimp only [List.cons_append, List.nil_append, List.map_cons, List.map_nil]
  (repeat' (first|refine at_seq ?_|refine at_region ?_|refine ax_then ?_|refine atl_nil ?_|refine n_run ttok rfl rfl ?_|fail))
  refine at_cond rfl (fun h => ?_) (fun h => ?_)
  · have hil : i < f.Chars.length := by have := of_decide_eq_true h; omega
    obtain ⟨c, hc⟩ : ∃ c, f.Chars[i]? = some c := ⟨_, List.getElem?_eq_getElem hil⟩
    have hcg := map_get (c := cChar) hc
    have hst := askG_get rs hc
    (repeat' (first|refine at_seq ?_|refine at_block ?_|refine at_skip ?_|refine ax_then ?_|fail))
    refine at_draw 8 [(0, .v), (1, .v), (2, .v), (3, .v), (4, .v), (5, .v), (6, .v), (7, .v)] none ?_ trivial rfl (by kernel_rfl) (by kernel_rfl) (by kernel_rfl) mixed (by kernel_rfl) rfl
    (repeat' (first|refine da_open ?_|refine d_run ttok ?_|(apply ds_index;refine d_index ttok ?_)|fail))
    refine da_end [7, 8, 9, 11, 12, 13, 65, 71] rfl rfl ?_
    (repeat' (first|refine ax_then ?_|refine atl_nil ?_|(apply s_call;refine n_call ?_)|fail))
    refine at_cond rfl (fun hin1 => ?_) (fun hin1 => ?_)
    · rw [if_pos hin1] at hst
      have hcK : (sorted K).contains c.Glyph = true := hin _ (hA _ (List.mem_cons_of_mem _ (List.mem_map.2 ⟨c, List.mem_filter.2 ⟨List.mem_of_getElem? hc, by simpa using hin1⟩, rfl⟩)))
      (repeat' (first|refine at_seq ?_|refine at_region ?_|refine n_run ttok rfl rfl ?_|(apply s_index; first|refine n_index ttok ?_|refine n_indexP ttok ?_)|refine n_litI ttok ?_|fail))
      refine n_append ttok [] rfl rfl rfl rfl (by rw [List.append_nil]) (by simp; omega) (by simp; omega) rfl fun q' => ?_
      rw [List.append_nil]
      (repeat' (first|refine at_seq ?_|refine at_region ?_|refine ax_then ?_|refine atl_nil ?_|refine n_run ttok rfl rfl ?_|(apply s_index; first|refine n_index ttok ?_|refine n_indexP ttok ?_)|(apply s_call;refine n_call ?_)|fail))
      rw [hcK]
      (repeat' (first|refine at_region ?_|refine at_skip ?_|refine ax_then ?_|refine ax_blk ?_|refine atl_nil ?_|refine n_run ttok rfl rfl ?_|(apply s_bin; refine n_bin ?_)|refine n_condF rfl ?_|fail))
      exact ax_roundK (i + 1, q') rfl ⟨by rw [Int.natCast_add]; rfl, by rw [hst]; dsimp only; rw [← List.append_assoc, ints_snoc]; rfl, trivial⟩ (by dsimp only; omega) (by dsimp only; omega) (fun _ _ h => by dsimp only; rw [hst, ← List.append_assoc, ints_snoc]; exact h)
    · have hin1 : ¬ rs.contains c.Rune = true := by rw [hin1]; exact fun e => by cases e
      rw [if_neg hin1, List.append_nil] at hst
      (repeat' (first|refine at_region ?_|refine at_skip ?_|refine ax_then ?_|refine ax_blk ?_|refine atl_nil ?_|refine n_run ttok rfl rfl ?_|(apply s_bin; refine n_bin ?_)|fail))
      exact ax_roundK (i + 1, q) rfl ⟨by rw [Int.natCast_add]; rfl, by rw [hst]; rfl, trivial⟩ (by dsimp only; omega) (by dsimp only; omega) (fun _ _ h => by dsimp only; rw [hst]; exact h)
  have hil : i = f.Chars.length := by have := of_decide_eq_false h; omega
  subst hil
  rw [List.take_length] at hal ⊢
  have hW : Wide f ks (0 :: askG rs f.Chars) (W0 ++ askG rs f.Chars) 0 := ⟨fun z hz => by
    rcases List.mem_cons.1 hz with rfl | hz
    · exact List.mem_append_left _ hW1
    · exact List.mem_append_right _ hz, by rw [ints_len] at hal; omega, .inl rfl⟩
  generalize W0 ++ askG rs f.Chars = W1 at hW hal ⊢
  (repeat' (first|refine at_seq ?_|refine at_region ?_|refine at_block ?_|refine at_exit ?_|refine ax_then ?_|refine ax_then_exit ?_|refine ax_blk_exit ?_|refine ax_loop_exit ?_|refine atl_nil ?_|refine n_run ttok rfl rfl ?_|fail))
  refine at_turn (turn_val (t := 12) (c' := .imm 1 (ints W1)) rfl fun σ v h => VR.im h) ?_
  refine at_turn (turn_sub (L' := []) (List.nil_sublist _)) ?_
  refine at_loopK [7, 9, 11] (α := Nat × List Int) (fun x => [(14, I64 x.1), (12, .imm 1 (ints x.2))]) (fun x => x.1 ≤ f.Glyphs.length ∧ Wide f ks (0 :: askG rs f.Chars) x.2 x.1) (fun _ => []) (fun x => f.Glyphs.length - x.1) (0, W1) rfl ⟨rfl, rfl, trivial⟩ ⟨Nat.zero_le _, hW⟩ (fun _ _ h => h) ?_
  rintro ⟨i, W⟩ ⟨hi, hw⟩
  dsimp only at hi hw ⊢
  try dsimp only [List.cons_append, List.nil_append, List.map_cons, List.map_nil]
  (repeat' (first|refine at_seq ?_|refine at_region ?_|refine ax_then ?_|refine atl_nil ?_|refine n_run ttok rfl rfl ?_|fail))
  refine at_cond rfl (fun h => ?_) (fun h => ?_)
  · have hil : i < f.Glyphs.length := by have := of_decide_eq_true h; omega
    (repeat' (first|refine at_seq ?_|refine at_region ?_|refine at_block ?_|refine at_skip ?_|refine ax_then ?_|refine n_run ttok rfl rfl ?_|fail))
    refine n_call (hc := ⟨Step_ac f hG.small ks W⟩) ?_
    (repeat' (first|refine at_region ?_|refine ax_then ?_|refine ax_blk ?_|refine atl_nil ?_|refine n_run ttok rfl rfl ?_|(apply s_bin; refine n_bin ?_)|fail))
    exact ax_roundK (i + 1, sorted (progStep f ks W)) rfl ⟨by rw [Int.natCast_add]; rfl, rfl, trivial⟩ ⟨by dsimp only; omega, hw.step hA2 (by simp) hgn.2⟩ (by dsimp only; omega) (fun _ _ h => h)
  have hil : i = f.Glyphs.length := by have := of_decide_eq_false h; omega
  subst hil
  have hsW := hw.shut (by omega)
  have hKW : ∀ z ∈ K, z ∈ W := hK.least W (start_have hw.have_) (by rw [hks]; exact hsW)
  have hsl : (ints (sorted K)).length ≤ 10 := by rw [ints_len, sorted_len]; have := hK.ok.len; omega
  (repeat' (first|refine at_seq ?_|refine at_region ?_|refine at_block ?_|refine at_exit ?_|refine ax_then ?_|refine ax_then_exit ?_|refine ax_blk_exit ?_|refine ax_loop_exit ?_|refine atl_nil ?_|refine n_run ttok rfl rfl ?_|fail))
  refine at_loopK [7, 9, 11, 12] (α := Nat) (fun x => [(15, I64 x)]) (fun x => 1 ≤ x) (fun _ => []) (fun x => (sorted K).length - x) 1 rfl ⟨rfl, trivial⟩ (Nat.le_refl _) (fun _ _ h => h) ?_
  intro j hj
  try dsimp only [List.cons_append, List.nil_append, List.map_cons, List.map_nil]
  (repeat' (first|refine at_seq ?_|refine at_region ?_|refine ax_then ?_|refine atl_nil ?_|refine n_run ttok rfl rfl ?_|fail))
  refine at_cond rfl (fun h => ?_) (fun h => ?_)
  · have hjl : j < (sorted K).length := by have := of_decide_eq_true h; rw [ints_len] at this; omega
    have hj10 : j < 10 := by have := hsl; rw [ints_len] at this; omega
    obtain ⟨a, ha⟩ : ∃ z, (sorted K)[j]? = some z := ⟨_, List.getElem?_eq_getElem hjl⟩
    obtain ⟨c, hc⟩ : ∃ z, (sorted K)[j - 1]? = some z := ⟨_, List.getElem?_eq_getElem (by omega)⟩
    have hag := ints_get ha
    have hcg : (ints (sorted K))[((j : Int) - 1).toNat]? = some [I64 c] := by rw [show ((j : Int) - 1).toNat = j - 1 by omega]; exact ints_get hc
    have hlt := rising_get hK.ok.nodup hj ha hc
    have had := hK.ok.dom a ((sorted_perm _).mem_iff.1 (List.mem_of_getElem? ha))
    (repeat' (first|refine at_seq ?_|refine at_block ?_|refine at_skip ?_|refine ax_then ?_|fail))
    refine at_draw 18 [(0, .v), (1, .v), (2, .v), (3, .v), (4, .v), (5, .v), (6, .v), (7, .v), (8, .v), (9, .v), (10, .v), (11, .v), (12, .v), (13, .v), (14, .v), (15, .v), (16, .v), (17, .v)] none ?_ trivial rfl (by kernel_rfl) (by kernel_rfl) (by kernel_rfl) mixed (by kernel_rfl) rfl
    (repeat' (first|refine da_open ?_|refine d_run ttok ?_|(apply ds_bin;refine d_bin ?_)|(apply ds_index;refine d_index ttok ?_)|fail))
    rw [decide_eq_false (show ¬ a ≤ c by omega)]
    (repeat' (first|refine da_open ?_|refine d_run ttok ?_|(apply ds_index;refine d_index ttok ?_)|fail))
    refine da_end [7, 9, 11, 12, 15, 118, 122, 125] rfl rfl ?_
    (repeat' (first|refine ax_then ?_|refine atl_nil ?_|refine n_run ttok rfl rfl ?_|refine atl_guard_yes rfl rfl ?_|fail))
    refine at_cond rfl (fun h => ?_) (fun h => ?_)
    · exact absurd (of_decide_eq_true h) (by rw [hgm]; omega)
    (repeat' (first|refine at_region ?_|refine at_skip ?_|refine ax_then ?_|refine ax_blk ?_|refine atl_nil ?_|refine n_run ttok rfl rfl ?_|(apply s_bin; refine n_bin ?_)|fail))
    exact ax_roundK (j + 1) rfl ⟨by rw [Int.natCast_add]; rfl, trivial⟩ (by omega) (by omega) (fun _ _ h => h)
  haveI c3 : AD Tryz.prog 19 [aFont f, .imm 1 (ints ks), .imm 1 (ints W)] (Bol (progClosed f ks W)) := ⟨Closed_ac f hG.small ks W⟩
  have m1 : ((sorted K).all fun z => W.contains z) = true := within_any fun z hz => hKW z ((sorted_perm _).mem_iff.1 hz)
  (repeat' (first|refine at_seq ?_|refine at_region ?_|refine at_exit ?_|refine ax_then ?_|refine ax_then_exit ?_|refine ax_blk_exit ?_|refine ax_loop_exit ?_|refine n_run ttok rfl rfl ?_|refine atl_guard_yes rfl rfl ?_|(apply s_call;refine n_call ?_)|fail))
  rw [progClosed_of hsW]
  (repeat' (first|refine at_ret ?_|refine ax_then ?_|refine atl_nil ?_|refine n_run ttok rfl rfl ?_|refine atl_guard_yes rfl rfl ?_|(apply s_call;refine n_call ?_)|fail))
  rw [m1]
  (repeat' (first|fail))
  exact ax_ret1 rfl rfl rfl
end Go.Proofs.YtpbinloeemebkaaGreat
