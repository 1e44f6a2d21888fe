/-
  The law: what is kept comes, step after step, of what a request begins with.
-/
import Derived.Test.YtpbinloeemebkaaGreatM26
namespace Go.Proofs.YtpbinloeemebkaaGreat
open Go.RowKit
attribute [local irreducible] AT ATL AX AO Av Kt ALoopK OkA DA DA1
theorem start_have {f : FFont} {rs : List Int} {H : List Int} (h : ∀ z ∈ 0 :: askG rs f.Chars, z ∈ H) : ∀ z ∈ startG f rs, z ∈ H := by
  intro z hz
  unfold startG at hz
  rcases addN_mem.1 hz with k | k
  · cases k
  · exact h z k.1
theorem ask_kept {f : FFont} (hG : MadeG f) {rs : List Int} {fs : List ByteArray} : ∀ z ∈ 0 :: askG rs f.Chars, z ∈ keptN f rs fs := by
  intro z hz
  refine (kept_ok (f := f) rs fs).start z ?_
  unfold startG
  refine addN_mem.2 (.inr ⟨hz, ?_⟩)
  have hn := hG.glyN
  rcases List.mem_cons.1 hz with rfl | hz
  · omega
  · unfold askG at hz
    obtain ⟨c, hc, rfl⟩ := List.mem_map.1 hz
    exact hG.charG c (List.mem_filter.1 hc).1
def grow1 (H : List Int) (z : Int) : List Int := if z ∈ H then H else H ++ [z]
def growAll (H S : List Int) : List Int := S.foldl grow1 H
theorem growAll_take {H S : List Int} {i : Nat} {z : Int} (h : S[i]? = some z) : growAll H (S.take (i + 1)) = grow1 (growAll H (S.take i)) z := by
  unfold growAll
  rw [List.take_add_one, h, List.foldl_append]
  rfl
theorem growAll_mem {S : List Int} : ∀ {H : List Int} {z : Int}, z ∈ growAll H S ↔ z ∈ H ∨ z ∈ S := by
  induction S with
  | nil => intro H z; simp [growAll]
  | cons x S ih =>
    intro H z
    show z ∈ growAll (grow1 H x) S ↔ _
    rw [ih]
    unfold grow1
    split
    · rename_i hx
      rw [List.mem_cons]
      constructor
      · rintro (h | h)
        · exact .inl h
        · exact .inr (.inr h)
      · rintro (h | rfl | h)
        · exact .inl h
        · exact .inl hx
        · exact .inr h
    · rw [List.mem_append, List.mem_singleton, List.mem_cons]
      constructor
      · rintro ((h | h) | h)
        · exact .inl h
        · exact .inr (.inl h)
        · exact .inr (.inr h)
      · rintro (h | h | h)
        · exact .inl (.inl h)
        · exact .inl (.inr h)
        · exact .inr h
def Grown (n : Nat) (H0 H : List Int) : Prop := ∃ E, H = H0 ++ E ∧ E.Nodup ∧ ∀ z ∈ E, 0 ≤ z ∧ z < n
theorem Grown.grow {n : Nat} {H0 S : List Int} (hS : ∀ z ∈ S, 0 ≤ z ∧ z < n) : ∀ {H : List Int}, Grown n H0 H → Grown n H0 (growAll H S) := by
  induction S with
  | nil => intro H h; exact h
  | cons x S ih =>
    intro H h
    refine ih (fun z hz => hS z (List.mem_cons_of_mem _ hz)) ?_
    unfold grow1
    split
    · exact h
    · rename_i hx
      obtain ⟨E, rfl, hn, hd⟩ := h
      refine ⟨E ++ [x], by simp, ?_, fun z hz => ?_⟩
      · rw [List.nodup_append]
        refine ⟨hn, by simp, fun a ha b hb => ?_⟩
        rw [List.mem_singleton.1 hb]
        exact fun e => hx (List.mem_append_right _ (e ▸ ha))
      · rcases List.mem_append.1 hz with hz | hz
        · exact hd z hz
        · rw [List.mem_singleton.1 hz]; exact hS x (List.mem_cons_self ..)
theorem Grown.len {n : Nat} {H0 H : List Int} (h : Grown n H0 H) : H.length ≤ H0.length + n := by
  obtain ⟨E, rfl, hn, hd⟩ := h
  have := nodup_le hn hd
  simp
  omega
theorem growAll_len {S : List Int} : ∀ {H : List Int}, H.length ≤ (growAll H S).length := by
  induction S with
  | nil => intro H; exact Nat.le_refl _
  | cons x S ih =>
    intro H
    refine Nat.le_trans ?_ (ih (H := grow1 H x))
    unfold grow1
    split
    · exact Nat.le_refl _
    · simp
theorem growAll_stay {S : List Int} : ∀ {H : List Int}, (growAll H S).length = H.length → ∀ z ∈ S, z ∈ H := by
  induction S with
  | nil => intro H _ z hz; cases hz
  | cons x S ih =>
    intro H h
    have h1 := growAll_len (H := grow1 H x) (S := S)
    have h2 : (growAll (grow1 H x) S).length = H.length := h
    by_cases hx : x ∈ H
    · have hg : grow1 H x = H := if_pos hx
      rw [hg] at h2
      intro z hz
      rcases List.mem_cons.1 hz with rfl | hz
      · exact hx
      · exact ih h2 z hz
    · have hg : grow1 H x = H ++ [x] := if_neg hx
      rw [hg, List.length_append] at h1
      simp only [List.length_cons, List.length_nil] at h1
      rw [hg] at h2
      omega
theorem step_dom {f : FFont} {ks gs : List Int} : ∀ z ∈ sorted (progStep f ks gs), 0 ≤ z ∧ z < f.Glyphs.length := fun z hz => (progStep_mem.1 ((sorted_perm _).mem_iff.1 hz)).2
theorem askG_get (rs : List Int) {cs : List FChar} {i : Nat} {c : FChar} (h : cs[i]? = some c) : askG rs (cs.take (i + 1)) = askG rs (cs.take i) ++ if rs.contains c.Rune = true then [c.Glyph] else [] := by
  rw [askG_take rs h]
  congr 1
  simp
theorem askG_len (rs : List Int) (cs : List FChar) : (askG rs cs).length ≤ cs.length := by
  unfold askG
  rw [List.length_map]
  exact List.length_filter_le ..
theorem ints_snoc (a : List Int) (z : Int) : ints (a ++ [z]) = ints a ++ [[I64 z]] := List.map_append ..
structure NS where
  q : Option (Nat × Nat)
  H : List Int
  n : Nat
set_option maxHeartbeats 8000000 in
theorem needs_law (ns bs : List Int) : ADet Tryz.prog 7 [.imm 1 (ints ns), .imm 1 (ints bs)] (Bol true) := by
  refine ac_of Tryz.func7 rfl Tryz.ntmps7 rfl fun B => ?_
  haveI c1 : AD Tryz.prog 11 [] (Bol true) := ⟨closed_ac⟩
  (repeat' (first|refine at_seq ?_|refine at_region ?_|refine ax_then ?_|refine atl_nil ?_|refine n_run ttok rfl rfl ?_|fail))
  refine n_call (hc := ⟨lawMade_det ns bs⟩) ?_
  have hG := lawMade_ok ns
  generalize lawMade ns = f at hG ⊢
  have h1 := reqRs_ok bs
  have l1 := reqRs_len bs
  have l3 := fs_len f hG bs
  generalize reqRs bs = rs at h1 l1 ⊢
  generalize reqFs f bs = fs at l3 ⊢
  have hch := hG.chars
  have hgn := hG.glyN
  have hcm : (f.Chars.map cChar).length = f.Chars.length := List.length_map ..
  (repeat' (first|refine at_seq ?_|refine at_region ?_|refine ax_then ?_|refine atl_nil ?_|refine n_run ttok rfl rfl ?_|(apply s_store; first|refine n_storeF 5 ttok 0 rfl rfl rfl rfl rfl rfl rfl rfl ?_|refine n_storeF 5 ttok 1 rfl rfl rfl rfl rfl rfl rfl rfl ?_|refine n_storeF 5 ttok 2 rfl rfl rfl rfl rfl rfl rfl rfl ?_|refine n_storeF 6 ttok 0 rfl rfl rfl rfl rfl rfl rfl rfl ?_|refine n_storeF 6 ttok 1 rfl rfl rfl rfl rfl rfl rfl rfl ?_|refine n_storeF 6 ttok 2 rfl rfl rfl rfl rfl rfl rfl rfl ?_|refine n_store ttok 0 rfl rfl rfl rfl rfl rfl rfl ?_|refine n_store ttok 1 rfl rfl rfl rfl rfl rfl rfl ?_|refine n_store ttok 2 rfl rfl rfl rfl rfl rfl rfl ?_|refine n_store ttok 3 rfl rfl rfl rfl rfl rfl rfl ?_|fail)|refine n_alloc ttok fun _=>?_|fail))
  refine n_call (hc := ⟨made_glyphs hG rs fs h1⟩) ?_
  (repeat' (first|refine at_seq ?_|refine at_region ?_|refine ax_then ?_|refine atl_nil ?_|refine n_run ttok rfl rfl ?_|fail))
  refine n_call (hc := ⟨lookupsP_det f fs hG.small⟩) ?_
  have hK := kept_ok (f := f) rs fs
  have hA := ask_kept hG (rs := rs) (fs := fs)
  generalize keptN f rs fs = K at hK hA ⊢
  (repeat' (first|refine at_seq ?_|refine at_region ?_|refine at_block ?_|refine at_skip ?_|refine ax_then ?_|refine atl_nil ?_|refine n_run ttok rfl rfl ?_|refine n_lit (d := 33) ttok fun _=>?_|refine n_condF rfl ?_|fail))
  rename_i hb
  refine at_turn (turn_perm (L' := tok (some (hb, 1)) 3 1 1) (List.Perm.refl _)) ?_
  refine at_loopK [5, 6, 7, 9] (α := Nat × Option (Nat × Nat)) (fun x => [(11, I64 x.1), (10, .vec x.2 1 (ints (0 :: askG rs (f.Chars.take x.1))))]) (fun x => x.1 ≤ f.Chars.length) (fun x => tok x.2 3 1 (ints (0 :: askG rs (f.Chars.take x.1))).length) (fun x => f.Chars.length - x.1) (0, some (hb, 1)) rfl ⟨rfl, rfl, trivial⟩ (Nat.zero_le _) (fun _ _ h => h) ?_
  rintro ⟨i, q⟩ hi
  dsimp only at hi ⊢
  have hal : (ints (0 :: askG rs (f.Chars.take i))).length ≤ 17 := by
    have := askG_len rs (f.Chars.take i)
    rw [List.length_take] at this
    rw [ints_len, List.length_cons]
    omega
  try dsimp only [List.cons_append, List.nil_append, List.map_cons, List.map_nil]
  (repeat' (first|refine at_seq ?_|refine at_region ?_|refine ax_then ?_|refine atl_nil ?_|refine n_run ttok rfl rfl ?_|fail))
  refine at_cond rfl (fun h => ?_) (fun h => ?_)
  · have hil : i < f.Chars.length := by have := of_decide_eq_true h; omega
    obtain ⟨c, hc⟩ : ∃ c, f.Chars[i]? = some c := ⟨_, List.getElem?_eq_getElem hil⟩
    have hcg := map_get (c := cChar) hc
    have hst := askG_get rs hc
    (repeat' (first|refine at_seq ?_|refine at_block ?_|refine at_skip ?_|refine ax_then ?_|fail))
    refine at_draw 8 [(0, .v), (1, .v), (2, .v), (3, .v), (4, .v), (5, .v), (6, .v), (7, .v)] none ?_ trivial rfl (by kernel_rfl) (by kernel_rfl) (by kernel_rfl) mixed (by kernel_rfl) rfl
    (repeat' (first|refine da_open ?_|refine d_run ttok ?_|(apply ds_index;refine d_index ttok ?_)|fail))
    refine da_end [5, 6, 7, 9, 10, 11, 42, 48] rfl rfl ?_
    (repeat' (first|refine ax_then ?_|refine atl_nil ?_|(apply s_call;refine n_call ?_)|fail))
    refine at_cond rfl (fun hin => ?_) (fun hin => ?_)
    · rw [if_pos hin] at hst
      (repeat' (first|refine at_region ?_|refine n_run ttok rfl rfl ?_|(apply s_index; first|refine n_index ttok ?_|refine n_indexP ttok ?_)|refine n_litI ttok ?_|fail))
      refine n_append ttok [] rfl rfl rfl rfl (by rw [List.append_nil]) (by simp; omega) (by simp; omega) rfl fun q' => ?_
      rw [List.append_nil]
      (repeat' (first|refine at_region ?_|refine ax_then ?_|refine ax_blk ?_|refine atl_nil ?_|refine n_run ttok rfl rfl ?_|(apply s_bin; refine n_bin ?_)|fail))
      exact ax_roundK (i + 1, q') rfl ⟨by rw [Int.natCast_add]; rfl, by rw [hst]; dsimp only; rw [← List.cons_append, ints_snoc]; rfl, trivial⟩ (by dsimp only; omega) (by dsimp only; omega) (fun _ _ h => by dsimp only; rw [hst, ← List.cons_append, ints_snoc]; exact h)
    · have hin : ¬ rs.contains c.Rune = true := by rw [hin]; exact fun e => by cases e
      rw [if_neg hin, List.append_nil] at hst
      (repeat' (first|refine at_region ?_|refine at_skip ?_|refine ax_then ?_|refine ax_blk ?_|refine atl_nil ?_|refine n_run ttok rfl rfl ?_|(apply s_bin; refine n_bin ?_)|fail))
      exact ax_roundK (i + 1, q) rfl ⟨by rw [Int.natCast_add]; rfl, by rw [hst]; rfl, trivial⟩ (by dsimp only; omega) (by dsimp only; omega) (fun _ _ h => by dsimp only; rw [hst]; exact h)
  have hil : i = f.Chars.length := by have := of_decide_eq_false h; omega
  subst hil
  rw [List.take_length] at hal ⊢
  have hH0 : (0 :: askG rs f.Chars).length ≤ 17 := by rwa [ints_len] at hal
  have hH1 : 1 ≤ (0 :: askG rs f.Chars).length := by simp
  generalize hH : 0 :: askG rs f.Chars = H0 at hH0 hH1 hA hal ⊢
  (repeat' (first|refine at_seq ?_|refine at_region ?_|refine at_block ?_|refine at_exit ?_|refine ax_then ?_|refine ax_then_exit ?_|refine ax_blk_exit ?_|refine ax_loop_exit ?_|refine atl_nil ?_|refine n_run ttok rfl rfl ?_|fail))
  refine at_loopK [5, 7, 9] (α := NS) (fun x => [(12, I64 x.n), (10, .vec x.q 1 (ints x.H))]) (fun x => Grown f.Glyphs.length H0 x.H ∧ (∀ z ∈ H0, z ∈ x.H) ∧ (∀ z ∈ x.H, z ∈ K) ∧ x.n ≤ x.H.length ∧ (x.n = x.H.length → ∀ z ∈ progStep f (reachN f fs) x.H, z ∈ x.H)) (fun x => tok x.q 3 1 (ints x.H).length) (fun x => (H0.length + f.Glyphs.length + 1 - x.H.length) + (if x.n < x.H.length then 1 else 0)) ⟨q, H0, 0⟩ rfl ⟨rfl, rfl, trivial⟩ ⟨⟨[], by simp, by simp, by simp⟩, fun _ h => h, hA, Nat.zero_le _, fun h => by dsimp only at h; omega⟩ (fun _ _ h => h) ?_
  rintro ⟨q, H, n⟩ ⟨hx, h0, hk, hn, hcl⟩
  dsimp only at hx h0 hk hn hcl ⊢
  have hHl := hx.len
  have hil := ints_len H
  try dsimp only [List.cons_append, List.nil_append, List.map_cons, List.map_nil]
  (repeat' (first|refine at_seq ?_|refine at_region ?_|refine ax_then ?_|refine atl_nil ?_|refine n_run ttok rfl rfl ?_|fail))
  refine at_cond rfl (fun h => ?_) (fun h => ?_)
  · have hnl : n < H.length := by have := of_decide_eq_true h; omega
    (repeat' (first|refine at_seq ?_|refine at_region ?_|refine at_block ?_|refine at_skip ?_|refine ax_then ?_|refine atl_nil ?_|refine n_run ttok rfl rfl ?_|fail))
    refine n_call (hc := ⟨Step_ac f hG.small (reachN f fs) H⟩) ?_
    have hS : ∀ z ∈ sorted (progStep f (reachN f fs) H), 0 ≤ z ∧ z < f.Glyphs.length := step_dom
    have hSm : ∀ z, z ∈ sorted (progStep f (reachN f fs) H) ↔ z ∈ progStep f (reachN f fs) H := fun z => (sorted_perm _).mem_iff
    have hSN : (sorted (progStep f (reachN f fs) H)).length ≤ f.Glyphs.length := by rw [sorted_len]; exact (stepN_ok f _ _).len
    generalize sorted (progStep f (reachN f fs) H) = S at hS hSm hSN ⊢
    have hSl := ints_len S
    (repeat' (first|refine at_seq ?_|refine at_region ?_|refine at_block ?_|refine ax_then ?_|refine atl_nil ?_|refine n_run ttok rfl rfl ?_|fail))
    refine at_loopK [5, 7, 9, 12, 13] (α := Nat × Option (Nat × Nat)) (fun x => [(14, I64 x.1), (10, .vec x.2 1 (ints (growAll H (S.take x.1))))]) (fun x => x.1 ≤ S.length) (fun x => tok x.2 3 1 (ints (growAll H (S.take x.1))).length) (fun x => S.length - x.1) (0, q) rfl ⟨rfl, rfl, trivial⟩ (Nat.zero_le _) (fun _ _ h => h) ?_
    rintro ⟨j, q⟩ hj
    dsimp only at hj ⊢
    have hgx := hx.grow (S := S.take j) (fun z hz => hS z (List.mem_of_mem_take hz))
    have hgl := hgx.len
    have hgi := ints_len (growAll H (S.take j))
    try dsimp only [List.cons_append, List.nil_append, List.map_cons, List.map_nil]
    (repeat' (first|refine at_seq ?_|refine at_region ?_|refine ax_then ?_|refine atl_nil ?_|refine n_run ttok rfl rfl ?_|fail))
    refine at_cond rfl (fun h => ?_) (fun h => ?_)
    · have hjl : j < S.length := by have := of_decide_eq_true h; omega
      obtain ⟨z, hz⟩ : ∃ z, S[j]? = some z := ⟨_, List.getElem?_eq_getElem hjl⟩
      have hzg := ints_get hz
      have hst := growAll_take (H := H) hz
      generalize growAll H (S.take j) = G at hgi hgl hgx hst ⊢
      (repeat' (first|refine at_seq ?_|refine at_region ?_|refine at_block ?_|refine at_skip ?_|refine ax_then ?_|refine atl_nil ?_|refine n_run ttok rfl rfl ?_|(apply s_index; first|refine n_index ttok ?_|refine n_indexP ttok ?_)|(apply s_call;refine n_call ?_)|fail))
      refine at_cond rfl (fun hin => ?_) (fun hin => ?_)
      · have hin : ¬ z ∈ G := by
          intro hm
          rw [List.contains_iff_mem.2 hm] at hin
          cases hin
        have hst : growAll H (S.take (j + 1)) = G ++ [z] := by rw [hst]; exact if_neg hin
        (repeat' (first|refine at_region ?_|refine n_run ttok rfl rfl ?_|(apply s_index; first|refine n_index ttok ?_|refine n_indexP ttok ?_)|refine n_litI ttok ?_|fail))
        refine n_append ttok [] rfl rfl rfl rfl (by rw [List.append_nil]) (by simp; omega) (by simp; omega) rfl fun q' => ?_
        rw [List.append_nil]
        (repeat' (first|refine at_region ?_|refine ax_then ?_|refine ax_blk ?_|refine atl_nil ?_|refine n_run ttok rfl rfl ?_|(apply s_bin; refine n_bin ?_)|fail))
        exact ax_roundK (j + 1, q') rfl ⟨by rw [Int.natCast_add]; rfl, by rw [hst]; dsimp only; rw [ints_snoc]; rfl, trivial⟩ (by dsimp only; omega) (by dsimp only; omega) (fun _ _ h => by dsimp only; rw [hst, ints_snoc]; exact h)
      · have hin : z ∈ G := by
          rw [Bool.not_eq_false'] at hin
          exact List.contains_iff_mem.1 hin
        have hst : growAll H (S.take (j + 1)) = G := by rw [hst]; exact if_pos hin
        (repeat' (first|refine at_region ?_|refine at_skip ?_|refine ax_then ?_|refine ax_blk ?_|refine atl_nil ?_|refine n_run ttok rfl rfl ?_|(apply s_bin; refine n_bin ?_)|fail))
        exact ax_roundK (j + 1, q) rfl ⟨by rw [Int.natCast_add]; rfl, by rw [hst]; rfl, trivial⟩ (by dsimp only; omega) (by dsimp only; omega) (fun _ _ h => by dsimp only; rw [hst]; exact h)
    have hjl : j = S.length := by have := of_decide_eq_false h; omega
    subst hjl
    rw [List.take_length] at hgx hgl hgi ⊢
    have hle := growAll_len (H := H) (S := S)
    (repeat' (first|refine at_exit ?_|refine ax_then_exit ?_|refine ax_blk ?_|refine ax_blk_exit ?_|refine ax_loop_exit ?_|fail))
    refine ax_roundK ⟨q, growAll H S, H.length⟩ rfl ⟨by dsimp only; rw [← hil]; rfl, rfl, trivial⟩ ⟨hgx, fun z hz => growAll_mem.2 (.inl (h0 z hz)), fun z hz => ?_, hle, fun he z hz => ?_⟩ ?_ (fun _ _ h => h)
    · rcases growAll_mem.1 hz with hz | hz
      · exact hk z hz
      · exact hK.closed z (progStep_mono (fun _ h => h) hk z ((hSm z).1 hz))
    · dsimp only at he hz ⊢
      have hstay := growAll_stay he.symm
      have hsub : ∀ y ∈ growAll H S, y ∈ H := fun y hy => by
        rcases growAll_mem.1 hy with hy | hy
        · exact hy
        · exact hstay y hy
      exact growAll_mem.2 (.inr ((hSm z).2 (progStep_mono (fun _ h => h) hsub z hz)))
    · dsimp only
      rw [if_pos hnl]
      split <;> omega
  have hnl : n = H.length := by have := of_decide_eq_false h; omega
  have hKH : ∀ z ∈ K, z ∈ H := hK.least H (start_have fun z hz => h0 z (by rw [← hH]; exact hz)) (hcl hnl)
  have m1 : ((sorted K).all fun z => H.contains z) = true := within_any fun z hz => hKH z ((sorted_perm _).mem_iff.1 hz)
  have m2 : (H.all fun z => (sorted K).contains z) = true := within_any fun z hz => (sorted_perm _).mem_iff.2 (hk z hz)
  (repeat' (first|refine at_seq ?_|refine at_region ?_|refine at_exit ?_|refine ax_then ?_|refine ax_then_exit ?_|refine ax_blk_exit ?_|refine ax_loop_exit ?_|refine n_run ttok rfl rfl ?_|refine atl_guard_yes rfl rfl ?_|(apply s_call;refine n_call ?_)|fail))
  rw [m1]
  (repeat' (first|refine at_ret ?_|refine ax_then ?_|refine atl_nil ?_|refine n_run ttok rfl rfl ?_|refine atl_guard_yes rfl rfl ?_|(apply s_call;refine n_call ?_)|fail))
  rw [m2]
  (repeat' (first|fail))
  exact ax_ret1 rfl rfl rfl
end Go.Proofs.YtpbinloeemebkaaGreat
