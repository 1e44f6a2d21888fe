/-
  The program: Glyphs.
-/
import Derived.Test.YtpbinloeemebkaaGreatM23
import Derived.Test.YtpbinloeemebkaaGreatM09
import Derived.Test.YtpbinloeemebkaaGreatM17
namespace Go.Proofs.YtpbinloeemebkaaGreat
open Go.RowKit
attribute [local irreducible] AT ATL AX AO Av Kt ALoopK OkA DA DA1
open Go.MapKept
abbrev KJ : TypeDesc := .int .i64
/-- runes that are asked for -/
def runeM (l : List Int) : Value → Option AV
  | .int .i64 z => if z ∈ l then some (Bol true) else none
  | _ => none
theorem runeM_zero : (fun _ => none) = runeM [] := by
  funext v
  unfold runeM
  split <;> simp
theorem runeM_self {l : List Int} {i : Nat} {z : Int} (h : l[i]? = some z) : runeM (l.take (i + 1)) (.int .i64 z) = some (Bol true) := by
  unfold runeM
  simp only
  rw [if_pos (by rw [List.take_add_one, h]; simp)]
theorem runeM_other {l : List Int} {i : Nat} {z : Int} (h : l[i]? = some z) (q : Value) (hq : q ≠ .int .i64 z) : runeM (l.take (i + 1)) q = runeM (l.take i) q := by
  unfold runeM
  split
  · rename_i t
    have hne : t ≠ z := fun e => hq (by rw [e])
    rw [List.take_add_one, h]
    simp [hne]
  · rfl
theorem nd_len : ∀ {S T : List Int}, S.Nodup → (∀ z ∈ S, z ∈ T) → S.length ≤ T.length
  | [], _, _, _ => Nat.zero_le _
  | z :: S, T, h, hs => by
    have hz := hs z (List.mem_cons_self ..)
    rw [List.nodup_cons] at h
    have h1 := nd_len (S := S) (T := T.erase z) h.2 fun y hy => (List.mem_erase_of_ne (fun e => h.1 (by rw [← e]; exact hy))).2 (hs y (List.mem_cons_of_mem _ hy))
    have h2 := List.length_erase_of_mem hz
    have h3 := List.length_pos_of_mem hz
    rw [List.length_cons]
    omega
theorem stepN_sub {f : FFont} {S : List Int} {hs : List Hop} (hS : SetOk f.Glyphs.length S) : ∀ z ∈ S, z ∈ stepN f S hs := by
  intro z hz
  have := hS.dom z hz
  refine addN_mem.2 (Or.inr ⟨List.mem_append.2 (Or.inl (List.mem_flatMap.2 ⟨z, hz, List.mem_cons_self ..⟩)), this.1, this.2⟩)
/-- rounds, until nothing more comes -/
def glyphRun (f : FFont) : Nat → List Int → List Hop → List Int
  | 0, S, _ => S
  | k + 1, S, hs => if (stepN f S hs).length = S.length then S else glyphRun f k (stepN f S hs) (hs.map (adv f S))
def askG (rs : List Int) (cs : List FChar) : List Int := (cs.filter fun c => decide (c.Rune ∈ rs)).map FChar.Glyph
def startG (f : FFont) (rs : List Int) : List Int := addN f.Glyphs.length [] (0 :: askG rs f.Chars)
noncomputable def keptN (f : FFont) (rs : List Int) (fs : List ByteArray) : List Int := glyphRun f (f.Glyphs.length + 1) (startG f rs) (hopsOf f (addN f.Lookups.length [] (reachN f fs)))
def badR (z : Int) : Bool := decide (z < 0 ∨ z > 1114111)
def nilA : AV := .sc (.slice none 0 0)
noncomputable def glyphsV (f : FFont) (rs : List Int) (fs : List ByteArray) : AV := if (fontE f).1 = 0 then (if rs.any badR = true then .tup [nilA, I64 80] else .tup [.imm 1 (ints (sorted (keptN f rs fs))), I64 0]) else .tup [nilA, I64 1]
def aReq (rs : List Int) (fs : List ByteArray) : AV := .agg [.imm 1 (ints rs), .imm 1 (strs fs)]
theorem askG_take (rs : List Int) {cs : List FChar} {i : Nat} {c : FChar} (h : cs[i]? = some c) : askG rs (cs.take (i + 1)) = askG rs (cs.take i) ++ if decide (c.Rune ∈ rs) = true then [c.Glyph] else [] := by
  unfold askG
  rw [List.take_add_one, h, Option.toList_some, List.filter_append, List.map_append]
  congr 1
  by_cases e : c.Rune ∈ rs <;> simp [e]
theorem HopsOk.adv {f : FFont} {S : List Int} {hs : List Hop} (h : HopsOk hs) : HopsOk (hs.map (adv f S)) := by
  intro x hx
  obtain ⟨y, hy, rfl⟩ := List.mem_map.1 hx
  exact h y hy
/-- what a round begins with: rounds left, the set's places, the set, the hops -/
structure GS where
  k : Nat
  p : Nat
  b : Nat
  ka : Option (Nat × Nat)
  S : List Int
  hq : HQ
def gsOk (f : FFont) (T : List Int) (x : GS) : Prop := f.Glyphs.length < x.S.length + x.k ∧ SetOk f.Glyphs.length x.S ∧ HopsOk (x.hq.map (·.2)) ∧ x.hq.length ≤ 100000000 ∧ glyphRun f x.k x.S (x.hq.map (·.2)) = T
theorem two_heads {p b p' b' n : Nat} {k k' : Option (Nat × Nat)} {S S' : List Int} {Z : AL} : ∃ h1 h2 Y, setGl p' b' n k' S' ++ (setGl p b n k S ++ Z) = h1 ++ (h2 ++ Y) := ⟨_, _, _, rfl⟩
def hdG (p b n : Nat) (k : Option (Nat × Nat)) (S : List Int) : Nat × AB := (p, .box [.sc (.slice (some ⟨b, 0, none⟩) n n), .vec k 1 (ints S)] 106)
def tlG (b n : Nat) (k : Option (Nat × Nat)) (S : List Int) : AL := (b, .box (flags S n) 4) :: tok k 99 1 (ints S).length
theorem setGl_hd {p b n : Nat} {k : Option (Nat × Nat)} {S : List Int} : setGl p b n k S = hdG p b n k S :: tlG b n k S := rfl
theorem permH {f : FFont} {gp : Nat} {kg : Option (Nat × Nat)} {hq : HQ} {p b p' b' n : Nat} {k k' : Option (Nat × Nat)} {S S' : List Int} : (gro f gp kg hq (setGl p b n k S ++ setGl p' b' n k' S')).Perm (hdG p' b' n k' S' :: hdG p b n k S :: (tlG b' n k' S' ++ (tlG b n k S ++ gro f gp kg hq []))) := by
  have h1 := groP (f := f) (gp := gp) (k := kg) (hq := hq) (A := []) (X := setGl p b n k S) (M := setGl p' b' n k' S')
  have h2 := groP (f := f) (gp := gp) (k := kg) (hq := hq) (A := []) (X := setGl p' b' n k' S') (M := [])
  simp only [List.nil_append, List.append_nil] at h1 h2
  refine h1.trans ((List.Perm.append_left _ h2).trans ((List.perm_append_comm_assoc _ _ _).trans ?_))
  rw [setGl_hd, setGl_hd]
  refine List.Perm.cons _ ?_
  rw [List.cons_append]
  exact List.perm_middle
set_option maxHeartbeats 4000000 in
theorem Glyphs_ac (f : FFont) (hs : Small f) (hA : (someL 400 f.Glyphs (glyphAtE f)).1 = 0 → Acyc f.Glyphs.length (prt f)) (rs : List Int) (fs : List ByteArray) : ADet Tryz.prog 15 [aFont f, aReq rs fs] (glyphsV f rs fs) := by
  refine ac_of Tryz.func15 rfl Tryz.ntmps15 rfl fun B => ?_
  have hGl := hs.glyphs
  unfold aReq
  (repeat' (first|refine at_seq ?_|refine at_region ?_|refine ax_then ?_|refine atl_nil ?_|refine n_run ttok rfl rfl ?_|refine n_boxI ?_|fail))
  refine n_call (hc := ⟨right_ac f hA⟩) ?_
  (repeat' (first|refine ax_then ?_|refine atl_nil ?_|refine n_run ttok rfl rfl ?_|fail))
  unfold glyphsV
  refine at_cond rfl (fun h => ?_) (fun h => ?_)
  · have h : ¬ (fontE f).1 = 0 := by simpa using h
    rw [if_neg h]
    (repeat' (first|refine at_seq ?_|refine at_region ?_|refine at_ret ?_|refine ax_then ?_|refine ax_then_ret ?_|refine atl_nil ?_|refine n_run ttok rfl rfl ?_|fail))
    exact ax_ret2 rfl rfl rfl rfl
  have h : (fontE f).1 = 0 := by simpa using h
  rw [if_pos h]
  clear h
  (repeat' (first|refine at_seq ?_|refine at_region ?_|refine at_skip ?_|refine ax_then ?_|fail))
  refine n_makeMap KJ fun m => ?_
  rw [runeM_zero]
  (repeat' (first|refine at_seq ?_|refine at_region ?_|refine at_block ?_|refine ax_then ?_|refine atl_nil ?_|refine n_run ttok rfl rfl ?_|fail))
  refine at_len 19 rfl rfl fun hlen => ?_
  rw [ints_len] at hlen
  refine at_loopK [2, 3, 6, 19, 20] (α := Nat) (fun i => [(21, I64 i)]) (fun i => i ≤ rs.length ∧ (rs.take i).any badR = false) (fun i => [(m, mapB KJ (runeM (rs.take i)))]) (fun i => rs.length - i) 0 rfl ⟨rfl, trivial⟩ ⟨Nat.zero_le _, rfl⟩ (fun _ _ h => h) ?_
  rintro i ⟨hi, ha⟩
  try dsimp only [List.cons_append, List.nil_append, List.map_cons, List.map_nil]
  (repeat' (first|refine at_seq ?_|refine at_region ?_|refine ax_then ?_|refine atl_nil ?_|refine n_run ttok rfl rfl ?_|fail))
  refine at_cond rfl (fun h => ?_) (fun h => ?_)
  · have hil : i < rs.length := by have := of_decide_eq_true h; simp [ints_len] at this; omega
    obtain ⟨z, hz⟩ : ∃ z, rs[i]? = some z := ⟨_, List.getElem?_eq_getElem hil⟩
    have hzg := ints_get hz
    (repeat' (first|refine at_seq ?_|refine at_region ?_|refine at_block ?_|refine at_skip ?_|refine ax_then ?_|refine atl_nil ?_|refine n_run ttok rfl rfl ?_|(apply s_index; first|refine n_index ttok ?_|refine n_indexP ttok ?_)|fail))
    refine atl_cut (t := 30) [2, 3, 6, 8, 19, 20, 21] (z < 0 ∨ z > 1114111) rfl (fun Q' K => ?_) ?_
    · (repeat' (first|refine atl_nil ?_|refine n_run ttok rfl rfl ?_|refine atl_guard_yes rfl rfl ?_|refine atl_guard_no rfl rfl rfl rfl ?_|refine atl_guard rfl rfl rfl (fun _ => ?_) (fun _ => ?_)|fail))
      all_goals exact K _ _ rfl rfl (by clear K; simp_all <;> omega)
    (repeat' (first|refine ax_then ?_|fail))
    refine at_cond rfl (fun h2 => ?_) (fun h2 => ?_)
    · have : rs.any badR = true := List.any_eq_true.2 ⟨z, List.mem_of_getElem? hz, h2⟩
      rw [if_pos this]
      (repeat' (first|refine at_seq ?_|refine at_region ?_|refine at_ret ?_|refine ax_then ?_|refine ax_then_ret ?_|refine ax_blk_ret ?_|refine ax_loop_ret ?_|refine atl_nil ?_|refine n_run ttok rfl rfl ?_|fail))
      exact ax_ret2 rfl rfl rfl rfl
    (repeat' (first|refine at_region ?_|refine at_skip ?_|refine ax_then ?_|refine n_run ttok rfl rfl ?_|fail))
    refine n_mapUpdate 0 (runeM (rs.take (i + 1))) Tryz.underlying96 Tryz.underlying3 rfl rfl rfl rfl rfl (runeM_self hz) (runeM_other hz) ?_
    (repeat' (first|refine at_region ?_|refine ax_then ?_|refine ax_blk ?_|refine atl_nil ?_|refine n_run ttok rfl rfl ?_|(apply s_bin; refine n_bin ?_)|fail))
    refine ax_roundK (i + 1) rfl ⟨by rw [Int.natCast_add]; rfl, trivial⟩ ⟨by omega, ?_⟩ (by omega) (fun _ _ h => h)
    rw [List.take_add_one, hz, List.any_append, ha]
    have : badR z = false := h2
    simp [this]
  have hil : i = rs.length := by have := of_decide_eq_false h; simp [ints_len] at this; omega
  subst hil
  rw [List.take_length] at ha
  rw [List.take_length, if_neg (by rw [ha]; exact fun e => by cases e)]
  clear h hi ha hlen
  (repeat' (first|refine at_seq ?_|refine at_region ?_|refine at_exit ?_|refine ax_then ?_|refine ax_then_exit ?_|refine ax_blk_exit ?_|refine ax_loop_exit ?_|refine n_run ttok rfl rfl ?_|refine n_litI ttok ?_|fail))
  refine n_callA [] _ (setOf_ac f hs [0]) rfl rfl (List.Perm.refl _) rfl fun c L1 ⟨p, b, ka, hc, hL⟩ => ?_
  subst hc; subst hL
  refine atl_turn (turn_perm List.perm_append_comm) ?_
  (repeat' (first|refine at_seq ?_|refine at_region ?_|refine at_block ?_|refine ax_then ?_|refine atl_nil ?_|refine n_run ttok rfl rfl ?_|fail))
  refine at_len 38 rfl rfl fun hcl => ?_
  rw [List.length_map] at hcl
  refine at_loopK [2, 3, 6, 9, 38, 39] (α := Nat × Option (Nat × Nat)) (fun x => [(40, I64 x.1)]) (fun x => x.1 ≤ f.Chars.length) (fun x => [(m, mapB KJ (runeM rs))] ++ setGl p b f.Glyphs.length x.2 (startG { f with Chars := f.Chars.take x.1 } rs)) (fun x => f.Chars.length - x.1) (0, ka) rfl ⟨rfl, trivial⟩ (Nat.zero_le _) (fun _ _ h => h) ?_
  rintro ⟨i, k⟩ hi
  dsimp only at hi ⊢
  have hok : SetOk f.Glyphs.length (startG { f with Chars := f.Chars.take i } rs) := SetOk.nil.add _
  try dsimp only [List.cons_append, List.nil_append, List.map_cons, List.map_nil]
  (repeat' (first|refine at_seq ?_|refine at_region ?_|refine ax_then ?_|refine atl_nil ?_|refine n_run ttok rfl rfl ?_|fail))
  refine at_cond rfl (fun h => ?_) (fun h => ?_)
  · have hil : i < f.Chars.length := by have := of_decide_eq_true h; simp at this; omega
    obtain ⟨t, ht⟩ : ∃ z, f.Chars[i]? = some z := ⟨_, List.getElem?_eq_getElem hil⟩
    have htg := map_get (c := cChar) ht
    have had := askG_take rs ht
    (repeat' (first|refine at_seq ?_|refine at_region ?_|refine at_block ?_|refine at_skip ?_|refine ax_then ?_|refine atl_nil ?_|refine n_run ttok rfl rfl ?_|(apply s_index; first|refine n_index ttok ?_|refine n_indexP ttok ?_)|(apply s_store; first|refine n_storeF 11 ttok 0 rfl rfl rfl rfl rfl rfl rfl rfl ?_|refine n_storeF 11 ttok 1 rfl rfl rfl rfl rfl rfl rfl rfl ?_|refine n_storeF 11 ttok 2 rfl rfl rfl rfl rfl rfl rfl rfl ?_|refine n_store ttok 0 rfl rfl rfl rfl rfl rfl rfl ?_|refine n_store ttok 1 rfl rfl rfl rfl rfl rfl rfl ?_|refine n_store ttok 2 rfl rfl rfl rfl rfl rfl rfl ?_|refine n_store ttok 3 rfl rfl rfl rfl rfl rfl rfl ?_|fail)|refine n_alloc ttok fun _=>?_|fail))
    refine n_lookup 0 (.bool false) Tryz.underlying96 Tryz.underlying3 rfl rfl rfl rfl (by kernel_rfl) rfl ?_
    have hM : ((runeM rs (.int .i64 t.Rune)).getD (.sc (.bool false))) = Bol (decide (t.Rune ∈ rs)) := by
      unfold runeM
      simp only
      by_cases e : t.Rune ∈ rs <;> simp [e]
    rw [hM]
    (repeat' (first|refine ax_then ?_|refine atl_nil ?_|fail))
    refine at_cond rfl (fun h2 => ?_) (fun h2 => ?_)
    · rw [if_pos h2] at had
      (repeat' (first|refine at_region ?_|refine n_run ttok rfl rfl ?_|refine n_litI ttok ?_|fail))
      refine n_callA (setGl p b f.Glyphs.length k (startG { f with Chars := f.Chars.take i } rs)) [(m, mapB KJ (runeM rs))] (addGl p b f.Glyphs.length k _ [t.Glyph] (by omega) hok) rfl rfl (List.perm_append_comm (l₁ := [(m, mapB KJ (runeM rs))])) rfl fun c L1 ⟨k', hL1⟩ => ?_
      subst hL1
      have hst : addN f.Glyphs.length (startG { f with Chars := f.Chars.take i } rs) [t.Glyph] = startG { f with Chars := f.Chars.take (i + 1) } rs := by
        unfold startG
        dsimp only
        rw [had, addN_app, List.cons_append]
      rw [hst]
      refine atl_turn (turn_perm List.perm_append_comm) ?_
      (repeat' (first|refine at_region ?_|refine ax_then ?_|refine ax_blk ?_|refine atl_nil ?_|refine n_run ttok rfl rfl ?_|(apply s_bin; refine n_bin ?_)|fail))
      exact ax_roundK (i + 1, k') rfl ⟨by rw [Int.natCast_add]; rfl, trivial⟩ (by dsimp only; omega) (by dsimp only; omega) (fun _ _ h => h)
    · rw [h2] at had
      simp only [Bool.false_eq_true, if_false, List.append_nil] at had
      have hst : startG { f with Chars := f.Chars.take (i + 1) } rs = startG { f with Chars := f.Chars.take i } rs := by
        unfold startG
        dsimp only
        rw [had]
      (repeat' (first|refine at_region ?_|refine at_skip ?_|refine ax_then ?_|refine ax_blk ?_|refine atl_nil ?_|refine n_run ttok rfl rfl ?_|(apply s_bin; refine n_bin ?_)|fail))
      exact ax_roundK (i + 1, k) rfl ⟨by rw [Int.natCast_add]; rfl, trivial⟩ (by dsimp only; omega) (by dsimp only; omega) (fun _ _ h => by dsimp only; rw [hst]; exact h)
  have hil : i = f.Chars.length := by have := of_decide_eq_false h; simp at this; omega
  subst hil
  rw [List.take_length] at hok ⊢
  clear h hi
  refine at_turn (turn_sub (List.sublist_cons_self ..)) ?_
  haveI : AD Tryz.prog 13 [aFont f, .imm 1 (strs fs)] (.imm 1 (ints (reachN f fs))) := ⟨lookupsP_det f fs hs⟩
  (repeat' (first|refine at_seq ?_|refine at_exit ?_|refine ax_then ?_|refine ax_then_exit ?_|refine ax_blk_exit ?_|refine ax_loop_exit ?_|fail))
  refine at_draw 5 [(0, .v), (1, .v), (2, .v), (3, .v), (4, .v)] none ?_ trivial rfl (by kernel_rfl) (by kernel_rfl) (by kernel_rfl) mixed (by kernel_rfl) rfl
  (repeat' (first|refine da_open ?_|refine d_run ttok ?_|(apply ds_call;refine d_call ?_)|fail))
  refine da_end [9, 54, 58] rfl rfl ?_
  (repeat' (first|fail))
  refine n_callA [] (setGl p b f.Glyphs.length k (startG f rs)) (newGrowth_ac f hs (reachN f fs)) rfl rfl (List.Perm.refl _) rfl fun c L1 ⟨gp, kg, hq, hc, hL, hh⟩ => ?_
  subst hc; subst hL
  have hok : SetOk f.Glyphs.length (startG f rs) := hok
  have hg0 : gro f gp kg hq [] ++ setGl p b f.Glyphs.length k (startG f rs) = gro f gp kg hq (setGl p b f.Glyphs.length k (startG f rs)) := by unfold gro; simp
  rw [hg0]
  (repeat' (first|refine at_block ?_|refine ax_then ?_|refine atl_nil ?_|refine n_run ttok rfl rfl ?_|fail))
  refine at_loopK [12] (α := GS) (fun x => [(9, Ptr x.p)]) (gsOk f (keptN f rs fs)) (fun x => gro f gp kg x.hq (setGl x.p x.b f.Glyphs.length x.ka x.S)) (fun x => x.k) ⟨f.Glyphs.length + 1, p, b, k, startG f rs, hq⟩ rfl ⟨rfl, trivial⟩ ⟨by dsimp only; omega, hok, by dsimp only; rw [hh]; exact hops_ok hs _, hq_len hs hh, by dsimp only; rw [hh]; rfl⟩ (fun _ _ h => h) ?_
  clear hh hg0 hok
  rintro ⟨r, p, b, ka, S, hq⟩ ⟨h1, hS, h3, h4, h5⟩
  dsimp only at h1 hS h3 h4 h5 ⊢
  have hSl := hS.len
  obtain ⟨r, rfl⟩ : ∃ r', r = r' + 1 := ⟨r - 1, by omega⟩
  have hS' := stepN_ok f S (hq.map (·.2))
  have hS'l := hS'.len
  try dsimp only [List.cons_append, List.nil_append, List.map_cons, List.map_nil]
  (repeat' (first|refine at_seq ?_|refine at_region ?_|refine at_block ?_|refine n_run ttok rfl rfl ?_|fail))
  refine n_callA (gro f gp kg hq (setGl p b f.Glyphs.length ka S)) [] (step_ac f hs gp p b kg ka hq S hS h3 h4) rfl rfl (by rw [List.append_nil]) rfl fun c L1 ⟨np, nb, kn, hq', hc, hL, h6, h7⟩ => ?_
  subst hc; subst hL
  rw [List.append_nil]
  refine atl_turn (turn_perm permH) ?_
  unfold hdG
  (repeat' (first|refine at_seq ?_|refine ax_then ?_|refine atl_nil ?_|refine n_run ttok rfl rfl ?_|fail))
  refine at_draw 10 [(0, .v), (1, .v), (2, .v), (3, .l), (4, .v), (5, .v), (6, .v), (7, .v), (8, .l), (9, .v)] none ?_ trivial rfl (by kernel_rfl) (by kernel_rfl) (by kernel_rfl) mixed (by kernel_rfl) rfl
  (repeat' (first|refine da_open ?_|refine d_run ttok ?_|refine d_load ttok 0 rfl rfl rfl rfl (by first|trivial|rfl) ?_|refine d_load ttok 1 rfl rfl rfl rfl (by first|trivial|rfl) ?_|fail))
  refine da_end [9, 12, 13, 67, 72] rfl rfl ?_
  (repeat' (first|refine ax_then ?_|refine atl_nil ?_|refine n_run ttok rfl rfl ?_|fail))
  refine at_turn (turn_perm (L' := gro f gp kg hq' (setGl p b f.Glyphs.length ka S ++ setGl np nb f.Glyphs.length kn (stepN f S (hq.map (·.2))))) permH.symm) ?_
  refine at_cond rfl (fun h2 => ?_) (fun h2 => ?_)
  · have he : (stepN f S (hq.map (·.2))).length = S.length := by
      simp [ints_len] at h2
      exact Int.ofNat.inj h2
    rw [glyphRun, if_pos he] at h5
    (repeat' (first|refine at_seq ?_|refine at_region ?_|refine n_run ttok rfl rfl ?_|fail))
    refine n_callA (setGl p b f.Glyphs.length ka S) (gro f gp kg hq' (setGl np nb f.Glyphs.length kn (stepN f S (hq.map (·.2))))) (risingGl p b f.Glyphs.length ka S (by omega)) rfl rfl (by simpa using groP (f := f) (gp := gp) (k := kg) (hq := hq') (A := []) (X := setGl p b f.Glyphs.length ka S) (M := setGl np nb f.Glyphs.length kn (stepN f S (hq.map (·.2))))) rfl fun c L1 ⟨hc, hL⟩ => ?_
    subst hc; subst hL
    rw [h5]
    (repeat' (first|refine at_ret ?_|refine ax_then ?_|refine ax_then_ret ?_|refine ax_blk_ret ?_|refine ax_loop_ret ?_|refine atl_nil ?_|refine n_run ttok rfl rfl ?_|fail))
    exact ax_ret2 rfl rfl rfl rfl
  · have he : ¬ (stepN f S (hq.map (·.2))).length = S.length := by
      simp [ints_len] at h2
      exact fun e => h2 (congrArg Int.ofNat e)
    rw [glyphRun, if_neg he] at h5
    have hle := nd_len hS.nodup (stepN_sub (hs := hq.map (·.2)) hS)
    (repeat' (first|refine at_region ?_|refine at_skip ?_|refine ax_then ?_|refine ax_blk ?_|refine atl_nil ?_|refine n_run ttok rfl rfl ?_|fail))
    refine ax_roundK ⟨r, np, nb, kn, stepN f S (hq.map (·.2)), hq'⟩ rfl ⟨rfl, trivial⟩ ⟨by dsimp only; omega, hS', ?_, ?_, ?_⟩ (by dsimp only; omega) (fun _ _ hw => ?_)
    · dsimp only
      rw [h7]
      exact h3.adv
    · dsimp only
      have := congrArg List.length h6
      simp only [List.length_map] at this
      omega
    · dsimp only
      rw [h7]
      exact h5
    · dsimp only
      refine hw.sublist ?_
      unfold gro
      exact ((((List.sublist_append_right _ _).append_left _).append_left _).cons_cons _)
end Go.Proofs.YtpbinloeemebkaaGreat

namespace Go.Proofs.YtpbinloeemebkaaGreat
open Go.RowKit
attribute [local irreducible] AT ATL AX AO Av Kt ALoopK OkA DA DA1
/-- told in another way -/
def VLe (a b : AV) : Prop := ∀ σ v, VR σ a v → VR σ b v
def VLs : List AV → List AV → Prop
  | [], [] => True
  | a :: r, b :: q => VLe a b ∧ VLs r q
  | _, _ => False
def VLr : List (List AV) → List (List AV) → Prop
  | [], [] => True
  | a :: r, b :: q => VLs a b ∧ VLr r q
  | _, _ => False
theorem VLe.refl (a : AV) : VLe a a := fun _ _ h => h
theorem VLe.nil (n : Nat) : VLe (.sc (.slice none 0 0)) (.imm n []) := fun _ _ h => vr_nilI n h
theorem VLs.len : ∀ {a b : List AV}, VLs a b → a.length = b.length
  | [], [], _ => rfl
  | _ :: _, _ :: _, h => by simp [h.2.len]
theorem VLs.at : ∀ {a b : List AV}, VLs a b → ∀ (i : Nat) c c', a[i]? = some c → b[i]? = some c' → VLe c c'
  | x :: a, y :: b, h, 0, c, c', h1, h2 => by
    simp at h1 h2
    subst h1; subst h2
    exact h.1
  | _ :: a, _ :: b, h, i + 1, c, c', h1, h2 => h.2.at i c c' (by simpa using h1) (by simpa using h2)
theorem VLs.vrs {a b : List AV} (h : VLs a b) {σ : Mem} {vs : List Value} (hv : VRs σ a vs) : VRs σ b vs := vrs_map h.len (fun i c c' h1 h2 => h.at i c c' h1 h2 σ) hv
theorem VLr.len : ∀ {a b : List (List AV)}, VLr a b → a.length = b.length
  | [], [], _ => rfl
  | _ :: _, _ :: _, h => by simp [h.2.len]
theorem VLr.at : ∀ {a b : List (List AV)}, VLr a b → ∀ (i : Nat) c c', a[i]? = some c → b[i]? = some c' → VLs c c'
  | x :: a, y :: b, h, 0, c, c', h1, h2 => by
    simp at h1 h2
    subst h1; subst h2
    exact h.1
  | _ :: a, _ :: b, h, i + 1, c, c', h1, h2 => h.2.at i c c' (by simpa using h1) (by simpa using h2)
theorem VLe.agg {a b : List AV} (h : VLs a b) : VLe (.agg a) (.agg b) := fun σ v hv => by
  cases hv with
  | agg _ vs hl hx h1 => exact .agg _ _ (h.len ▸ hl) (fun i c u hc hu => (h.vrs (σ := σ) ⟨hl, hx⟩).2 i c u hc hu) h1
theorem VLe.imm {s : Nat} {a b : List (List AV)} (h : VLr a b) : VLe (.imm s a) (.imm s b) := fun σ v hv => by
  cases hv with
  | imm _ _ A cap hc hm hs ha hx hh =>
    have hl := h.len
    rw [hl]
    have get : ∀ {i : Nat} {e : List AV}, b[i]? = some e → ∃ e', a[i]? = some e' ∧ VLs e' e := fun {i e} he => by
      have hi : i < a.length := by rw [hl]; exact (List.getElem?_eq_some_iff.1 he).1
      exact ⟨_, List.getElem?_eq_getElem hi, h.at i _ _ (List.getElem?_eq_getElem hi) he⟩
    refine .imm s b A cap (hl ▸ hc) hm (fun e he => ?_) (fun hb => ha fun e => hb (List.eq_nil_of_length_eq_zero (by rw [← hl, e]; rfl))) (fun i b' off j hA hi hj => hx i b' off j hA (hl ▸ hi) hj) fun i e b' off j c u he hA hj hu => ?_
    · obtain ⟨i, hi⟩ := List.mem_iff_getElem?.1 he
      obtain ⟨e', h1, h2⟩ := get hi
      rw [← h2.len]
      exact hs _ (List.mem_of_getElem? h1)
    · obtain ⟨e', h1, h2⟩ := get he
      have hj' : j < e'.length := by rw [h2.len]; exact (List.getElem?_eq_some_iff.1 hj).1
      exact h2.at j _ c (List.getElem?_eq_getElem hj') hj σ u (hh i e' b' off j _ u h1 hA (List.getElem?_eq_getElem hj') hu)
theorem VLe.trans {a b c : AV} (h : VLe a b) (k : VLe b c) : VLe a c := fun σ v hv => k σ v (h σ v hv)
theorem AC.args {P : Program} {f : FuncId} {a b : List AV} {L : AL} {Post : AV → AL → Prop} (h : AC P f b L Post) (k : VLs a b) : AC P f a L Post := fun σ w vs hv hs => h σ w vs (k.vrs hv) hs
section
variable {P : Program} {nt : Nat} {fr : AFr} {B : Bs} {L : AL}
theorem results_cell {fn : Func} {t : Tmp} {e : TypeId} {b k : Nat} {cs : List Value} {tmps : Array Value} {w : World} [CAg P e k] (h : fn.results = #[.cell t e]) (ht : tmps.getD t undef = .pointer (some ⟨b, 0, none⟩)) (hl : cs.length = k) (hc : ∀ j v, cs[j]? = some v → w.cell? ⟨b, 0 + j, none⟩ = some v) :
    (results fn tmps).run P w = .ok (.agg cs.toArray) w := by
  rw [Array.getD_eq_getD_getElem?] at ht
  simp [results, h, ht, asAddr, run_loadVar_ag hl hc]
/-- a struct for a result -/
theorem ax_retC (ok : TOk P tt) (i : Nat) {fn : Func} {Post : AV → AL → Prop} {t : Tmp} {e e' : TypeId} {b k : Nat} {cs : List AV} (hr : fn.results = #[.cell t e]) (hk : agI tt e = some k) (hv : alook fr t = some (.sc (.pointer (some ⟨b, 0, none⟩)))) (hL : L[i]? = some (b, .box cs e')) (hl : Nat.beq cs.length k = true) (h : Post (.agg cs) L) :
    AX P .ret (bodyPost P fn (ARet B Post)) nt [] fr B L := by
  unfold AX
  intro σ a w ha hw
  haveI := agI_spec ok hk
  obtain ⟨vs, hb, hs, h1⟩ := hw.boxCell hL
  have hl := Nat.eq_of_beq_eq_true hl
  refine ⟨ha.defers, _, results_cell (cs := vs) hr (ha.look t _ hv).sc_inv (hs.1.symm.trans hl) (fun j v hj => by rw [cell_of hb, Nat.zero_add]; simpa using hj), _, σ, _, L, rfl, .agg cs vs hs.1 hs.2 h1, hw, h⟩
end
def lawG (name : ByteArray) (mark : Bool) (parts : List FPart) : FGlyph := ⟨name, 0, mark, [], [], parts, [], [], []⟩
/-- the font of the law -/
def lawFont : FFont := ⟨1000, [lawG ⟨#[46, 110, 111, 116, 100, 101, 102]⟩ false [], lawG ⟨#[97]⟩ false [], lawG ⟨#[98]⟩ false [], lawG ⟨#[99]⟩ false [⟨1, 0, 0⟩], lawG ⟨#[109]⟩ true []], [⟨1, 1⟩, ⟨2, 2⟩, ⟨3, 3⟩],
  [⟨3, false, [⟨[], [[1], [2]], [], [3], [], 0⟩]⟩, ⟨4, false, [⟨[], [[1]], [], [], [⟨0, 0⟩], 0⟩]⟩], [⟨⟨#[108, 105, 103, 97]⟩, [0]⟩, ⟨⟨#[99, 97, 108, 116]⟩, [1]⟩], [], [], [], []⟩
set_option maxHeartbeats 2000000 in
theorem font24 : ADet Tryz.prog 24 [] (aFont lawFont) := by
  refine ac_of Tryz.func24 rfl Tryz.ntmps24 rfl fun B => ?_
  (repeat' (first|refine at_seq ?_|refine at_region ?_|refine at_ret ?_|refine ax_then ?_|refine atl_nil ?_|refine n_run ttok rfl rfl ?_|(apply s_store; first|refine n_store ttok 0 rfl rfl rfl rfl rfl rfl rfl ?_|refine n_store ttok 1 rfl rfl rfl rfl rfl rfl rfl ?_|refine n_store ttok 2 rfl rfl rfl rfl rfl rfl rfl ?_|refine n_store ttok 3 rfl rfl rfl rfl rfl rfl rfl ?_|fail)|refine n_alloc ttok fun _=>?_|refine n_litI ttok ?_|fail))
  refine ax_turn (turn_cells 0 (cs' := cFont lawFont) rfl fun σ vs h => VLs.vrs ?_ h) (ax_retC ttok 0 rfl rfl rfl rfl rfl rfl)
  repeat' first | exact VLe.refl _ | exact VLe.nil _ | exact True.intro | refine VLe.agg ?_ | refine VLe.imm ?_ | refine And.intro ?_ ?_
instance : AD Tryz.prog 24 [] (aFont lawFont) := ⟨font24⟩
theorem lawSmall : Small lawFont := by
  unfold Small
  decide
theorem lawAcyc : Acyc lawFont.Glyphs.length (prt lawFont) := by
  refine ⟨fun z => if z = 3 then 1 else 0, fun g h0 h1 p hp => ?_⟩
  have h1 : g < 5 := h1
  have : g = 0 ∨ g = 1 ∨ g = 2 ∨ g = 3 ∨ g = 4 := by omega
  rcases this with rfl | rfl | rfl | rfl | rfl
  · rw [show prt lawFont 0 = [] by decide] at hp; cases hp
  · rw [show prt lawFont 1 = [] by decide] at hp; cases hp
  · rw [show prt lawFont 2 = [] by decide] at hp; cases hp
  · rw [show prt lawFont 3 = [1] by decide] at hp
    rw [List.mem_singleton.1 hp]
    decide
  · rw [show prt lawFont 4 = [] by decide] at hp; cases hp
theorem lawGlyphs : (someL 400 lawFont.Glyphs (glyphAtE lawFont)).1 = 0 := by decide
theorem lawHead : headE lawFont = 0 := by decide
theorem lawChars : (someL 1000 lawFont.Chars (charAtE lawFont)).1 = 0 := by decide
theorem lawLooks : (someL 40 lawFont.Lookups (lookAtE lawFont)).1 = 0 := by decide
theorem lawFeats : (someL 20 lawFont.Features (featAtE lawFont)).1 = 0 := by decide
theorem lawDeep : DeepOk lawFont (fun z => if z = 3 then 1 else 0) (fun z => 0) := by
  intro z h0 h1 gl hgl
  have h1 : z < 5 := h1
  have : z = 0 ∨ z = 1 ∨ z = 2 ∨ z = 3 ∨ z = 4 := by omega
  rcases this with rfl | rfl | rfl | rfl | rfl <;> (injection hgl with e; subst e; exact ⟨by decide, by decide⟩)
theorem lawFontE : (fontE lawFont).1 = 0 := by
  refine firstE_zero_iff.2 fun x hx => ?_
  have hc : (compV lawFont).1 = 0 := by
    rw [compV_eq (few_of_glyphs lawGlyphs) lawAcyc lawDeep]
    decide
  simp only [fontL, List.mem_cons, List.not_mem_nil, or_false] at hx
  rcases hx with rfl | rfl | rfl | rfl | rfl | rfl | rfl | rfl | rfl | rfl
  · exact lawHead
  · exact lawGlyphs
  · exact hc
  · exact lawChars
  · exact lawLooks
  · exact lawFeats
  · rfl
  · rfl
  · rfl
  · rfl
end Go.Proofs.YtpbinloeemebkaaGreat

namespace Go.Proofs.YtpbinloeemebkaaGreat
open Go.RowKit
attribute [local irreducible] AT ATL AX AO Av Kt ALoopK OkA DA DA1
def nmLiga : ByteArray := ⟨#[108, 105, 103, 97]⟩
def nmCalt : ByteArray := ⟨#[99, 97, 108, 116]⟩
def nmNone : ByteArray := ⟨#[110, 111, 110, 101]⟩
def lawReach (fs : List ByteArray) : List Int := (if hasS fs nmLiga || hasS fs nmCalt then [0] else []) ++ (if hasS fs nmCalt then [1] else [])
theorem lawReach_mem (fs : List ByteArray) (z : Int) : z ∈ lawReach fs ↔ (z = 0 ∧ (hasS fs nmLiga = true ∨ hasS fs nmCalt = true)) ∨ (z = 1 ∧ hasS fs nmCalt = true) := by
  unfold lawReach
  cases hasS fs nmLiga <;> cases hasS fs nmCalt <;> simp
theorem lawReach_iff (fs : List ByteArray) (z : Int) : z ∈ lawReach fs ↔ Reach lawFont fs z := by
  rw [lawReach_mem]
  have b1 : hasS fs nmLiga = true → Reach lawFont fs 0 := fun h => .base (t := ⟨nmLiga, [0]⟩) (by simp [lawFont, nmLiga]) h (by simp) (by decide) (by decide)
  have b2 : hasS fs nmCalt = true → Reach lawFont fs 1 := fun h => .base (t := ⟨nmCalt, [1]⟩) (by simp [lawFont, nmCalt]) h (by simp) (by decide) (by decide)
  constructor
  · rintro (⟨rfl, h | h⟩ | ⟨rfl, h⟩)
    · exact b1 h
    · exact .call (c := ⟨0, 0⟩) (r := ⟨[], [[1]], [], [], [⟨0, 0⟩], 0⟩) (l := ⟨4, false, [⟨[], [[1]], [], [], [⟨0, 0⟩], 0⟩]⟩) (b2 h) rfl rfl (List.mem_singleton.2 rfl) (List.mem_singleton.2 rfl) (by decide)
    · exact b2 h
  · intro h
    induction h with
    | base ht hn hm h0 h1 =>
      rename_i t n
      have ht : t ∈ [(⟨nmLiga, [0]⟩ : FFeature), ⟨nmCalt, [1]⟩] := ht
      simp only [List.mem_cons, List.not_mem_nil, or_false] at ht
      rcases ht with rfl | rfl
      · exact .inl ⟨List.mem_singleton.1 hm, .inl hn⟩
      · exact .inr ⟨List.mem_singleton.1 hm, hn⟩
    | call h hl hk hr hc hn ih =>
      rename_i m l r c
      rcases ih with ⟨rfl, _⟩ | ⟨rfl, hx⟩
      · have hl : some (⟨3, false, [⟨[], [[1], [2]], [], [3], [], 0⟩]⟩ : FLookup) = some l := hl
        injection hl with hl
        subst hl
        exact absurd hk (by decide)
      · have hl : some (⟨4, false, [⟨[], [[1]], [], [], [⟨0, 0⟩], 0⟩]⟩ : FLookup) = some l := hl
        injection hl with hl
        subst hl
        have hr := List.mem_singleton.1 hr
        subst hr
        have hc := List.mem_singleton.1 hc
        subst hc
        exact .inl ⟨rfl, .inr hx⟩
theorem lawReachN (fs : List ByteArray) : reachN lawFont fs = setN (lawReach fs) 2 := (setN_reach fun z _ _ => lawReach_iff fs z).symm
def lawKept (rs : List Int) (fs : List ByteArray) : List Int := glyphRun lawFont 6 (startG lawFont rs) (hopsOf lawFont (addN 2 [] (setN (lawReach fs) 2)))
theorem glyphRun_ok (f : FFont) : ∀ (k : Nat) (S : List Int) (hs : List Hop), SetOk f.Glyphs.length S → SetOk f.Glyphs.length (glyphRun f k S hs)
  | 0, _, _, h => h
  | k + 1, S, hs, h => by
    unfold glyphRun
    split
    · exact h
    · exact glyphRun_ok f k _ _ (stepN_ok f S hs)
theorem lawKept_eq (rs : List Int) (fs : List ByteArray) : keptN lawFont rs fs = lawKept rs fs := by
  unfold keptN lawKept
  rw [lawReachN]
  rfl
theorem lawV (rs : List Int) (fs : List ByteArray) : glyphsV lawFont rs fs = if rs.any badR = true then .tup [nilA, I64 80] else .tup [.imm 1 (ints (setN (lawKept rs fs) 5)), I64 0] := by
  unfold glyphsV
  rw [if_pos lawFontE, lawKept_eq, sorted_set (n := 5) (by
    unfold lawKept
    exact glyphRun_ok lawFont 6 _ _ (SetOk.nil.add _))]
theorem glyphs_law (rs : List Int) (fs : List ByteArray) : ADet Tryz.prog 15 [aFont lawFont, aReq rs fs] (glyphsV lawFont rs fs) := Glyphs_ac lawFont lawSmall (fun _ => lawAcyc) rs fs
set_option maxHeartbeats 1000000 in
theorem kept_law (rs : List Int) (fs : List ByteArray) (hr : rs.any badR = false) : ADet Tryz.prog 25 [.imm 1 (ints rs), .imm 1 (strs fs), .imm 1 (ints (setN (lawKept rs fs) 5))] (Bol true) := by
  refine ac_of Tryz.func25 rfl Tryz.ntmps25 rfl fun B => ?_
  have hg := glyphs_law rs fs
  rw [lawV, hr, if_neg (fun e => by cases e)] at hg
  unfold aReq at hg
  (repeat' (first|refine at_seq ?_|refine at_region ?_|refine ax_then ?_|refine atl_nil ?_|refine n_run ttok rfl rfl ?_|(apply s_call;refine n_call ?_)|fail))
  refine n_call (hc := ⟨hg⟩) ?_
  (repeat' (first|refine at_seq ?_|refine at_region ?_|refine at_ret ?_|refine ax_then ?_|refine atl_nil ?_|refine n_run ttok rfl rfl ?_|refine atl_guard_yes rfl rfl ?_|(apply s_call;refine n_call ?_)|fail))
  exact ax_ret1 rfl rfl (by simp)
def noFont : FFont := ⟨0, [], [], [], [], [], [], [], []⟩
theorem noV (rs : List Int) (fs : List ByteArray) : glyphsV noFont rs fs = .tup [nilA, I64 1] := by
  unfold glyphsV
  rw [if_neg]
  intro h
  have := firstE_zero_iff.1 h (headE noFont, 0) (by simp [fontL])
  exact absurd this (by decide)
theorem kept1 : setN (lawKept [1] [nmLiga]) 5 = [0, 1] := by decide
theorem kept2 : setN (lawKept [1, 2] [nmLiga]) 5 = [0, 1, 2, 3] := by decide
theorem kept3 : setN (lawKept [1, 2] []) 5 = [0, 1, 2] := by decide
theorem kept4 : setN (lawKept [3] []) 5 = [0, 1, 3] := by decide
theorem kept5 : setN (lawKept [1, 2, 9] [nmCalt, nmNone]) 5 = [0, 1, 2, 3] := by decide
theorem reach5 : setN (lawReach [nmCalt]) 2 = [0, 1] := by decide
theorem isClosed : progClosed lawFont [0] [1, 2, 3] = true := by decide
theorem notClosed : progClosed lawFont [0] [1, 2] = false := by decide
theorem sortedS (S : List Int) (fs : List ByteArray) (rs : List Int) (hS : setN (lawKept rs fs) 5 = S) (hr : rs.any badR = false) : ADet Tryz.prog 25 [.imm 1 (ints rs), .imm 1 (strs fs), .imm 1 (ints S)] (Bol true) := hS ▸ kept_law rs fs hr
theorem vl1 {a b : AV} (h : VLe a b) : VLs [a] [b] := ⟨h, trivial⟩
theorem sorted_nil (rs : List Int) (S : List Int) (hS : setN (lawKept rs []) 5 = S) (hr : rs.any badR = false) : ADet Tryz.prog 25 [.imm 1 (ints rs), .sc (.slice none 0 0), .imm 1 (ints S)] (Bol true) :=
  AC.args (sortedS S [] rs hS hr) ⟨.refl _, .nil 1, .refl _, trivial⟩
set_option maxHeartbeats 2000000 in
theorem closed_ac : ADet Tryz.prog 11 [] (Bol true) := by
  refine ac_of Tryz.func11 rfl Tryz.ntmps11 rfl fun B => ?_
  have g1 : ADet Tryz.prog 15 [aFont lawFont, .agg [.imm 1 (ints [-1]), .sc (.slice none 0 0)]] (.tup [nilA, I64 80]) := by
    have h := glyphs_law [-1] []
    rw [lawV, if_pos (by decide)] at h
    exact AC.args h ⟨.refl _, .agg ⟨.refl _, .nil 1, trivial⟩, trivial⟩
  have g2 : ADet Tryz.prog 15 [.agg [I64 0, .sc (.slice none 0 0), .sc (.slice none 0 0), .sc (.slice none 0 0), .sc (.slice none 0 0), .sc (.slice none 0 0), .sc (.slice none 0 0), .sc (.slice none 0 0), .sc (.slice none 0 0)], .agg [.sc (.slice none 0 0), .sc (.slice none 0 0)]] (.tup [nilA, I64 1]) := by
    have h := Glyphs_ac noFont (by unfold Small; decide) (fun _ => ⟨fun _ => 0, fun g h0 h1 => by have h1 : g < 0 := h1; omega⟩) [] []
    rw [noV] at h
    exact AC.args h ⟨.agg ⟨.refl _, .nil 9, .nil 2, .nil 3, .nil 2, .nil 4, .nil 1, .nil 1, .nil 1, trivial⟩, .agg ⟨.nil 1, .nil 1, trivial⟩, trivial⟩
  have g3 : ADet Tryz.prog 13 [aFont lawFont, .imm 1 (strs [nmCalt])] (.imm 1 (ints [0, 1])) := by
    have h := lookupsP_det lawFont [nmCalt] lawSmall
    rw [lawReachN, reach5] at h
    exact h
  have g4 : ADet Tryz.prog 19 [aFont lawFont, .imm 1 (ints [0]), .imm 1 (ints [1, 2])] (Bol false) := by
    have h := Closed_ac lawFont lawSmall [0] [1, 2]
    rw [notClosed] at h
    exact h
  have g6 : ADet Tryz.prog 19 [aFont lawFont, .imm 1 (ints [0]), .imm 1 (ints [1, 2, 3])] (Bol true) := by
    have h := Closed_ac lawFont lawSmall [0] [1, 2, 3]
    rw [isClosed] at h
    exact h
  have g5 : ADet Tryz.prog 12 [.imm 1 (ints [0, 1]), .imm 1 (ints [0, 1])] (Bol true) := same_det [0, 1] [0, 1]
  have k1 := sortedS [0, 1] [nmLiga] [1] kept1 (by decide)
  have k2 := sortedS [0, 1, 2, 3] [nmLiga] [1, 2] kept2 (by decide)
  have k3 := sorted_nil [1, 2] [0, 1, 2] kept3 (by decide)
  have k4 := sorted_nil [3] [0, 1, 3] kept4 (by decide)
  have k5 := sortedS [0, 1, 2, 3] [nmCalt, nmNone] [1, 2, 9] kept5 (by decide)
  (repeat' (first|refine at_seq ?_|refine at_region ?_|refine ax_then ?_|refine atl_nil ?_|refine n_run ttok rfl rfl ?_|refine n_litI ttok ?_|(apply s_call;refine n_call ?_)|fail))
  refine n_call (hc := ⟨g1⟩) ?_
  (repeat' (first|refine at_seq ?_|refine at_region ?_|refine ax_then ?_|refine atl_nil ?_|refine n_run ttok rfl rfl ?_|fail))
  refine n_call (hc := ⟨g2⟩) ?_
  (repeat' (first|refine at_seq ?_|refine at_region ?_|refine ax_then ?_|refine atl_nil ?_|refine n_run ttok rfl rfl ?_|refine n_litI ttok ?_|fail))
  refine n_call (hc := ⟨k1⟩) ?_
  (repeat' (first|refine n_run ttok rfl rfl ?_|refine atl_guard_yes rfl rfl ?_|refine n_litI ttok ?_|fail))
  refine n_call (hc := ⟨k2⟩) ?_
  (repeat' (first|refine n_run ttok rfl rfl ?_|refine atl_guard_yes rfl rfl ?_|refine n_litI ttok ?_|fail))
  refine n_call (hc := ⟨k3⟩) ?_
  (repeat' (first|refine n_run ttok rfl rfl ?_|refine atl_guard_yes rfl rfl ?_|refine n_litI ttok ?_|fail))
  refine n_call (hc := ⟨k4⟩) ?_
  (repeat' (first|refine n_run ttok rfl rfl ?_|refine atl_guard_yes rfl rfl ?_|refine n_litI ttok ?_|fail))
  refine n_call (hc := ⟨k5⟩) ?_
  (repeat' (first|refine n_run ttok rfl rfl ?_|refine atl_guard_yes rfl rfl ?_|refine n_litI ttok ?_|(apply s_call;refine n_call ?_)|fail))
  refine n_call (hc := ⟨g3⟩) ?_
  (repeat' (first|refine atl_guard_yes rfl rfl ?_|refine n_litI ttok ?_|fail))
  refine n_call (hc := ⟨g5⟩) ?_
  (repeat' (first|refine n_run ttok rfl rfl ?_|refine atl_guard_yes rfl rfl ?_|refine n_litI ttok ?_|(apply s_call;refine n_call ?_)|fail))
  refine n_call (hc := ⟨g4⟩) ?_
  (repeat' (first|refine n_run ttok rfl rfl ?_|refine atl_guard_yes rfl rfl ?_|refine n_litI ttok ?_|(apply s_call;refine n_call ?_)|fail))
  refine n_call (hc := ⟨g6⟩) ?_
  (repeat' (first|refine at_ret ?_|refine ax_then ?_|refine atl_nil ?_|refine n_run ttok rfl rfl ?_|fail))
  exact ax_ret1 rfl rfl rfl
end Go.Proofs.YtpbinloeemebkaaGreat

namespace Go.Proofs.YtpbinloeemebkaaGreat
open Go.RowKit
attribute [local irreducible] AT ATL AX AO Av Kt ALoopK OkA DA DA1
set_option maxHeartbeats 2000000 in
theorem lookups_law (f : FFont) (hf : FontFits f) (fs : List ByteArray) : ADet Tryz.prog 3 [aFont f, .imm 1 (strs fs)] (Bol true) := by
  refine ac_of Tryz.func3 rfl Tryz.ntmps3 rfl fun B => ?_
  haveI c1 : AD Tryz.prog 11 [] (Bol true) := ⟨closed_ac⟩
  (repeat' (first|refine at_seq ?_|refine at_region ?_|refine ax_then ?_|refine atl_nil ?_|refine n_run ttok rfl rfl ?_|refine n_boxI ?_|fail))
  refine n_call (hc := ⟨big_det f hf⟩) ?_
  by_cases hb : 2000 < fontN f
  · rw [decide_eq_true hb]
    (repeat' (first|refine at_seq ?_|refine at_region ?_|refine at_ret ?_|refine ax_then ?_|refine ax_then_ret ?_|refine atl_nil ?_|refine n_run ttok rfl rfl ?_|refine atl_guard_no rfl rfl rfl rfl ?_|refine n_condT rfl ?_|fail))
    exact ax_ret1 rfl rfl rfl
  rw [decide_eq_false hb]
  have hs : Small f := Nat.le_of_not_lt hb
  haveI c2 : AD Tryz.prog 13 [aFont f, .imm 1 (strs fs)] (.imm 1 (ints (reachN f fs))) := ⟨lookupsP_det f fs hs⟩
  haveI c3 : AD Tryz.prog 14 [aFont f, .imm 1 (strs fs)] (.imm 1 (ints (reachN f fs))) := ⟨lookups_det f fs hs⟩
  (repeat' (first|refine ax_then ?_|refine atl_nil ?_|refine n_run ttok rfl rfl ?_|refine atl_guard_yes rfl rfl ?_|fail))
  refine at_cond rfl (fun h => ?_) (fun h => ?_)
  · (repeat' (first|refine at_seq ?_|refine at_region ?_|refine at_ret ?_|refine ax_then ?_|refine ax_then_ret ?_|refine atl_nil ?_|refine n_run ttok rfl rfl ?_|fail))
    exact ax_ret1 rfl rfl rfl
  (repeat' (first|refine at_seq ?_|refine at_skip ?_|refine ax_then ?_|fail))
  refine at_draw 7 [(0, .v), (1, .v), (2, .v), (3, .v), (4, .v), (5, .v), (6, .v)] none ?_ trivial rfl (by kernel_rfl) (by kernel_rfl) (by kernel_rfl) mixed (by kernel_rfl) rfl
  (repeat' (first|refine da_open ?_|refine d_run ttok ?_|(apply ds_call;refine d_call ?_)|fail))
  refine da_end [13, 16, 17, 18] rfl rfl ?_
  (repeat' (first|refine at_ret ?_|refine ax_then ?_|refine atl_nil ?_|refine n_run ttok rfl rfl ?_|refine atl_guard_yes rfl rfl ?_|(apply s_call;refine n_call ?_)|fail))
  refine ax_ret1 rfl rfl ?_
  rw [beq_self_eq_true]
end Go.Proofs.YtpbinloeemebkaaGreat
