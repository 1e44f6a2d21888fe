/-
  The program: Glyphs.
-/
import Derived.Test.YtpbinloeemebkaaGreatM19
import Derived.Test.YtpbinloeemebkaaGreatM11
import Derived.Test.YtpbinloeemebkaaGreatM16
namespace Go.Proofs.YtpbinloeemebkaaGreat
open Go.RowKit
attribute [local irreducible] AT ATL AX AO Av Kt ALoopK OkA DA DA1
open Go.MapKept
abbrev KJ : TypeDesc := .int .i64
def runeM (l : List Int) : Value → Option AV
  | .int .i64 z => if z ∈ l then some (Bol true) else none
  | _ => none
theorem runeM_zero : (fun _ => none) = runeM [] := by
  funext v
  unfold runeM
  split <;> simp
theorem runeM_self {l : List Int} {i : Nat} {z : Int} (h : l[i]? = some z) : runeM (l.take (i + 1)) (.int .i64 z) = some (Bol true) := by
  unfold runeM
  simp only
  rw [if_pos (by rw [List.take_add_one, h]; simp)]
theorem runeM_other {l : List Int} {i : Nat} {z : Int} (h : l[i]? = some z) (q : Value) (hq : q ≠ .int .i64 z) : runeM (l.take (i + 1)) q = runeM (l.take i) q := by
  unfold runeM
  split
  · rename_i t
    have hne : t ≠ z := fun e => hq (by rw [e])
    rw [List.take_add_one, h]
    simp [hne]
  · rfl
theorem nd_len : ∀ {S T : List Int}, S.Nodup → (∀ z ∈ S, z ∈ T) → S.length ≤ T.length
  | [], _, _, _ => Nat.zero_le _
  | z :: S, T, h, hs => by
    have hz := hs z (List.mem_cons_self ..)
    rw [List.nodup_cons] at h
    have h1 := nd_len (S := S) (T := T.erase z) h.2 fun y hy => (List.mem_erase_of_ne (fun e => h.1 (by rw [← e]; exact hy))).2 (hs y (List.mem_cons_of_mem _ hy))
    have h2 := List.length_erase_of_mem hz
    have h3 := List.length_pos_of_mem hz
    rw [List.length_cons]
    omega
theorem stepN_sub {f : FFont} {S : List Int} {hs : List Hop} (hS : SetOk f.Glyphs.length S) : ∀ z ∈ S, z ∈ stepN f S hs := by
  intro z hz
  have := hS.dom z hz
  refine addN_mem.2 (Or.inr ⟨List.mem_append.2 (Or.inl (List.mem_flatMap.2 ⟨z, hz, List.mem_cons_self ..⟩)), this.1, this.2⟩)
def glyphRun (f : FFont) : Nat → List Int → List Hop → List Int
  | 0, S, _ => S
  | k + 1, S, hs => if (stepN f S hs).length = S.length then S else glyphRun f k (stepN f S hs) (hs.map (adv f S))
def askG (rs : List Int) (cs : List FChar) : List Int := (cs.filter fun c => decide (c.Rune ∈ rs)).map FChar.Glyph
def startG (f : FFont) (rs : List Int) : List Int := addN f.Glyphs.length [] (0 :: askG rs f.Chars)
noncomputable def keptN (f : FFont) (rs : List Int) (fs : List ByteArray) : List Int := glyphRun f (f.Glyphs.length + 1) (startG f rs) (hopsOf f (addN f.Lookups.length [] (reachN f fs)))
def badR (z : Int) : Bool := decide (z < 0 ∨ z > 1114111)
def nilA : AV := .sc (.slice none 0 0)
noncomputable def glyphsV (f : FFont) (rs : List Int) (fs : List ByteArray) : AV := if (fontE f).1 = 0 then (if rs.any badR = true then .tup [nilA, I64 80] else .tup [.imm 1 (ints (sorted (keptN f rs fs))), I64 0]) else .tup [nilA, I64 1]
def aReq (rs : List Int) (fs : List ByteArray) : AV := .agg [.imm 1 (ints rs), .imm 1 (strs fs)]
theorem askG_take (rs : List Int) {cs : List FChar} {i : Nat} {c : FChar} (h : cs[i]? = some c) : askG rs (cs.take (i + 1)) = askG rs (cs.take i) ++ if decide (c.Rune ∈ rs) = true then [c.Glyph] else [] := by
  unfold askG
  rw [List.take_add_one, h, Option.toList_some, List.filter_append, List.map_append]
  congr 1
  by_cases e : c.Rune ∈ rs <;> simp [e]
theorem HopsOk.adv {f : FFont} {S : List Int} {hs : List Hop} (h : HopsOk hs) : HopsOk (hs.map (adv f S)) := by
  intro x hx
  obtain ⟨y, hy, rfl⟩ := List.mem_map.1 hx
  exact h y hy
structure GS where
  k : Nat
  p : Nat
  b : Nat
  ka : Option (Nat × Nat)
  S : List Int
  hq : HQ
def gsOk (f : FFont) (T : List Int) (x : GS) : Prop := f.Glyphs.length < x.S.length + x.k ∧ SetOk f.Glyphs.length x.S ∧ HopsOk (x.hq.map (·.2)) ∧ x.hq.length ≤ 100000000 ∧ glyphRun f x.k x.S (x.hq.map (·.2)) = T
def hdG (p b n : Nat) (k : Option (Nat × Nat)) (S : List Int) : Nat × AB := (p, .box [.sc (.slice (some ⟨b, 0, none⟩) n n), .vec k 1 (ints S)] 106)
def tlG (b n : Nat) (k : Option (Nat × Nat)) (S : List Int) : AL := (b, .box (flags S n) 4) :: tok k 99 1 (ints S).length
theorem setGl_hd {p b n : Nat} {k : Option (Nat × Nat)} {S : List Int} : setGl p b n k S = hdG p b n k S :: tlG b n k S := rfl
theorem permH {f : FFont} {gp : Nat} {kg : Option (Nat × Nat)} {hq : HQ} {p b p' b' n : Nat} {k k' : Option (Nat × Nat)} {S S' : List Int} : (gro f gp kg hq (setGl p b n k S ++ setGl p' b' n k' S')).Perm (hdG p' b' n k' S' :: hdG p b n k S :: (tlG b' n k' S' ++ (tlG b n k S ++ gro f gp kg hq []))) := by
  have h1 := groP (f := f) (gp := gp) (k := kg) (hq := hq) (A := []) (X := setGl p b n k S) (M := setGl p' b' n k' S')
  have h2 := groP (f := f) (gp := gp) (k := kg) (hq := hq) (A := []) (X := setGl p' b' n k' S') (M := [])
  simp only [List.nil_append, List.append_nil] at h1 h2
  refine h1.trans ((List.Perm.append_left _ h2).trans ((List.perm_append_comm_assoc _ _ _).trans ?_))
  rw [setGl_hd, setGl_hd]
  refine List.Perm.cons _ ?_
  rw [List.cons_append]
  exact List.perm_middle
set_option maxHeartbeats 4000000 in
theorem Glyphs_ac (f : FFont) (hs : Small f) (hA : (someL 400 f.Glyphs (glyphAtE f)).1 = 0 → Acyc f.Glyphs.length (prt f)) (rs : List Int) (fs : List ByteArray) : ADet Tryz.prog 15 [aFont f, aReq rs fs] (glyphsV f rs fs) := by
  refine ac_of Tryz.func15 rfl Tryz.ntmps15 rfl fun B => ?_
  have hGl := hs.glyphs
  unfold aReq
  (repeat' (first|refine at_seq ?_|refine at_region ?_|refine ax_then ?_|refine atl_nil ?_|refine n_run ttok rfl rfl ?_|refine n_boxI ?_|fail))
  refine n_call (hc := ⟨right_ac f hA⟩) ?_
  (repeat' (first|refine ax_then ?_|refine atl_nil ?_|refine n_run ttok rfl rfl ?_|fail))
  unfold glyphsV
  refine at_cond rfl (fun h => ?_) (fun h => ?_)
  · have h : ¬ (fontE f).1 = 0 := by simpa using h
    rw [if_neg h]
    (repeat' (first|refine at_seq ?_|refine at_region ?_|refine at_ret ?_|refine ax_then ?_|refine ax_then_ret ?_|refine atl_nil ?_|refine n_run ttok rfl rfl ?_|fail))
    exact ax_ret2 rfl rfl rfl rfl
  have h : (fontE f).1 = 0 := by simpa using h
  rw [if_pos h]
  clear h
  (repeat' (first|refine at_seq ?_|refine at_region ?_|refine at_skip ?_|refine ax_then ?_|fail))
  refine n_makeMap KJ fun m => ?_
  rw [runeM_zero]
  (repeat' (first|refine at_seq ?_|refine at_region ?_|refine at_block ?_|refine ax_then ?_|refine atl_nil ?_|refine n_run ttok rfl rfl ?_|fail))
  refine at_len 19 rfl rfl fun hlen => ?_
  rw [ints_len] at hlen
  refine at_loopK [2, 3, 6, 19, 20] (α := Nat) (fun i => [(21, I64 i)]) (fun i => i ≤ rs.length ∧ (rs.take i).any badR = false) (fun i => [(m, mapB KJ (runeM (rs.take i)))]) (fun i => rs.length - i) 0 rfl ⟨rfl, trivial⟩ ⟨Nat.zero_le _, rfl⟩ (fun _ _ h => h) ?_
  rintro i ⟨hi, ha⟩
  try dsimp only [List.cons_append, List.nil_append, List.map_cons, List.map_nil]
  (repeat' (first|refine at_seq ?_|refine at_region ?_|refine ax_then ?_|refine atl_nil ?_|refine n_run ttok rfl rfl ?_|fail))
  refine at_cond rfl (fun h => ?_) (fun h => ?_)
  · have hil : i < rs.length := by have := of_decide_eq_true h; simp [ints_len] at this; omega
    obtain ⟨z, hz⟩ : ∃ z, rs[i]? = some z := ⟨_, List.getElem?_eq_getElem hil⟩
    have hzg := ints_get hz
    (repeat' (first|refine at_seq ?_|refine at_region ?_|refine at_block ?_|refine at_skip ?_|refine ax_then ?_|refine atl_nil ?_|refine n_run ttok rfl rfl ?_|(apply s_index; first|refine n_index ttok ?_|refine n_indexP ttok ?_)|fail))
    refine atl_cut (t := 30) [2, 3, 6, 8, 19, 20, 21] (z < 0 ∨ z > 1114111) rfl (fun Q' K => ?_) ?_
    · (repeat' (first|refine atl_nil ?_|refine n_run ttok rfl rfl ?_|refine atl_guard_yes rfl rfl ?_|refine atl_guard_no rfl rfl rfl rfl ?_|refine atl_guard rfl rfl rfl (fun _ => ?_) (fun _ => ?_)|fail))
      all_goals exact K _ _ rfl rfl (by clear K; simp_all <;> omega)
    (repeat' (first|refine ax_then ?_|fail))
    refine at_cond rfl (fun h2 => ?_) (fun h2 => ?_)
    · have : rs.any badR = true := List.any_eq_true.2 ⟨z, List.mem_of_getElem? hz, h2⟩
      rw [if_pos this]
      (repeat' (first|refine at_seq ?_|refine at_region ?_|refine at_ret ?_|refine ax_then ?_|refine ax_then_ret ?_|refine ax_blk_ret ?_|refine ax_loop_ret ?_|refine atl_nil ?_|refine n_run ttok rfl rfl ?_|fail))
      exact ax_ret2 rfl rfl rfl rfl
    (repeat' (first|refine at_region ?_|refine at_skip ?_|refine ax_then ?_|refine n_run ttok rfl rfl ?_|fail))
    refine n_mapUpdate 0 (runeM (rs.take (i + 1))) Tryz.underlying96 Tryz.underlying3 rfl rfl rfl rfl rfl (runeM_self hz) (runeM_other hz) ?_
    (repeat' (first|refine at_region ?_|refine ax_then ?_|refine ax_blk ?_|refine atl_nil ?_|refine n_run ttok rfl rfl ?_|(apply s_bin; refine n_bin ?_)|fail))
    refine ax_roundK (i + 1) rfl ⟨by rw [Int.natCast_add]; rfl, trivial⟩ ⟨by omega, ?_⟩ (by omega) (fun _ _ h => h)
    rw [List.take_add_one, hz, List.any_append, ha]
    have : badR z = false := h2
    simp [this]
  have hil : i = rs.length := by have := of_decide_eq_false h; simp [ints_len] at this; omega
  subst hil
  rw [List.take_length] at ha
  rw [List.take_length, if_neg (by rw [ha]; exact fun e => by cases e)]
  clear h hi ha hlen
  (repeat' (first|refine at_seq ?_|refine at_region ?_|refine at_exit ?_|refine ax_then ?_|refine ax_then_exit ?_|refine ax_blk_exit ?_|refine ax_loop_exit ?_|refine n_run ttok rfl rfl ?_|refine n_litI ttok ?_|fail))
  refine n_callA [] _ (setOf_ac f hs [0]) rfl rfl (List.Perm.refl _) rfl fun c L1 ⟨p, b, ka, hc, hL⟩ => ?_
  subst hc; subst hL
  refine atl_turn (turn_perm List.perm_append_comm) ?_
  (repeat' (first|refine at_seq ?_|refine at_region ?_|refine at_block ?_|refine ax_then ?_|refine atl_nil ?_|refine n_run ttok rfl rfl ?_|fail))
  refine at_len 38 rfl rfl fun hcl => ?_
  rw [List.length_map] at hcl
  refine at_loopK [2, 3, 6, 9, 38, 39] (α := Nat × Option (Nat × Nat)) (fun x => [(40, I64 x.1)]) (fun x => x.1 ≤ f.Chars.length) (fun x => [(m, mapB KJ (runeM rs))] ++ setGl p b f.Glyphs.length x.2 (startG { f with Chars := f.Chars.take x.1 } rs)) (fun x => f.Chars.length - x.1) (0, ka) rfl ⟨rfl, trivial⟩ (Nat.zero_le _) (fun _ _ h => h) ?_
  rintro ⟨i, k⟩ hi
  dsimp only at hi ⊢
  have hok : SetOk f.Glyphs.length (startG { f with Chars := f.Chars.take i } rs) := SetOk.nil.add _
  try dsimp only [List.cons_append, List.nil_append, List.map_cons, List.map_nil]
  (repeat' (first|refine at_seq ?_|refine at_region ?_|refine ax_then ?_|refine atl_nil ?_|refine n_run ttok rfl rfl ?_|fail))
  refine at_cond rfl (fun h => ?_) (fun h => ?_)
  · have hil : i < f.Chars.length := by have := of_decide_eq_true h; simp at this; omega
    obtain ⟨t, ht⟩ : ∃ z, f.Chars[i]? = some z := ⟨_, List.getElem?_eq_getElem hil⟩
    have htg := map_get (c := cChar) ht
    have had := askG_take rs ht
    (repeat' (first|refine at_seq ?_|refine at_region ?_|refine at_block ?_|refine at_skip ?_|refine ax_then ?_|refine atl_nil ?_|refine n_run ttok rfl rfl ?_|(apply s_index; first|refine n_index ttok ?_|refine n_indexP ttok ?_)|(apply s_store; first|refine n_storeF 11 ttok 0 rfl rfl rfl rfl rfl rfl rfl rfl ?_|refine n_storeF 11 ttok 1 rfl rfl rfl rfl rfl rfl rfl rfl ?_|refine n_storeF 11 ttok 2 rfl rfl rfl rfl rfl rfl rfl rfl ?_|refine n_store ttok 0 rfl rfl rfl rfl rfl rfl rfl ?_|refine n_store ttok 1 rfl rfl rfl rfl rfl rfl rfl ?_|refine n_store ttok 2 rfl rfl rfl rfl rfl rfl rfl ?_|refine n_store ttok 3 rfl rfl rfl rfl rfl rfl rfl ?_|fail)|refine n_alloc ttok fun _=>?_|fail))
    refine n_lookup 0 (.bool false) Tryz.underlying96 Tryz.underlying3 rfl rfl rfl rfl (by kernel_rfl) rfl ?_
    have hM : ((runeM rs (.int .i64 t.Rune)).getD (.sc (.bool false))) = Bol (decide (t.Rune ∈ rs)) := by
      unfold runeM
      simp only
      by_cases e : t.Rune ∈ rs <;> simp [e]
    rw [hM]
    (repeat' (first|refine ax_then ?_|refine atl_nil ?_|fail))
    refine at_cond rfl (fun h2 => ?_) (fun h2 => ?_)
    · rw [if_pos h2] at had
      (repeat' (first|refine at_region ?_|refine n_run ttok rfl rfl ?_|refine n_litI ttok ?_|fail))
      refine n_callA (setGl p b f.Glyphs.length k (startG { f with Chars := f.Chars.take i } rs)) [(m, mapB KJ (runeM rs))] (addGl p b f.Glyphs.length k _ [t.Glyph] (by omega) hok) rfl rfl (List.perm_append_comm (l₁ := [(m, mapB KJ (runeM rs))])) rfl fun c L1 ⟨k', hL1⟩ => ?_
      subst hL1
      have hst : addN f.Glyphs.length (startG { f with Chars := f.Chars.take i } rs) [t.Glyph] = startG { f with Chars := f.Chars.take (i + 1) } rs := by
        unfold startG
        dsimp only
        rw [had, addN_app, List.cons_append]
      rw [hst]
      refine atl_turn (turn_perm List.perm_append_comm) ?_
      (repeat' (first|refine at_region ?_|refine ax_then ?_|refine ax_blk ?_|refine atl_nil ?_|refine n_run ttok rfl rfl ?_|(apply s_bin; refine n_bin ?_)|fail))
      exact ax_roundK (i + 1, k') rfl ⟨by rw [Int.natCast_add]; rfl, trivial⟩ (by dsimp only; omega) (by dsimp only; omega) (fun _ _ h => h)
    · rw [h2] at had
      simp only [Bool.false_eq_true, if_false, List.append_nil] at had
      have hst : startG { f with Chars := f.Chars.take (i + 1) } rs = startG { f with Chars := f.Chars.take i } rs := by
        unfold startG
        dsimp only
        rw [had]
      (repeat' (first|refine at_region ?_|refine at_skip ?_|refine ax_then ?_|refine ax_blk ?_|refine atl_nil ?_|refine n_run ttok rfl rfl ?_|(apply s_bin; refine n_bin ?_)|fail))
      exact ax_roundK (i + 1, k) rfl ⟨by rw [Int.natCast_add]; rfl, trivial⟩ (by dsimp only; omega) (by dsimp only; omega) (fun _ _ h => by dsimp only; rw [hst]; exact h)
  have hil : i = f.Chars.length := by have := of_decide_eq_false h; simp at this; omega
  subst hil
  rw [List.take_length] at hok ⊢
  clear h hi
  refine at_turn (turn_sub (List.sublist_cons_self ..)) ?_
  haveI : AD Tryz.prog 13 [aFont f, .imm 1 (strs fs)] (.imm 1 (ints (reachN f fs))) := ⟨lookupsP_det f fs hs⟩
  (repeat' (first|refine at_seq ?_|refine at_exit ?_|refine ax_then ?_|refine ax_then_exit ?_|refine ax_blk_exit ?_|refine ax_loop_exit ?_|fail))
  refine at_draw 5 [(0, .v), (1, .v), (2, .v), (3, .v), (4, .v)] none ?_ trivial rfl (by kernel_rfl) (by kernel_rfl) (by kernel_rfl) mixed (by kernel_rfl) rfl
  (repeat' (first|refine da_open ?_|refine d_run ttok ?_|(apply ds_call;refine d_call ?_)|fail))
  refine da_end [9, 54, 58] rfl rfl ?_
  (repeat' (first|fail))
  refine n_callA [] (setGl p b f.Glyphs.length k (startG f rs)) (newGrowth_ac f hs (reachN f fs)) rfl rfl (List.Perm.refl _) rfl fun c L1 ⟨gp, kg, hq, hc, hL, hh⟩ => ?_
  subst hc; subst hL
  have hok : SetOk f.Glyphs.length (startG f rs) := hok
  have hg0 : gro f gp kg hq [] ++ setGl p b f.Glyphs.length k (startG f rs) = gro f gp kg hq (setGl p b f.Glyphs.length k (startG f rs)) := by unfold gro; simp
  rw [hg0]
  (repeat' (first|refine at_block ?_|refine ax_then ?_|refine atl_nil ?_|refine n_run ttok rfl rfl ?_|fail))
  refine at_loopK [12] (α := GS) (fun x => [(9, Ptr x.p)]) (gsOk f (keptN f rs fs)) (fun x => gro f gp kg x.hq (setGl x.p x.b f.Glyphs.length x.ka x.S)) (fun x => x.k) ⟨f.Glyphs.length + 1, p, b, k, startG f rs, hq⟩ rfl ⟨rfl, trivial⟩ ⟨by dsimp only; omega, hok, by dsimp only; rw [hh]; exact hops_ok hs _, hq_len hs hh, by dsimp only; rw [hh]; rfl⟩ (fun _ _ h => h) ?_
  clear hh hg0 hok
  rintro ⟨r, p, b, ka, S, hq⟩ ⟨h1, hS, h3, h4, h5⟩
  dsimp only at h1 hS h3 h4 h5 ⊢
  have hSl := hS.len
  obtain ⟨r, rfl⟩ : ∃ r', r = r' + 1 := ⟨r - 1, by omega⟩
  have hS' := stepN_ok f S (hq.map (·.2))
  have hS'l := hS'.len
  try dsimp only [List.cons_append, List.nil_append, List.map_cons, List.map_nil]
  (repeat' (first|refine at_seq ?_|refine at_region ?_|refine at_block ?_|refine n_run ttok rfl rfl ?_|fail))
  refine n_callA (gro f gp kg hq (setGl p b f.Glyphs.length ka S)) [] (step_ac f hs gp p b kg ka hq S hS h3 h4) rfl rfl (by rw [List.append_nil]) rfl fun c L1 ⟨np, nb, kn, hq', hc, hL, h6, h7⟩ => ?_
  subst hc; subst hL
  rw [List.append_nil]
  refine atl_turn (turn_perm permH) ?_
  unfold hdG
  (repeat' (first|refine at_seq ?_|refine ax_then ?_|refine atl_nil ?_|refine n_run ttok rfl rfl ?_|fail))
  refine at_draw 10 [(0, .v), (1, .v), (2, .v), (3, .l), (4, .v), (5, .v), (6, .v), (7, .v), (8, .l), (9, .v)] none ?_ trivial rfl (by kernel_rfl) (by kernel_rfl) (by kernel_rfl) mixed (by kernel_rfl) rfl
  (repeat' (first|refine da_open ?_|refine d_run ttok ?_|refine d_load ttok 0 rfl rfl rfl rfl (by first|trivial|rfl) ?_|refine d_load ttok 1 rfl rfl rfl rfl (by first|trivial|rfl) ?_|fail))
  refine da_end [9, 12, 13, 67, 72] rfl rfl ?_
  (repeat' (first|refine ax_then ?_|refine atl_nil ?_|refine n_run ttok rfl rfl ?_|fail))
  refine at_turn (turn_perm (L' := gro f gp kg hq' (setGl p b f.Glyphs.length ka S ++ setGl np nb f.Glyphs.length kn (stepN f S (hq.map (·.2))))) permH.symm) ?_
  refine at_cond rfl (fun h2 => ?_) (fun h2 => ?_)
  · have he : (stepN f S (hq.map (·.2))).length = S.length := by
      simp [ints_len] at h2
      exact Int.ofNat.inj h2
    rw [glyphRun, if_pos he] at h5
    (repeat' (first|refine at_seq ?_|refine at_region ?_|refine n_run ttok rfl rfl ?_|fail))
    refine n_callA (setGl p b f.Glyphs.length ka S) (gro f gp kg hq' (setGl np nb f.Glyphs.length kn (stepN f S (hq.map (·.2))))) (risingGl p b f.Glyphs.length ka S (by omega)) rfl rfl (by simpa using groP (f := f) (gp := gp) (k := kg) (hq := hq') (A := []) (X := setGl p b f.Glyphs.length ka S) (M := setGl np nb f.Glyphs.length kn (stepN f S (hq.map (·.2))))) rfl fun c L1 ⟨hc, hL⟩ => ?_
    subst hc; subst hL
    rw [h5]
    (repeat' (first|refine at_ret ?_|refine ax_then ?_|refine ax_then_ret ?_|refine ax_blk_ret ?_|refine ax_loop_ret ?_|refine atl_nil ?_|refine n_run ttok rfl rfl ?_|fail))
    exact ax_ret2 rfl rfl rfl rfl
  · have he : ¬ (stepN f S (hq.map (·.2))).length = S.length := by
      simp [ints_len] at h2
      exact fun e => h2 (congrArg Int.ofNat e)
    rw [glyphRun, if_neg he] at h5
    have hle := nd_len hS.nodup (stepN_sub (hs := hq.map (·.2)) hS)
    (repeat' (first|refine at_region ?_|refine at_skip ?_|refine ax_then ?_|refine ax_blk ?_|refine atl_nil ?_|refine n_run ttok rfl rfl ?_|fail))
    refine ax_roundK ⟨r, np, nb, kn, stepN f S (hq.map (·.2)), hq'⟩ rfl ⟨rfl, trivial⟩ ⟨by dsimp only; omega, hS', ?_, ?_, ?_⟩ (by dsimp only; omega) (fun _ _ hw => ?_)
    · dsimp only
      rw [h7]
      exact h3.adv
    · dsimp only
      have := congrArg List.length h6
      simp only [List.length_map] at this
      omega
    · dsimp only
      rw [h7]
      exact h5
    · dsimp only
      refine hw.sublist ?_
      unfold gro
      exact ((((List.sublist_append_right _ _).append_left _).append_left _).cons_cons _)
end Go.Proofs.YtpbinloeemebkaaGreat

namespace Go.Proofs.YtpbinloeemebkaaGreat
open Go.RowKit
attribute [local irreducible] AT ATL AX AO Av Kt ALoopK OkA DA DA1
def VLe (a b : AV) : Prop := ∀ σ v, VR σ a v → VR σ b v
def VLs : List AV → List AV → Prop
  | [], [] => True
  | a :: r, b :: q => VLe a b ∧ VLs r q
  | _, _ => False
def VLr : List (List AV) → List (List AV) → Prop
  | [], [] => True
  | a :: r, b :: q => VLs a b ∧ VLr r q
  | _, _ => False
theorem VLe.refl (a : AV) : VLe a a := fun _ _ h => h
theorem VLe.nil (n : Nat) : VLe (.sc (.slice none 0 0)) (.imm n []) := fun _ _ h => vr_nilI n h
theorem VLs.len : ∀ {a b : List AV}, VLs a b → a.length = b.length
  | [], [], _ => rfl
  | _ :: _, _ :: _, h => by simp [h.2.len]
theorem VLs.at : ∀ {a b : List AV}, VLs a b → ∀ (i : Nat) c c', a[i]? = some c → b[i]? = some c' → VLe c c'
  | x :: a, y :: b, h, 0, c, c', h1, h2 => by
    simp at h1 h2
    subst h1; subst h2
    exact h.1
  | _ :: a, _ :: b, h, i + 1, c, c', h1, h2 => h.2.at i c c' (by simpa using h1) (by simpa using h2)
theorem VLs.vrs {a b : List AV} (h : VLs a b) {σ : Mem} {vs : List Value} (hv : VRs σ a vs) : VRs σ b vs := vrs_map h.len (fun i c c' h1 h2 => h.at i c c' h1 h2 σ) hv
theorem VLr.len : ∀ {a b : List (List AV)}, VLr a b → a.length = b.length
  | [], [], _ => rfl
  | _ :: _, _ :: _, h => by simp [h.2.len]
theorem VLr.at : ∀ {a b : List (List AV)}, VLr a b → ∀ (i : Nat) c c', a[i]? = some c → b[i]? = some c' → VLs c c'
  | x :: a, y :: b, h, 0, c, c', h1, h2 => by
    simp at h1 h2
    subst h1; subst h2
    exact h.1
  | _ :: a, _ :: b, h, i + 1, c, c', h1, h2 => h.2.at i c c' (by simpa using h1) (by simpa using h2)
theorem VLe.agg {a b : List AV} (h : VLs a b) : VLe (.agg a) (.agg b) := fun σ v hv => by
  cases hv with
  | agg _ vs hl hx h1 => exact .agg _ _ (h.len ▸ hl) (fun i c u hc hu => (h.vrs (σ := σ) ⟨hl, hx⟩).2 i c u hc hu) h1
theorem VLe.imm {s : Nat} {a b : List (List AV)} (h : VLr a b) : VLe (.imm s a) (.imm s b) := fun σ v hv => by
  cases hv with
  | imm _ _ A cap hc hm hs ha hx hh =>
    have hl := h.len
    rw [hl]
    have get : ∀ {i : Nat} {e : List AV}, b[i]? = some e → ∃ e', a[i]? = some e' ∧ VLs e' e := fun {i e} he => by
      have hi : i < a.length := by rw [hl]; exact (List.getElem?_eq_some_iff.1 he).1
      exact ⟨_, List.getElem?_eq_getElem hi, h.at i _ _ (List.getElem?_eq_getElem hi) he⟩
    refine .imm s b A cap (hl ▸ hc) hm (fun e he => ?_) (fun hb => ha fun e => hb (List.eq_nil_of_length_eq_zero (by rw [← hl, e]; rfl))) (fun i b' off j hA hi hj => hx i b' off j hA (hl ▸ hi) hj) fun i e b' off j c u he hA hj hu => ?_
    · obtain ⟨i, hi⟩ := List.mem_iff_getElem?.1 he
      obtain ⟨e', h1, h2⟩ := get hi
      rw [← h2.len]
      exact hs _ (List.mem_of_getElem? h1)
    · obtain ⟨e', h1, h2⟩ := get he
      have hj' : j < e'.length := by rw [h2.len]; exact (List.getElem?_eq_some_iff.1 hj).1
      exact h2.at j _ c (List.getElem?_eq_getElem hj') hj σ u (hh i e' b' off j _ u h1 hA (List.getElem?_eq_getElem hj') hu)
theorem AC.args {P : Program} {f : FuncId} {a b : List AV} {L : AL} {Post : AV → AL → Prop} (h : AC P f b L Post) (k : VLs a b) : AC P f a L Post := fun σ w vs hv hs => h σ w vs (k.vrs hv) hs
section
variable {P : Program} {nt : Nat} {fr : AFr} {B : Bs} {L : AL}
theorem results_cell {fn : Func} {t : Tmp} {e : TypeId} {b k : Nat} {cs : List Value} {tmps : Array Value} {w : World} [CAg P e k] (h : fn.results = #[.cell t e]) (ht : tmps.getD t undef = .pointer (some ⟨b, 0, none⟩)) (hl : cs.length = k) (hc : ∀ j v, cs[j]? = some v → w.cell? ⟨b, 0 + j, none⟩ = some v) :
    (results fn tmps).run P w = .ok (.agg cs.toArray) w := by
  rw [Array.getD_eq_getD_getElem?] at ht
  simp [results, h, ht, asAddr, run_loadVar_ag hl hc]
theorem ax_retC (ok : TOk P tt) (i : Nat) {fn : Func} {Post : AV → AL → Prop} {t : Tmp} {e e' : TypeId} {b k : Nat} {cs : List AV} (hr : fn.results = #[.cell t e]) (hk : agI tt e = some k) (hv : alook fr t = some (.sc (.pointer (some ⟨b, 0, none⟩)))) (hL : L[i]? = some (b, .box cs e')) (hl : Nat.beq cs.length k = true) (h : Post (.agg cs) L) :
    AX P .ret (bodyPost P fn (ARet B Post)) nt [] fr B L := by
  unfold AX
  intro σ a w ha hw
  haveI := agI_spec ok hk
  obtain ⟨vs, hb, hs, h1⟩ := hw.boxCell hL
  have hl := Nat.eq_of_beq_eq_true hl
  refine ⟨ha.defers, _, results_cell (cs := vs) hr (ha.look t _ hv).sc_inv (hs.1.symm.trans hl) (fun j v hj => by rw [cell_of hb, Nat.zero_add]; simpa using hj), _, σ, _, L, rfl, .agg cs vs hs.1 hs.2 h1, hw, h⟩
end
def lawG (name : ByteArray) (mark : Bool) (parts : List FPart) : FGlyph := ⟨name, 0, mark, [], [], parts, [], [], []⟩
def lawFont : FFont := ⟨1000, [lawG ⟨#[46, 110, 111, 116, 100, 101, 102]⟩ false [], lawG ⟨#[97]⟩ false [], lawG ⟨#[98]⟩ false [], lawG ⟨#[99]⟩ false [⟨1, 0, 0⟩], lawG ⟨#[109]⟩ true []], [⟨1, 1⟩, ⟨2, 2⟩, ⟨3, 3⟩],
  [⟨3, false, [⟨[], [[1], [2]], [], [3], [], 0⟩]⟩, ⟨4, false, [⟨[], [[1]], [], [], [⟨0, 0⟩], 0⟩]⟩], [⟨⟨#[108, 105, 103, 97]⟩, [0]⟩, ⟨⟨#[99, 97, 108, 116]⟩, [1]⟩], [], [], [], []⟩
set_option maxHeartbeats 2000000 in
theorem font24 : ADet Tryz.prog 24 [] (aFont lawFont) := by
  refine ac_of Tryz.func24 rfl Tryz.ntmps24 rfl fun B => ?_
  (repeat' (first|refine at_seq ?_|refine at_region ?_|refine at_ret ?_|refine ax_then ?_|refine atl_nil ?_|refine n_run ttok rfl rfl ?_|(apply s_store; first|refine n_store ttok 0 rfl rfl rfl rfl rfl rfl rfl ?_|refine n_store ttok 1 rfl rfl rfl rfl rfl rfl rfl ?_|refine n_store ttok 2 rfl rfl rfl rfl rfl rfl rfl ?_|refine n_store ttok 3 rfl rfl rfl rfl rfl rfl rfl ?_|fail)|refine n_alloc ttok fun _=>?_|refine n_litI ttok ?_|fail))
  refine ax_turn (turn_cells 0 (cs' := cFont lawFont) rfl fun σ vs h => VLs.vrs ?_ h) (ax_retC ttok 0 rfl rfl rfl rfl rfl rfl)
  repeat' first | exact VLe.refl _ | exact VLe.nil _ | exact True.intro | refine VLe.agg ?_ | refine VLe.imm ?_ | refine And.intro ?_ ?_
instance : AD Tryz.prog 24 [] (aFont lawFont) := ⟨font24⟩
theorem lawSmall : Small lawFont := by
  unfold Small
  decide
theorem lawAcyc : Acyc lawFont.Glyphs.length (prt lawFont) := by
  refine ⟨fun z => if z = 3 then 1 else 0, fun g h0 h1 p hp => ?_⟩
  have h1 : g < 5 := h1
  have : g = 0 ∨ g = 1 ∨ g = 2 ∨ g = 3 ∨ g = 4 := by omega
  rcases this with rfl | rfl | rfl | rfl | rfl
  · rw [show prt lawFont 0 = [] by decide] at hp; cases hp
  · rw [show prt lawFont 1 = [] by decide] at hp; cases hp
  · rw [show prt lawFont 2 = [] by decide] at hp; cases hp
  · rw [show prt lawFont 3 = [1] by decide] at hp
    rw [List.mem_singleton.1 hp]
    decide
  · rw [show prt lawFont 4 = [] by decide] at hp; cases hp
theorem lawGlyphs : (someL 400 lawFont.Glyphs (glyphAtE lawFont)).1 = 0 := by decide
theorem lawHead : headE lawFont = 0 := by decide
theorem lawChars : (someL 1000 lawFont.Chars (charAtE lawFont)).1 = 0 := by decide
theorem lawLooks : (someL 40 lawFont.Lookups (lookAtE lawFont)).1 = 0 := by decide
theorem lawFeats : (someL 20 lawFont.Features (featAtE lawFont)).1 = 0 := by decide
theorem lawDeep : DeepOk lawFont (fun z => if z = 3 then 1 else 0) (fun z => 0) := by
  intro z h0 h1 gl hgl
  have h1 : z < 5 := h1
  have : z = 0 ∨ z = 1 ∨ z = 2 ∨ z = 3 ∨ z = 4 := by omega
  rcases this with rfl | rfl | rfl | rfl | rfl <;> (injection hgl with e; subst e; exact ⟨by decide, by decide⟩)
theorem lawFontE : (fontE lawFont).1 = 0 := by
  refine firstE_zero_iff.2 fun x hx => ?_
  have hc : (compV lawFont).1 = 0 := by
    rw [compV_eq (few_of_glyphs lawGlyphs) lawAcyc lawDeep]
    decide
  simp only [fontL, List.mem_cons, List.not_mem_nil, or_false] at hx
  rcases hx with rfl | rfl | rfl | rfl | rfl | rfl | rfl | rfl | rfl | rfl
  · exact lawHead
  · exact lawGlyphs
  · exact hc
  · exact lawChars
  · exact lawLooks
  · exact lawFeats
  · rfl
  · rfl
  · rfl
  · rfl
end Go.Proofs.YtpbinloeemebkaaGreat

namespace Go.Proofs.YtpbinloeemebkaaGreat
open Go.RowKit
attribute [local irreducible] AT ATL AX AO Av Kt ALoopK OkA DA DA1
section
variable {P : Program} {tt : TT} {nt : Nat} {fr : AFr} {B : Bs} {L L' : AL}
theorem ax_retS (ok : TOk P tt) (i : Nat) (L' : AL) {fn : Func} {Post : AV → AL → Prop} {t : Tmp} {e e' : TypeId} {b k : Nat} {cs : List AV} (hr : fn.results = #[.cell t e]) (hk : agI tt e = some k) (hv : alook fr t = some (.sc (.pointer (some ⟨b, 0, none⟩)))) (hL : L[i]? = some (b, .box cs e')) (hl : Nat.beq cs.length k = true) (hs : L'.Sublist L) (h : Post (.agg cs) L') :
    AX P .ret (bodyPost P fn (ARet B Post)) nt [] fr B L := by
  unfold AX
  intro σ a w ha hw
  haveI := agI_spec ok hk
  obtain ⟨vs, hb, hs', h1⟩ := hw.boxCell hL
  have hl := Nat.eq_of_beq_eq_true hl
  refine ⟨ha.defers, _, results_cell (cs := vs) hr (ha.look t _ hv).sc_inv (hs'.1.symm.trans hl) (fun j v hj => by rw [cell_of hb, Nat.zero_add]; simpa using hj), _, σ, _, L', rfl, .agg cs vs hs'.1 hs'.2 h1, hw.sublist hs, h⟩
theorem VLe.im {k : Option (Nat × Nat)} {sz : Nat} {l : List (List AV)} : VLe (.vec k sz l) (.imm sz l) := fun _ _ h => VR.im h
theorem VLe.vecN (n : Nat) : VLe (.sc (.slice none 0 0)) (.vec none n []) := fun _ _ h => vr_nil n h
end
section
variable {P : Program} {r : Option Nat} {Q : Exit → Act → World → Prop} {nt : Nat} {D : List Deferred} {fr fr1 : AFr} {B : Bs} {L : AL}
theorem at_mid {A C : Code} (ks : List Nat) (L1 : AL) (hk : akeep fr ks = some fr1) (hA : ∀ Q', (∀ fr', akeep fr' ks = some fr1 → AX P .normal Q' nt D fr' B L1) → AT P r A Q' nt D fr B L) (hB : AT P r C Q nt D fr1 B L1) : AT P r A (Kt P r C Q) nt D fr B L :=
  hA _ fun _ h => ax_then (at_keep ks h hB)
end
theorem p_t1 {A T R : AL} : (A ++ (T ++ R)).Perm (T ++ (A ++ R)) := List.perm_append_comm_assoc ..
theorem p_t2 {A T1 T R : AL} : (A ++ (T1 ++ (T ++ R))).Perm (T ++ (A ++ (T1 ++ R))) := by
  have := p_t1 (A := A ++ T1) (T := T) (R := R)
  simpa [List.append_assoc] using this
end Go.Proofs.YtpbinloeemebkaaGreat

namespace Go.Proofs.YtpbinloeemebkaaGreat
open Go.RowKit
attribute [local irreducible] AT ATL AX AO Av Kt ALoopK OkA DA DA1
variable (s : List Int) (hs : s.length ≤ 1000000) (F : MF)
include hs
abbrev nilV : AV := .sc (.slice none 0 0)
set_option maxHeartbeats 8000000 in
theorem outline_mdet : MDet 122 [] s F (outlineD s) outA := by
  intro b m
  refine ac_of Tryz.func122 rfl Tryz.ntmps122 rfl fun B => ?_
  (repeat' (first|refine at_seq ?_|refine at_region ?_|refine ax_then ?_|refine atl_nil ?_|refine n_run ttok rfl rfl ?_|refine n_alloc ttok fun _=>?_|fail))
  rename_i rb ob
  refine atl_turn (turn_perm (L' := mkB b s F m :: (ob, .box [nilV, nilV] 58) :: (rb, .box [nilV, nilV] 58) :: []) (List.perm_append_comm (l₁ := [_, _]))) ?_
  refine atl_turn (turn_cells 1 (cs' := [.vec none 3 [], .vec none 1 []]) rfl fun σ vs h => VLs.vrs (a := [nilV, nilV]) (b := [.vec none 3 [], .vec none 1 []]) ⟨VLe.vecN 3, VLe.vecN 1, trivial⟩ h) ?_
  refine n_next ?_
  have hk := draw_bd s hs m.a (n := 3) (by omega)
  have hk : 0 ≤ (dr s 3 m).1 ∧ (dr s 3 m).1 < 3 := hk
  generalize e1 : dr s 3 m = p1 at hk ⊢
  obtain ⟨k, hkk⟩ : ∃ k : Nat, p1.1 = k := ⟨p1.1.toNat, by omega⟩
  rw [hkk]
  have hok : ∀ i, OutOk i (outsD s i p1.2).1 := fun i => outsD_ok s i p1.2
  (repeat' (first|refine at_seq ?_|refine at_region ?_|refine at_block ?_|refine ax_then ?_|refine atl_nil ?_|refine n_run ttok rfl rfl ?_|fail))
  refine at_loopK [0, 2, 3, 4] (α := Nat × Option (Nat × Nat) × Option (Nat × Nat)) (fun x => [(5, I64 x.1)]) (fun x => x.1 ≤ k) (fun x => mkB b s F (outsD s x.1 p1.2).2 :: (ob, .box [.vec x.2.1 3 ((outsD s x.1 p1.2).1.1.map cPoint), .vec x.2.2 1 (ints (outsD s x.1 p1.2).1.2)] 58) :: (rb, .box [nilV, nilV] 58) :: (tok x.2.1 282 3 ((outsD s x.1 p1.2).1.1.map cPoint).length ++ (tok x.2.2 3 1 (ints (outsD s x.1 p1.2).1.2).length ++ []))) (fun x => k - x.1) (0, none, none) rfl ⟨rfl, trivial⟩ (Nat.zero_le _) (fun _ _ h => by simpa [outsD, runs, ret, tok, aput, ints] using h) ?_
  rintro ⟨i, q1, q2⟩ hi
  dsimp only at hi ⊢
  try dsimp only [List.cons_append, List.nil_append, List.map_cons, List.map_nil]
  (repeat' (first|refine at_seq ?_|refine at_region ?_|refine ax_then ?_|refine atl_nil ?_|refine n_run ttok rfl rfl ?_|fail))
  refine at_cond rfl (fun h => ?_) (fun h => ?_)
  · have hil : i < k := by have := of_decide_eq_true h; omega
    have hoi := hok i
    have hoi1 := hok (i + 1)
    have hstep : outsD s (i + 1) p1.2 = bnd (dr s 4) (fun k => bnd (ptsD s (outsD s i p1.2).1.1 (2 + k).toNat) fun l => ret (l, (outsD s i p1.2).1.2 ++ [(l.length : Int) - 1])) (outsD s i p1.2).2 := rfl
    rw [hstep] at hoi1
    generalize outsD s i p1.2 = st at hoi hoi1 hstep ⊢
    have hln := hoi.len
    have hle := hoi.endl
    (repeat' (first|refine at_seq ?_|refine at_region ?_|refine at_block ?_|refine at_skip ?_|refine ax_then ?_|refine n_run ttok rfl rfl ?_|fail))
    refine n_next ?_
    have hc := draw_bd s hs st.2.a (n := 4) (by omega)
    have hc : 0 ≤ (dr s 4 st.2).1 ∧ (dr s 4 st.2).1 < 4 := hc
    unfold bnd at hstep hoi1
    generalize dr s 4 st.2 = p2 at hc hstep hoi1 ⊢
    obtain ⟨c, hcc⟩ : ∃ k : Nat, 2 + p2.1 = k := ⟨(2 + p2.1).toNat, by omega⟩
    dsimp only at hstep hoi1
    rw [hcc] at hstep hoi1
    dsimp only [Int.toNat_natCast] at hstep hoi1
    (repeat' (first|refine at_seq ?_|refine at_region ?_|refine at_block ?_|refine ax_then ?_|refine atl_nil ?_|refine n_run ttok rfl rfl ?_|(apply s_bin; refine n_bin ?_)|fail))
    rw [hcc]
    have hpt : ∀ j, (ptsD s st.1.1 j p2.2).1.length = st.1.1.length + j := fun j => (ptsD_ok s st.1.1 hoi.pts j p2.2).1
    refine at_loopK [0, 2, 3, 4, 5, 6] (α := Nat × Option (Nat × Nat)) (fun x => [(7, I64 x.1)]) (fun x => x.1 ≤ c) (fun x => mkB b s F (ptsD s st.1.1 x.1 p2.2).2 :: (ob, .box [.vec x.2 3 ((ptsD s st.1.1 x.1 p2.2).1.map cPoint), .vec q2 1 (ints st.1.2)] 58) :: (rb, .box [nilV, nilV] 58) :: (tok x.2 282 3 ((ptsD s st.1.1 x.1 p2.2).1.map cPoint).length ++ (tok q2 3 1 (ints st.1.2).length ++ []))) (fun x => c - x.1) (0, q1) rfl ⟨rfl, trivial⟩ (Nat.zero_le _) (fun _ _ h => h) ?_
    rintro ⟨j, q⟩ hj
    dsimp only at hj ⊢
    try dsimp only [List.cons_append, List.nil_append, List.map_cons, List.map_nil]
    (repeat' (first|refine at_seq ?_|refine at_region ?_|refine ax_then ?_|refine atl_nil ?_|refine n_run ttok rfl rfl ?_|fail))
    refine at_cond rfl (fun h => ?_) (fun h => ?_)
    · have hjl : j < c := by have := of_decide_eq_true h; omega
      have hl0 := hpt j
      have hstep2 : ptsD s st.1.1 (j + 1) p2.2 = ((ptsD s st.1.1 j p2.2).1 ++ [(ptD s j (ptsD s st.1.1 j p2.2).2).1], (ptD s j (ptsD s st.1.1 j p2.2).2).2) := rfl
      generalize ptsD s st.1.1 j p2.2 = u at hl0 hstep2 ⊢
      (repeat' (first|refine at_seq ?_|refine at_block ?_|refine at_skip ?_|refine ax_then ?_|fail))
      refine at_drawG [(ob, 0, .vec q 3 (u.1.map cPoint))] 19 [(0, .v), (1, .k), (2, .v), (6, .v), (10, .v), (11, .v), (3, .f), (4, .v), (5, .v), (7, .f), (8, .v), (9, .v), (12, .v), (13, .v), (14, .f), (15, .v), (16, .v), (17, .v), (18, .v)] none ?_ trivial rfl (by kernel_rfl) (by kernel_rfl) (by kernel_rfl) mixed (by kernel_rfl) rfl
      (repeat' (first|refine da_open ?_|refine d_run ttok ?_|fail))
      refine d_loadK ttok 0 rfl rfl rfl (kept_cons 1 rfl rfl kept_nil) (by first | trivial | rfl) ?_
      (repeat' (first|refine da_open ?_|refine d_run ttok ?_|fail))
      refine d_nextK (kept_cons 1 rfl rfl kept_nil) ?_
      have hx := draw_bd s hs u.2.a (n := 21) (by omega)
      have hx : 0 ≤ (dr s 21 u.2).1 ∧ (dr s 21 u.2).1 < 21 := hx
      generalize e2 : dr s 21 u.2 = x1 at hx ⊢
      (repeat' (first|refine da_open ?_|(apply ds_bin;refine d_bin ?_)|fail))
      refine d_nextK (kept_cons 1 rfl rfl kept_nil) ?_
      have hy := draw_bd s hs x1.2.a (n := 21) (by omega)
      have hy : 0 ≤ (dr s 21 x1.2).1 ∧ (dr s 21 x1.2).1 < 21 := hy
      generalize e3 : dr s 21 x1.2 = y1 at hy ⊢
      (repeat' (first|refine da_open ?_|refine d_run ttok ?_|(apply ds_bin;refine d_bin ?_)|fail))
      by_cases hp : j = 0
      · rw [decide_eq_true (show ((j : Int) = 0) by omega)]
        (repeat' (first|refine da_open ?_|refine da_no rfl rfl ?_|fail))
        refine da_noF rfl rfl ?_
        have hpd : ptD s j u.2 = (⟨x1.1 * 50 - 100, y1.1 * 50 - 200, true⟩, y1.2) := by simp [ptD, bnd, ret, e2, e3, hp]
        rw [hpd] at hstep2
        dsimp only at hstep2
        (repeat' (first|refine da_open ?_|refine d_run ttok ?_|refine d_lit ttok ?_|refine da_no rfl rfl ?_|fail))
        refine da_end [0, 2, 3, 4, 5, 6, 7, 24, 41] rfl rfl ?_
        (repeat' (first|fail))
        refine n_append ttok _ rfl rfl rfl rfl (p_t1 (A := [_, _, _])) (by simp; omega) (by simp; omega) rfl fun q' => ?_
        refine atl_turn (turn_perm (p_t1 (A := [_, _, _])).symm) ?_
        (repeat' (first|refine at_region ?_|refine ax_then ?_|refine ax_blk ?_|refine atl_nil ?_|refine n_run ttok rfl rfl ?_|(apply s_bin; refine n_bin ?_)|(apply s_store; first|refine n_store ttok 0 rfl rfl rfl rfl rfl rfl rfl ?_|refine n_store ttok 1 rfl rfl rfl rfl rfl rfl rfl ?_|refine n_store ttok 2 rfl rfl rfl rfl rfl rfl rfl ?_|refine n_store ttok 3 rfl rfl rfl rfl rfl rfl rfl ?_|fail)|fail))
        exact ax_roundK (j + 1, q') rfl ⟨by rw [Int.natCast_add]; rfl, trivial⟩ (by dsimp only; omega) (by dsimp only; omega) (fun _ _ h => by dsimp only; rw [hstep2]; simpa [aput, putA, cPoint] using h)
      · rw [decide_eq_false (show ¬ ((j : Int) = 0) by omega)]
        (repeat' (first|refine da_open ?_|refine d_run ttok ?_|fail))
        refine d_nextK (kept_cons 1 rfl rfl kept_nil) ?_
        generalize e4 : dr s 4 y1.2 = z1
        have hpd : ptD s j u.2 = (⟨x1.1 * 50 - 100, y1.1 * 50 - 200, decide (0 < z1.1)⟩, z1.2) := by simp [ptD, bnd, ret, e2, e3, e4, hp]
        rw [hpd] at hstep2
        dsimp only at hstep2
        (repeat' (first|refine da_open ?_|refine d_run ttok ?_|refine d_lit ttok ?_|fail))
        refine da_end [0, 2, 3, 4, 5, 6, 7, 24, 41] rfl rfl ?_
        (repeat' (first|fail))
        refine n_append ttok _ rfl rfl rfl rfl (p_t1 (A := [_, _, _])) (by simp; omega) (by simp; omega) rfl fun q' => ?_
        refine atl_turn (turn_perm (p_t1 (A := [_, _, _])).symm) ?_
        (repeat' (first|refine at_region ?_|refine ax_then ?_|refine ax_blk ?_|refine atl_nil ?_|refine n_run ttok rfl rfl ?_|(apply s_bin; refine n_bin ?_)|(apply s_store; first|refine n_store ttok 0 rfl rfl rfl rfl rfl rfl rfl ?_|refine n_store ttok 1 rfl rfl rfl rfl rfl rfl rfl ?_|refine n_store ttok 2 rfl rfl rfl rfl rfl rfl rfl ?_|refine n_store ttok 3 rfl rfl rfl rfl rfl rfl rfl ?_|fail)|fail))
        exact ax_roundK (j + 1, q') rfl ⟨by rw [Int.natCast_add]; rfl, trivial⟩ (by dsimp only; omega) (by dsimp only; omega) (fun _ _ h => by dsimp only; rw [hstep2]; simpa [aput, putA, cPoint] using h)
    have hjl : j = c := by have := of_decide_eq_false h; omega
    subst hjl
    have hjn := hpt j
    generalize ptsD s st.1.1 j p2.2 = u at hjn hstep hoi1 ⊢
    have hul : (u.1.map cPoint).length = u.1.length := List.length_map ..
    have hel : (ints st.1.2).length = st.1.2.length := ints_len _
    (repeat' (first|refine at_region ?_|refine at_exit ?_|refine ax_then ?_|refine ax_then_exit ?_|refine ax_blk_exit ?_|refine ax_loop_exit ?_|refine n_run ttok rfl rfl ?_|(apply s_load; first|refine n_load ttok 0 rfl rfl rfl rfl rfl ?_|refine n_load ttok 1 rfl rfl rfl rfl rfl ?_|refine n_load ttok 2 rfl rfl rfl rfl rfl ?_|refine n_load ttok 3 rfl rfl rfl rfl rfl ?_|refine n_loadA ttok 0 rfl rfl rfl rfl rfl ?_|refine n_loadA ttok 1 rfl rfl rfl rfl rfl ?_|refine n_loadA ttok 2 rfl rfl rfl rfl rfl ?_|refine n_load ttok 1 rfl rfl rfl (by assumption) rfl ?_|refine n_load ttok 0 rfl rfl rfl (by assumption) rfl ?_|fail)|(apply s_bin; refine n_bin ?_)|refine n_litI ttok ?_|fail))
    refine n_append ttok _ rfl rfl rfl rfl (p_t2 (A := [_, _, _])) (by simp [ints_len]; omega) (by simp [ints_len]; omega) rfl fun q' => ?_
    refine atl_turn (turn_perm (p_t2 (A := [_, _, _])).symm) ?_
    (repeat' (first|refine at_region ?_|refine ax_then ?_|refine ax_blk ?_|refine atl_nil ?_|refine n_run ttok rfl rfl ?_|(apply s_bin; refine n_bin ?_)|(apply s_store; first|refine n_store ttok 0 rfl rfl rfl rfl rfl rfl rfl ?_|refine n_store ttok 1 rfl rfl rfl rfl rfl rfl rfl ?_|refine n_store ttok 2 rfl rfl rfl rfl rfl rfl rfl ?_|refine n_store ttok 3 rfl rfl rfl rfl rfl rfl rfl ?_|fail)|fail))
    exact ax_roundK (i + 1, q, q') rfl ⟨by rw [Int.natCast_add]; rfl, trivial⟩ (by dsimp only; omega) (by dsimp only; omega) (fun _ _ h => by dsimp only; rw [hstep]; simpa [aput, putA, ret, ints, hul] using h)
  have hil : i = k := by have := of_decide_eq_false h; omega
  subst hil
  have hv : outlineD s m = outsD s i p1.2 := by
    unfold outlineD bnd
    rw [e1]
    dsimp only
    rw [hkk]
    rfl
  rw [hv]
  generalize outsD s i p1.2 = st
  (repeat' (first|refine at_seq ?_|refine at_region ?_|refine at_ret ?_|refine at_exit ?_|refine ax_then ?_|refine ax_then_exit ?_|refine ax_blk_exit ?_|refine ax_loop_exit ?_|refine atl_nil ?_|(apply s_load; first|refine n_load ttok 0 rfl rfl rfl rfl rfl ?_|refine n_load ttok 1 rfl rfl rfl rfl rfl ?_|refine n_load ttok 2 rfl rfl rfl rfl rfl ?_|refine n_load ttok 3 rfl rfl rfl rfl rfl ?_|refine n_loadA ttok 0 rfl rfl rfl rfl rfl ?_|refine n_loadA ttok 1 rfl rfl rfl rfl rfl ?_|refine n_loadA ttok 2 rfl rfl rfl rfl rfl ?_|refine n_load ttok 1 rfl rfl rfl (by assumption) rfl ?_|refine n_load ttok 0 rfl rfl rfl (by assumption) rfl ?_|fail)|(apply s_store; first|refine n_store ttok 0 rfl rfl rfl rfl rfl rfl rfl ?_|refine n_store ttok 1 rfl rfl rfl rfl rfl rfl rfl ?_|refine n_store ttok 2 rfl rfl rfl rfl rfl rfl rfl ?_|refine n_store ttok 3 rfl rfl rfl rfl rfl rfl rfl ?_|fail)|fail))
  refine ax_turn (turn_cells 2 (cs' := [.imm 3 (st.1.1.map cPoint), .imm 1 (ints st.1.2)]) rfl fun σ vs h => VLs.vrs (a := [.vec q1 3 (st.1.1.map cPoint), .vec q2 1 (ints st.1.2)]) (b := [.imm 3 (st.1.1.map cPoint), .imm 1 (ints st.1.2)]) ⟨VLe.im, VLe.im, trivial⟩ h) (ax_retS ttok 2 [mkB b s F st.2] rfl rfl rfl rfl rfl (List.Sublist.cons_cons _ (List.nil_sublist _)) ⟨rfl, rfl⟩)
end Go.Proofs.YtpbinloeemebkaaGreat

namespace Go.Proofs.YtpbinloeemebkaaGreat
open Go.RowKit
attribute [local irreducible] AT ATL AX AO Av Kt ALoopK OkA DA DA1
variable (s : List Int) (hs : s.length ≤ 1000000) (F : MF)
include hs
theorem more_len (a : Int) (m : MS) (k : Nat) : (moreD s a k m).1.length ≤ 1 + k := by
  have _ := hs
  clear hs
  refine (DOk.runs (fun i (l : List Int) => l.length ≤ 1 + i) k (by simp) fun i l _ h => DOk.ite (fun _ => (DOk.any _).bnd fun z _ => DOk.ret ?_) fun _ => DOk.ret (by omega)) m
  split
  · simp; omega
  · omega
theorem more_stop (a : Int) (m : MS) {j : Nat} (h : 4 ≤ (moreD s a j m).1.length) : ∀ k, j ≤ k → moreD s a k m = moreD s a j m := by
  have _ := hs
  clear hs
  intro k hk
  induction k with
  | zero => rw [show j = 0 by omega]
  | succ k ih =>
    by_cases e : j = k + 1
    · rw [e]
    · have h1 := ih (by omega)
      have h2 : moreD s a (k + 1) m = (if (moreD s a k m).1.length < 4 then bnd (dr s 3) fun z => ret (if z = 0 then (moreD s a k m).1 ++ [a + 1 + k] else (moreD s a k m).1) else ret (moreD s a k m).1) (moreD s a k m).2 := rfl
      rw [h2, h1, if_neg (by omega)]
      rfl
def setA (l : List Int) : AV := .imm 1 (ints l)
def rowA (l : List (List Int)) : AV := .imm 1 (rowsI l)
set_option maxHeartbeats 4000000 in
theorem set_mdet {kg : Option (Nat × Nat)} {gl : List (List AV)} (hF : F.gl = .vec kg 9 gl) (n : Nat) (hn : gl.length = n) (h0 : 0 < n ∧ n ≤ 1000) : MDet 204 [] s F (setD s n) setA := by
  intro b m
  refine ac_of Tryz.func204 rfl Tryz.ntmps204 rfl fun B => ?_
  (repeat' (first|refine at_seq ?_|refine at_region ?_|refine ax_then ?_|refine atl_nil ?_|refine n_run ttok rfl rfl ?_|(apply s_load; first|refine n_load ttok 0 rfl rfl rfl rfl rfl ?_|refine n_load ttok 1 rfl rfl rfl rfl rfl ?_|refine n_load ttok 2 rfl rfl rfl rfl rfl ?_|refine n_load ttok 3 rfl rfl rfl rfl rfl ?_|refine n_loadA ttok 0 rfl rfl rfl rfl rfl ?_|refine n_loadA ttok 1 rfl rfl rfl rfl rfl ?_|refine n_loadA ttok 2 rfl rfl rfl rfl rfl ?_|refine n_load ttok 1 rfl rfl rfl (by assumption) rfl ?_|refine n_load ttok 0 rfl rfl rfl (by assumption) rfl ?_|fail)|fail))
  rw [hF]
  (repeat' (first|refine at_seq ?_|refine at_region ?_|refine ax_then ?_|refine atl_nil ?_|refine n_run ttok rfl rfl ?_|fail))
  rw [hn]
  refine n_next ?_
  have hk := draw_bd s hs m.a (n := n) (by omega)
  have hk : 0 ≤ (dr s n m).1 ∧ (dr s n m).1 < n := hk
  generalize e1 : dr s n m = p1 at hk ⊢
  (repeat' (first|refine at_seq ?_|refine at_region ?_|refine at_block ?_|refine ax_then ?_|refine atl_nil ?_|refine n_run ttok rfl rfl ?_|(apply s_bin; refine n_bin ?_)|refine n_lit (d := 17) ttok fun _=>?_|fail))
  rename_i kb
  refine at_turn (turn_perm (L' := [mkB b s F p1.2] ++ (tok (some (kb, 1)) 3 1 1 ++ [])) (List.perm_append_comm (l₁ := [_]))) ?_
  have hmx : ∀ j, (moreD s p1.1 j p1.2).1.length ≤ 1 + j := fun j => more_len s hs _ _ j
  refine at_loopK [0, 3] (α := Nat × Option (Nat × Nat)) (fun x => [(6, I64 (p1.1 + 1 + x.1)), (5, .vec x.2 1 (ints (moreD s p1.1 x.1 p1.2).1))]) (fun x => x.1 ≤ (n - (p1.1 + 1)).toNat) (fun x => [mkB b s F (moreD s p1.1 x.1 p1.2).2] ++ (tok x.2 3 1 (ints (moreD s p1.1 x.1 p1.2).1).length ++ [])) (fun x => (n - (p1.1 + 1)).toNat - x.1) (0, some (kb, 1)) rfl ⟨by simp [alook], rfl, trivial⟩ (Nat.zero_le _) (fun _ _ h => h) ?_
  rintro ⟨j, q⟩ hj
  dsimp only at hj ⊢
  have hl := hmx j
  have hstop := more_stop s hs p1.1 p1.2 (j := j)
  have hstep : moreD s p1.1 (j + 1) p1.2 = (if (moreD s p1.1 j p1.2).1.length < 4 then bnd (dr s 3) fun z => ret (if z = 0 then (moreD s p1.1 j p1.2).1 ++ [p1.1 + 1 + j] else (moreD s p1.1 j p1.2).1) else ret (moreD s p1.1 j p1.2).1) (moreD s p1.1 j p1.2).2 := rfl
  have hv : setD s n m = moreD s p1.1 (n - (p1.1 + 1)).toNat p1.2 := by
    unfold setD bnd
    rw [e1]
  generalize e2 : moreD s p1.1 j p1.2 = st at hl hstop hstep ⊢
  have hil : (ints st.1).length = st.1.length := ints_len _
  try dsimp only [List.cons_append, List.nil_append, List.map_cons, List.map_nil]
  (repeat' (first|refine at_seq ?_|refine at_region ?_|refine n_run ttok rfl rfl ?_|fail))
  by_cases hlt : p1.1 + 1 + (j : Int) < (n : Int)
  · rw [decide_eq_true hlt]
    (repeat' (first|refine ax_then ?_|refine atl_nil ?_|refine n_run ttok rfl rfl ?_|refine atl_guard_yes rfl rfl ?_|fail))
    refine at_cond rfl (fun h => ?_) (fun h => ?_)
    · have h4 : st.1.length < 4 := by have := of_decide_eq_true h; omega
      (repeat' (first|refine at_seq ?_|refine at_region ?_|refine at_block ?_|refine at_skip ?_|refine ax_then ?_|refine n_run ttok rfl rfl ?_|fail))
      rw [if_pos h4] at hstep
      unfold bnd at hstep
      refine n_next ?_
      generalize dr s 3 st.2 = z at hstep ⊢
      dsimp only at hstep
      (repeat' (first|refine ax_then ?_|refine atl_nil ?_|refine n_run ttok rfl rfl ?_|fail))
      refine at_cond rfl (fun hz => ?_) (fun hz => ?_)
      · rw [if_pos (of_decide_eq_true hz)] at hstep
        (repeat' (first|refine at_region ?_|refine n_run ttok rfl rfl ?_|refine n_litI ttok ?_|fail))
        refine n_append ttok _ rfl rfl rfl rfl (p_t1 (A := [_])) (by simp [ints_len]; omega) (by simp [ints_len]; omega) rfl fun q' => ?_
        refine atl_turn (turn_perm (p_t1 (A := [_])).symm) ?_
        (repeat' (first|refine at_region ?_|refine ax_then ?_|refine ax_blk ?_|refine atl_nil ?_|refine n_run ttok rfl rfl ?_|(apply s_bin; refine n_bin ?_)|fail))
        exact ax_roundK (j + 1, q') rfl ⟨by dsimp only; rw [show p1.1 + 1 + ((j + 1 : Nat) : Int) = p1.1 + 1 + (j : Int) + 1 by omega]; rfl, by rw [hstep]; dsimp only [ret]; rw [show ints (st.1 ++ [p1.1 + 1 + (j : Int)]) = ints st.1 ++ [[I64 (p1.1 + 1 + (j : Int))]] from List.map_append ..]; rfl, trivial⟩ (by dsimp only; omega) (by dsimp only; omega) (fun _ _ h => by dsimp only; rw [hstep]; simpa [ret, ints] using h)
      · rw [if_neg (of_decide_eq_false hz)] at hstep
        (repeat' (first|refine at_region ?_|refine at_skip ?_|refine ax_then ?_|refine ax_blk ?_|refine atl_nil ?_|refine n_run ttok rfl rfl ?_|(apply s_bin; refine n_bin ?_)|fail))
        exact ax_roundK (j + 1, q) rfl ⟨by dsimp only; rw [show p1.1 + 1 + ((j + 1 : Nat) : Int) = p1.1 + 1 + (j : Int) + 1 by omega]; rfl, by rw [hstep]; rfl, trivial⟩ (by dsimp only; omega) (by dsimp only; omega) (fun _ _ h => by dsimp only; rw [hstep]; simpa [ret] using h)
    · have h4 : ¬ st.1.length < 4 := by have := of_decide_eq_false h; omega
      (repeat' (first|refine at_seq ?_|refine at_region ?_|refine at_ret ?_|refine at_exit ?_|refine ax_then ?_|refine ax_then_exit ?_|refine ax_blk_exit ?_|refine ax_loop_exit ?_|refine atl_nil ?_|refine n_run ttok rfl rfl ?_|fail))
      refine ax_turn (turn_sub (L' := [mkB b s F st.2]) (List.Sublist.cons_cons _ (List.nil_sublist _))) ?_
      refine ax_turn (turn_val (t := 2) (c' := .imm 1 (ints st.1)) rfl fun σ v h => VR.im h) (ax_ret1 rfl rfl ?_)
      rw [hv, hstop (by omega) _ hj]
      exact ⟨rfl, rfl⟩
  · rw [decide_eq_false hlt]
    (repeat' (first|refine at_seq ?_|refine at_region ?_|refine at_ret ?_|refine at_exit ?_|refine ax_then ?_|refine ax_then_exit ?_|refine ax_blk_exit ?_|refine ax_loop_exit ?_|refine atl_nil ?_|refine n_run ttok rfl rfl ?_|refine atl_guard_no rfl rfl rfl rfl ?_|refine n_condF rfl ?_|fail))
    refine ax_turn (turn_sub (L' := [mkB b s F st.2]) (List.Sublist.cons_cons _ (List.nil_sublist _))) ?_
    refine ax_turn (turn_val (t := 2) (c' := .imm 1 (ints st.1)) rfl fun σ v h => VR.im h) (ax_ret1 rfl rfl ?_)
    rw [hv, show (n - (p1.1 + 1)).toNat = j by omega, e2]
    exact ⟨rfl, rfl⟩
theorem rowI_len (l : List (List Int)) : (rowsI l).length = l.length := by
  have _ := hs
  clear hs
  simp [rowsI]
set_option maxHeartbeats 2000000 in
theorem row_mdet {kg : Option (Nat × Nat)} {gl : List (List AV)} (hF : F.gl = .vec kg 9 gl) (n : Nat) (hn : gl.length = n) (h0 : 0 < n ∧ n ≤ 1000) (most : Int) (hm : 0 ≤ most ∧ most ≤ 6) : MDet 205 [I64 most] s F (rowD s n most) rowA := by
  intro b m
  refine ac_of Tryz.func205 rfl Tryz.ntmps205 rfl fun B => ?_
  (repeat' (first|refine at_seq ?_|refine at_region ?_|refine ax_then ?_|refine atl_nil ?_|refine n_run ttok rfl rfl ?_|(apply s_bin; refine n_bin ?_)|fail))
  refine n_next ?_
  have hk := draw_bd s hs m.a (n := most + 1) (by omega)
  have hk : 0 ≤ (dr s (most + 1) m).1 ∧ (dr s (most + 1) m).1 < most + 1 := hk
  generalize e1 : dr s (most + 1) m = p1 at hk ⊢
  obtain ⟨k, hkk⟩ : ∃ k : Nat, p1.1 = k := ⟨p1.1.toNat, by omega⟩
  rw [hkk]
  have hln : ∀ j, (rowsD s n j p1.2).1.length = j := fun j => by
    induction j with
    | zero => rfl
    | succ j ih => 
      have : rowsD s n (j + 1) p1.2 = ((rowsD s n j p1.2).1 ++ [(setD s n (rowsD s n j p1.2).2).1], (setD s n (rowsD s n j p1.2).2).2) := rfl
      rw [this]
      simp [ih]
  (repeat' (first|refine at_seq ?_|refine at_region ?_|refine at_block ?_|refine ax_then ?_|refine atl_nil ?_|refine n_run ttok rfl rfl ?_|fail))
  refine at_turn (turn_val (t := 5) (c' := .vec none 1 []) rfl fun σ v h => vr_nil 1 h) ?_
  refine at_loopK [0, 6] (α := Nat × Option (Nat × Nat)) (fun x => [(7, I64 x.1), (5, .vec x.2 1 (rowsI (rowsD s n x.1 p1.2).1))]) (fun x => x.1 ≤ k) (fun x => [mkB b s F (rowsD s n x.1 p1.2).2] ++ (tok x.2 29 1 (rowsI (rowsD s n x.1 p1.2).1).length ++ [])) (fun x => k - x.1) (0, none) rfl ⟨rfl, rfl, trivial⟩ (Nat.zero_le _) (fun _ _ h => h) ?_
  rintro ⟨j, q⟩ hj
  dsimp only at hj ⊢
  have hl := hln j
  have hstep : rowsD s n (j + 1) p1.2 = ((rowsD s n j p1.2).1 ++ [(setD s n (rowsD s n j p1.2).2).1], (setD s n (rowsD s n j p1.2).2).2) := rfl
  try dsimp only [List.cons_append, List.nil_append, List.map_cons, List.map_nil]
  (repeat' (first|refine at_seq ?_|refine at_region ?_|refine ax_then ?_|refine atl_nil ?_|refine n_run ttok rfl rfl ?_|fail))
  refine at_cond rfl (fun h => ?_) (fun h => ?_)
  · have hjl : j < k := by have := of_decide_eq_true h; omega
    generalize rowsD s n j p1.2 = st at hl hstep ⊢
    have hrl := rowI_len s hs st.1
    (repeat' (first|refine at_seq ?_|refine at_region ?_|refine at_block ?_|refine at_skip ?_|refine ax_then ?_|refine n_run ttok rfl rfl ?_|fail))
    refine n_md (set_mdet s hs F hF n hn h0) ?_
    generalize setD s n st.2 = y at hstep ⊢
    unfold setA
    (repeat' (first|refine n_litI ttok ?_|fail))
    refine n_append ttok _ rfl rfl rfl rfl (p_t1 (A := [_])) (by simp [rowI_len s hs]; omega) (by simp [rowI_len s hs]; omega) rfl fun q' => ?_
    refine atl_turn (turn_perm (p_t1 (A := [_])).symm) ?_
    (repeat' (first|refine at_region ?_|refine ax_then ?_|refine ax_blk ?_|refine atl_nil ?_|refine n_run ttok rfl rfl ?_|(apply s_bin; refine n_bin ?_)|fail))
    exact ax_roundK (j + 1, q') rfl ⟨by rw [Int.natCast_add]; rfl, by rw [hstep]; dsimp only; rw [show rowsI (st.1 ++ [y.1]) = rowsI st.1 ++ [[.imm 1 (ints y.1)]] from List.map_append ..]; rfl, trivial⟩ (by dsimp only; omega) (by dsimp only; omega) (fun _ _ h => by dsimp only; rw [hstep]; simpa [rowsI] using h)
  have hjl : j = k := by have := of_decide_eq_false h; omega
  subst hjl
  have hv : rowD s n most m = rowsD s n j p1.2 := by
    unfold rowD bnd
    rw [e1]
    dsimp only
    rw [hkk]
    rfl
  rw [hv]
  generalize rowsD s n j p1.2 = st
  (repeat' (first|refine at_seq ?_|refine at_region ?_|refine at_ret ?_|refine at_exit ?_|refine ax_then ?_|refine ax_then_exit ?_|refine ax_blk_exit ?_|refine ax_loop_exit ?_|refine atl_nil ?_|refine n_run ttok rfl rfl ?_|fail))
  refine ax_turn (turn_sub (L' := [mkB b s F st.2]) (List.Sublist.cons_cons _ (List.nil_sublist _))) ?_
  exact ax_turn (turn_val (t := 4) (c' := .imm 1 (rowsI st.1)) rfl fun σ v h => VR.im h) (ax_ret1 rfl rfl ⟨rfl, rfl⟩)
end Go.Proofs.YtpbinloeemebkaaGreat
