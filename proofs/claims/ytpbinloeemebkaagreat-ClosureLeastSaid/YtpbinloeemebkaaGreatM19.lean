/-
  The program: one step of a growth.
-/
import Derived.Test.YtpbinloeemebkaaGreatM18
namespace Go.Proofs.YtpbinloeemebkaaGreat
open Go.RowKit
attribute [local irreducible] AT ATL AX AO Av Kt ALoopK OkA DA DA1
def partsOf (f : FFont) (n : Int) : List Int := match f.Glyphs[n.toNat]? with | some g => g.Parts.map FPart.Glyph | none => []
def adv (f : FFont) (S : List Int) (h : Hop) : Hop := h.rest (seenB f S h.ign)
def tellAdds (f : FFont) (S : List Int) (h : Hop) : List Int := if (h.unmet.all fun s => s.any (seenB f S h.ign)) = true then tellN h (seenB f S h.ign) else []
def selfAdds (f : FFont) (S : List Int) : List Int := S.flatMap fun n => n :: partsOf f n
def stepN (f : FFont) (S : List Int) (hs : List Hop) : List Int := addN f.Glyphs.length [] (selfAdds f S ++ hs.flatMap (tellAdds f S))
def HopsOk (hs : List Hop) : Prop := ∀ h ∈ hs, h.rule.In ≠ [] ∧ h.rule.Out.length ≤ 1000000
theorem groP {f : FFont} {gp : Nat} {k : Option (Nat × Nat)} {hq : HQ} {A X M : AL} : (gro f gp k hq (A ++ (X ++ M))).Perm (X ++ gro f gp k hq (A ++ M)) := by
  unfold gro
  have h := List.perm_append_comm_assoc ((gp, AB.box (groC f k (hq.map (·.1))) 131) :: (tok k 133 1 (hq.map (·.1)).length ++ (hq.map hopB ++ A))) X M
  simpa using h
theorem groQ {f : FFont} {gp : Nat} {k : Option (Nat × Nat)} {h1 h2 : HQ} {x : Nat × Hop} {A Z : AL} : (gro f gp k (h1 ++ x :: h2) (A ++ Z)).Perm ((hopB x :: (gp, .box (groC f k ((h1 ++ x :: h2).map (·.1))) 131) :: A) ++ (tok k 133 1 ((h1 ++ x :: h2).map (·.1)).length ++ (h1.map hopB ++ (h2.map hopB ++ Z)))) := by
  unfold gro
  generalize (gp, AB.box (groC f k ((h1 ++ x :: h2).map (·.1))) 131) = a
  generalize tok k 133 1 ((h1 ++ x :: h2).map (·.1)).length = t
  simp only [List.map_append, List.map_cons]
  generalize h1.map hopB = u
  generalize h2.map hopB = v
  generalize hopB x = b
  have e1 : (a :: (t ++ ((u ++ b :: v) ++ (A ++ Z)))).Perm (a :: b :: ((t ++ (u ++ v)) ++ (A ++ Z))) := by
    refine List.Perm.cons _ ?_
    have : t ++ ((u ++ b :: v) ++ (A ++ Z)) = (t ++ u) ++ b :: (v ++ (A ++ Z)) := by simp
    rw [this]
    refine List.perm_middle.trans (List.Perm.cons _ (List.Perm.of_eq (by simp)))
  refine e1.trans ((List.Perm.swap ..).trans ?_)
  have e2 := List.perm_append_comm_assoc (t ++ (u ++ v)) A Z
  refine (List.Perm.cons _ (List.Perm.cons _ e2)).trans (List.Perm.of_eq (by simp))
theorem groR {f : FFont} {gp : Nat} {k : Option (Nat × Nat)} {hq : HQ} {A N M : AL} : (A ++ (N ++ (gro f gp k hq [] ++ M))).Perm (gro f gp k hq (A ++ (N ++ M))) := by
  have h := List.perm_append_comm_assoc (A ++ N) (gro f gp k hq []) M
  have e : gro f gp k hq (A ++ (N ++ M)) = gro f gp k hq [] ++ (A ++ N ++ M) := by unfold gro; simp
  rw [e]
  simpa using h
theorem selfAdds_take {f : FFont} {S : List Int} {i : Nat} {z : Int} (h : S[i]? = some z) : selfAdds f (S.take (i + 1)) = selfAdds f (S.take i) ++ (z :: partsOf f z) := by
  unfold selfAdds
  rw [List.take_add_one, h, Option.toList_some, List.flatMap_append]
  simp
theorem groS {f : FFont} {gp : Nat} {k : Option (Nat × Nat)} {h1 h2 : HQ} {x : Nat × Hop} {A N M : AL} : (gro f gp k (h1 ++ x :: h2) (A ++ (N ++ M))).Perm ((hopB x :: (gp, .box (groC f k ((h1 ++ x :: h2).map (·.1))) 131) :: A ++ N) ++ (tok k 133 1 ((h1 ++ x :: h2).map (·.1)).length ++ (h1.map hopB ++ (h2.map hopB ++ M)))) := by
  refine groQ.trans ?_
  generalize tok k 133 1 ((h1 ++ x :: h2).map (·.1)).length = t
  generalize hopB x :: (gp, AB.box (groC f k ((h1 ++ x :: h2).map (·.1))) 131) :: A = X
  have h := List.perm_append_comm_assoc (t ++ (h1.map hopB ++ h2.map hopB)) N M
  have h3 := List.Perm.append_left X h
  simpa using h3
theorem Small.parts {f : FFont} (hs : Small f) {g : FGlyph} (h : g ∈ f.Glyphs) : g.Parts.length ≤ 2000 := by
  have h1 := sum_mem (g := glyphN) h
  have h2 : glyphN g ≤ fontN f := by unfold fontN; omega
  have h3 : fontN f ≤ 2000 := hs
  unfold glyphN at h2
  omega
set_option maxHeartbeats 8000000 in
theorem step_ac (f : FFont) (hs : Small f) (gp ap ab : Nat) (kg ka : Option (Nat × Nat)) (hq : HQ) (S : List Int) (hS : SetOk f.Glyphs.length S) (hH : HopsOk (hq.map (·.2))) (hql : hq.length ≤ 100000000) : AC Tryz.prog 38 [Ptr gp, Ptr ap] (gro f gp kg hq (setGl ap ab f.Glyphs.length ka S)) fun c L => ∃ np nb kn hq', c = Ptr np ∧ L = gro f gp kg hq' (setGl ap ab f.Glyphs.length ka S ++ setGl np nb f.Glyphs.length kn (stepN f S (hq.map (·.2)))) ∧ hq'.map (·.1) = hq.map (·.1) ∧ hq'.map (·.2) = (hq.map (·.2)).map (adv f S) := by
  refine ac_ofM Tryz.func38 rfl Tryz.ntmps38 rfl fun B => ?_
  have hGl := hs.glyphs
  have hml : (f.Glyphs.map cGlyph).length = f.Glyphs.length := List.length_map ..
  have hSl := hS.len
  unfold gro groC
  (repeat' (first|refine at_seq ?_|refine at_region ?_|refine ax_then ?_|refine atl_nil ?_|refine n_run ttok rfl rfl ?_|(apply s_load; first|refine n_load ttok 0 rfl rfl rfl rfl rfl ?_|refine n_load ttok 1 rfl rfl rfl rfl rfl ?_|refine n_load ttok 2 rfl rfl rfl rfl rfl ?_|refine n_load ttok 3 rfl rfl rfl rfl rfl ?_|refine n_loadA ttok 0 rfl rfl rfl rfl rfl ?_|refine n_loadA ttok 1 rfl rfl rfl rfl rfl ?_|refine n_loadA ttok 2 rfl rfl rfl rfl rfl ?_|refine n_load ttok 1 rfl rfl rfl (by assumption) rfl ?_|refine n_load ttok 0 rfl rfl rfl (by assumption) rfl ?_|fail)|refine n_boxI ?_|fail))
  rw [hml]
  refine n_callA [] _ (newGl f.Glyphs.length (by omega)) rfl rfl (List.Perm.refl _) rfl fun c L1 ⟨np, nb, hc, hL⟩ => ?_
  subst hc; subst hL
  (repeat' (first|refine at_seq ?_|refine at_region ?_|refine at_block ?_|refine ax_then ?_|refine atl_nil ?_|refine n_run ttok rfl rfl ?_|(apply s_store; first|refine n_storeF 5 ttok 0 rfl rfl rfl rfl rfl rfl rfl rfl ?_|refine n_storeF 5 ttok 1 rfl rfl rfl rfl rfl rfl rfl rfl ?_|refine n_storeF 5 ttok 2 rfl rfl rfl rfl rfl rfl rfl rfl ?_|refine n_storeF 8 ttok 0 rfl rfl rfl rfl rfl rfl rfl rfl ?_|refine n_storeF 8 ttok 1 rfl rfl rfl rfl rfl rfl rfl rfl ?_|refine n_storeF 8 ttok 2 rfl rfl rfl rfl rfl rfl rfl rfl ?_|refine n_storeF 10 ttok 0 rfl rfl rfl rfl rfl rfl rfl rfl ?_|refine n_storeF 10 ttok 1 rfl rfl rfl rfl rfl rfl rfl rfl ?_|refine n_storeF 10 ttok 2 rfl rfl rfl rfl rfl rfl rfl rfl ?_|refine n_store ttok 0 rfl rfl rfl rfl rfl rfl rfl ?_|refine n_store ttok 1 rfl rfl rfl rfl rfl rfl rfl ?_|refine n_store ttok 2 rfl rfl rfl rfl rfl rfl rfl ?_|refine n_store ttok 3 rfl rfl rfl rfl rfl rfl rfl ?_|fail)|refine n_alloc ttok fun _=>?_|(apply s_call;refine n_call ?_)|fail))
  refine at_weak (fr' := [(20, .fn 68 [.iptr [Ptr ap]]), (2, .iptr [Ptr gp]), (3, .iptr [Ptr ap]), (5, .iptr [Ptr np])]) (L' := setGl ap ab f.Glyphs.length ka S ++ (setGl np nb f.Glyphs.length none [] ++ gro f gp kg hq [])) ⟨rfl, rfl, rfl, rfl, trivial⟩ (fun σ w h => ?_) ?_
  · have h1 : (setGl np nb f.Glyphs.length none [] ++ gro f gp kg hq (setGl ap ab f.Glyphs.length ka S)).Perm (setGl ap ab f.Glyphs.length ka S ++ (setGl np nb f.Glyphs.length none [] ++ gro f gp kg hq [])) := by
      have h2 := groP (f := f) (gp := gp) (k := kg) (hq := hq) (A := []) (X := setGl ap ab f.Glyphs.length ka S) (M := [])
      simp only [List.nil_append, List.append_nil] at h2
      exact (List.Perm.append_left _ h2).trans (List.perm_append_comm_assoc _ _ _)
    exact h.perm h1
  refine at_range (ps := [21]) rfl fun σ0 l db rec hrec => ?_
  have hy : ∀ (i : Nat) (x : List Int × Option (Nat × Nat)) (z : Int), (i ≤ S.length ∧ x.1 = addN f.Glyphs.length [] (selfAdds f (S.take i))) → S[i]? = some z → AY Tryz.prog σ0 l [I64 z] (setGl ap ab f.Glyphs.length ka S ++ (setGl np nb f.Glyphs.length x.2 x.1 ++ (gro f gp kg hq [] ++ ([(db, dfO)] ++ [(l, lpO rec)])))) fun c L => c = Bol true ∧ ∃ x' : List Int × Option (Nat × Nat), (i + 1 ≤ S.length ∧ x'.1 = addN f.Glyphs.length [] (selfAdds f (S.take (i + 1)))) ∧ L = setGl ap ab f.Glyphs.length ka S ++ (setGl np nb f.Glyphs.length x'.2 x'.1 ++ (gro f gp kg hq [] ++ ([(db, dfO)] ++ [(l, lpO rec)]))) := by
    rintro i ⟨T, kn⟩ z ⟨hi1, hT⟩ hz
    dsimp only at hi1 hT ⊢
    have hil := (List.getElem?_eq_some_iff.1 hz).1
    have hzr := hS.dom z (List.mem_of_getElem? hz)
    obtain ⟨gl, hgl⟩ : ∃ x, f.Glyphs[z.toNat]? = some x := ⟨_, List.getElem?_eq_getElem (by omega)⟩
    have hgm := List.mem_of_getElem? hgl
    have hgg := map_get (c := cGlyph) hgl
    have hpl := hs.parts hgm
    have hpm : (gl.Parts.map cPart).length = gl.Parts.length := List.length_map ..
    have hp0 : partsOf f z = gl.Parts.map FPart.Glyph := by unfold partsOf; rw [hgl]
    have hTok : SetOk f.Glyphs.length T := by rw [hT]; exact SetOk.nil.add _
    have hE : ∀ (T : List Int) kn, setGl ap ab f.Glyphs.length ka S ++ (setGl np nb f.Glyphs.length kn T ++ (gro f gp kg hq [] ++ ([(db, dfO)] ++ [(l, lpO rec)]))) = (setGl ap ab f.Glyphs.length ka S ++ (setGl np nb f.Glyphs.length kn T ++ (gro f gp kg hq [] ++ [(db, dfO)]))) ++ [(l, lpO rec)] := fun T kn => by simp
    rw [hE]
    refine ay_of hrec rfl rfl fun B1 hB1 => ?_
    (repeat' (first|refine at_region ?_|refine atl_nil ?_|refine n_run ttok rfl rfl ?_|fail))
    refine ax_begin hrec.state ?_
    refine at_turn (turn_perm (L' := gro f gp kg hq (setGl ap ab f.Glyphs.length ka S ++ (setGl np nb f.Glyphs.length kn T ++ ([(db, dfO)] ++ [(l, lpO { rec with state := .busy })])))) ?_) ?_
    · have := groR (f := f) (gp := gp) (k := kg) (hq := hq) (A := setGl ap ab f.Glyphs.length ka S) (N := setGl np nb f.Glyphs.length kn T) (M := [(db, dfO)] ++ [(l, lpO { rec with state := .busy })])
      simpa using this
    generalize hM : [(db, dfO)] ++ [(l, lpO { rec with state := .busy })] = M
    (repeat' (first|refine at_seq ?_|refine at_region ?_|refine at_block ?_|refine n_run ttok rfl rfl ?_|refine n_litI ttok ?_|fail))
    refine n_callA (setGl np nb f.Glyphs.length kn T) _ (addGl np nb f.Glyphs.length kn T [z] (by omega) hTok) rfl rfl groP rfl fun c L1 ⟨k1, hL⟩ => ?_
    subst hL
    refine atl_turn (turn_perm groP.symm) ?_
    (repeat' (first|refine at_seq ?_|refine at_region ?_|refine at_block ?_|refine ax_then ?_|refine atl_nil ?_|refine n_run ttok rfl rfl ?_|(apply s_load; first|refine n_load ttok 0 rfl rfl rfl rfl rfl ?_|refine n_load ttok 1 rfl rfl rfl rfl rfl ?_|refine n_load ttok 2 rfl rfl rfl rfl rfl ?_|refine n_load ttok 3 rfl rfl rfl rfl rfl ?_|refine n_loadA ttok 0 rfl rfl rfl rfl rfl ?_|refine n_loadA ttok 1 rfl rfl rfl rfl rfl ?_|refine n_loadA ttok 2 rfl rfl rfl rfl rfl ?_|refine n_load ttok 1 rfl rfl rfl (by assumption) rfl ?_|refine n_load ttok 0 rfl rfl rfl (by assumption) rfl ?_|fail)|(apply s_index; first|refine n_index ttok ?_|refine n_indexP ttok ?_)|fail))
    have hT1 := hTok.add [z]
    refine at_loopK [2, 3, 5, 21, 34, 35] (α := Nat × Option (Nat × Nat)) (fun y => [(36, I64 y.1)]) (fun y => y.1 ≤ gl.Parts.length) (fun y => gro f gp kg hq (setGl ap ab f.Glyphs.length ka S ++ (setGl np nb f.Glyphs.length y.2 (addN f.Glyphs.length (addN f.Glyphs.length T [z]) ((gl.Parts.take y.1).map FPart.Glyph)) ++ M))) (fun y => gl.Parts.length - y.1) (0, k1) rfl ⟨rfl, trivial⟩ (Nat.zero_le _) (fun _ _ h => h) ?_
    rintro ⟨j, k2⟩ hj
    dsimp only at hj ⊢
    have hT2 := hT1.add ((gl.Parts.take j).map FPart.Glyph)
    try dsimp only [List.cons_append, List.nil_append, List.map_cons, List.map_nil]
    (repeat' (first|refine at_seq ?_|refine at_region ?_|refine ax_then ?_|refine atl_nil ?_|refine n_run ttok rfl rfl ?_|fail))
    refine at_cond rfl (fun h => ?_) (fun h => ?_)
    · have hjl : j < gl.Parts.length := by have := of_decide_eq_true h; omega
      obtain ⟨q, hq2⟩ : ∃ q, gl.Parts[j]? = some q := ⟨_, List.getElem?_eq_getElem hjl⟩
      have hqg := map_get (c := cPart) hq2
      clear h
      (repeat' (first|refine at_seq ?_|refine at_region ?_|refine at_block ?_|refine at_skip ?_|refine ax_then ?_|refine atl_nil ?_|refine n_run ttok rfl rfl ?_|(apply s_index; first|refine n_index ttok ?_|refine n_indexP ttok ?_)|(apply s_store; first|refine n_storeF 5 ttok 0 rfl rfl rfl rfl rfl rfl rfl rfl ?_|refine n_storeF 5 ttok 1 rfl rfl rfl rfl rfl rfl rfl rfl ?_|refine n_storeF 5 ttok 2 rfl rfl rfl rfl rfl rfl rfl rfl ?_|refine n_storeF 8 ttok 0 rfl rfl rfl rfl rfl rfl rfl rfl ?_|refine n_storeF 8 ttok 1 rfl rfl rfl rfl rfl rfl rfl rfl ?_|refine n_storeF 8 ttok 2 rfl rfl rfl rfl rfl rfl rfl rfl ?_|refine n_storeF 10 ttok 0 rfl rfl rfl rfl rfl rfl rfl rfl ?_|refine n_storeF 10 ttok 1 rfl rfl rfl rfl rfl rfl rfl rfl ?_|refine n_storeF 10 ttok 2 rfl rfl rfl rfl rfl rfl rfl rfl ?_|refine n_store ttok 0 rfl rfl rfl rfl rfl rfl rfl ?_|refine n_store ttok 1 rfl rfl rfl rfl rfl rfl rfl ?_|refine n_store ttok 2 rfl rfl rfl rfl rfl rfl rfl ?_|refine n_store ttok 3 rfl rfl rfl rfl rfl rfl rfl ?_|fail)|refine n_alloc ttok fun _=>?_|refine n_litI ttok ?_|fail))
      refine n_callA (setGl np nb f.Glyphs.length k2 (addN f.Glyphs.length (addN f.Glyphs.length T [z]) ((gl.Parts.take j).map FPart.Glyph))) _ (addGl np nb f.Glyphs.length k2 _ [q.Glyph] (by omega) hT2) rfl rfl groP rfl fun c L1 ⟨k3, hL⟩ => ?_
      subst hL
      refine atl_turn (turn_perm groP.symm) ?_
      (repeat' (first|refine at_region ?_|refine ax_then ?_|refine ax_blk ?_|refine atl_nil ?_|refine n_run ttok rfl rfl ?_|(apply s_bin; refine n_bin ?_)|fail))
      refine ax_roundK (j + 1, k3) rfl ⟨by rw [Int.natCast_add]; rfl, trivial⟩ (by dsimp only; omega) (by dsimp only; omega) (fun σ w h => ?_)
      dsimp only
      rw [List.take_add_one, hq2, Option.toList_some, List.map_append, ← addN_app]
      exact h
    · have hjl : j = gl.Parts.length := by have := of_decide_eq_false h; omega
      subst hjl
      rw [List.take_length]
      (repeat' (first|refine at_exit ?_|refine ax_then_exit ?_|refine ax_blk ?_|refine ax_blk_exit ?_|refine ax_loop_exit ?_|fail))
      subst hM
      refine ax_turn (L' := (setGl ap ab f.Glyphs.length ka S ++ (setGl np nb f.Glyphs.length k2 (addN f.Glyphs.length (addN f.Glyphs.length T [z]) (gl.Parts.map FPart.Glyph)) ++ (gro f gp kg hq [] ++ [(db, dfO)]))) ++ [(l, lpO { rec with state := .busy })]) (turn_perm ?_) (ax_rnd ?_)
      · have := (groR (f := f) (gp := gp) (k := kg) (hq := hq) (A := setGl ap ab f.Glyphs.length ka S) (N := setGl np nb f.Glyphs.length k2 (addN f.Glyphs.length (addN f.Glyphs.length T [z]) (gl.Parts.map FPart.Glyph))) (M := [(db, dfO)] ++ [(l, lpO { rec with state := .busy })])).symm
        simpa using this
      · rw [rec_same hrec.state hrec.pending]
        refine ⟨rfl, (_, k2), ⟨hil, ?_⟩, by simp; rfl⟩
        rw [selfAdds_take hz, hp0, ← addN_app, ← hT, show z :: gl.Parts.map FPart.Glyph = [z] ++ gl.Parts.map FPart.Glyph from rfl, ← addN_app]
  have hit := pendGl (σ0 := σ0) (l := l) (p := ap) (b := ab) (n := f.Glyphs.length) (fun _ => S) (fun _ => ka) (fun x : List Int × Option (Nat × Nat) => setGl np nb f.Glyphs.length x.2 x.1 ++ (gro f gp kg hq [] ++ ([(db, dfO)] ++ [(l, lpO rec)]))) (fun i x => i ≤ S.length ∧ x.1 = addN f.Glyphs.length [] (selfAdds f (S.take i))) (by omega) (fun i x h => ⟨h.1, hSl⟩) hy ([], none) ⟨Nat.zero_le _, rfl⟩
  refine ⟨_, hit.perm (List.Perm.of_eq (by simp)), ?_⟩
  rintro c L' ⟨⟨T, kn⟩, ⟨_, hT⟩, rfl⟩
  dsimp only at hT ⊢
  rw [List.take_length] at hT
  refine ⟨rec, setGl ap ab f.Glyphs.length ka S ++ (setGl np nb f.Glyphs.length kn T ++ (gro f gp kg hq [] ++ [(db, dfO)])), List.Perm.of_eq (by simp), (by rw [hrec.state]; intro h; cases h), ?_⟩
  rw [hrec.pending]
  show AX _ _ _ _ _ _ _ _
  refine ax_turn (turn_perm groR) ?_
  have hTok : SetOk f.Glyphs.length T := by rw [hT]; exact SetOk.nil.add _
  clear hy hit hrec
  unfold gro groC
  (repeat' (first|refine at_seq ?_|refine at_region ?_|refine at_block ?_|refine ax_then ?_|refine ax_blk ?_|refine atl_nil ?_|refine n_run ttok rfl rfl ?_|(apply s_load; first|refine n_load ttok 0 rfl rfl rfl rfl rfl ?_|refine n_load ttok 1 rfl rfl rfl rfl rfl ?_|refine n_load ttok 2 rfl rfl rfl rfl rfl ?_|refine n_load ttok 3 rfl rfl rfl rfl rfl ?_|refine n_loadA ttok 0 rfl rfl rfl rfl rfl ?_|refine n_loadA ttok 1 rfl rfl rfl rfl rfl ?_|refine n_loadA ttok 2 rfl rfl rfl rfl rfl ?_|refine n_load ttok 1 rfl rfl rfl (by assumption) rfl ?_|refine n_load ttok 0 rfl rfl rfl (by assumption) rfl ?_|fail)|fail))
  refine at_loopK [2, 3, 5, 49, 50] (α := Nat × HQ × List Int × Option (Nat × Nat)) (fun y => [(51, I64 y.1)]) (fun y => y.1 ≤ hq.length ∧ y.2.1.map (·.1) = hq.map (·.1) ∧ y.2.1.map (·.2) = ((hq.map (·.2)).take y.1).map (adv f S) ++ (hq.map (·.2)).drop y.1 ∧ y.2.2.1 = addN f.Glyphs.length T (((hq.map (·.2)).take y.1).flatMap (tellAdds f S))) (fun y => gro f gp kg y.2.1 (setGl ap ab f.Glyphs.length ka S ++ (setGl np nb f.Glyphs.length y.2.2.2 y.2.2.1 ++ [(db, dfO)]))) (fun y => hq.length - y.1) (0, hq, T, kn) rfl ⟨rfl, trivial⟩ ⟨Nat.zero_le _, rfl, by simp, rfl⟩ (fun _ _ h => h) ?_
  rintro ⟨j, hqj, T1, k1⟩ ⟨hj, hf1, hf2, hT1⟩
  dsimp only at hj hf1 hf2 hT1 ⊢
  have hTok1 : SetOk f.Glyphs.length T1 := by rw [hT1]; exact hTok.add _
  have hpl : ((hq.map (·.1)).map fun q => [Ptr q]).length = hq.length := by simp
  try dsimp only [List.cons_append, List.nil_append, List.map_cons, List.map_nil]
  (repeat' (first|refine at_seq ?_|refine at_region ?_|refine ax_then ?_|refine atl_nil ?_|refine n_run ttok rfl rfl ?_|fail))
  refine at_cond rfl (fun h => ?_) (fun h => ?_)
  · have hjl : j < hq.length := by have := of_decide_eq_true h; omega
    obtain ⟨⟨q, hp⟩, hqj0⟩ : ∃ x, hq[j]? = some x := ⟨_, List.getElem?_eq_getElem hjl⟩
    have hqs : (hq.map (·.2))[j]? = some hp := by rw [List.getElem?_map, hqj0]; rfl
    have hqg : ((hq.map (·.1)).map fun q => [Ptr q])[j]? = some [Ptr q] := by simp [hqj0]
    have hlen := congrArg List.length hf1
    rw [List.length_map, List.length_map] at hlen
    have hx : hqj[j]? = some (q, hp) := by
      obtain ⟨⟨q', h'⟩, hx⟩ : ∃ x, hqj[j]? = some x := ⟨_, List.getElem?_eq_getElem (by omega)⟩
      have e1 := congrArg (fun l => l[j]?) hf1
      simp only [List.getElem?_map, hx, hqj0, Option.map_some, Option.some.injEq] at e1
      have e3 : ((((hq.map (·.2)).take j).map (adv f S)) ++ (hq.map (·.2)).drop j)[j]? = some hp := by
        rw [List.getElem?_append_right (by simp; omega), List.getElem?_drop, show j + (j - (((hq.map (·.2)).take j).map (adv f S)).length) = j by simp; omega]
        exact hqs
      have e2 : (hqj.map (·.2))[j]? = some hp := by rw [hf2]; exact e3
      rw [List.getElem?_map, hx, Option.map_some, Option.some.injEq] at e2
      dsimp only at e1 e2
      subst e1
      subst e2
      exact hx
    have hsp : hqj = hqj.take j ++ (q, hp) :: hqj.drop (j + 1) := by
      conv => lhs; rw [← List.take_append_drop j hqj]
      rw [List.drop_eq_getElem_cons (by omega), (List.getElem?_eq_some_iff.1 hx).2]
    have hok := hH hp (List.mem_of_getElem? hqs)
    clear h
    (repeat' (first|refine at_seq ?_|refine at_region ?_|refine at_block ?_|refine at_skip ?_|refine ax_then ?_|refine atl_nil ?_|refine n_run ttok rfl rfl ?_|(apply s_index; first|refine n_index ttok ?_|refine n_indexP ttok ?_)|(apply s_store; first|refine n_storeF 5 ttok 0 rfl rfl rfl rfl rfl rfl rfl rfl ?_|refine n_storeF 5 ttok 1 rfl rfl rfl rfl rfl rfl rfl rfl ?_|refine n_storeF 5 ttok 2 rfl rfl rfl rfl rfl rfl rfl rfl ?_|refine n_storeF 8 ttok 0 rfl rfl rfl rfl rfl rfl rfl rfl ?_|refine n_storeF 8 ttok 1 rfl rfl rfl rfl rfl rfl rfl rfl ?_|refine n_storeF 8 ttok 2 rfl rfl rfl rfl rfl rfl rfl rfl ?_|refine n_storeF 10 ttok 0 rfl rfl rfl rfl rfl rfl rfl rfl ?_|refine n_storeF 10 ttok 1 rfl rfl rfl rfl rfl rfl rfl rfl ?_|refine n_storeF 10 ttok 2 rfl rfl rfl rfl rfl rfl rfl rfl ?_|refine n_store ttok 0 rfl rfl rfl rfl rfl rfl rfl ?_|refine n_store ttok 1 rfl rfl rfl rfl rfl rfl rfl ?_|refine n_store ttok 2 rfl rfl rfl rfl rfl rfl rfl ?_|refine n_store ttok 3 rfl rfl rfl rfl rfl rfl rfl ?_|fail)|refine n_alloc ttok fun _=>?_|fail))
    have hlen1 : (hqj.take j).length = j := by rw [List.length_take]; omega
    generalize hqj.take j = u1 at hsp hlen1
    generalize hqj.drop (j + 1) = u2 at hsp
    subst hsp
    refine n_callA (hopB (q, hp) :: (gp, .box (groC f kg (List.map (fun x : Nat × Hop => x.1) (u1 ++ (q, hp) :: u2))) 131) :: setGl ap ab f.Glyphs.length ka S) _ (matches_ac (g := 56) (caps := [.iptr [Ptr ap], .iptr [Ptr q], .iptr [Ptr gp]]) q hp (seenB f S hp.ign) _ (fun un z => seen_ac f ap ab gp q ka kg S _ { hp with unmet := un } z)) rfl rfl groQ rfl fun c L1 ⟨hc, hL⟩ => ?_
    subst hc; subst hL
    have hfst : List.map (fun x : Nat × Hop => x.1) (u1 ++ (q, hp) :: u2) = List.map (fun x : Nat × Hop => x.1) (u1 ++ (q, adv f S hp) :: u2) := by simp
    have hf2' : List.map (fun x : Nat × Hop => x.2) (u1 ++ (q, adv f S hp) :: u2) = ((hq.map (·.2)).take (j + 1)).map (adv f S) ++ (hq.map (·.2)).drop (j + 1) := by
      have hd : (hq.map (·.2)).drop j = hp :: (hq.map (·.2)).drop (j + 1) := by
        obtain ⟨h1, h2⟩ := List.getElem?_eq_some_iff.1 hqs
        rw [List.drop_eq_getElem_cons h1, h2]
      rw [hd, List.map_append, List.map_cons] at hf2
      obtain ⟨e1, e2⟩ := List.append_inj hf2 (by simp; omega)
      injection e2 with _ e2
      rw [List.map_append, List.map_cons, e1, e2, List.take_add_one, hqs]
      simp
    have htell : ∀ X : List Int, (((hq.map (·.2)).take (j + 1)).flatMap (tellAdds f S)) = (((hq.map (·.2)).take j).flatMap (tellAdds f S)) ++ tellAdds f S hp := fun _ => by
      rw [List.take_add_one, hqs, Option.toList_some, List.flatMap_append]
      simp
    clear hf2
    rw [hfst] at hf1 ⊢
    refine atl_turn (turn_perm groQ.symm) ?_
    (repeat' (first|refine ax_then ?_|refine atl_nil ?_|fail))
    refine at_cond rfl (fun h => ?_) (fun h => ?_)
    · (repeat' (first|refine at_region ?_|refine n_run ttok rfl rfl ?_|fail))
      refine n_callA (hopB (q, adv f S hp) :: (gp, .box (groC f kg (List.map (fun x : Nat × Hop => x.1) (u1 ++ (q, adv f S hp) :: u2))) 131) :: setGl ap ab f.Glyphs.length ka S ++ setGl np nb f.Glyphs.length k1 T1) _ (tell_ac (g := 56) (caps := [.iptr [Ptr ap], .iptr [Ptr q], .iptr [Ptr gp]]) q (adv f S hp) (seenB f S hp.ign) _ (fun z => seen_ac f ap ab gp q ka kg S _ (adv f S hp) z) hok.1 hok.2 np nb f.Glyphs.length k1 T1 (by omega) hTok1) rfl rfl groS rfl fun c L1 ⟨k2, hL⟩ => ?_
      subst hL
      refine atl_turn (turn_perm groS.symm) ?_
      (repeat' (first|refine at_region ?_|refine ax_then ?_|refine ax_blk ?_|refine atl_nil ?_|refine n_run ttok rfl rfl ?_|(apply s_bin; refine n_bin ?_)|fail))
      refine ax_roundK (j + 1, u1 ++ (q, adv f S hp) :: u2, _, k2) rfl ⟨by rw [Int.natCast_add]; rfl, trivial⟩ ⟨by dsimp only; omega, hf1, hf2', ?_⟩ (by dsimp only; omega) (fun _ _ h => h)
      dsimp only
      rw [htell [], ← addN_app, ← hT1]
      unfold tellAdds
      rw [if_pos h]
      rfl
    · (repeat' (first|refine at_region ?_|refine at_skip ?_|refine ax_then ?_|refine ax_blk ?_|refine atl_nil ?_|refine n_run ttok rfl rfl ?_|(apply s_bin; refine n_bin ?_)|fail))
      refine ax_roundK (j + 1, u1 ++ (q, adv f S hp) :: u2, T1, k1) rfl ⟨by rw [Int.natCast_add]; rfl, trivial⟩ ⟨by dsimp only; omega, hf1, hf2', ?_⟩ (by dsimp only; omega) (fun _ _ h => h)
      dsimp only
      rw [htell [], ← addN_app, ← hT1]
      unfold tellAdds
      rw [if_neg (by rw [h]; exact fun e => by cases e)]
      rfl
  · have hjl : j = hq.length := by have := of_decide_eq_false h; omega
    subst hjl
    rw [List.take_of_length_le (by simp)] at hf2 hT1
    rw [List.drop_eq_nil_of_le (by simp), List.append_nil] at hf2
    (repeat' (first|refine at_seq ?_|refine at_region ?_|refine at_ret ?_|refine at_exit ?_|refine ax_then ?_|refine ax_then_exit ?_|refine ax_blk_exit ?_|refine ax_loop_exit ?_|refine atl_nil ?_|refine n_run ttok rfl rfl ?_|fail))
    refine ax_retM (cs := [Ptr np]) [db] (gro f gp kg hqj (setGl ap ab f.Glyphs.length ka S ++ setGl np nb f.Glyphs.length k1 T1)) rfl (List.Perm.of_eq (by simp [gro])) ⟨rfl, trivial⟩ ⟨np, nb, k1, hqj, rfl, ?_, hf1, hf2⟩
    unfold stepN
    rw [hT1, hT, addN_app]
    rfl
end Go.Proofs.YtpbinloeemebkaaGreat

namespace Go.Proofs.YtpbinloeemebkaaGreat
open Go.RowKit
attribute [local irreducible] AT ATL AX AO Av Kt ALoopK OkA DA DA1
theorem setOf_ac (f : FFont) (hs : Small f) (gs : List Int) : AC Tryz.prog 35 [aFont f, .imm 1 (ints gs)] [] fun c L => ∃ p b k, c = Ptr p ∧ L = setGl p b f.Glyphs.length k (addN f.Glyphs.length [] gs) := by
  refine ac_of Tryz.func35 rfl Tryz.ntmps35 rfl fun B => ?_
  have hGl := hs.glyphs
  have hml : (f.Glyphs.map cGlyph).length = f.Glyphs.length := List.length_map ..
  (repeat' (first|refine at_seq ?_|refine at_region ?_|refine ax_then ?_|refine atl_nil ?_|refine n_run ttok rfl rfl ?_|refine n_boxI ?_|fail))
  rw [hml]
  refine n_callA [] [] (newGl f.Glyphs.length (by omega)) rfl rfl (List.Perm.refl _) rfl fun c L1 ⟨p, b, hc, hL⟩ => ?_
  subst hc; subst hL
  rw [List.append_nil]
  (repeat' (first|refine at_seq ?_|refine at_region ?_|refine ax_then ?_|refine atl_nil ?_|refine n_run ttok rfl rfl ?_|fail))
  refine n_callA (setGl p b f.Glyphs.length none []) [] (addGl p b f.Glyphs.length none [] gs (by omega) SetOk.nil) rfl rfl (by rw [List.append_nil]) rfl fun c L1 ⟨k, hL⟩ => ?_
  subst hL
  rw [List.append_nil]
  (repeat' (first|refine at_seq ?_|refine at_region ?_|refine at_ret ?_|refine ax_then ?_|refine atl_nil ?_|refine n_run ttok rfl rfl ?_|fail))
  exact ax_ret1 rfl rfl ⟨p, b, k, rfl, rfl⟩
theorem hops_ok {f : FFont} (hs : Small f) (S : List Int) : HopsOk (hopsOf f S) := by
  intro h hh
  unfold hopsOf at hh
  obtain ⟨n, _, hh⟩ := List.mem_flatMap.1 hh
  unfold hopsLk at hh
  split at hh
  · rename_i l hl
    unfold hopsRs at hh
    obtain ⟨r, hr, rfl⟩ := List.mem_map.1 hh
    rw [List.mem_filter] at hr
    refine ⟨of_decide_eq_true hr.2, ?_⟩
    have := hs.out (List.mem_of_getElem? hl) hr.1
    show r.Out.length ≤ 1000000
    omega
  · cases hh
def progStep (f : FFont) (ks gs : List Int) : List Int := stepN f (addN f.Glyphs.length [] gs) (hopsOf f (addN f.Lookups.length [] ks))
theorem hq_len {f : FFont} (hs : Small f) {ks : List Int} {hq : HQ} (h : hq.map (·.2) = hopsOf f (addN f.Lookups.length [] ks)) : hq.length ≤ 100000000 := by
  have h1 := congrArg List.length h
  rw [List.length_map] at h1
  have h2 := hops_len f hs (addN f.Lookups.length [] ks)
  have h3 := ((SetOk.nil (n := f.Lookups.length)).add ks).len
  have h4 := hs.lookups
  omega
theorem stepN_ok (f : FFont) (S : List Int) (hs : List Hop) : SetOk f.Glyphs.length (stepN f S hs) := SetOk.nil.add _
set_option maxHeartbeats 4000000 in
theorem Step_ac (f : FFont) (hs : Small f) (ks gs : List Int) : ADet Tryz.prog 21 [aFont f, .imm 1 (ints ks), .imm 1 (ints gs)] (.imm 1 (ints (sorted (progStep f ks gs)))) := by
  refine ac_of Tryz.func21 rfl Tryz.ntmps21 rfl fun B => ?_
  have hGl := hs.glyphs
  (repeat' (first|refine at_seq ?_|refine at_region ?_|refine ax_then ?_|refine atl_nil ?_|refine n_run ttok rfl rfl ?_|refine n_boxI ?_|fail))
  refine at_draw 5 [(0, .v), (1, .v), (3, .v), (4, .v), (2, .e)] none ?_ trivial rfl (by kernel_rfl) (by kernel_rfl) (by kernel_rfl) mixed (by kernel_rfl) rfl
  (repeat' (first|refine da_open ?_|refine d_run ttok ?_|fail))
  refine d_callA [] [] (newGrowth_ac f hs ks) rfl rfl (List.Perm.refl _) trivial fun c L1 ⟨gp, kg, hq, hc, hL, hh⟩ => ?_
  subst hc; subst hL
  (repeat' (first|fail))
  refine da_end [9, 10, 11] rfl rfl ?_
  rw [List.append_nil]
  (repeat' (first|fail))
  refine n_callA [] _ (setOf_ac f hs gs) rfl rfl (List.Perm.refl _) rfl fun c L1 ⟨ap, ab, ka, hc, hL⟩ => ?_
  subst hc; subst hL
  (repeat' (first|fail))
  refine n_callA (gro f gp kg hq (setGl ap ab f.Glyphs.length ka (addN f.Glyphs.length [] gs))) [] (step_ac f hs gp ap ab kg ka hq _ (SetOk.nil.add gs) (by rw [hh]; exact hops_ok hs _) (hq_len hs hh)) rfl rfl ?_ rfl fun c L1 ⟨np, nb, kn, hq', hc, hL, _, _⟩ => ?_
  · have h2 := (groP (f := f) (gp := gp) (k := kg) (hq := hq) (A := []) (X := setGl ap ab f.Glyphs.length ka (addN f.Glyphs.length [] gs)) (M := [])).symm
    simpa [gro] using h2
  subst hc; subst hL
  rw [hh]
  (repeat' (first|fail))
  have hok := stepN_ok f (addN f.Glyphs.length [] gs) (hopsOf f (addN f.Lookups.length [] ks))
  have hol := hok.len
  refine n_callA (setGl np nb f.Glyphs.length kn (progStep f ks gs)) (gro f gp kg hq' (setGl ap ab f.Glyphs.length ka (addN f.Glyphs.length [] gs))) (risingGl np nb f.Glyphs.length kn _ (by unfold progStep; omega)) rfl rfl ?_ rfl fun c L1 ⟨hc, hL⟩ => ?_
  · rw [List.append_nil]
    have h2 := groP (f := f) (gp := gp) (k := kg) (hq := hq') (A := setGl ap ab f.Glyphs.length ka (addN f.Glyphs.length [] gs)) (X := setGl np nb f.Glyphs.length kn (progStep f ks gs)) (M := [])
    simp only [List.append_nil] at h2
    exact h2
  subst hc; subst hL
  (repeat' (first|refine at_ret ?_|refine ax_then ?_|refine atl_nil ?_|refine n_run ttok rfl rfl ?_|fail))
  exact ax_ret1 rfl rfl rfl
theorem pendStop {σ0 : Mem} {l p b n : Nat} (k : Option (Nat × Nat)) (S : List Int) (q : Int → Bool) (E E' : AL) (hn : n ≤ 1000000) (hS : S.length ≤ n)
    (hy : ∀ z ∈ S, AY Tryz.prog σ0 l [I64 z] (setGl p b n k S ++ E) fun c L => if q z = true then c = Bol true ∧ L = setGl p b n k S ++ E else c = Bol false ∧ L = setGl p b n k S ++ E') :
    ACs Tryz.prog σ0 68 [.sc (.func (.yield l) #[] #[]), .iptr [Ptr p]] (setGl p b n k S ++ E) fun _ L => L = if S.all q = true then setGl p b n k S ++ E else setGl p b n k S ++ E' := by
  refine acs_of Tryz.func68 rfl Tryz.ntmps68 rfl fun B hB => ?_
  (repeat' (first|refine at_seq ?_|refine at_region ?_|refine at_block ?_|refine ax_then ?_|refine atl_nil ?_|refine n_run ttok rfl rfl ?_|fail))
  refine at_loopK [0, 1] (α := Nat) (fun y => [(3, I64 y)]) (fun y => y ≤ S.length ∧ (S.take y).all q = true) (fun y => setGl p b n k S ++ E) (fun y => n - y) 0 rfl ⟨rfl, trivial⟩ ⟨Nat.zero_le _, rfl⟩ (fun _ _ h => h) ?_
  rintro i ⟨hi, ha⟩
  unfold setGl
  try dsimp only [List.cons_append, List.nil_append, List.map_cons, List.map_nil]
  (repeat' (first|refine at_seq ?_|refine at_region ?_|refine ax_then ?_|refine atl_nil ?_|refine n_run ttok rfl rfl ?_|(apply s_load; first|refine n_load ttok 0 rfl rfl rfl rfl rfl ?_|refine n_load ttok 1 rfl rfl rfl rfl rfl ?_|refine n_load ttok 2 rfl rfl rfl rfl rfl ?_|refine n_load ttok 3 rfl rfl rfl rfl rfl ?_|refine n_loadA ttok 0 rfl rfl rfl rfl rfl ?_|refine n_loadA ttok 1 rfl rfl rfl rfl rfl ?_|refine n_loadA ttok 2 rfl rfl rfl rfl rfl ?_|refine n_load ttok 1 rfl rfl rfl (by assumption) rfl ?_|refine n_load ttok 0 rfl rfl rfl (by assumption) rfl ?_|fail)|fail))
  refine at_cond rfl (fun h => ?_) (fun h => ?_)
  · have hil : i < S.length := by have := of_decide_eq_true h; simp [ints_len] at this; omega
    obtain ⟨z, hz⟩ : ∃ z, S[i]? = some z := ⟨_, List.getElem?_eq_getElem hil⟩
    have hzg := ints_get hz
    have hzm := List.mem_of_getElem? hz
    (repeat' (first|refine at_seq ?_|refine at_region ?_|refine at_block ?_|refine at_skip ?_|refine ax_then ?_|refine n_run ttok rfl rfl ?_|(apply s_load; first|refine n_load ttok 0 rfl rfl rfl rfl rfl ?_|refine n_load ttok 1 rfl rfl rfl rfl rfl ?_|refine n_load ttok 2 rfl rfl rfl rfl rfl ?_|refine n_load ttok 3 rfl rfl rfl rfl rfl ?_|refine n_loadA ttok 0 rfl rfl rfl rfl rfl ?_|refine n_loadA ttok 1 rfl rfl rfl rfl rfl ?_|refine n_loadA ttok 2 rfl rfl rfl rfl rfl ?_|refine n_load ttok 1 rfl rfl rfl (by assumption) rfl ?_|refine n_load ttok 0 rfl rfl rfl (by assumption) rfl ?_|fail)|(apply s_index; first|refine n_index ttok ?_|refine n_indexP ttok ?_)|fail))
    refine n_yield (setGl p b n k S ++ E) [] hB (hy z hzm) rfl rfl rfl (by rw [List.append_nil]; exact List.Perm.refl _) rfl rfl fun c L1 hc => ?_
    cases hq : q z with
    | true =>
      rw [if_pos hq] at hc
      obtain ⟨hc, hL⟩ := hc
      subst hc; subst hL
      rw [List.append_nil]
      (repeat' (first|refine at_region ?_|refine at_skip ?_|refine ax_then ?_|refine ax_blk ?_|refine atl_nil ?_|refine n_run ttok rfl rfl ?_|(apply s_bin; refine n_bin ?_)|refine n_condF rfl ?_|fail))
      refine ax_roundK (i + 1) rfl ⟨by rw [Int.natCast_add]; rfl, trivial⟩ ⟨by omega, ?_⟩ (by omega) (fun _ _ h => h)
      rw [List.take_add_one, hz, List.all_append, ha]
      simpa using hq
    | false =>
      rw [if_neg (by rw [hq]; exact fun e => by cases e)] at hc
      obtain ⟨hc, hL⟩ := hc
      subst hc; subst hL
      rw [List.append_nil]
      (repeat' (first|refine at_ret ?_|refine ax_then ?_|refine ax_then_ret ?_|refine ax_blk_ret ?_|refine ax_loop_ret ?_|refine atl_nil ?_|refine n_run ttok rfl rfl ?_|refine n_condT rfl ?_|fail))
      refine ax_ret0 rfl ?_
      rw [if_neg (fun e => by rw [List.all_eq_true] at e; rw [e z hzm] at hq; cases hq)]
      rfl
  · have hil : i = S.length := by have := of_decide_eq_false h; simp [ints_len] at this; omega
    subst hil
    rw [List.take_length] at ha
    (repeat' (first|refine at_exit ?_|refine ax_then_exit ?_|refine ax_blk_exit ?_|refine ax_loop_exit ?_|fail))
    refine ax_end0 rfl ?_
    rw [if_pos ha]
def progClosed (f : FFont) (ks gs : List Int) : Bool := (progStep f ks gs).all fun z => inB f.Glyphs.length (addN f.Glyphs.length [] gs) z
set_option maxHeartbeats 4000000 in
theorem Closed_ac (f : FFont) (hs : Small f) (ks gs : List Int) : ADet Tryz.prog 19 [aFont f, .imm 1 (ints ks), .imm 1 (ints gs)] (Bol (progClosed f ks gs)) := by
  refine ac_ofM Tryz.func19 rfl Tryz.ntmps19 rfl fun B => ?_
  have hGl := hs.glyphs
  (repeat' (first|refine at_seq ?_|refine at_region ?_|refine ax_then ?_|refine atl_nil ?_|refine n_run ttok rfl rfl ?_|refine n_boxI ?_|refine n_alloc ttok fun _=>?_|fail))
  refine n_callA [] _ (setOf_ac f hs gs) rfl rfl (List.Perm.refl _) rfl fun c L1 ⟨ap, ab, ka, hc, hL⟩ => ?_
  subst hc; subst hL
  (repeat' (first|refine at_seq ?_|refine ax_then ?_|refine atl_nil ?_|(apply s_store; first|refine n_storeF 7 ttok 0 rfl rfl rfl rfl rfl rfl rfl rfl ?_|refine n_storeF 7 ttok 1 rfl rfl rfl rfl rfl rfl rfl rfl ?_|refine n_storeF 7 ttok 2 rfl rfl rfl rfl rfl rfl rfl rfl ?_|refine n_store ttok 0 rfl rfl rfl rfl rfl rfl rfl ?_|refine n_store ttok 1 rfl rfl rfl rfl rfl rfl rfl ?_|refine n_store ttok 2 rfl rfl rfl rfl rfl rfl rfl ?_|refine n_store ttok 3 rfl rfl rfl rfl rfl rfl rfl ?_|fail)|refine n_alloc ttok fun _=>?_|fail))
  refine at_draw 4 [(0, .v), (1, .v), (3, .v), (2, .e)] none ?_ trivial rfl (by kernel_rfl) (by kernel_rfl) (by kernel_rfl) mixed (by kernel_rfl) rfl
  (repeat' (first|refine da_open ?_|refine d_run ttok ?_|fail))
  refine d_callA [] _ (newGrowth_ac f hs ks) rfl rfl (List.Perm.refl _) trivial fun c L1 ⟨gp, kg, hq, hc, hL, hh⟩ => ?_
  subst hc; subst hL
  (repeat' (first|fail))
  rename_i br _ _ _
  refine da_end [6, 7, 14, 15] rfl rfl ?_
  refine atl_turn (turn_perm (L' := gro f gp kg hq (setGl ap ab f.Glyphs.length ka (addN f.Glyphs.length [] gs)) ++ [(br, .box [Bol false] 4)]) (List.Perm.of_eq (by simp [gro, setGl]))) ?_
  (repeat' (first|fail))
  refine n_callA (gro f gp kg hq (setGl ap ab f.Glyphs.length ka (addN f.Glyphs.length [] gs))) [(br, .box [Bol false] 4)] (step_ac f hs gp ap ab kg ka hq _ (SetOk.nil.add gs) (by rw [hh]; exact hops_ok hs _) (hq_len hs hh)) rfl rfl (List.Perm.refl _) rfl fun c L1 ⟨np, nb, kn, hq', hc, hL, _, _⟩ => ?_
  subst hc; subst hL
  rw [hh]
  have hok := stepN_ok f (addN f.Glyphs.length [] gs) (hopsOf f (addN f.Lookups.length [] ks))
  have hol := hok.len
  refine atl_turn (turn_sub (L' := setGl ap ab f.Glyphs.length ka (addN f.Glyphs.length [] gs) ++ (setGl np nb f.Glyphs.length kn (progStep f ks gs) ++ [(br, .box [Bol false] 4)])) ?_) ?_
  · have : (setGl ap ab f.Glyphs.length ka (addN f.Glyphs.length [] gs) ++ setGl np nb f.Glyphs.length kn (progStep f ks gs)).Sublist (gro f gp kg hq' (setGl ap ab f.Glyphs.length ka (addN f.Glyphs.length [] gs) ++ setGl np nb f.Glyphs.length kn (progStep f ks gs))) := by
      unfold gro
      exact (((List.sublist_append_right _ _).trans (List.sublist_append_right _ _)).cons _)
    have h2 := this.append_right [(br, AB.box [Bol false] 4)]
    rw [List.append_assoc] at h2
    exact h2
  (repeat' (first|refine at_block ?_|refine ax_then ?_|refine atl_nil ?_|(apply s_call;refine n_call ?_)|fail))
  refine at_weak (fr' := [(17, .fn 68 [.iptr [Ptr np]]), (6, Ptr br), (7, .iptr [Ptr ap])]) (L' := setGl np nb f.Glyphs.length kn (progStep f ks gs) ++ ((br, .box [Bol false] 4) :: setGl ap ab f.Glyphs.length ka (addN f.Glyphs.length [] gs))) ⟨rfl, rfl, rfl, trivial⟩ (fun σ w h => ?_) ?_
  · refine ASt.perm h ?_
    refine List.perm_append_comm.trans ?_
    rw [List.append_assoc]
    exact List.Perm.refl _
  refine at_range (ps := [18]) rfl fun σ0 l db rec hrec => ?_
  have hy : ∀ z ∈ progStep f ks gs, AY Tryz.prog σ0 l [I64 z] (setGl np nb f.Glyphs.length kn (progStep f ks gs) ++ ((br, .box [Bol false] 4) :: setGl ap ab f.Glyphs.length ka (addN f.Glyphs.length [] gs) ++ ([(db, dfO)] ++ [(l, lpO rec)]))) fun c L => if inB f.Glyphs.length (addN f.Glyphs.length [] gs) z = true then c = Bol true ∧ L = setGl np nb f.Glyphs.length kn (progStep f ks gs) ++ ((br, .box [Bol false] 4) :: setGl ap ab f.Glyphs.length ka (addN f.Glyphs.length [] gs) ++ ([(db, dfO)] ++ [(l, lpO rec)])) else c = Bol false ∧ L = setGl np nb f.Glyphs.length kn (progStep f ks gs) ++ ((br, .box [Bol false] 4) :: setGl ap ab f.Glyphs.length ka (addN f.Glyphs.length [] gs) ++ ([(db, dfO)] ++ [(l, lpO { ({ rec with state := .busy } : Loop) with state := .done, pending := some .ret })])) := by
    intro z _
    have hE : setGl np nb f.Glyphs.length kn (progStep f ks gs) ++ ((br, AB.box [Bol false] 4) :: setGl ap ab f.Glyphs.length ka (addN f.Glyphs.length [] gs) ++ ([(db, dfO)] ++ [(l, lpO rec)])) = (setGl np nb f.Glyphs.length kn (progStep f ks gs) ++ ((br, AB.box [Bol false] 4) :: setGl ap ab f.Glyphs.length ka (addN f.Glyphs.length [] gs) ++ [(db, dfO)])) ++ [(l, lpO rec)] := by simp
    rw [hE]
    refine ay_of hrec rfl rfl fun B1 hB1 => ?_
    (repeat' (first|refine at_region ?_|refine atl_nil ?_|refine n_run ttok rfl rfl ?_|fail))
    refine ax_begin hrec.state ?_
    generalize hM : setGl np nb f.Glyphs.length kn (progStep f ks gs) = N
    refine at_turn (turn_perm (L' := (br, .box [Bol false] 4) :: (setGl ap ab f.Glyphs.length ka (addN f.Glyphs.length [] gs) ++ (N ++ ([(db, dfO)] ++ [(l, lpO { rec with state := .busy })])))) ?_) ?_
    · have h1 := List.perm_append_comm_assoc N ((br, AB.box [Bol false] 4) :: setGl ap ab f.Glyphs.length ka (addN f.Glyphs.length [] gs)) ([(db, dfO)] ++ [(l, lpO { rec with state := .busy })])
      simpa using h1
    (repeat' (first|refine at_seq ?_|refine at_region ?_|refine at_block ?_|refine n_run ttok rfl rfl ?_|fail))
    refine n_callA (setGl ap ab f.Glyphs.length ka (addN f.Glyphs.length [] gs)) ((br, .box [Bol false] 4) :: (N ++ ([(db, dfO)] ++ [(l, lpO { rec with state := .busy })]))) (hasGl ap ab f.Glyphs.length ka (addN f.Glyphs.length [] gs) z) rfl rfl List.perm_middle.symm rfl fun c L1 ⟨hc, hL⟩ => ?_
    subst hc; subst hL
    refine atl_turn (turn_perm List.perm_middle) ?_
    have hp : ∀ x : AB, ((br, AB.box [Bol false] 4) :: (setGl ap ab f.Glyphs.length ka (addN f.Glyphs.length [] gs) ++ (N ++ ([(db, dfO)] ++ [(l, x)])))).Perm ((N ++ ((br, AB.box [Bol false] 4) :: setGl ap ab f.Glyphs.length ka (addN f.Glyphs.length [] gs) ++ [(db, dfO)])) ++ [(l, x)]) := fun x => by
      have h1 := (List.perm_append_comm_assoc N ((br, AB.box [Bol false] 4) :: setGl ap ab f.Glyphs.length ka (addN f.Glyphs.length [] gs)) ([(db, dfO)] ++ [(l, x)])).symm
      simpa using h1
    (repeat' (first|refine ax_then ?_|refine atl_nil ?_|refine n_run ttok rfl rfl ?_|fail))
    refine at_cond rfl (fun h => ?_) (fun h => ?_)
    · (repeat' (first|refine at_seq ?_|refine at_region ?_|refine at_ret ?_|refine ax_then ?_|refine ax_blk_ret ?_|refine atl_nil ?_|(apply s_store; first|refine n_storeF 7 ttok 0 rfl rfl rfl rfl rfl rfl rfl rfl ?_|refine n_storeF 7 ttok 1 rfl rfl rfl rfl rfl rfl rfl rfl ?_|refine n_storeF 7 ttok 2 rfl rfl rfl rfl rfl rfl rfl rfl ?_|refine n_store ttok 0 rfl rfl rfl rfl rfl rfl rfl ?_|refine n_store ttok 1 rfl rfl rfl rfl rfl rfl rfl ?_|refine n_store ttok 2 rfl rfl rfl rfl rfl rfl rfl ?_|refine n_store ttok 3 rfl rfl rfl rfl rfl rfl rfl ?_|fail)|fail))
      refine ax_turn (turn_perm (hp _)) (ax_rnd_ret ?_)
      rw [if_neg (by intro e; rw [e] at h; cases h)]
      exact ⟨rfl, by simp⟩
    · (repeat' (first|refine at_skip ?_|refine ax_blk ?_|fail))
      refine ax_turn (turn_perm (hp _)) (ax_rnd ?_)
      rw [if_pos (by simpa using h), rec_same hrec.state hrec.pending]
      exact ⟨rfl, rfl⟩
  have hit := pendStop (σ0 := σ0) (l := l) (p := np) (b := nb) (n := f.Glyphs.length) kn (progStep f ks gs) (inB f.Glyphs.length (addN f.Glyphs.length [] gs)) _ _ (by omega) (by unfold progStep; exact hol) hy
  refine ⟨_, hit.perm (List.Perm.of_eq (by simp)), ?_⟩
  rintro c L' hL'
  cases hq : (progStep f ks gs).all (inB f.Glyphs.length (addN f.Glyphs.length [] gs)) with
  | true =>
    rw [if_pos hq] at hL'
    subst hL'
    refine ⟨rec, setGl np nb f.Glyphs.length kn (progStep f ks gs) ++ ((br, .box [Bol false] 4) :: setGl ap ab f.Glyphs.length ka (addN f.Glyphs.length [] gs) ++ [(db, dfO)]), List.Perm.of_eq (by simp), (by rw [hrec.state]; intro h; cases h), ?_⟩
    rw [hrec.pending]
    show AX _ _ _ _ _ _ _ _
    refine ax_drop (L' := [(br, .box [Bol false] 4), (db, dfO)]) ?_ ?_
    · exact ((((List.sublist_append_right _ _).cons_cons _)).trans (List.sublist_append_right _ _))
    (repeat' (first|refine at_seq ?_|refine at_region ?_|refine at_ret ?_|refine ax_then ?_|refine ax_blk ?_|refine atl_nil ?_|(apply s_store; first|refine n_storeF 7 ttok 0 rfl rfl rfl rfl rfl rfl rfl rfl ?_|refine n_storeF 7 ttok 1 rfl rfl rfl rfl rfl rfl rfl rfl ?_|refine n_storeF 7 ttok 2 rfl rfl rfl rfl rfl rfl rfl rfl ?_|refine n_store ttok 0 rfl rfl rfl rfl rfl rfl rfl ?_|refine n_store ttok 1 rfl rfl rfl rfl rfl rfl rfl ?_|refine n_store ttok 2 rfl rfl rfl rfl rfl rfl rfl ?_|refine n_store ttok 3 rfl rfl rfl rfl rfl rfl rfl ?_|fail)|fail))
    refine ax_retM (cs := [Bol true]) [db] [(br, .box [Bol true] 4)] rfl (List.Perm.refl _) ⟨⟨br, 0, _, _, rfl, rfl, .inl ⟨scI_spec ttok rfl, rfl⟩⟩, trivial⟩ ?_
    show Bol true = Bol (progClosed f ks gs)
    unfold progClosed
    rw [hq]
  | false =>
    rw [if_neg (by rw [hq]; exact fun e => by cases e)] at hL'
    subst hL'
    refine ⟨_, setGl np nb f.Glyphs.length kn (progStep f ks gs) ++ ((br, .box [Bol false] 4) :: setGl ap ab f.Glyphs.length ka (addN f.Glyphs.length [] gs) ++ [(db, dfO)]), List.Perm.of_eq (by simp; rfl), (by intro h; cases h), ?_⟩
    show AX _ _ _ _ _ _ _ _
    refine ax_drop (L' := [(br, .box [Bol false] 4), (db, dfO)]) ?_ ?_
    · exact ((((List.sublist_append_right _ _).cons_cons _)).trans (List.sublist_append_right _ _))
    (repeat' (first|refine ax_then_ret ?_|refine ax_blk_ret ?_|fail))
    refine ax_retM (cs := [Bol false]) [db] [(br, .box [Bol false] 4)] rfl (List.Perm.refl _) ⟨⟨br, 0, _, _, rfl, rfl, .inl ⟨scI_spec ttok rfl, rfl⟩⟩, trivial⟩ ?_
    show Bol false = Bol (progClosed f ks gs)
    unfold progClosed
    rw [hq]
end Go.Proofs.YtpbinloeemebkaaGreat
