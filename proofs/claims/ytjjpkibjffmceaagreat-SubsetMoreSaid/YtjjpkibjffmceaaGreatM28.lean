/-
  The maker: lookups.
-/
import Derived.Test.YtjjpkibjffmceaaGreatM27
import Derived.Test.YtjjpkibjffmceaaGreatM25
namespace Go.Proofs.YtjjpkibjffmceaaGreat
open Go.RowKit
attribute [local irreducible] AT bV AX AO Av Kt bC eH DA dl
variable (s : List Int) (hs : s.length ≤ 1000000) (F : MF)
include hs
theorem uL (k : Nat) (m : MS) : (eE s k m).1.1.length = k ∧ (eE s k m).1.2.length ≤ k := by
 have _ := hs
 clear hs
 induction k with
 | zero => exact ⟨rfl, Nat.le_refl _⟩
 | succ k ih =>
  have : eE s (k + 1) m = (cf (dr s 10) fun z => cf (dr s 3) fun y => cI ((eE s k m).1.1 ++ [(⟨fF.getD z.toNat 0, decide (y = 0), []⟩ : ba)], if fF.getD z.toNat 0 ≤ 4 then (eE s k m).1.2 ++ [(k : Int)] else (eE s k m).1.2)) (eE s k m).2 := rfl
  rw [this]
  simp only [cf, cI]
  refine ⟨by simp [ih.1], ?_⟩
  split
  ·simp; omega
  ·omega
theorem yV (n : Int) (calls : List Int) (l : List ba) (k : Nat) (m : MS) : (fh s n calls l k m).1.length = l.length ∧ ∀ j, k ≤ j → (fh s n calls l k m).1[j]? = l[j]? := by
 have _ := hs
 clear hs
 induction k with
 | zero => exact ⟨rfl, fun j _ => rfl⟩
 | succ k ih =>
  have : fh s n calls l (k + 1) m = (match (fh s n calls l k m).1[k]? with
   | none => cI (fh s n calls l k m).1
   | some q => if q.Kind ≥ 7 then cI (fh s n calls l k m).1 else cf (dr s 3) fun c => cf (f3 s n q.Kind calls (1 + c).toNat) fun rs => cI ((fh s n calls l k m).1.set k { q with Rules := rs })) (fh s n calls l k m).2 := rfl
  rw [this]
  cases hq : (fh s n calls l k m).1[k]? with
  | none => exact ⟨ih.1, fun j hj => ih.2 j (by omega)⟩
  | some q =>
   dsimp only
   by_cases h7 : q.Kind ≥ 7
   ·rw [if_pos h7]
    exact ⟨ih.1, fun j hj => ih.2 j (by omega)⟩
   ·rw [if_neg h7]
    simp only [cf, cI]
    refine ⟨by rw [List.length_set]; exact ih.1, fun j hj => ?_⟩
    rw [List.getElem?_set_ne (by omega)]
    exact ih.2 j (by omega)
theorem vh (n kind : Int) (calls : List Int) (k : Nat) (m : MS) : (f3 s n kind calls k m).1.length = k := by
 have _ := hs
 clear hs
 induction k with
 | zero => rfl
 | succ k ih =>
  have : f3 s n kind calls (k + 1) m = ((f3 s n kind calls k m).1 ++ [(gm s n kind calls (f3 s n kind calls k m).2).1], (gm s n kind calls (f3 s n kind calls k m).2).2) := rfl
  rw [this]
  simp [ih]
abbrev gz (F : MF) (v : AV) : MF := { F with lk := v }
set_option maxHeartbeats 16000000 in
theorem uT {kg : Option (Nat × Nat)} {gl : List (List AV)} (hF : F.gl = .vec kg 9 gl) (hl : F.lk = bL) (n : Nat) (hn : gl.length = n) (h0 : 0 < n ∧ n ≤ 1000) (b : Nat) (m : MS) : AC Tryz.prog 66 [fJ b] [ej b s F m] fun _ L => L = [ej b s (gz F (.imm 3 ((iw s n m).1.map bj))) (iw s n m).2] := by
 refine aQ Tryz.func66 rfl Tryz.ntmps66 rfl fun B => ?_
 repeat' (first|refine ae ?_|refine a6 ?_|refine aa a2 rfl rfl ?_)
 refine cJ ?_
 have hk := cm s hs m.a (n := 7) (by omega)
 have hk : 0 ≤ (dr s 7 m).1 ∧ (dr s 7 m).1 < 7 := hk
 generalize e1 : dr s 7 m = p1 at hk ⊢
 obtain ⟨k, hkk⟩ : ∃ k : Nat, p1.1 = k := ⟨p1.1.toNat, by omega⟩
 rw [hkk]
 have hFF : F = gz F bL := by
  cases F
  simp only at hl
  rw [hl]
 rw [hFF]
 repeat' (first|refine ae ?_|refine a6 ?_|refine ak ?_|refine a7 ?_|refine a8 ?_|refine aa a2 rfl rfl ?_)
 refine bI (bi (t := 3) (c' := .vec none 1 []) rfl fun σ v h => cy 1 h) ?_
 refine aJ [0, 2] (α := Nat × Option (Nat × Nat) × Option (Nat × List AV × Nat)) (fun x => [(4, aM x.1), (3, .vec x.2.1 1 (aT (eE s x.1 p1.2).1.2))]) (fun x => x.1 ≤ k ∧ vU x.1 0 (eE s x.1 p1.2).1.1 x.2.2) (fun x => ej b s (gz F (xi x.1 x.2.2)) (eE s x.1 p1.2).2 :: (zo x.2.2 ++ (tok x.2.1 3 1 (aT (eE s x.1 p1.2).1.2).length ++ []))) (fun x => k - x.1) (0, none, none) rfl ⟨rfl, rfl, trivial⟩ ⟨Nat.zero_le _, rfl⟩ (fun _ _ h => by simpa [eE, gN, cI, tok, aT, zo, xi] using h) ?_
 rintro ⟨i, q, o⟩ ⟨hi, ho⟩
 dsimp only at hi ho ⊢
 have hln := uL s hs i p1.2
 try dsimp only [Gr, Gq, Gp, Gj]
 repeat' (first|refine ae ?_|refine a6 ?_|refine a7 ?_|refine a8 ?_|refine aa a2 rfl rfl ?_)
 refine aw rfl (fun h => ?_) (fun h => ?_)
 ·have hil : i < k := by have := Gz h; omega
  have hstep : eE s (i + 1) p1.2 = (cf (dr s 10) fun z => cf (dr s 3) fun y => cI ((eE s i p1.2).1.1 ++ [(⟨fF.getD z.toNat 0, decide (y = 0), []⟩ : ba)], if fF.getD z.toNat 0 ≤ 4 then (eE s i p1.2).1.2 ++ [(i : Int)] else (eE s i p1.2).1.2)) (eE s i p1.2).2 := rfl
  generalize eE s i p1.2 = st at hln ho hstep ⊢
  have hil2 : (aT st.1.2).length = st.1.2.length := aR _
  repeat' (first|refine ae ?_|refine a6 ?_|refine ak ?_|refine ar ?_|refine a7 ?_|refine aa a2 rfl rfl ?_|refine bG a2 ?_|fail)
  refine cJ ?_
  have hz := cm s hs st.2.a (n := 10) (by omega)
  have hz : 0 ≤ (dr s 10 st.2).1 ∧ (dr s 10 st.2).1 < 10 := hz
  unfold cf at hstep
  generalize dr s 10 st.2 = z at hz hstep ⊢
  dsimp only at hstep
  have hzk : (aT fF)[z.1.toNat]? = some [aM (fF.getD z.1.toNat 0)] := bW (by rw [List.getD_eq_getElem?_getD, Ee (show z.1.toNat < fF.length by simp [fF]; omega)]; rfl)
  generalize hkd : fF.getD z.1.toNat 0 = kd at hzk hstep
  repeat' (first|refine ae ?_|refine a7 ?_|refine a8 ?_|refine aa a2 rfl rfl ?_|(apply aX; first|refine aW a2 ?_|refine aP a2 ?_)|fail)
  refine dw [.cell (b, 5, xi i o)] 13 [(0, .v), (1, .v), (2, .v), (3, .v), (4, .v), (5, .k), (6, .v), (7, .v), (8, .f), (9, .v), (10, .v), (11, .v), (12, .e)] none ?_ trivial rfl (by kernel_rfl) (by kernel_rfl) (by kernel_rfl) mixed (by kernel_rfl) rfl
  repeat' (first|refine aC ?_|refine aZ a2 ?_|fail)
  refine ez a2 0 rfl rfl rfl (bR 0 rfl rfl cb) (by first | trivial | rfl) ?_
  repeat' (first|refine aC ?_|refine aZ a2 ?_|fail)
  refine eR (bR 0 rfl rfl cb) ?_
  generalize dr s 3 z.2 = y at hstep ⊢
  repeat' (first|refine aC ?_|refine aZ a2 ?_|refine eh a2 ?_|fail)
  have hst1 : st.1.1.length = i := hln.1
  rcases o with _ | ⟨ob, ocs, ocap⟩
  ·have hi0 : i = 0 := ho
   subst hi0
   refine uu a2 rfl rfl rfl rfl rfl rfl rfl (by first | trivial | rfl) fun b' cs' cap' h1 h2 h3 h4 => ?_
   have hrow : vU (0 + 1) 0 (st.1.1 ++ [⟨kd, decide (y.1 = 0), []⟩]) (some (b', cs', cap')) := by
    refine ⟨h1, by omega, h4, ?_⟩
    rw [List.eq_nil_of_length_eq_zero (by omega : st.1.1.length = 0)]
    exact h2
   refine bq [0, 2, 3, 4, 5, 21, 33] rfl rfl ?_
   refine aN (aK (L' := ej b s (gz F (xi 0 none)) y.2 :: (zo (some (b', cs', cap')) ++ (tok q 3 1 (aT st.1.2).length ++ []))) (List.Perm.swap _ _ _)) ?_
   repeat' (first|refine ae ?_|refine a6 ?_|refine a7 ?_|refine a8 ?_|refine aa a2 rfl rfl ?_|(apply aG; first|refine ai a2 0 rfl rfl rfl rfl rfl rfl rfl ?_|refine ai a2 1 rfl rfl rfl rfl rfl rfl rfl ?_|refine ai a2 2 rfl rfl rfl rfl rfl rfl rfl ?_|refine ai a2 3 rfl rfl rfl rfl rfl rfl rfl ?_|fail))
   refine aw rfl (fun hk4 => ?_) (fun hk4 => ?_)
   ·rw [if_pos (Gz hk4)] at hstep
    dsimp only [cI] at hstep
    repeat' (first|refine a6 ?_|refine aa a2 rfl rfl ?_|refine bG a2 ?_|fail)
    refine bE a2 _ rfl rfl rfl rfl (eU (A := [_, _])) (by simp [aR]; omega) (by simp [aR]; omega) rfl fun q' => ?_
    refine aN (aK (eU (A := [_, _])).symm) ?_
    repeat' (first|refine a6 ?_|refine a7 ?_|refine aH ?_|refine a8 ?_|refine aa a2 rfl rfl ?_|(apply aV; refine aU ?_)|fail)
    exact aB (0 + 1, q', some (b', cs', cap')) rfl ⟨rfl, by rw [hstep]; dsimp only; rw [show aT (st.1.2 ++ [((0 : Nat) : Int)]) = aT st.1.2 ++ [[aM ((0 : Nat) : Int)]] from List.map_append ..]; rfl, trivial⟩ ⟨by dsimp only; omega, by rw [hstep]; exact hrow⟩ (by dsimp only; omega) (fun _ _ h => by dsimp only; rw [hstep]; dsimp only; rw [show aT (st.1.2 ++ [((0 : Nat) : Int)]) = aT st.1.2 ++ [[aM ((0 : Nat) : Int)]] from List.map_append ..]; exact h)
   ·rw [if_neg (Gy hk4)] at hstep
    dsimp only [cI] at hstep
    repeat' (first|refine a6 ?_|refine ar ?_|refine a7 ?_|refine aH ?_|refine a8 ?_|refine aa a2 rfl rfl ?_|(apply aV; refine aU ?_)|fail)
    exact aB (0 + 1, q, some (b', cs', cap')) rfl ⟨rfl, by rw [hstep]; rfl, trivial⟩ ⟨by dsimp only; omega, by rw [hstep]; exact hrow⟩ (by dsimp only; omega) (fun _ _ h => by dsimp only; rw [hstep]; exact h)
  ·obtain ⟨ho1, ho2, ho3, ho4⟩ := ho
   refine wP a2 1 rfl rfl rfl rfl rfl rfl rfl ho1 ho2 ho3 (by unfold maxLen; omega) (by omega) (by first | trivial | rfl) fun b' cs' cap' h1 h2 h3 h4 => ?_
   have hrow : vU (i + 1) 0 (st.1.1 ++ [⟨kd, decide (y.1 = 0), []⟩]) (some (b', cs', cap')) := by
    refine ⟨h1, h3, h4, ?_⟩
    rw [h2, ho4, vV]
    rfl
   refine bq [0, 2, 3, 4, 5, 21, 33] rfl rfl ?_
   refine aN (aK (L' := ej b s (gz F (xi i (some (ob, ocs, ocap)))) y.2 :: (zo (some (b', cs', cap')) ++ (tok q 3 1 (aT st.1.2).length ++ []))) (List.Perm.swap _ _ _)) ?_
   repeat' (first|refine ae ?_|refine a6 ?_|refine a7 ?_|refine a8 ?_|refine aa a2 rfl rfl ?_|(apply aG; first|refine ai a2 0 rfl rfl rfl rfl rfl rfl rfl ?_|refine ai a2 1 rfl rfl rfl rfl rfl rfl rfl ?_|refine ai a2 2 rfl rfl rfl rfl rfl rfl rfl ?_|refine ai a2 3 rfl rfl rfl rfl rfl rfl rfl ?_|fail))
   refine aw rfl (fun hk4 => ?_) (fun hk4 => ?_)
   ·rw [if_pos (Gz hk4)] at hstep
    dsimp only [cI] at hstep
    repeat' (first|refine a6 ?_|refine aa a2 rfl rfl ?_|refine bG a2 ?_|fail)
    refine bE a2 _ rfl rfl rfl rfl (eU (A := [_, _])) (by simp [aR]; omega) (by simp [aR]; omega) rfl fun q' => ?_
    refine aN (aK (eU (A := [_, _])).symm) ?_
    repeat' (first|refine a6 ?_|refine a7 ?_|refine aH ?_|refine a8 ?_|refine aa a2 rfl rfl ?_|(apply aV; refine aU ?_)|fail)
    exact aB (i + 1, q', some (b', cs', cap')) rfl ⟨by rw [Gw]; rfl, by rw [hstep]; dsimp only; rw [show aT (st.1.2 ++ [(i : Int)]) = aT st.1.2 ++ [[aM (i : Int)]] from List.map_append ..]; rfl, trivial⟩ ⟨by dsimp only; omega, by rw [hstep]; exact hrow⟩ (by dsimp only; omega) (fun _ _ h => by dsimp only; rw [hstep]; dsimp only; rw [show aT (st.1.2 ++ [(i : Int)]) = aT st.1.2 ++ [[aM (i : Int)]] from List.map_append ..]; exact h)
   ·rw [if_neg (Gy hk4)] at hstep
    dsimp only [cI] at hstep
    repeat' (first|refine a6 ?_|refine ar ?_|refine a7 ?_|refine aH ?_|refine a8 ?_|refine aa a2 rfl rfl ?_|(apply aV; refine aU ?_)|fail)
    exact aB (i + 1, q, some (b', cs', cap')) rfl ⟨by rw [Gw]; rfl, by rw [hstep]; rfl, trivial⟩ ⟨by dsimp only; omega, by rw [hstep]; exact hrow⟩ (by dsimp only; omega) (fun _ _ h => by dsimp only; rw [hstep]; exact h)
 have hil : i = k := by have := Gy h; omega
 subst hil
 have hhd := qR s i p1.2
 generalize e2 : eE s i p1.2 = st at hln ho hhd ⊢
 have hv : iw s n m = fh s n st.1.2 st.1.1 i st.2 := by
  unfold iw cf
  rw [e1]
  dsimp only
  rw [hkk, Int.toNat_natCast, e2]
 rw [hv]
 have hfi := fun j => yV s hs n st.1.2 st.1.1 j st.2
 repeat' (first|refine ae ?_|refine a6 ?_|refine ak ?_|refine aO ?_|refine a7 ?_|refine au ?_|refine ay ?_|refine av ?_|refine a8 ?_|refine aa a2 rfl rfl ?_)
 refine bI (bY (L' := ej b s (gz F (xi i o)) st.2 :: (zo o ++ [])) (List.Sublist.cons_cons _ ((List.nil_sublist _).append_left _))) ?_
 rcases o with _ | ⟨ob, ocs, ocap⟩
 ·have hi0 : i = 0 := ho
  subst hi0
  refine aJ [0, 2, 3] (α := Unit) (fun _ => [(6, aM 0)]) (fun _ => True) (fun _ => [ej b s (gz F bL) st.2]) (fun _ => 0) () rfl ⟨rfl, trivial⟩ trivial (fun _ _ h => h) ?_
  intro _ _
  try dsimp only [Gr, Gq, Gp, Gj]
  repeat' (first|refine ae ?_|refine a6 ?_|refine aO ?_|refine a7 ?_|refine au ?_|refine ay ?_|refine av ?_|refine a8 ?_|refine aa a2 rfl rfl ?_|refine bN rfl ?_)
  have hnil : (fh s n st.1.2 st.1.1 0 st.2).1 = [] := List.eq_nil_of_length_eq_zero (by rw [(hfi 0).1]; exact hln.1)
  refine be (br 0 (cs' := EU s (gz F (.imm 3 [])) st.2) rfl fun σ vs h => cn (k := 5) (c := bL) h rfl fun v hv => fL 3 hv) (dL rfl ?_)
  rw [hnil]
  rfl
 refine aJ [0, 2, 3] (α := Nat × List AV) (fun x => [(6, aM x.1)]) (fun x => x.1 ≤ i ∧ vU i x.1 (fh s n st.1.2 st.1.1 x.1 st.2).1 (some (ob, x.2, ocap))) (fun x => [ej b s (gz F (xi i (some (ob, ocs, ocap)))) (fh s n st.1.2 st.1.1 x.1 st.2).2, (ob, .box x.2 77)]) (fun x => i - x.1) (0, ocs) rfl ⟨rfl, trivial⟩ ⟨Nat.zero_le _, ho⟩ (fun _ _ h => h) ?_
 rintro ⟨j, cs⟩ ⟨hj, h1, h2, h3, h4⟩
 dsimp only at hj h1 h2 h3 h4 ⊢
 try dsimp only [Gr, Gq, Gp, Gj]
 repeat' (first|refine ae ?_|refine a6 ?_|refine a7 ?_|refine a8 ?_|refine aa a2 rfl rfl ?_)
 refine aw rfl (fun h => ?_) (fun h => ?_)
 ·have hji : j < i := by have := Gz h; omega
  have hfj := hfi j
  have hstep : fh s n st.1.2 st.1.1 (j + 1) st.2 = (match (fh s n st.1.2 st.1.1 j st.2).1[j]? with
   | none => cI (fh s n st.1.2 st.1.1 j st.2).1
   | some q => if q.Kind ≥ 7 then cI (fh s n st.1.2 st.1.1 j st.2).1 else cf (dr s 3) fun c => cf (f3 s n q.Kind st.1.2 (1 + c).toNat) fun rs => cI ((fh s n st.1.2 st.1.1 j st.2).1.set j { q with Rules := rs })) (fh s n st.1.2 st.1.1 j st.2).2 := rfl
  generalize fh s n st.1.2 st.1.1 j st.2 = T at hfj h4 hstep ⊢
  have hTl : T.1.length = i := by rw [hfj.1]; exact hln.1
  obtain ⟨q, hq⟩ : ∃ q, T.1[j]? = some q := ⟨_, Ee (by omega)⟩
  have hq2 : st.1.1[j]? = some q := by rw [← hfj.2 j (Nat.le_refl _)]; exact hq
  have hqm := Gx hq2
  have hqk := hhd.kinds q hqm
  have hqn := hhd.none q hqm
  rw [hq] at hstep
  dsimp only at hstep
  have hcell : ∀ c, c < 3 → cs[j * 3 + c]? = (fz j j q)[c]? := fun c hc => by
   have e := rI j T.1 0 j c hc
   rw [hq, Option.bind_some, Nat.zero_add, ← h4, List.getElem?_take, if_pos (by omega)] at e
   exact e
  have hP : ∀ c, 0 + ((j : Int)).toNat * 3 + c = j * 3 + c := fun c => by rw [Int.toNat_natCast]; omega
  have hc0 : cs[0 + ((j : Int)).toNat * 3 + 0]? = some (aM q.Kind) := by rw [hP]; exact hcell 0 (by omega)
  have hc2 : cs[0 + ((j : Int)).toNat * 3 + 2]? = some bL := by
   rw [hP, hcell 2 (by omega)]
   simp [fz]
  have hPl : 0 + ((j : Int)).toNat * 3 + 2 < cs.length := (Gn hc2).1
  repeat' (first|refine ae ?_|refine a6 ?_|refine ak ?_|refine ar ?_|refine a7 ?_|refine a8 ?_|refine aa a2 rfl rfl ?_|(apply bK; first|refine aj a2 0 rfl rfl rfl rfl rfl ?_|refine aj a2 1 rfl rfl rfl rfl rfl ?_|refine aj a2 2 rfl rfl rfl rfl rfl ?_|refine aj a2 3 rfl rfl rfl rfl rfl ?_|refine aD a2 0 rfl rfl rfl rfl rfl ?_|refine aD a2 1 rfl rfl rfl rfl rfl ?_|refine aD a2 2 rfl rfl rfl rfl rfl ?_|refine aj a2 1 rfl rfl rfl (by assumption) rfl ?_|refine aj a2 0 rfl rfl rfl (by assumption) rfl ?_|fail)|(apply aX; first|refine aW a2 ?_|refine aP a2 ?_)|fail)
  refine aw rfl (fun h7 => ?_) (fun h7 => ?_)
  ·have h7 := Gz h7
   rw [if_pos (show q.Kind ≥ 7 from h7)] at hstep
   repeat' (first|refine a6 ?_|refine aO ?_|refine a7 ?_|refine au ?_|refine ay ?_|refine a8 ?_|refine aa a2 rfl rfl ?_|(apply aV; refine aU ?_)|fail)
   refine be (br 1 (cs' := cs.set (0 + ((j : Int)).toNat * 3 + 2) (.imm 6 [])) rfl fun σ vs h => cn h hc2 fun v hv => fL 6 hv) ?_
   exact aB (j + 1, cs.set (0 + ((j : Int)).toNat * 3 + 2) (.imm 6 [])) rfl ⟨by rw [Gw]; rfl, trivial⟩ ⟨by dsimp only; omega, by dsimp only; rw [List.length_set]; exact h1, h2, h3, by rw [hstep, hP]; dsimp only [cI]; rw [List.take_set, h4]; exact BX hq hqn⟩ (by dsimp only; omega) (fun _ _ h => by dsimp only; rw [hstep]; exact h)
  have h7 := Gy h7
  rw [if_neg (show ¬ q.Kind ≥ 7 from h7)] at hstep
  unfold cf at hstep
  repeat' (first|refine ae ?_|refine a6 ?_|refine ar ?_|refine a7 ?_|refine aa a2 rfl rfl ?_)
  refine cJ ?_
  have hc := cm s hs T.2.a (n := 3) (by omega)
  have hc : 0 ≤ (dr s 3 T.2).1 ∧ (dr s 3 T.2).1 < 3 := hc
  generalize dr s 3 T.2 = p2 at hc hstep ⊢
  dsimp only at hstep
  obtain ⟨c, hcc⟩ : ∃ k : Nat, 1 + p2.1 = k := ⟨(1 + p2.1).toNat, by omega⟩
  rw [hcc, Int.toNat_natCast] at hstep
  repeat' (first|refine ae ?_|refine a6 ?_|refine ak ?_|refine a7 ?_|refine a8 ?_|refine aa a2 rfl rfl ?_|(apply aV; refine aU ?_)|fail)
  rw [hcc]
  refine bI (br 1 (cs' := cs.set (0 + ((j : Int)).toNat * 3 + 2) (.vec none 6 [])) rfl fun σ vs h => cn h hc2 fun v hv => cy 6 hv) ?_
  refine aJ [0, 2, 3, 6, 7] (α := Nat × Option (Nat × Nat)) (fun x => [(8, aM x.1)]) (fun x => x.1 ≤ c) (fun x => [ej b s (gz F (xi i (some (ob, ocs, ocap)))) (f3 s n q.Kind st.1.2 x.1 p2.2).2, (ob, .box (cs.set (0 + ((j : Int)).toNat * 3 + 2) (.vec x.2 6 ((f3 s n q.Kind st.1.2 x.1 p2.2).1.map bD))) 77)] ++ (tok x.2 81 6 ((f3 s n q.Kind st.1.2 x.1 p2.2).1.map bD).length ++ [])) (fun x => c - x.1) (0, none) rfl ⟨rfl, trivial⟩ (Nat.zero_le _) (fun _ _ h => h) ?_
  rintro ⟨r, qv⟩ hr
  dsimp only at hr ⊢
  have hrl := vh s hs n q.Kind st.1.2 r p2.2
  have hrs : f3 s n q.Kind st.1.2 (r + 1) p2.2 = ((f3 s n q.Kind st.1.2 r p2.2).1 ++ [(gm s n q.Kind st.1.2 (f3 s n q.Kind st.1.2 r p2.2).2).1], (gm s n q.Kind st.1.2 (f3 s n q.Kind st.1.2 r p2.2).2).2) := rfl
  try dsimp only [Gr, Gq, Gp, Gj]
  repeat' (first|refine ae ?_|refine a6 ?_|refine a7 ?_|refine a8 ?_|refine aa a2 rfl rfl ?_)
  refine aw rfl (fun h => ?_) (fun h => ?_)
  ·have hrc : r < c := by have := Gz h; omega
   generalize f3 s n q.Kind st.1.2 r p2.2 = R at hrl hrs ⊢
   have hset : (cs.set (0 + ((j : Int)).toNat * 3 + 2) (.vec qv 6 (R.1.map bD)))[0 + ((j : Int)).toNat * 3 + 2]? = some (.vec qv 6 (R.1.map bD)) := List.getElem?_set_self hPl
   have hset0 : (cs.set (0 + ((j : Int)).toNat * 3 + 2) (.vec qv 6 (R.1.map bD)))[0 + ((j : Int)).toNat * 3 + 0]? = some (aM q.Kind) := by rw [List.getElem?_set_ne (by omega)]; exact hc0
   have hRl : (R.1.map bD).length = R.1.length := Gu ..
   repeat' (first|refine ae ?_|refine ak ?_|refine ar ?_|refine a7 ?_)
   refine dw [.cell (b, 5, xi i (some (ob, ocs, ocap))), .cell (ob, 0 + ((j : Int)).toNat * 3 + 2, .vec qv 6 (R.1.map bD))] 29 [(0, .v), (1, .v), (2, .v), (3, .v), (4, .k), (5, .v), (6, .v), (7, .v), (8, .v), (9, .v), (10, .k), (11, .v), (12, .v), (13, .v), (14, .k), (15, .v), (16, .v), (17, .v), (18, .v), (19, .v), (20, .l), (21, .v), (22, .v), (23, .v), (24, .l), (25, .v), (26, .f), (27, .v), (28, .f)] none ?_ trivial rfl (by kernel_rfl) (by kernel_rfl) (by kernel_rfl) mixed (by kernel_rfl) rfl
   have hkeep : ∀ m' Z, eA [.cell (b, 5, xi i (some (ob, ocs, ocap))), .cell (ob, 0 + ((j : Int)).toNat * 3 + 2, .vec qv 6 (R.1.map bD))] (ej b s (gz F (xi i (some (ob, ocs, ocap)))) m' :: (ob, .box (cs.set (0 + ((j : Int)).toNat * 3 + 2) (.vec qv 6 (R.1.map bD))) 77) :: Z) := fun m' Z => bR 0 rfl rfl (bR 1 rfl hset cb)
   repeat' (first|refine aC ?_|refine aZ a2 ?_|fail)
   refine ez a2 0 rfl rfl rfl (hkeep _ _) (by first | trivial | rfl) ?_
   repeat' (first|refine aC ?_|refine aZ a2 ?_|fail)
   refine ez a2 0 rfl rfl rfl (hkeep _ _) (by first | trivial | rfl) ?_
   repeat' (first|refine aC ?_|refine aZ a2 ?_|fail)
   refine fe a2 rfl rfl rfl (by omega) (by first | trivial | rfl) ?_
   repeat' (first|refine aC ?_|refine aZ a2 ?_|fail)
   refine ez a2 1 rfl rfl rfl (hkeep _ _) (by first | trivial | rfl) ?_
   repeat' (first|refine aC ?_|refine aZ a2 ?_|refine df a2 0 rfl rfl rfl rfl (by first|trivial|rfl) ?_)
   refine fe a2 rfl rfl rfl (by omega) (by first | trivial | rfl) ?_
   repeat' (first|refine aC ?_|refine aZ a2 ?_|fail)
   refine df a2 1 rfl rfl rfl hset0 (by first | trivial | rfl) ?_
   repeat' (first|refine aC ?_|refine aZ a2 ?_|fail)
   refine qF (xO s hs (gz F (xi i (some (ob, ocs, ocap)))) hF n hn h0 q.Kind (by omega) st.1.2 (by omega)) (hkeep _ _) ?_
   generalize gm s n q.Kind st.1.2 R.2 = y at hrs ⊢
   unfold CV
   repeat' (first|refine aC ?_|refine eh a2 ?_|fail)
   refine wN a2 _ rfl rfl rfl rfl (eU (A := [_, _])) (by simp; omega) (by simp; omega) (hkeep _ _) (by first | trivial | rfl) fun q' => ?_
   refine bq [0, 2, 3, 6, 7, 8, 70, 71, 94] rfl rfl ?_
   refine aN (aK (eU (A := [_, _])).symm) ?_
   repeat' (first|refine aa a2 rfl rfl ?_|(apply aX; first|refine aW a2 ?_|refine aP a2 ?_)|fail)
   refine ai a2 1 rfl rfl rfl rfl rfl rfl (by rw [Nat.ble_eq, List.length_set]; exact hPl) ?_
   repeat' (first|refine a6 ?_|refine a7 ?_|refine aH ?_|refine a8 ?_|refine aa a2 rfl rfl ?_|(apply aV; refine aU ?_)|fail)
   exact aB (r + 1, q') rfl ⟨by rw [Gw]; rfl, trivial⟩ (by dsimp only; omega) (by dsimp only; omega) (fun _ _ h => by dsimp only; rw [hrs]; dsimp only; rw [List.map_append]; simp only [gV, List.set_set] at h; exact h)
  have hrc : r = c := by have := Gy h; omega
  subst hrc
  generalize f3 s n q.Kind st.1.2 r p2.2 = R at hrl hstep ⊢
  have hset : (cs.set (0 + ((j : Int)).toNat * 3 + 2) (.vec qv 6 (R.1.map bD)))[0 + ((j : Int)).toNat * 3 + 2]? = some (.vec qv 6 (R.1.map bD)) := List.getElem?_set_self hPl
  repeat' (first|refine a6 ?_|refine aO ?_|refine a7 ?_|refine au ?_|refine aH ?_|refine ay ?_|refine av ?_|refine a8 ?_|refine aa a2 rfl rfl ?_|(apply aV; refine aU ?_)|fail)
  refine be (bY (L' := [ej b s (gz F (xi i (some (ob, ocs, ocap)))) R.2, (ob, .box (cs.set (0 + ((j : Int)).toNat * 3 + 2) (.vec qv 6 (R.1.map bD))) 77)]) (List.Sublist.cons_cons _ (List.Sublist.cons_cons _ (List.nil_sublist _)))) ?_
  refine be (br 1 (cs' := (cs.set (0 + ((j : Int)).toNat * 3 + 2) (.vec qv 6 (R.1.map bD))).set (0 + ((j : Int)).toNat * 3 + 2) (.imm 6 (R.1.map bD))) rfl fun σ vs h => cn h hset fun v hv => VR.im hv) ?_
  rw [List.set_set]
  exact aB (j + 1, cs.set (0 + ((j : Int)).toNat * 3 + 2) (.imm 6 (R.1.map bD))) rfl ⟨by rw [Gw]; rfl, trivial⟩ ⟨by dsimp only; omega, by dsimp only; rw [List.length_set]; exact h1, h2, h3, by rw [hstep, hP]; dsimp only [cI]; rw [List.take_set, h4]; exact zu hq⟩ (by dsimp only; omega) (fun _ _ h => by dsimp only; rw [hstep]; exact h)
 have hji : j = i := by have := Gy h; omega
 subst hji
 generalize hT : fh s n st.1.2 st.1.1 j st.2 = T at h4 ⊢
 have hTl : T.1.length = j := by rw [← hT, (hfi j).1]; exact hln.1
 repeat' (first|refine aO ?_|refine au ?_|refine ay ?_|refine av ?_)
 refine be (aK (List.Perm.swap _ _ _)) ?_
 refine be (y5 (k := 5) (n := j) (cap := ocap) (l := T.1.map bj) rfl (by rw [h4, zr _ _ _ (by omega)]) h1 (fun q hq => by
  obtain ⟨x, _, rfl⟩ := List.mem_map.1 hq
  rfl) (by rw [Gu]; exact hTl) h2 h3) ?_
 exact dL rfl rfl
end Go.Proofs.YtjjpkibjffmceaaGreat
namespace Go.Proofs.YtjjpkibjffmceaaGreat
open Go.RowKit
attribute [local irreducible] AT bV AX AO Av Kt bC eH DA dl
variable (s : List Int) (hs : s.length ≤ 1000000) (F : MF)
theorem wC (a c : UInt8) : (⟨#[a]⟩ : ByteArray) ++ (⟨#[c]⟩ : ByteArray) = bytes [a, c] := by
 apply ByteArray.ext
 simp [bytes]
theorem wD (a b c : UInt8) : (⟨#[a, b]⟩ : ByteArray) ++ (⟨#[c]⟩ : ByteArray) = bytes [a, b, c] := by
 apply ByteArray.ext
 simp [bytes]
theorem Fb {z : Int} (h : 0 ≤ z ∧ z < 256) : IntKind.wrap .u8 z = z := by
 unfold IntKind.wrap
 simp [IntKind.signed, IntKind.bits]
 try omega
theorem tk (n : Nat) (h : n < 100) : IntKind.wrap .u8 (97 + (n : Int)) = 97 + (n : Int) := Fb (by omega)
theorem vT (n : Nat) (h : n < 100) : UInt8.ofNat (97 + (n : Int)).toNat = (97 + n).toUInt8 := by
 rw [show ((97 + (n : Int))).toNat = 97 + n by omega]
theorem EZ {a c : Nat × AB} {T : AL} : (a :: (T ++ []) ++ [c]).Perm ([a, c] ++ (T ++ [])) := List.Perm.cons a (List.perm_append_comm (l₁ := T ++ []))
def ke (nm : ByteArray) (ad : Int) (mk : Bool) (o : List eB × List Int) (ps an de hi : AV) : List AV := [gE nm, aM ad, cO mk, .imm 3 (o.1.map cX), .imm 1 (aT o.2), ps, an, de, hi]
theorem wu (mark : Bool) (cl : Int) (m : MS) (k : Nat) : (eX s mark cl k m).1.length ≤ k := by
 refine (bU.runs (fun i (l : List dH) => l.length ≤ i) k (Nat.le_refl _) fun i l _ h => (bU.any _).bnd fun z _ => bU.ite (fun _ => (bU.any _).bnd fun x _ => (bU.any _).bnd fun y _ => bU.ret (by simp; omega)) fun _ => bU.ret (by omega)) m
theorem uv (r : Nat) (l : List dN) (m : MS) (k : Nat) : (gT s r l k m).1.length ≤ l.length + k := by
 refine (bU.runs (fun i (q : List dN) => q.length ≤ l.length + i) k (Nat.le_refl _) fun i q _ h => (bU.any _).bnd fun z _ => bU.ite (fun _ => (bU.any _).bnd fun x _ => bU.ite (fun _ => bU.ret (by simp; omega)) fun _ => (bU.any _).bnd fun y _ => bU.ret (by simp; omega)) fun _ => bU.ret (by omega)) m
def kC (cl : Int) : List (List AV) := (f6 cl).map fun p => [aM p.1, aM p.2]
abbrev AG (F : MF) (v : AV) : MF := { F with gl := v }
include hs
set_option maxHeartbeats 16000000 in
theorem zd {kg : Option (Nat × Nat)} {gl rg fu : List (List AV)} (hF : F.gl = .vec kg 9 gl) (hrg : F.rg = .imm 1 rg) (hfu : F.fu = .imm 1 fu) (R fn n : Nat) (hR : rg.length = R) (hfn : fu.length = fn) (hg : gl.length ≤ 1000) (hRl : R ≤ 1000) (hfl : fn ≤ 1000) (hn : n < 100) (b : Nat) (m : MS) : AC Tryz.prog 65 [fJ b, aM n] ([ej b s F m] ++ (tok kg 63 9 gl.length ++ [])) fun _ L => ∃ kg', L = [ej b s (AG F (.vec kg' 9 (gl ++ [bA (jF s R fn n m).1]))) (jF s R fn n m).2] ++ (tok kg' 63 9 (gl ++ [bA (jF s R fn n m).1]).length ++ []) := by
 refine aQ Tryz.func65 rfl Tryz.ntmps65 rfl fun B => ?_
 repeat' (first|refine ae ?_)
 refine bt 15 [(0, .v), (1, .v), (2, .v), (3, .v), (4, .v), (5, .v), (6, .v), (10, .v), (7, .e), (8, .v), (9, .v), (11, .e), (12, .v), (13, .v)] (some (14, .box _ 63)) ?_ ⟨_, rfl, rfl, fun _ _ _ => ii (f9 a2 rfl) rfl⟩ rfl (by kernel_rfl) (by kernel_rfl) (by kernel_rfl) mixed (by kernel_rfl) rfl
 repeat' (first|refine aC ?_|refine aZ a2 ?_|(apply ff;refine gG ?_)|fail)
 refine yN a2 ?_
 rw [tk n hn]
 repeat' (first|refine aC ?_|refine eh a2 ?_|fail)
 refine vI a2 ?_
 rw [vT n hn]
 repeat' (first|refine aC ?_|fail)
 refine di (hs := Nat.le_of_ble_eq_true rfl) ?_
 rw [wC]
 repeat' (first|refine aC ?_|refine aZ a2 ?_|fail)
 refine rq ?_
 have had := cm s hs m.a (n := 19) (by omega)
 have had : 0 ≤ (dr s 19 m).1 ∧ (dr s 19 m).1 < 19 := had
 generalize e1 : dr s 19 m = ad at had ⊢
 repeat' (first|refine aC ?_|(apply ff;refine gG ?_)|fail)
 refine rq ?_
 generalize e2 : dr s 4 ad.2 = mk
 repeat' (first|refine aC ?_|refine aZ a2 ?_|fail)
 refine lQ [0, 1, 4, 23] (fun _ => _) (fun _ => rfl) rfl fun _ => ?_
 rename_i gb
 refine aN (aK (L' := [ej b s F mk.2, (gb, .box [.sc (.string ⟨#[]⟩), aM 0, cO false, bL, bL, bL, bL, bL, bL] 63)] ++ (tok kg 63 9 gl.length ++ [])) EZ) ?_
 repeat' (first|refine ae ?_|refine a6 ?_|refine a7 ?_|refine a8 ?_|refine aa a2 rfl rfl ?_|(apply aG; first|refine ai a2 0 rfl rfl rfl rfl rfl rfl rfl ?_|refine ai a2 1 rfl rfl rfl rfl rfl rfl rfl ?_|refine ai a2 2 rfl rfl rfl rfl rfl rfl rfl ?_|refine ai a2 3 rfl rfl rfl rfl rfl rfl rfl ?_|fail))
 refine rj [0, 1, 4] ([ej b s F mk.2, (gb, .box [gE (cL n), aM (100 + ad.1 * 50), cO (decide (mk.1 = 0) && decide (n ≠ 0)), bL, bL, .vec none 3 [], .vec none 4 [], .vec none 4 [], bL] 63)] ++ (tok kg 63 9 gl.length ++ [])) rfl (fun Q' K => ?_) ?_
 ·refine aw rfl (fun h => ?_) (fun h => ?_)
  ·have h : n = 0 := by have := Gz h; omega
   have hm : (decide (mk.1 = 0) && decide (n ≠ 0)) = false := by simp [h]
   have hgn : cL n = zS := if_pos h
   rw [hm, hgn] at K
   repeat' (first|refine ae ?_|refine a6 ?_|refine a7 ?_|refine a8 ?_|refine aa a2 rfl rfl ?_|(apply aG; first|refine ai a2 0 rfl rfl rfl rfl rfl rfl rfl ?_|refine ai a2 1 rfl rfl rfl rfl rfl rfl rfl ?_|refine ai a2 2 rfl rfl rfl rfl rfl rfl rfl ?_|refine ai a2 3 rfl rfl rfl rfl rfl rfl rfl ?_|fail))
   refine be (br 1 rfl fun σ vs h => cn (k := 5) (c' := .vec none 3 []) (cn (k := 6) (c' := .vec none 4 []) (cn (k := 7) (c' := .vec none 4 []) h rfl fun v hv => cy 4 hv) rfl fun v hv => cy 4 hv) rfl fun v hv => cy 3 hv) ?_
   exact K _ rfl
  ·have h : ¬ n = 0 := by have := Gy h; omega
   have hm : (decide (mk.1 = 0) && decide (n ≠ 0)) = decide (mk.1 = 0) := by simp [h]
   have hgn : cL n = iv FM n := if_neg h
   rw [hm, hgn] at K
   repeat' (first|refine ar ?_)
   refine be (br 1 rfl fun σ vs h => cn (k := 5) (c' := .vec none 3 []) (cn (k := 6) (c' := .vec none 4 []) (cn (k := 7) (c' := .vec none 4 []) h rfl fun v hv => cy 4 hv) rfl fun v hv => cy 4 hv) rfl fun v hv => cy 3 hv) ?_
   exact K _ rfl
 generalize hmk : (decide (mk.1 = 0) && decide (n ≠ 0)) = mb
 repeat' (first|refine ae ?_|refine a6 ?_|refine aa a2 rfl rfl ?_)
 refine tv (rU s hs F) ?_
 have ho := nU s mk.2
 generalize e3 : jb s mk.2 = o at ho ⊢
 obtain ⟨ko, hko, hoo⟩ := ho
 have hol := hoo.len
 unfold EX
 refine aa a2 rfl rfl ?_
 (apply aG; refine ai a2 1 rfl rfl rfl rfl rfl rfl rfl ?_)
 refine a8 ?_
 refine a7 ?_
 refine ae ?_
 refine rj [0, 4] ([ej b s F (iC s n o.2).2, (gb, .box (ke (cL n) (100 + ad.1 * 50) mb o.1 (.imm 3 ((iC s n o.2).1.map cN)) (.vec none 4 []) (.vec none 4 []) bL) 63)] ++ (tok kg 63 9 gl.length ++ [])) rfl (fun Q' K => ?_) ?_
 ·repeat' (first|refine ae ?_|refine a6 ?_|refine aa a2 rfl rfl ?_)
  by_cases hn1 : 1 < n
  ·rw [decide_eq_true (show (1 : Int) < (n : Int) by omega)]
   repeat' (first|refine aa a2 rfl rfl ?_|refine aF rfl rfl ?_)
   refine cJ ?_
   generalize e4 : dr s 4 o.2 = z
   repeat' (first|refine a7 ?_|refine a8 ?_|refine aa a2 rfl rfl ?_|refine aF rfl rfl ?_)
   refine aw rfl (fun h => ?_) (fun h => ?_)
   ·have h := Gz h
    repeat' (first|fail)
    refine dw [.cell (gb, 5, .vec none 3 [])] 11 [(0, .v), (1, .k), (2, .v), (6, .v), (3, .f), (4, .v), (5, .v), (7, .f), (8, .v), (9, .v), (10, .v)] none ?_ trivial rfl (by kernel_rfl) (by kernel_rfl) (by kernel_rfl) mixed (by kernel_rfl) rfl
    repeat' (first|refine aC ?_|refine aZ a2 ?_|fail)
    refine ez a2 0 rfl rfl rfl (bR 1 rfl rfl cb) (by first | trivial | rfl) ?_
    repeat' (first|refine aC ?_|refine aZ a2 ?_|fail)
    refine eR (bR 1 rfl rfl cb) ?_
    have hx := cm s hs z.2.a (n := 9) (by omega)
    have hx : 0 ≤ (dr s 9 z.2).1 ∧ (dr s 9 z.2).1 < 9 := hx
    generalize e5 : dr s 9 z.2 = x at hx ⊢
    repeat' (first|refine aC ?_|(apply ff;refine gG ?_)|fail)
    refine eR (bR 1 rfl rfl cb) ?_
    have hy := cm s hs x.2.a (n := 5) (by omega)
    have hy : 0 ≤ (dr s 5 x.2).1 ∧ (dr s 5 x.2).1 < 5 := hy
    generalize e6 : dr s 5 x.2 = y at hy ⊢
    repeat' (first|refine aC ?_|refine aZ a2 ?_|(apply ff;refine gG ?_)|refine eh a2 ?_|fail)
    refine bq [0, 4, 39, 48] rfl rfl ?_
    repeat' (first|fail)
    refine bE a2 _ rfl rfl rfl rfl (Gm _) (by simp) (by simp) rfl fun q' => ?_
    refine aN (bY (List.sublist_append_right _ _)) ?_
    repeat' (first|refine a8 ?_|refine aa a2 rfl rfl ?_|(apply aG; first|refine ai a2 0 rfl rfl rfl rfl rfl rfl rfl ?_|refine ai a2 1 rfl rfl rfl rfl rfl rfl rfl ?_|refine ai a2 2 rfl rfl rfl rfl rfl rfl rfl ?_|refine ai a2 3 rfl rfl rfl rfl rfl rfl rfl ?_|fail))
    have hv : iC s n o.2 = ([⟨1, x.1 * 50 - 200, y.1 * 50⟩], y.2) := by simp [iC, cf, cI, hn1, e4, e5, e6, h]
    rw [hv] at K
    refine be (br 1 rfl fun σ vs h => cn (k := 5) (c' := .imm 3 ([(⟨1, x.1 * 50 - 200, y.1 * 50⟩ : cR)].map cN)) h rfl fun v hv => VR.im hv) ?_
    exact K _ rfl
   ·have h := Gy h
    repeat' (first|refine ar ?_)
    have hv : iC s n o.2 = ([], z.2) := by simp [iC, cf, cI, hn1, e4, h]
    rw [hv] at K
    refine be (br 1 rfl fun σ vs h => cn (k := 5) (c' := .imm 3 []) h rfl fun v hv => VR.im hv) ?_
    exact K _ rfl
  ·rw [decide_eq_false (show ¬ (1 : Int) < (n : Int) by omega)]
   repeat' (first|refine ar ?_|refine a7 ?_|refine a8 ?_|refine aa a2 rfl rfl ?_|refine aL rfl rfl rfl rfl ?_|refine bN rfl ?_)
   have hv : iC s n o.2 = ([], o.2) := by simp [iC, cI, hn1]
   rw [hv] at K
   refine be (br 1 rfl fun σ vs h => cn (k := 5) (c' := .imm 3 []) h rfl fun v hv => VR.im hv) ?_
   exact K _ rfl
 generalize e4 : iC s n o.2 = ps
 repeat' (first|refine ae ?_|refine a6 ?_|refine aa a2 rfl rfl ?_)
 refine cJ ?_
 have hcl := cm s hs ps.2.a (n := 2) (by omega)
 have hcl : 0 ≤ (dr s 2 ps.2).1 ∧ (dr s 2 ps.2).1 < 2 := hcl
 generalize e5 : dr s 2 ps.2 = cl at hcl ⊢
 repeat' (first|refine ae ?_|refine a6 ?_|refine ak ?_|refine a7 ?_|refine a8 ?_|refine aa a2 rfl rfl ?_|refine bG a2 ?_|fail)
 refine aJ [0, 4, 5] (α := Nat × Option (Nat × Nat)) (fun x => [(6, aM x.1), (5, .imm 2 (kC cl.1))]) (fun x => x.1 ≤ 5) (fun x => [ej b s F (eX s mb cl.1 x.1 cl.2).2, (gb, .box (ke (cL n) (100 + ad.1 * 50) mb o.1 (.imm 3 (ps.1.map cN)) (.vec x.2 4 ((eX s mb cl.1 x.1 cl.2).1.map cB)) (.vec none 4 []) bL) 63)] ++ (tok x.2 87 4 ((eX s mb cl.1 x.1 cl.2).1.map cB).length ++ (tok kg 63 9 gl.length ++ []))) (fun x => 5 - x.1) (0, none) rfl ⟨rfl, rfl, trivial⟩ (Nat.zero_le _) (fun _ _ h => h) ?_
 rintro ⟨i, q⟩ hi
 dsimp only at hi ⊢
 have hal := wu s mb cl.1 cl.2 i
 have hstep : eX s mb cl.1 (i + 1) cl.2 = (cf (dr s 3) fun z => if z = 0 ∧ (((f6 cl.1).getD i (0, 0)).1 ≠ 2 ∨ mb = true) then cf (dr s 21) fun x => cf (dr s 21) fun y => cI ((eX s mb cl.1 i cl.2).1 ++ [(⟨((f6 cl.1).getD i (0, 0)).1, ((f6 cl.1).getD i (0, 0)).2, x * 50, y * 50 - 200⟩ : dH)]) else cI (eX s mb cl.1 i cl.2).1) (eX s mb cl.1 i cl.2).2 := rfl
 try dsimp only [Gr, Gq, Gp, Gj]
 repeat' (first|refine ae ?_|refine a6 ?_|refine a7 ?_|refine a8 ?_|refine aa a2 rfl rfl ?_)
 refine aw rfl (fun h => ?_) (fun h => ?_)
 ·have hil : i < 5 := by have := Gz h; omega
  have hka : (kC cl.1)[i]? = some [aM ((f6 cl.1).getD i (0, 0)).1, aM ((f6 cl.1).getD i (0, 0)).2] := by
   unfold kC
   rw [List.getElem?_map, su hil]
   rfl
  generalize eX s mb cl.1 i cl.2 = st at hal hstep ⊢
  have halm : (st.1.map cB).length = st.1.length := Gu ..
  generalize (f6 cl.1).getD i (0, 0) = pr at hka hstep
  repeat' (first|refine ae ?_|refine a6 ?_|refine ak ?_|refine ar ?_|refine a7 ?_|refine aa a2 rfl rfl ?_)
  refine cJ ?_
  unfold cf at hstep
  generalize dr s 3 st.2 = z at hstep ⊢
  dsimp only at hstep
  repeat' (first|refine aa a2 rfl rfl ?_)
  refine dq (t := 77) [0, 4, 5, 6] (z.1 = 0 ∧ (pr.1 ≠ 2 ∨ mb = true)) rfl (fun Q' K => ?_) ?_
  ·by_cases hz : z.1 = 0
   ·rw [decide_eq_true hz]
    repeat' (first|refine aa a2 rfl rfl ?_|refine aF rfl rfl ?_|(apply aX; first|refine aW a2 ?_|refine aP a2 ?_)|fail)
    refine EV a2 0 ?_
    repeat' (first|refine aa a2 rfl rfl ?_|refine aF rfl rfl ?_)
    by_cases h2 : pr.1 ≠ 2
    ·rw [decide_eq_true h2]
     repeat' (first|refine a8 ?_|refine aa a2 rfl rfl ?_|refine aF rfl rfl ?_|refine aL rfl rfl rfl rfl ?_)
     exact K _ _ rfl rfl (by simp [hz, h2])
    ·rw [decide_eq_false h2]
     repeat' (first|refine a8 ?_|refine aa a2 rfl rfl ?_|refine aF rfl rfl ?_|(apply bK; first|refine aj a2 0 rfl rfl rfl rfl rfl ?_|refine aj a2 1 rfl rfl rfl rfl rfl ?_|refine aj a2 2 rfl rfl rfl rfl rfl ?_|refine aj a2 3 rfl rfl rfl rfl rfl ?_|refine aD a2 0 rfl rfl rfl rfl rfl ?_|refine aD a2 1 rfl rfl rfl rfl rfl ?_|refine aD a2 2 rfl rfl rfl rfl rfl ?_|refine aj a2 1 rfl rfl rfl (by assumption) rfl ?_|refine aj a2 0 rfl rfl rfl (by assumption) rfl ?_|fail)|fail)
     exact K _ _ rfl rfl (by simp only [ne_eq, Decidable.not_not] at h2; simp [hz, h2])
   ·rw [decide_eq_false hz]
    repeat' (first|refine a8 ?_|refine aa a2 rfl rfl ?_|refine aL rfl rfl rfl rfl ?_|refine dC rfl rfl rfl ?_)
    exact K _ _ rfl rfl (by simp [hz])
  repeat' (first|refine a7 ?_)
  refine aw rfl (fun h => ?_) (fun h => ?_)
  ·have h := Gz h
   rw [if_pos h] at hstep
   repeat' (first|fail)
   refine dw [.cell (gb, 6, .vec q 4 (st.1.map cB))] 21 [(0, .v), (1, .k), (2, .v), (3, .v), (4, .v), (5, .v), (6, .v), (7, .v), (8, .v), (9, .v), (10, .v), (11, .v), (12, .v), (15, .v), (13, .f), (14, .v), (16, .f), (17, .v), (18, .v), (19, .v), (20, .v)] none ?_ trivial rfl (by kernel_rfl) (by kernel_rfl) (by kernel_rfl) mixed (by kernel_rfl) rfl
   repeat' (first|refine aC ?_|refine aZ a2 ?_|fail)
   refine ez a2 0 rfl rfl rfl (bR 1 rfl rfl cb) (by first | trivial | rfl) ?_
   repeat' (first|refine aC ?_|refine aZ a2 ?_|(apply ca;refine ck a2 ?_)|fail)
   refine CH a2 0 ?_
   repeat' (first|refine aC ?_|refine aZ a2 ?_|(apply ca;refine ck a2 ?_)|fail)
   refine CH a2 1 ?_
   repeat' (first|refine aC ?_|refine aZ a2 ?_|fail)
   refine eR (bR 1 rfl rfl cb) ?_
   have hx := cm s hs z.2.a (n := 21) (by omega)
   have hx : 0 ≤ (dr s 21 z.2).1 ∧ (dr s 21 z.2).1 < 21 := hx
   generalize dr s 21 z.2 = x at hx hstep ⊢
   try dsimp only at hstep
   repeat' (first|refine aC ?_|(apply ff;refine gG ?_)|fail)
   refine eR (bR 1 rfl rfl cb) ?_
   have hy := cm s hs x.2.a (n := 21) (by omega)
   have hy : 0 ≤ (dr s 21 x.2).1 ∧ (dr s 21 x.2).1 < 21 := hy
   generalize dr s 21 x.2 = y at hy hstep ⊢
   try dsimp only [cI] at hstep
   repeat' (first|refine aC ?_|refine aZ a2 ?_|(apply ff;refine gG ?_)|refine eh a2 ?_|fail)
   refine bq [0, 4, 5, 6, 79, 98] rfl rfl ?_
   repeat' (first|fail)
   refine bE a2 _ rfl rfl rfl rfl (eU (A := [_, _])) (by simp; omega) (by simp; omega) rfl fun q' => ?_
   refine aN (aK (eU (A := [_, _])).symm) ?_
   repeat' (first|refine a6 ?_|refine a7 ?_|refine aH ?_|refine a8 ?_|refine aa a2 rfl rfl ?_|(apply aV; refine aU ?_)|(apply aG; first|refine ai a2 0 rfl rfl rfl rfl rfl rfl rfl ?_|refine ai a2 1 rfl rfl rfl rfl rfl rfl rfl ?_|refine ai a2 2 rfl rfl rfl rfl rfl rfl rfl ?_|refine ai a2 3 rfl rfl rfl rfl rfl rfl rfl ?_|fail))
   exact aB (i + 1, q') rfl ⟨by rw [Gw]; rfl, rfl, trivial⟩ (by dsimp only; omega) (by dsimp only; omega) (fun _ _ h => by dsimp only; rw [hstep]; dsimp only; rw [List.map_append]; exact h)
  ·have h := Gy h
   rw [if_neg h] at hstep
   dsimp only [cI] at hstep
   repeat' (first|refine a6 ?_|refine ar ?_|refine a7 ?_|refine aH ?_|refine a8 ?_|refine aa a2 rfl rfl ?_|(apply aV; refine aU ?_)|fail)
   exact aB (i + 1, q) rfl ⟨by rw [Gw]; rfl, rfl, trivial⟩ (by dsimp only; omega) (by dsimp only; omega) (fun _ _ h => by dsimp only; rw [hstep]; exact h)
 have hil : i = 5 := by have := Gy h; omega
 subst hil
 clear hstep hal
 generalize e6 : eX s mb cl.1 5 cl.2 = an
 refine bI (br 1 rfl fun σ vs h => cn (k := 6) (c' := .imm 4 (an.1.map cB)) h rfl fun v hv => VR.im hv) ?_
 refine bI (bY (L' := [ej b s F an.2, (gb, .box (ke (cL n) (100 + ad.1 * 50) mb o.1 (.imm 3 (ps.1.map cN)) (.imm 4 (an.1.map cB)) (.vec none 4 []) bL) 63)] ++ (tok kg 63 9 gl.length ++ [])) (List.Sublist.cons_cons _ (List.Sublist.cons_cons _ (List.sublist_append_right _ _)))) ?_
 have hpl : (o.1.1.map cX).length = o.1.1.length := Gu ..
 repeat' (first|refine ae ?_|refine a6 ?_|refine ak ?_|refine aO ?_|refine a7 ?_|refine au ?_|refine ay ?_|refine av ?_|refine a8 ?_|refine aa a2 rfl rfl ?_)
 refine aJ [0, 4] (α := Nat × Option (Nat × Nat)) (fun x => [(7, aM x.1)]) (fun x => x.1 ≤ R) (fun x => [ej b s F (fZ s o.1.1.length x.1 an.2).2, (gb, .box (ke (cL n) (100 + ad.1 * 50) mb o.1 (.imm 3 (ps.1.map cN)) (.imm 4 (an.1.map cB)) (.vec x.2 4 ((fZ s o.1.1.length x.1 an.2).1.map dk)) bL) 63)] ++ (tok x.2 89 4 ((fZ s o.1.1.length x.1 an.2).1.map dk).length ++ (tok kg 63 9 gl.length ++ []))) (fun x => R - x.1) (0, none) rfl ⟨rfl, trivial⟩ (Nat.zero_le _) (fun _ _ h => h) ?_
 rintro ⟨r, q⟩ hr
 dsimp only at hr ⊢
 have hdl := (p8 s o.1.1.length r an.2).len
 have hdl : (fZ s o.1.1.length r an.2).1.length ≤ 11000 := Nat.le_trans hdl (Nat.le_trans (Nat.mul_le_mul (show r ≤ 1000 by omega) (show o.1.1.length + 1 ≤ 11 by omega)) (by omega))
 have hstep : fZ s o.1.1.length (r + 1) an.2 = gT s r (fZ s o.1.1.length r an.2).1 (o.1.1.length + 1) (fZ s o.1.1.length r an.2).2 := rfl
 try dsimp only [Gr, Gq, Gp, Gj]
 repeat' (first|refine ae ?_|refine a6 ?_|refine aa a2 rfl rfl ?_|(apply bK; first|refine aj a2 0 rfl rfl rfl rfl rfl ?_|refine aj a2 1 rfl rfl rfl rfl rfl ?_|refine aj a2 2 rfl rfl rfl rfl rfl ?_|refine aj a2 3 rfl rfl rfl rfl rfl ?_|refine aD a2 0 rfl rfl rfl rfl rfl ?_|refine aD a2 1 rfl rfl rfl rfl rfl ?_|refine aD a2 2 rfl rfl rfl rfl rfl ?_|refine aj a2 1 rfl rfl rfl (by assumption) rfl ?_|refine aj a2 0 rfl rfl rfl (by assumption) rfl ?_|fail)|fail)
 rw [hrg]
 repeat' (first|refine a7 ?_|refine a8 ?_|refine aa a2 rfl rfl ?_)
 rw [hR]
 refine aw rfl (fun h => ?_) (fun h => ?_)
 ·have hrl : r < R := by have := Gz h; omega
  generalize fZ s o.1.1.length r an.2 = D at hdl hstep ⊢
  repeat' (first|refine ae ?_|refine a6 ?_|refine ak ?_|refine ar ?_|refine a7 ?_|refine a8 ?_|refine aa a2 rfl rfl ?_)
  refine aJ [0, 4, 7] (α := Nat × Option (Nat × Nat)) (fun x => [(8, aM ((x.1 : Int) - 1))]) (fun x => x.1 ≤ o.1.1.length + 1) (fun x => [ej b s F (gT s r D.1 x.1 D.2).2, (gb, .box (ke (cL n) (100 + ad.1 * 50) mb o.1 (.imm 3 (ps.1.map cN)) (.imm 4 (an.1.map cB)) (.vec x.2 4 ((gT s r D.1 x.1 D.2).1.map dk)) bL) 63)] ++ (tok x.2 89 4 ((gT s r D.1 x.1 D.2).1.map dk).length ++ (tok kg 63 9 gl.length ++ []))) (fun x => o.1.1.length + 1 - x.1) (0, q) rfl ⟨rfl, trivial⟩ (Nat.zero_le _) (fun _ _ h => h) ?_
  rintro ⟨p, q⟩ hp
  dsimp only at hp ⊢
  have hel := uv s r D.1 D.2 p
  have hst2 : gT s r D.1 (p + 1) D.2 = (cf (dr s 3) fun z => if z = 0 then cf (dr s 41) fun x => if p = 0 then cI ((gT s r D.1 p D.2).1 ++ [(⟨r, -1, x - 20, 0⟩ : dN)]) else cf (dr s 41) fun y => cI ((gT s r D.1 p D.2).1 ++ [(⟨r, (p : Int) - 1, x - 20, y - 20⟩ : dN)]) else cI (gT s r D.1 p D.2).1) (gT s r D.1 p D.2).2 := rfl
  try dsimp only [Gr, Gq, Gp, Gj]
  repeat' (first|refine ae ?_|refine a6 ?_|refine a7 ?_|refine a8 ?_|refine aa a2 rfl rfl ?_|(apply bK; first|refine aj a2 0 rfl rfl rfl rfl rfl ?_|refine aj a2 1 rfl rfl rfl rfl rfl ?_|refine aj a2 2 rfl rfl rfl rfl rfl ?_|refine aj a2 3 rfl rfl rfl rfl rfl ?_|refine aD a2 0 rfl rfl rfl rfl rfl ?_|refine aD a2 1 rfl rfl rfl rfl rfl ?_|refine aD a2 2 rfl rfl rfl rfl rfl ?_|refine aj a2 1 rfl rfl rfl (by assumption) rfl ?_|refine aj a2 0 rfl rfl rfl (by assumption) rfl ?_|fail)|fail)
  refine aw rfl (fun h => ?_) (fun h => ?_)
  ·have hpp : p < o.1.1.length + 1 := by have := Gz h; rw [hpl] at this; omega
   generalize gT s r D.1 p D.2 = E at hel hst2 ⊢
   have hElm : (E.1.map dk).length = E.1.length := Gu ..
   repeat' (first|refine ae ?_|refine a6 ?_|refine ak ?_|refine ar ?_|refine a7 ?_|refine aa a2 rfl rfl ?_)
   refine cJ ?_
   unfold cf at hst2
   generalize dr s 3 E.2 = z at hst2 ⊢
   dsimp only at hst2
   repeat' (first|refine a7 ?_|refine a8 ?_|refine aa a2 rfl rfl ?_)
   refine aw rfl (fun hz => ?_) (fun hz => ?_)
   ·rw [if_pos (Gz hz)] at hst2
    repeat' (first|refine ae ?_|refine a6 ?_|refine aa a2 rfl rfl ?_)
    refine cJ ?_
    have hx := cm s hs z.2.a (n := 41) (by omega)
    have hx : 0 ≤ (dr s 41 z.2).1 ∧ (dr s 41 z.2).1 < 41 := hx
    generalize dr s 41 z.2 = x at hx hst2 ⊢
    try dsimp only at hst2
    repeat' (first|refine ae ?_|refine a6 ?_|refine a7 ?_|refine a8 ?_|refine aa a2 rfl rfl ?_|(apply aV; refine aU ?_)|(apply aG; first|refine ai a2 0 rfl rfl rfl rfl rfl rfl rfl ?_|refine ai a2 1 rfl rfl rfl rfl rfl rfl rfl ?_|refine ai a2 2 rfl rfl rfl rfl rfl rfl rfl ?_|refine ai a2 3 rfl rfl rfl rfl rfl rfl rfl ?_|fail)|refine b7 a2 fun _=>?_|fail)
    refine bI (aK (List.perm_middle (l₁ := [_, _])).symm) ?_
    refine aw rfl (fun h0 => ?_) (fun h0 => ?_)
    ·have h0 : ¬ p = 0 := by have := Gz h0; omega
     rw [if_neg h0] at hst2
     repeat' (first|refine a6 ?_|refine aa a2 rfl rfl ?_)
     refine cJ ?_
     have hy := cm s hs x.2.a (n := 41) (by omega)
     have hy : 0 ≤ (dr s 41 x.2).1 ∧ (dr s 41 x.2).1 < 41 := hy
     generalize dr s 41 x.2 = y at hy hst2 ⊢
     try dsimp only [cI] at hst2
     repeat' (first|refine a6 ?_|refine a7 ?_|refine a8 ?_|refine aa a2 rfl rfl ?_|(apply bK; first|refine aj a2 0 rfl rfl rfl rfl rfl ?_|refine aj a2 1 rfl rfl rfl rfl rfl ?_|refine aj a2 2 rfl rfl rfl rfl rfl ?_|refine aj a2 3 rfl rfl rfl rfl rfl ?_|refine aD a2 0 rfl rfl rfl rfl rfl ?_|refine aD a2 1 rfl rfl rfl rfl rfl ?_|refine aD a2 2 rfl rfl rfl rfl rfl ?_|refine aj a2 1 rfl rfl rfl (by assumption) rfl ?_|refine aj a2 0 rfl rfl rfl (by assumption) rfl ?_|fail)|(apply aV; refine aU ?_)|(apply aG; first|refine ai a2 0 rfl rfl rfl rfl rfl rfl rfl ?_|refine ai a2 1 rfl rfl rfl rfl rfl rfl rfl ?_|refine ai a2 2 rfl rfl rfl rfl rfl rfl rfl ?_|refine ai a2 3 rfl rfl rfl rfl rfl rfl rfl ?_|fail)|refine bG a2 ?_|fail)
     refine bE a2 _ rfl rfl rfl rfl (eU (A := [_, _, _])) (by simp; omega) (by simp; omega) rfl fun q' => ?_
     refine aN (aK (eU (A := [_, _, _])).symm) ?_
     repeat' (first|refine a6 ?_|refine a7 ?_|refine aH ?_|refine a8 ?_|refine aa a2 rfl rfl ?_|(apply aV; refine aU ?_)|(apply aG; first|refine ai a2 0 rfl rfl rfl rfl rfl rfl rfl ?_|refine ai a2 1 rfl rfl rfl rfl rfl rfl rfl ?_|refine ai a2 2 rfl rfl rfl rfl rfl rfl rfl ?_|refine ai a2 3 rfl rfl rfl rfl rfl rfl rfl ?_|fail))
     exact aB (p + 1, q') rfl ⟨by dsimp only; rw [show ((p + 1 : Nat) : Int) - 1 = (p : Int) - 1 + 1 by omega]; rfl, trivial⟩ (by dsimp only; omega) (by dsimp only; omega) (fun _ _ h => by dsimp only; rw [hst2]; dsimp only; rw [List.map_append]; exact h.sublist (List.Sublist.cons_cons _ (List.Sublist.cons_cons _ (List.sublist_cons_self ..))))
    ·have h0 : p = 0 := by have := Gy h0; omega
     rw [if_pos h0] at hst2
     try dsimp only [cI] at hst2
     repeat' (first|refine a6 ?_|refine ar ?_|refine a7 ?_|refine aa a2 rfl rfl ?_|(apply bK; first|refine aj a2 0 rfl rfl rfl rfl rfl ?_|refine aj a2 1 rfl rfl rfl rfl rfl ?_|refine aj a2 2 rfl rfl rfl rfl rfl ?_|refine aj a2 3 rfl rfl rfl rfl rfl ?_|refine aD a2 0 rfl rfl rfl rfl rfl ?_|refine aD a2 1 rfl rfl rfl rfl rfl ?_|refine aD a2 2 rfl rfl rfl rfl rfl ?_|refine aj a2 1 rfl rfl rfl (by assumption) rfl ?_|refine aj a2 0 rfl rfl rfl (by assumption) rfl ?_|fail)|refine bG a2 ?_|fail)
     refine bE a2 _ rfl rfl rfl rfl (eU (A := [_, _, _])) (by simp; omega) (by simp; omega) rfl fun q' => ?_
     refine aN (aK (eU (A := [_, _, _])).symm) ?_
     repeat' (first|refine a6 ?_|refine a7 ?_|refine aH ?_|refine a8 ?_|refine aa a2 rfl rfl ?_|(apply aV; refine aU ?_)|(apply aG; first|refine ai a2 0 rfl rfl rfl rfl rfl rfl rfl ?_|refine ai a2 1 rfl rfl rfl rfl rfl rfl rfl ?_|refine ai a2 2 rfl rfl rfl rfl rfl rfl rfl ?_|refine ai a2 3 rfl rfl rfl rfl rfl rfl rfl ?_|fail))
     subst h0
     exact aB (0 + 1, q') rfl ⟨rfl, trivial⟩ (by dsimp only; omega) (by dsimp only; omega) (fun _ _ h => by dsimp only; rw [hst2]; dsimp only; rw [List.map_append]; exact h.sublist (List.Sublist.cons_cons _ (List.Sublist.cons_cons _ (List.sublist_cons_self ..))))
   ·rw [if_neg (Gy hz)] at hst2
    try dsimp only [cI] at hst2
    repeat' (first|refine a6 ?_|refine ar ?_|refine a7 ?_|refine aH ?_|refine a8 ?_|refine aa a2 rfl rfl ?_|(apply aV; refine aU ?_)|fail)
    exact aB (p + 1, q) rfl ⟨by dsimp only; rw [show ((p + 1 : Nat) : Int) - 1 = (p : Int) - 1 + 1 by omega]; rfl, trivial⟩ (by dsimp only; omega) (by dsimp only; omega) (fun _ _ h => by dsimp only; rw [hst2]; exact h)
  have hpp : p = o.1.1.length + 1 := by have := Gy h; rw [hpl] at this; omega
  subst hpp
  repeat' (first|refine a6 ?_|refine aO ?_|refine a7 ?_|refine au ?_|refine aH ?_|refine ay ?_|refine av ?_|refine a8 ?_|refine aa a2 rfl rfl ?_|(apply aV; refine aU ?_)|fail)
  exact aB (r + 1, q) rfl ⟨by rw [Gw]; rfl, trivial⟩ (by dsimp only; omega) (by dsimp only; omega) (fun _ _ h => by dsimp only; rw [hstep]; exact h)
 have hrl : r = R := by have := Gy h; omega
 subst hrl
 clear hstep hdl
 generalize e7 : fZ s o.1.1.length r an.2 = de
 repeat' (first|refine ae ?_|refine a6 ?_|refine aO ?_|refine a7 ?_|refine au ?_|refine ay ?_|refine av ?_|refine a8 ?_|refine aa a2 rfl rfl ?_|(apply aG; first|refine ai a2 0 rfl rfl rfl rfl rfl rfl rfl ?_|refine ai a2 1 rfl rfl rfl rfl rfl rfl rfl ?_|refine ai a2 2 rfl rfl rfl rfl rfl rfl rfl ?_|refine ai a2 3 rfl rfl rfl rfl rfl rfl rfl ?_|fail))
 refine bI (aK (L' := [ej b s F (gJ 2 de.2).2, (gb, .box (ke (cL n) (100 + ad.1 * 50) mb o.1 (.imm 3 (ps.1.map cN)) (.imm 4 (an.1.map cB)) (.vec q 4 (de.1.map dk)) bL) 63)] ++ (tok q 89 4 (de.1.map dk).length ++ (tok kg 63 9 gl.length ++ []))) (Gm _)) ?_
 refine bI (br 1 rfl fun σ vs h => cn (k := 7) (c' := .imm 4 (de.1.map dk)) h rfl fun v hv => VR.im hv) ?_
 refine bI (bY (L' := [ej b s F (gJ 2 de.2).2, (gb, .box (ke (cL n) (100 + ad.1 * 50) mb o.1 (.imm 3 (ps.1.map cN)) (.imm 4 (an.1.map cB)) (.imm 4 (de.1.map dk)) bL) 63)] ++ (tok kg 63 9 gl.length ++ [])) (List.Sublist.cons_cons _ (List.Sublist.cons_cons _ (List.sublist_append_right _ _)))) ?_
 generalize e8 : (gJ 2 de.2).2 = w
 refine bt 11 [(0, .v), (1, .v), (2, .v), (3, .l), (4, .v), (5, .v), (6, .v), (7, .v), (8, .v), (9, .l), (10, .v)] none ?_ trivial rfl (by kernel_rfl) (by kernel_rfl) (by kernel_rfl) mixed (by kernel_rfl) rfl
 repeat' (first|refine aC ?_|refine aZ a2 ?_|refine df a2 0 rfl rfl rfl rfl (by first|trivial|rfl) ?_|refine df a2 1 rfl rfl rfl rfl (by first|trivial|rfl) ?_)
 rw [hfu]
 repeat' (first|refine aZ a2 ?_|fail)
 rw [hfn, hpl]
 refine bq [0, 4, 143, 147, 153] rfl rfl ?_
 refine tv (qS s hs F (n := o.1.1.length) (fn := fn) (most := 6) (by omega) (by omega) (by omega)) ?_
 generalize e9 : m7 s o.1.1.length fn 6 w = hi
 unfold iZ
 repeat' (first|refine a7 ?_|refine a8 ?_|refine aa a2 rfl rfl ?_|(apply aG; first|refine ai a2 0 rfl rfl rfl rfl rfl rfl rfl ?_|refine ai a2 1 rfl rfl rfl rfl rfl rfl rfl ?_|refine ai a2 2 rfl rfl rfl rfl rfl rfl rfl ?_|refine ai a2 3 rfl rfl rfl rfl rfl rfl rfl ?_|fail))
 refine bI (aK (L' := [ej b s F hi.2, (gb, .box (ke (cL n) (100 + ad.1 * 50) mb o.1 (.imm 3 (ps.1.map cN)) (.imm 4 (an.1.map cB)) (.imm 4 (de.1.map dk)) (.imm 2 (hi.1.map dS))) 63)] ++ (tok kg 63 9 gl.length ++ [])) (Gm _)) ?_
 refine bt 9 [(0, .v), (1, .v), (2, .v), (3, .v), (4, .v), (5, .l), (6, .l), (7, .v), (8, .e)] none ?_ trivial rfl (by kernel_rfl) (by kernel_rfl) (by kernel_rfl) mixed (by kernel_rfl) rfl
 repeat' (first|refine aC ?_|refine aZ a2 ?_|refine eh a2 ?_|refine df a2 0 rfl rfl rfl rfl (by first|trivial|rfl) ?_|refine vK a2 1 rfl rfl rfl rfl (by first|trivial|rfl) ?_)
 rw [hF]
 refine fY a2 _ rfl rfl rfl rfl (eU (A := [_, _])) (by simp; omega) (by simp; omega) (by first | trivial | rfl) fun q' => ?_
 refine bq [156, 164] rfl rfl ?_
 refine aN (aK (eU (A := [_, _])).symm) ?_
 repeat' (first|refine a8 ?_|refine aa a2 rfl rfl ?_|(apply aG; first|refine ai a2 0 rfl rfl rfl rfl rfl rfl rfl ?_|refine ai a2 1 rfl rfl rfl rfl rfl rfl rfl ?_|refine ai a2 2 rfl rfl rfl rfl rfl rfl rfl ?_|refine ai a2 3 rfl rfl rfl rfl rfl rfl rfl ?_|fail))
 have hv : jF s r fn n m = (⟨cL n, 100 + ad.1 * 50, mb, o.1.1, o.1.2, ps.1, an.1, de.1, hi.1⟩, hi.2) := by
  unfold jF cf
  rw [e1]
  try dsimp only
  rw [e2]
  try dsimp only
  rw [e3]
  try dsimp only
  rw [e4]
  try dsimp only
  rw [e5, hmk]
  try dsimp only
  rw [e6]
  try dsimp only
  rw [e7]
  try dsimp only
  rw [e8, e9]
  rfl
 rw [hv]
 exact be (bY (L' := [ej b s (AG F (.vec q' 9 (gl ++ [bA ⟨cL n, 100 + ad.1 * 50, mb, o.1.1, o.1.2, ps.1, an.1, de.1, hi.1⟩]))) hi.2] ++ (tok q' 63 9 (gl ++ [bA ⟨cL n, 100 + ad.1 * 50, mb, o.1.1, o.1.2, ps.1, an.1, de.1, hi.1⟩]).length ++ [])) (List.Sublist.cons_cons _ (List.sublist_cons_self ..))) (dL rfl ⟨q', rfl⟩)
end Go.Proofs.YtjjpkibjffmceaaGreat
