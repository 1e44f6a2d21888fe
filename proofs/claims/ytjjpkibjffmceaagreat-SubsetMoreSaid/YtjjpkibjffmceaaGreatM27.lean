/-
  The maker: rules.
-/
import Derived.Test.YtjjpkibjffmceaaGreatM26
import Derived.Test.YtjjpkibjffmceaaGreatM11
namespace Go.Proofs.YtjjpkibjffmceaaGreat
open Go.RowKit
attribute [local irreducible] AT bV AX AO Av Kt bC eH DA dl
variable (s : List Int) (hs : s.length ≤ 1000000) (F : MF)
include hs
def CV (r : bX) : AV := .agg (bD r)
def FY (rb : Nat) (b0 b1 b2 b3 b4 : AV) (x : Int) : Nat × AB := (rb, .box [b0, b1, b2, b3, b4, aM x] 81)
theorem qZ (a : List Int) (l : List (List Int)) : bv [a] ++ bv l = bv (a :: l) := by
 have _ := hs
 clear hs
 rfl
theorem tE (n : Int) (m : MS) (k : Nat) : (fR s n k m).1.length = k := by
 have _ := hs
 clear hs
 induction k with
 | zero => rfl
 | succ k ih =>
  have : fR s n (k + 1) m = ((fR s n k m).1 ++ [(dr s n (fR s n k m).2).1], (dr s n (fR s n k m).2).2) := rfl
  rw [this]
  simp [ih]
theorem uk (nn : Int) (calls : List Int) (m : MS) (k : Nat) : (fc s nn calls k m).1.length = k := by
 have _ := hs
 clear hs
 induction k with
 | zero => rfl
 | succ i ih =>
  have : fc s nn calls (i + 1) m = (cf (dr s nn) fun a => cf (dr s calls.length) fun z => cI ((fc s nn calls i m).1 ++ [(⟨a, calls.getD z.toNat 0⟩ : fT)])) (fc s nn calls i m).2 := rfl
  rw [this]
  simp [cf, cI, ih]
set_option maxHeartbeats 16000000 in
theorem xO {kg : Option (Nat × Nat)} {gl : List (List AV)} (hF : F.gl = .vec kg 9 gl) (n : Nat) (hn : gl.length = n) (h0 : 0 < n ∧ n ≤ 1000) (kind : Int) (hk : 1 ≤ kind ∧ kind ≤ 6) (calls : List Int) (hcl : calls.length ≤ 1000) : qf 97 [aM kind, .imm 1 (aT calls)] s F (gm s n kind calls) CV := by
 intro b m
 refine aQ Tryz.func97 rfl Tryz.ntmps97 rfl fun B => ?_
 repeat' (first|refine ae ?_|refine a6 ?_|refine a7 ?_|refine a8 ?_|refine aa a2 rfl rfl ?_|(apply bK; first|refine aj a2 0 rfl rfl rfl rfl rfl ?_|refine aj a2 1 rfl rfl rfl rfl rfl ?_|refine aj a2 2 rfl rfl rfl rfl rfl ?_|refine aj a2 3 rfl rfl rfl rfl rfl ?_|refine aD a2 0 rfl rfl rfl rfl rfl ?_|refine aD a2 1 rfl rfl rfl rfl rfl ?_|refine aD a2 2 rfl rfl rfl rfl rfl ?_|refine aj a2 1 rfl rfl rfl (by assumption) rfl ?_|refine aj a2 0 rfl rfl rfl (by assumption) rfl ?_|fail)|refine b7 a2 fun _=>?_|fail)
 rw [hF]
 repeat' (first|refine ae ?_|refine a6 ?_|refine a7 ?_|refine a8 ?_|refine aa a2 rfl rfl ?_)
 rw [hn]
 rename_i tb rb
 refine aN (aK (L' := [ej b s F m, (rb, .box [bL, bL, bL, bL, bL, aM 0] 81), (tb, .box [bL, bL, bL, bL, bL, aM 0] 81)]) (List.perm_append_comm (l₁ := [_, _]))) ?_
 refine tv (pL s hs F hF n hn h0) ?_
 have ha := oy s (n := n) (by omega) m
 generalize e1 : mx s n m = p1 at ha ⊢
 have haf := ha.few
 unfold Cd
 repeat' (first|refine ae ?_|refine a6 ?_|refine a7 ?_|refine a8 ?_|refine aa a2 rfl rfl ?_|(apply aG; first|refine ai a2 0 rfl rfl rfl rfl rfl rfl rfl ?_|refine ai a2 1 rfl rfl rfl rfl rfl rfl rfl ?_|refine ai a2 2 rfl rfl rfl rfl rfl rfl rfl ?_|refine ai a2 3 rfl rfl rfl rfl rfl rfl rfl ?_|fail)|refine iz (d := 22) a2 fun _=>?_|fail)
 rename_i kb
 refine bI (aK (L' := [ej b s F p1.2, (rb, .box [bL, .vec (some (kb, 1)) 1 (bv [p1.1]), bL, bL, bL, aM 0] 81), (tb, .box [bL, bL, bL, bL, bL, aM 0] 81)] ++ (tok (some (kb, 1)) 22 1 1 ++ [])) (List.perm_append_comm (l₁ := [_]))) ?_
 repeat' (first|fail)
 refine aw rfl (fun h6 => ?_) (fun h6 => ?_)
 ·have h6 := Gz h6
  subst h6
  repeat' (first|refine ae ?_)
  refine dw [.cell (rb, 1, .vec (some (kb, 1)) 1 (bv [p1.1]))] 5 [(0, .v), (1, .k), (2, .v), (3, .f), (4, .v)] none ?_ trivial rfl (by kernel_rfl) (by kernel_rfl) (by kernel_rfl) mixed (by kernel_rfl) rfl
  repeat' (first|refine aC ?_|refine aZ a2 ?_|fail)
  refine ez a2 0 rfl rfl rfl (bR 1 rfl rfl cb) (by first | trivial | rfl) ?_
  repeat' (first|refine aC ?_|refine aZ a2 ?_|fail)
  refine qF (pL s hs F hF n hn h0) (bR 1 rfl rfl cb) ?_
  generalize e2 : mx s n p1.2 = p2
  unfold Cd
  repeat' (first|refine aC ?_|refine eh a2 ?_|fail)
  refine bq [0, 6, 7, 27, 30] rfl rfl ?_
  repeat' (first|fail)
  refine bE a2 _ rfl rfl rfl rfl (eU (A := [_, _, _])) (by simp [fH s hs]) (by simp [fH s hs]) rfl fun q' => ?_
  refine aN (aK (eU (A := [_, _, _])).symm) ?_
  repeat' (first|refine ae ?_|refine a6 ?_|refine a7 ?_|refine a8 ?_|refine aa a2 rfl rfl ?_|(apply aG; first|refine ai a2 0 rfl rfl rfl rfl rfl rfl rfl ?_|refine ai a2 1 rfl rfl rfl rfl rfl rfl rfl ?_|refine ai a2 2 rfl rfl rfl rfl rfl rfl rfl ?_|refine ai a2 3 rfl rfl rfl rfl rfl rfl rfl ?_|fail))
  refine cJ ?_
  have hx := cm s hs p2.2.a (n := 41) (by omega)
  have hx : 0 ≤ (dr s 41 p2.2).1 ∧ (dr s 41 p2.2).1 < 41 := hx
  generalize e3 : dr s 41 p2.2 = p3 at hx ⊢
  repeat' (first|refine ae ?_|refine a6 ?_|refine aq ?_|refine a7 ?_|refine aE ?_|refine a8 ?_|refine aa a2 rfl rfl ?_|(apply bK; first|refine aj a2 0 rfl rfl rfl rfl rfl ?_|refine aj a2 1 rfl rfl rfl rfl rfl ?_|refine aj a2 2 rfl rfl rfl rfl rfl ?_|refine aj a2 3 rfl rfl rfl rfl rfl ?_|refine aD a2 0 rfl rfl rfl rfl rfl ?_|refine aD a2 1 rfl rfl rfl rfl rfl ?_|refine aD a2 2 rfl rfl rfl rfl rfl ?_|refine aj a2 1 rfl rfl rfl (by assumption) rfl ?_|refine aj a2 0 rfl rfl rfl (by assumption) rfl ?_|fail)|(apply aV; refine aU ?_)|(apply aG; first|refine ai a2 0 rfl rfl rfl rfl rfl rfl rfl ?_|refine ai a2 1 rfl rfl rfl rfl rfl rfl rfl ?_|refine ai a2 2 rfl rfl rfl rfl rfl rfl rfl ?_|refine ai a2 3 rfl rfl rfl rfl rfl rfl rfl ?_|fail))
  have hv : gm s n 6 calls m = (⟨[], [p1.1, p2.1], [], [], [], p3.1 * 10 - 200⟩, p3.2) := by simp [gm, CR, cf, cI, e1, e2, e3]
  rw [hv]
  refine be (br 2 (cs' := bD ⟨[], [p1.1, p2.1], [], [], [], p3.1 * 10 - 200⟩) rfl fun σ vs h => nD.vrs (a := [bL, .vec q' 1 (bv [p1.1, p2.1]), bL, bL, bL, aM (p3.1 * 10 - 200)]) (b := bD ⟨[], [p1.1, p2.1], [], [], [], p3.1 * 10 - 200⟩) ⟨eb.nil 1, eb.im, eb.nil 1, eb.nil 1, eb.nil 2, eb.refl _, trivial⟩ h) (iH a2 2 [ej b s F p3.2] rfl rfl rfl rfl rfl (List.Sublist.cons_cons _ (List.nil_sublist _)) ⟨rfl, rfl⟩)
 have h6 := Gy h6
 refine bI (br 1 (cs' := [.imm 1 [], .vec (some (kb, 1)) 1 (bv [p1.1]), .imm 1 [], .vec none 1 [], .vec none 2 [], aM 0]) rfl fun σ vs h => nD.vrs (a := [bL, .vec (some (kb, 1)) 1 (bv [p1.1]), bL, bL, bL, aM 0]) (b := [.imm 1 [], .vec (some (kb, 1)) 1 (bv [p1.1]), .imm 1 [], .vec none 1 [], .vec none 2 [], aM 0]) ⟨eb.nil 1, eb.refl _, eb.nil 1, eb.vecN 1, eb.vecN 2, eb.refl _, trivial⟩ h) ?_
 repeat' (first|refine ae ?_|refine a6 ?_|refine ar ?_|refine a7 ?_|refine aa a2 rfl rfl ?_)
 refine cJ ?_
 generalize e2 : dr s 2 p1.2 = z
 repeat' (first|refine a7 ?_|refine a8 ?_|refine aa a2 rfl rfl ?_)
 refine rj [0, 1, 2, 6, 7, 8] ([ej b s F (iS s n p1.2).2, (rb, .box [.imm 1 (bv (iS s n p1.2).1.1), .vec (some (kb, 1)) 1 (bv [p1.1]), .imm 1 (bv (iS s n p1.2).1.2), .vec none 1 [], .vec none 2 [], aM 0] 81), (tb, .box [bL, bL, bL, bL, bL, aM 0] 81)] ++ (tok (some (kb, 1)) 22 1 1 ++ [])) rfl (fun Q' K => ?_) ?_
 ·refine aw rfl (fun hz => ?_) (fun hz => ?_)
  ·have hz := Gz hz
   repeat' (first|refine ae ?_|refine a6 ?_|refine aa a2 rfl rfl ?_)
   refine tv (mv s hs F hF n hn h0 2 (by omega)) ?_
   generalize e3 : og s n 2 z.2 = y1
   unfold Ab
   repeat' (first|refine a6 ?_|refine a7 ?_|refine a8 ?_|refine aa a2 rfl rfl ?_|(apply aG; first|refine ai a2 0 rfl rfl rfl rfl rfl rfl rfl ?_|refine ai a2 1 rfl rfl rfl rfl rfl rfl rfl ?_|refine ai a2 2 rfl rfl rfl rfl rfl rfl rfl ?_|refine ai a2 3 rfl rfl rfl rfl rfl rfl rfl ?_|fail))
   refine tv (mv s hs F hF n hn h0 2 (by omega)) ?_
   generalize e4 : og s n 2 y1.2 = y2
   unfold Ab
   repeat' (first|refine a8 ?_|refine aa a2 rfl rfl ?_|(apply aG; first|refine ai a2 0 rfl rfl rfl rfl rfl rfl rfl ?_|refine ai a2 1 rfl rfl rfl rfl rfl rfl rfl ?_|refine ai a2 2 rfl rfl rfl rfl rfl rfl rfl ?_|refine ai a2 3 rfl rfl rfl rfl rfl rfl rfl ?_|fail))
   have hv : iS s n p1.2 = ((y1.1, y2.1), y2.2) := by simp [iS, cf, cI, e2, e3, e4, hz]
   rw [hv] at K
   exact K _ rfl
  ·have hz := Gy hz
   repeat' (first|refine ar ?_)
   have hv : iS s n p1.2 = (([], []), z.2) := by simp [iS, cf, cI, e2, hz]
   rw [hv] at K
   exact K _ rfl
 generalize e3 : iS s n p1.2 = w
 have ha0 : (bv [p1.1])[0]? = some [.imm 1 (aT p1.1)] := rfl
 have hial : (aT p1.1).length = p1.1.length := aR _
 by_cases h15 : kind = 1 ∨ kind = 5
 ·have hv : gm s n kind calls m = (⟨w.1.1, [p1.1], w.1.2, (fR s n p1.1.length w.2).1, [], 0⟩, (fR s n p1.1.length w.2).2) := by simp [gm, cf, cI, e1, e3, h6, h15]
  rw [hv]
  rcases h15 with rfl | rfl
  all_goals
   repeat' (first|refine ae ?_|refine a6 ?_|refine ak ?_|refine ar ?_|refine a7 ?_|refine a8 ?_|refine aa a2 rfl rfl ?_|refine bS rfl ?_|refine bN rfl ?_)
   refine aJ [0, 6, 7, 8] (α := Nat × Option (Nat × Nat)) (fun x => [(9, aM x.1)]) (fun x => x.1 ≤ p1.1.length) (fun x => [ej b s F (fR s n x.1 w.2).2, (rb, .box [.imm 1 (bv w.1.1), .vec (some (kb, 1)) 1 (bv [p1.1]), .imm 1 (bv w.1.2), .vec x.2 1 (aT (fR s n x.1 w.2).1), .vec none 2 [], aM 0] 81), (tb, .box [bL, bL, bL, bL, bL, aM 0] 81)] ++ (tok x.2 3 1 (aT (fR s n x.1 w.2).1).length ++ (tok (some (kb, 1)) 22 1 1 ++ []))) (fun x => p1.1.length - x.1) (0, none) rfl ⟨rfl, trivial⟩ (Nat.zero_le _) (fun _ _ h => h) ?_
   rintro ⟨i, q⟩ hi
   dsimp only at hi ⊢
   have hol := tE s hs n w.2 i
   have hstep : fR s n (i + 1) w.2 = ((fR s n i w.2).1 ++ [(dr s n (fR s n i w.2).2).1], (dr s n (fR s n i w.2).2).2) := rfl
   try dsimp only [Gr, Gq, Gp, Gj]
   repeat' (first|refine ae ?_|refine a6 ?_|refine a7 ?_|refine a8 ?_|refine aa a2 rfl rfl ?_|(apply bK; first|refine aj a2 0 rfl rfl rfl rfl rfl ?_|refine aj a2 1 rfl rfl rfl rfl rfl ?_|refine aj a2 2 rfl rfl rfl rfl rfl ?_|refine aj a2 3 rfl rfl rfl rfl rfl ?_|refine aD a2 0 rfl rfl rfl rfl rfl ?_|refine aD a2 1 rfl rfl rfl rfl rfl ?_|refine aD a2 2 rfl rfl rfl rfl rfl ?_|refine aj a2 1 rfl rfl rfl (by assumption) rfl ?_|refine aj a2 0 rfl rfl rfl (by assumption) rfl ?_|fail)|(apply aX; first|refine aW a2 ?_|refine aP a2 ?_)|fail)
   refine aw rfl (fun h => ?_) (fun h => ?_)
   ·have hil : i < p1.1.length := by have := Gz h; omega
    generalize fR s n i w.2 = st at hol hstep ⊢
    have hoil : (aT st.1).length = st.1.length := aR _
    repeat' (first|refine ae ?_|refine ak ?_|refine ar ?_|refine a7 ?_)
    refine dw [.cell (rb, 3, .vec q 1 (aT st.1))] 6 [(0, .v), (1, .k), (2, .v), (3, .v), (4, .f), (5, .v)] none ?_ trivial rfl (by kernel_rfl) (by kernel_rfl) (by kernel_rfl) mixed (by kernel_rfl) rfl
    repeat' (first|refine aC ?_|refine aZ a2 ?_|fail)
    refine ez a2 0 rfl rfl rfl (bR 1 rfl rfl cb) (by first | trivial | rfl) ?_
    repeat' (first|refine aC ?_|refine aZ a2 ?_|fail)
    refine eR (bR 1 rfl rfl cb) ?_
    generalize dr s n st.2 = o at hstep ⊢
    repeat' (first|refine aC ?_|refine eh a2 ?_|fail)
    refine bq [0, 6, 7, 8, 9, 98, 102] rfl rfl ?_
    repeat' (first|fail)
    refine bE a2 _ rfl rfl rfl rfl (eU (A := [_, _, _])) (by simp [aR]; omega) (by simp [aR]; omega) rfl fun q' => ?_
    refine aN (aK (eU (A := [_, _, _])).symm) ?_
    repeat' (first|refine a6 ?_|refine a7 ?_|refine aH ?_|refine a8 ?_|refine aa a2 rfl rfl ?_|(apply aV; refine aU ?_)|(apply aG; first|refine ai a2 0 rfl rfl rfl rfl rfl rfl rfl ?_|refine ai a2 1 rfl rfl rfl rfl rfl rfl rfl ?_|refine ai a2 2 rfl rfl rfl rfl rfl rfl rfl ?_|refine ai a2 3 rfl rfl rfl rfl rfl rfl rfl ?_|fail))
    exact aB (i + 1, q') rfl ⟨by rw [Gw]; rfl, trivial⟩ (by dsimp only; omega) (by dsimp only; omega) (fun _ _ h => by dsimp only; rw [hstep]; simpa [gg, gV, aT] using h)
   have hil : i = p1.1.length := by have := Gy h; omega
   subst hil
   generalize fR s n p1.1.length w.2 = st
   repeat' (first|refine ae ?_|refine a6 ?_|refine aq ?_|refine aO ?_|refine a7 ?_|refine au ?_|refine aH ?_|refine ay ?_|refine av ?_|refine a8 ?_|(apply bK; first|refine aj a2 0 rfl rfl rfl rfl rfl ?_|refine aj a2 1 rfl rfl rfl rfl rfl ?_|refine aj a2 2 rfl rfl rfl rfl rfl ?_|refine aj a2 3 rfl rfl rfl rfl rfl ?_|refine aD a2 0 rfl rfl rfl rfl rfl ?_|refine aD a2 1 rfl rfl rfl rfl rfl ?_|refine aD a2 2 rfl rfl rfl rfl rfl ?_|refine aj a2 1 rfl rfl rfl (by assumption) rfl ?_|refine aj a2 0 rfl rfl rfl (by assumption) rfl ?_|fail)|(apply aG; first|refine ai a2 0 rfl rfl rfl rfl rfl rfl rfl ?_|refine ai a2 1 rfl rfl rfl rfl rfl rfl rfl ?_|refine ai a2 2 rfl rfl rfl rfl rfl rfl rfl ?_|refine ai a2 3 rfl rfl rfl rfl rfl rfl rfl ?_|fail))
   exact be (br 2 (cs' := bD ⟨w.1.1, [p1.1], w.1.2, st.1, [], 0⟩) rfl fun σ vs h => nD.vrs (a := [.imm 1 (bv w.1.1), .vec (some (kb, 1)) 1 (bv [p1.1]), .imm 1 (bv w.1.2), .vec q 1 (aT st.1), .vec none 2 [], aM 0]) (b := bD ⟨w.1.1, [p1.1], w.1.2, st.1, [], 0⟩) ⟨eb.refl _, eb.im, eb.refl _, eb.im, eb.im, eb.refl _, trivial⟩ h) (iH a2 2 [ej b s F st.2] rfl rfl rfl rfl rfl (List.Sublist.cons_cons _ (List.nil_sublist _)) ⟨rfl, rfl⟩)
 by_cases h2 : kind = 2
 ·subst h2
  repeat' (first|refine ae ?_|refine a6 ?_|refine ak ?_|refine a7 ?_|refine a8 ?_|refine aa a2 rfl rfl ?_|refine bS rfl ?_|refine bN rfl ?_)
  refine cJ ?_
  have hc := cm s hs w.2.a (n := 4) (by omega)
  have hc : 0 ≤ (dr s 4 w.2).1 ∧ (dr s 4 w.2).1 < 4 := hc
  generalize e4 : dr s 4 w.2 = y at hc ⊢
  obtain ⟨k, hkk⟩ : ∃ k : Nat, y.1 = k := ⟨y.1.toNat, by omega⟩
  have hv : gm s n 2 calls m = (⟨w.1.1, [p1.1], w.1.2, (fR s n k y.2).1, [], 0⟩, (fR s n k y.2).2) := by simp [gm, cf, cI, e1, e3, e4, hkk]
  rw [hv, hkk]
  repeat' (first|refine ae ?_|refine a6 ?_|refine ak ?_|refine a7 ?_|refine a8 ?_|refine aa a2 rfl rfl ?_)
  refine aJ [0, 6, 7, 8, 10] (α := Nat × Option (Nat × Nat)) (fun x => [(11, aM x.1)]) (fun x => x.1 ≤ k) (fun x => [ej b s F (fR s n x.1 y.2).2, (rb, .box [.imm 1 (bv w.1.1), .vec (some (kb, 1)) 1 (bv [p1.1]), .imm 1 (bv w.1.2), .vec x.2 1 (aT (fR s n x.1 y.2).1), .vec none 2 [], aM 0] 81), (tb, .box [bL, bL, bL, bL, bL, aM 0] 81)] ++ (tok x.2 3 1 (aT (fR s n x.1 y.2).1).length ++ (tok (some (kb, 1)) 22 1 1 ++ []))) (fun x => k - x.1) (0, none) rfl ⟨rfl, trivial⟩ (Nat.zero_le _) (fun _ _ h => h) ?_
  rintro ⟨i, q⟩ hi
  dsimp only at hi ⊢
  have hol := tE s hs n y.2 i
  have hstep : fR s n (i + 1) y.2 = ((fR s n i y.2).1 ++ [(dr s n (fR s n i y.2).2).1], (dr s n (fR s n i y.2).2).2) := rfl
  try dsimp only [Gr, Gq, Gp, Gj]
  repeat' (first|refine ae ?_|refine a6 ?_|refine a7 ?_|refine a8 ?_|refine aa a2 rfl rfl ?_)
  refine aw rfl (fun h => ?_) (fun h => ?_)
  ·have hil : i < k := by have := Gz h; omega
   generalize fR s n i y.2 = st at hol hstep ⊢
   have hoil : (aT st.1).length = st.1.length := aR _
   repeat' (first|refine ae ?_|refine ak ?_|refine ar ?_|refine a7 ?_)
   refine dw [.cell (rb, 3, .vec q 1 (aT st.1))] 6 [(0, .v), (1, .k), (2, .v), (3, .v), (4, .f), (5, .v)] none ?_ trivial rfl (by kernel_rfl) (by kernel_rfl) (by kernel_rfl) mixed (by kernel_rfl) rfl
   repeat' (first|refine aC ?_|refine aZ a2 ?_|fail)
   refine ez a2 0 rfl rfl rfl (bR 1 rfl rfl cb) (by first | trivial | rfl) ?_
   repeat' (first|refine aC ?_|refine aZ a2 ?_|fail)
   refine eR (bR 1 rfl rfl cb) ?_
   generalize dr s n st.2 = o at hstep ⊢
   repeat' (first|refine aC ?_|refine eh a2 ?_|fail)
   refine bq [0, 6, 7, 8, 10, 11, 115, 119] rfl rfl ?_
   repeat' (first|fail)
   refine bE a2 _ rfl rfl rfl rfl (eU (A := [_, _, _])) (by simp [aR]; omega) (by simp [aR]; omega) rfl fun q' => ?_
   refine aN (aK (eU (A := [_, _, _])).symm) ?_
   repeat' (first|refine a6 ?_|refine a7 ?_|refine aH ?_|refine a8 ?_|refine aa a2 rfl rfl ?_|(apply aV; refine aU ?_)|(apply aG; first|refine ai a2 0 rfl rfl rfl rfl rfl rfl rfl ?_|refine ai a2 1 rfl rfl rfl rfl rfl rfl rfl ?_|refine ai a2 2 rfl rfl rfl rfl rfl rfl rfl ?_|refine ai a2 3 rfl rfl rfl rfl rfl rfl rfl ?_|fail))
   exact aB (i + 1, q') rfl ⟨by rw [Gw]; rfl, trivial⟩ (by dsimp only; omega) (by dsimp only; omega) (fun _ _ h => by dsimp only; rw [hstep]; simpa [gg, gV, aT] using h)
  have hil : i = k := by have := Gy h; omega
  subst hil
  generalize fR s n i y.2 = st
  repeat' (first|refine ae ?_|refine a6 ?_|refine aq ?_|refine aO ?_|refine a7 ?_|refine au ?_|refine aH ?_|refine ay ?_|refine av ?_|refine a8 ?_|(apply bK; first|refine aj a2 0 rfl rfl rfl rfl rfl ?_|refine aj a2 1 rfl rfl rfl rfl rfl ?_|refine aj a2 2 rfl rfl rfl rfl rfl ?_|refine aj a2 3 rfl rfl rfl rfl rfl ?_|refine aD a2 0 rfl rfl rfl rfl rfl ?_|refine aD a2 1 rfl rfl rfl rfl rfl ?_|refine aD a2 2 rfl rfl rfl rfl rfl ?_|refine aj a2 1 rfl rfl rfl (by assumption) rfl ?_|refine aj a2 0 rfl rfl rfl (by assumption) rfl ?_|fail)|(apply aG; first|refine ai a2 0 rfl rfl rfl rfl rfl rfl rfl ?_|refine ai a2 1 rfl rfl rfl rfl rfl rfl rfl ?_|refine ai a2 2 rfl rfl rfl rfl rfl rfl rfl ?_|refine ai a2 3 rfl rfl rfl rfl rfl rfl rfl ?_|fail))
  exact be (br 2 (cs' := bD ⟨w.1.1, [p1.1], w.1.2, st.1, [], 0⟩) rfl fun σ vs h => nD.vrs (a := [.imm 1 (bv w.1.1), .vec (some (kb, 1)) 1 (bv [p1.1]), .imm 1 (bv w.1.2), .vec q 1 (aT st.1), .vec none 2 [], aM 0]) (b := bD ⟨w.1.1, [p1.1], w.1.2, st.1, [], 0⟩) ⟨eb.refl _, eb.im, eb.refl _, eb.im, eb.im, eb.refl _, trivial⟩ h) (iH a2 2 [ej b s F st.2] rfl rfl rfl rfl rfl (List.Sublist.cons_cons _ (List.nil_sublist _)) ⟨rfl, rfl⟩)
 have hrow := mt s (n := n) (by omega) w.2
 by_cases h3 : kind = 3
 ·subst h3
  repeat' (first|refine ae ?_|refine a6 ?_|refine ak ?_|refine a7 ?_|refine a8 ?_|refine aa a2 rfl rfl ?_|refine bS rfl ?_|refine bN rfl ?_)
  refine dw [.cell (rb, 1, .vec (some (kb, 1)) 1 (bv [p1.1]))] 4 [(0, .v), (1, .k), (2, .v), (3, .f)] none ?_ trivial rfl (by kernel_rfl) (by kernel_rfl) (by kernel_rfl) mixed (by kernel_rfl) rfl
  repeat' (first|refine aC ?_|refine aZ a2 ?_|fail)
  refine ez a2 0 rfl rfl rfl (bR 1 rfl rfl cb) (by first | trivial | rfl) ?_
  repeat' (first|refine aC ?_|refine aZ a2 ?_|fail)
  refine qF (mv s hs F hF n hn h0 2 (by omega)) (bR 1 rfl rfl cb) ?_
  generalize e4 : og s n 2 w.2 = y at hrow ⊢
  have hrl := hrow.1
  unfold Ab
  repeat' (first|fail)
  refine bq [0, 6, 7, 8, 125, 127] rfl rfl ?_
  repeat' (first|fail)
  refine bE a2 _ rfl rfl rfl rfl (eU (A := [_, _, _])) (by simp [fH s hs]; omega) (by simp [fH s hs]; omega) rfl fun q' => ?_
  refine aN (aK (eU (A := [_, _, _])).symm) ?_
  rw [qZ s hs]
  repeat' (first|refine a6 ?_|refine a7 ?_|refine a8 ?_|refine aa a2 rfl rfl ?_|(apply aG; first|refine ai a2 0 rfl rfl rfl rfl rfl rfl rfl ?_|refine ai a2 1 rfl rfl rfl rfl rfl rfl rfl ?_|refine ai a2 2 rfl rfl rfl rfl rfl rfl rfl ?_|refine ai a2 3 rfl rfl rfl rfl rfl rfl rfl ?_|fail))
  refine cJ ?_
  generalize e5 : dr s n y.2 = o
  have hv : gm s n 3 calls m = (⟨w.1.1, p1.1 :: y.1, w.1.2, [o.1], [], 0⟩, o.2) := by simp [gm, cf, cI, e1, e3, e4, e5]
  rw [hv]
  repeat' (first|refine ae ?_|refine a6 ?_|refine aq ?_|refine a7 ?_|refine aH ?_|refine a8 ?_|refine aa a2 rfl rfl ?_|(apply bK; first|refine aj a2 0 rfl rfl rfl rfl rfl ?_|refine aj a2 1 rfl rfl rfl rfl rfl ?_|refine aj a2 2 rfl rfl rfl rfl rfl ?_|refine aj a2 3 rfl rfl rfl rfl rfl ?_|refine aD a2 0 rfl rfl rfl rfl rfl ?_|refine aD a2 1 rfl rfl rfl rfl rfl ?_|refine aD a2 2 rfl rfl rfl rfl rfl ?_|refine aj a2 1 rfl rfl rfl (by assumption) rfl ?_|refine aj a2 0 rfl rfl rfl (by assumption) rfl ?_|fail)|(apply aG; first|refine ai a2 0 rfl rfl rfl rfl rfl rfl rfl ?_|refine ai a2 1 rfl rfl rfl rfl rfl rfl rfl ?_|refine ai a2 2 rfl rfl rfl rfl rfl rfl rfl ?_|refine ai a2 3 rfl rfl rfl rfl rfl rfl rfl ?_|fail)|refine bG a2 ?_|fail)
  exact be (br 2 (cs' := bD ⟨w.1.1, p1.1 :: y.1, w.1.2, [o.1], [], 0⟩) rfl fun σ vs h => nD.vrs (a := [.imm 1 (bv w.1.1), .vec q' 1 (bv (p1.1 :: y.1)), .imm 1 (bv w.1.2), .imm 1 (aT [o.1]), .vec none 2 [], aM 0]) (b := bD ⟨w.1.1, p1.1 :: y.1, w.1.2, [o.1], [], 0⟩) ⟨eb.refl _, eb.im, eb.refl _, eb.refl _, eb.im, eb.refl _, trivial⟩ h) (iH a2 2 [ej b s F o.2] rfl rfl rfl rfl rfl (List.Sublist.cons_cons _ (List.nil_sublist _)) ⟨rfl, rfl⟩)
 have h4 : kind = 4 := by omega
 subst h4
 repeat' (first|refine ae ?_|refine a6 ?_|refine ak ?_|refine a7 ?_|refine a8 ?_|refine aa a2 rfl rfl ?_|refine bN rfl ?_)
 refine dw [.cell (rb, 1, .vec (some (kb, 1)) 1 (bv [p1.1]))] 4 [(0, .v), (1, .k), (2, .v), (3, .f)] none ?_ trivial rfl (by kernel_rfl) (by kernel_rfl) (by kernel_rfl) mixed (by kernel_rfl) rfl
 repeat' (first|refine aC ?_|refine aZ a2 ?_|fail)
 refine ez a2 0 rfl rfl rfl (bR 1 rfl rfl cb) (by first | trivial | rfl) ?_
 repeat' (first|refine aC ?_|refine aZ a2 ?_|fail)
 refine qF (mv s hs F hF n hn h0 2 (by omega)) (bR 1 rfl rfl cb) ?_
 generalize e4 : og s n 2 w.2 = y at hrow ⊢
 have hrl := hrow.1
 unfold Ab
 repeat' (first|fail)
 refine bq [0, 2, 6, 7, 50, 52] rfl rfl ?_
 repeat' (first|fail)
 refine bE a2 _ rfl rfl rfl rfl (eU (A := [_, _, _])) (by simp [fH s hs]; omega) (by simp [fH s hs]; omega) rfl fun q1 => ?_
 refine aN (aK (eU (A := [_, _, _])).symm) ?_
 rw [qZ s hs]
 repeat' (first|refine ae ?_|refine a6 ?_|refine a7 ?_|refine a8 ?_|refine aa a2 rfl rfl ?_|(apply aG; first|refine ai a2 0 rfl rfl rfl rfl rfl rfl rfl ?_|refine ai a2 1 rfl rfl rfl rfl rfl rfl rfl ?_|refine ai a2 2 rfl rfl rfl rfl rfl rfl rfl ?_|refine ai a2 3 rfl rfl rfl rfl rfl rfl rfl ?_|fail))
 refine cJ ?_
 have hc := cm s hs y.2.a (n := 3) (by omega)
 have hc : 0 ≤ (dr s 3 y.2).1 ∧ (dr s 3 y.2).1 < 3 := hc
 generalize e5 : dr s 3 y.2 = o at hc ⊢
 obtain ⟨k, hkk⟩ : ∃ k : Nat, o.1 = k := ⟨o.1.toNat, by omega⟩
 have hv : gm s n 4 calls m = (⟨w.1.1, p1.1 :: y.1, w.1.2, [], (fc s (p1.1 :: y.1).length calls (if calls.length = 0 then 0 else k) o.2).1, 0⟩, (fc s (p1.1 :: y.1).length calls (if calls.length = 0 then 0 else k) o.2).2) := by simp [gm, cf, cI, e1, e3, e4, e5, hkk]
 rw [hv, hkk]
 have hrw : (bv (p1.1 :: y.1)).length = (p1.1 :: y.1).length := fH s hs _
 have hrw2 : (p1.1 :: y.1).length = y.1.length + 1 := rfl
 have hcal : (aT calls).length = calls.length := aR _
 repeat' (first|refine ae ?_|refine a6 ?_|refine ak ?_|refine a7 ?_|refine a8 ?_|refine aa a2 rfl rfl ?_)
 have hcon : ∀ i, (fc s (p1.1 :: y.1).length calls i o.2).1.length = i := fun i => uk s hs _ calls o.2 i
 generalize hKK : (if calls.length = 0 then 0 else k) = KK
 have hK : ∀ i : Nat, i < KK ↔ i < k ∧ 0 < calls.length := fun i => by rw [← hKK]; split <;> omega
 refine aJ [0, 2, 6, 7, 12] (α := Nat × Option (Nat × Nat)) (fun x => [(13, aM x.1)]) (fun x => x.1 ≤ KK) (fun x => [ej b s F (fc s (p1.1 :: y.1).length calls x.1 o.2).2, (rb, .box [.imm 1 (bv w.1.1), .vec q1 1 (bv (p1.1 :: y.1)), .imm 1 (bv w.1.2), .vec none 1 [], .vec x.2 2 ((fc s (p1.1 :: y.1).length calls x.1 o.2).1.map dD), aM 0] 81), (tb, .box [bL, bL, bL, bL, bL, aM 0] 81)] ++ (tok x.2 91 2 ((fc s (p1.1 :: y.1).length calls x.1 o.2).1.map dD).length ++ (tok q1 22 1 (bv (p1.1 :: y.1)).length ++ []))) (fun x => KK - x.1) (0, none) rfl ⟨rfl, trivial⟩ (Nat.zero_le _) (fun _ _ h => h) ?_
 rintro ⟨i, q⟩ hi
 dsimp only at hi ⊢
 have hol := hcon i
 have hstep : fc s (p1.1 :: y.1).length calls (i + 1) o.2 = (cf (dr s (p1.1 :: y.1).length) fun a => cf (dr s calls.length) fun z => cI ((fc s (p1.1 :: y.1).length calls i o.2).1 ++ [(⟨a, calls.getD z.toNat 0⟩ : fT)])) (fc s (p1.1 :: y.1).length calls i o.2).2 := rfl
 try dsimp only [Gr, Gq, Gp, Gj]
 repeat' (first|refine ae ?_|refine a6 ?_|refine aa a2 rfl rfl ?_)
 by_cases hik : i < KK
 ·have hik2 := (hK i).1 hik
  rw [decide_eq_true (show ((i : Nat) : Int) < (k : Int) by omega)]
  repeat' (first|refine a7 ?_|refine a8 ?_|refine aa a2 rfl rfl ?_|refine aF rfl rfl ?_)
  rw [decide_eq_true (show (0 : Int) < (((aT calls).length : Nat) : Int) by omega)]
  generalize fc s (p1.1 :: y.1).length calls i o.2 = st at hol hstep ⊢
  have hoil : (st.1.map dD).length = st.1.length := Gu ..
  repeat' (first|refine ae ?_|refine ak ?_|refine ar ?_|refine a7 ?_|refine bS rfl ?_)
  refine dw [.cell (rb, 4, .vec q 2 (st.1.map dD))] 16 [(0, .v), (1, .k), (2, .v), (3, .v), (4, .l), (5, .v), (7, .v), (8, .v), (9, .v), (10, .v), (6, .f), (11, .f), (12, .v), (13, .v), (14, .v), (15, .v)] none ?_ trivial rfl (by kernel_rfl) (by kernel_rfl) (by kernel_rfl) mixed (by kernel_rfl) rfl
  repeat' (first|refine aC ?_|refine aZ a2 ?_|fail)
  refine ez a2 0 rfl rfl rfl (bR 1 rfl rfl cb) (by first | trivial | rfl) ?_
  repeat' (first|refine aC ?_|refine aZ a2 ?_|refine df a2 1 rfl rfl rfl rfl (by first|trivial|rfl) ?_)
  rw [hrw]
  refine eR (bR 1 rfl rfl cb) ?_
  unfold cf at hstep
  generalize dr s (p1.1 :: y.1).length st.2 = g1 at hstep ⊢
  dsimp only at hstep
  repeat' (first|refine aC ?_|fail)
  rw [hcal]
  refine eR (bR 1 rfl rfl cb) ?_
  have hg := cm s hs g1.2.a (n := calls.length) (by omega)
  have hg : 0 ≤ (dr s calls.length g1.2).1 ∧ (dr s calls.length g1.2).1 < calls.length := hg
  generalize dr s calls.length g1.2 = g2 at hg hstep ⊢
  have hgl : (aT calls)[g2.1.toNat]? = some [aM (calls.getD g2.1.toNat 0)] := bW (by rw [List.getD_eq_getElem?_getD, Ee (show g2.1.toNat < calls.length by omega)]; rfl)
  dsimp only [cI] at hstep
  repeat' (first|refine aC ?_|refine aZ a2 ?_|(apply ca;refine ck a2 ?_)|refine eh a2 ?_|fail)
  refine bq [0, 2, 6, 7, 12, 13, 68, 82] rfl rfl ?_
  repeat' (first|fail)
  refine bE a2 _ rfl rfl rfl rfl (eU (A := [_, _, _])) (by simp; omega) (by simp; omega) rfl fun q' => ?_
  refine aN (aK (eU (A := [_, _, _])).symm) ?_
  repeat' (first|refine a6 ?_|refine a7 ?_|refine aH ?_|refine a8 ?_|refine aa a2 rfl rfl ?_|(apply aV; refine aU ?_)|(apply aG; first|refine ai a2 0 rfl rfl rfl rfl rfl rfl rfl ?_|refine ai a2 1 rfl rfl rfl rfl rfl rfl rfl ?_|refine ai a2 2 rfl rfl rfl rfl rfl rfl rfl ?_|refine ai a2 3 rfl rfl rfl rfl rfl rfl rfl ?_|fail))
  exact aB (i + 1, q') rfl ⟨by rw [Gw]; rfl, trivial⟩ (by dsimp only; omega) (by dsimp only; omega) (fun _ _ h => by dsimp only; rw [hstep]; simpa [gg, gV, dD] using h)
 have hiK : i = KK := by omega
 subst hiK
 generalize fc s (p1.1 :: y.1).length calls i o.2 = st
 have hno : ¬ (i < k ∧ 0 < calls.length) := fun h => absurd ((hK i).2 h) (by omega)
 by_cases hik2 : i < k
 ·rw [decide_eq_true (show ((i : Nat) : Int) < (k : Int) by omega)]
  repeat' (first|refine a7 ?_|refine a8 ?_|refine aa a2 rfl rfl ?_|refine aF rfl rfl ?_)
  rw [decide_eq_false (show ¬ (0 : Int) < (((aT calls).length : Nat) : Int) by omega)]
  repeat' (first|refine ae ?_|refine a6 ?_|refine aq ?_|refine aO ?_|refine a7 ?_|refine au ?_|refine aH ?_|refine ay ?_|refine av ?_|refine a8 ?_|(apply bK; first|refine aj a2 0 rfl rfl rfl rfl rfl ?_|refine aj a2 1 rfl rfl rfl rfl rfl ?_|refine aj a2 2 rfl rfl rfl rfl rfl ?_|refine aj a2 3 rfl rfl rfl rfl rfl ?_|refine aD a2 0 rfl rfl rfl rfl rfl ?_|refine aD a2 1 rfl rfl rfl rfl rfl ?_|refine aD a2 2 rfl rfl rfl rfl rfl ?_|refine aj a2 1 rfl rfl rfl (by assumption) rfl ?_|refine aj a2 0 rfl rfl rfl (by assumption) rfl ?_|fail)|(apply aG; first|refine ai a2 0 rfl rfl rfl rfl rfl rfl rfl ?_|refine ai a2 1 rfl rfl rfl rfl rfl rfl rfl ?_|refine ai a2 2 rfl rfl rfl rfl rfl rfl rfl ?_|refine ai a2 3 rfl rfl rfl rfl rfl rfl rfl ?_|fail)|refine bN rfl ?_)
  exact be (br 2 (cs' := bD ⟨w.1.1, p1.1 :: y.1, w.1.2, [], st.1, 0⟩) rfl fun σ vs h => nD.vrs (a := [.imm 1 (bv w.1.1), .vec q1 1 (bv (p1.1 :: y.1)), .imm 1 (bv w.1.2), .vec none 1 [], .vec q 2 (st.1.map dD), aM 0]) (b := bD ⟨w.1.1, p1.1 :: y.1, w.1.2, [], st.1, 0⟩) ⟨eb.refl _, eb.im, eb.refl _, eb.im, eb.im, eb.refl _, trivial⟩ h) (iH a2 2 [ej b s F st.2] rfl rfl rfl rfl rfl (List.Sublist.cons_cons _ (List.nil_sublist _)) ⟨rfl, rfl⟩)
 ·rw [decide_eq_false (show ¬ ((i : Nat) : Int) < (k : Int) by omega)]
  repeat' (first|refine ae ?_|refine a6 ?_|refine aq ?_|refine aO ?_|refine a7 ?_|refine au ?_|refine aH ?_|refine ay ?_|refine av ?_|refine a8 ?_|refine aa a2 rfl rfl ?_|refine aL rfl rfl rfl rfl ?_|(apply bK; first|refine aj a2 0 rfl rfl rfl rfl rfl ?_|refine aj a2 1 rfl rfl rfl rfl rfl ?_|refine aj a2 2 rfl rfl rfl rfl rfl ?_|refine aj a2 3 rfl rfl rfl rfl rfl ?_|refine aD a2 0 rfl rfl rfl rfl rfl ?_|refine aD a2 1 rfl rfl rfl rfl rfl ?_|refine aD a2 2 rfl rfl rfl rfl rfl ?_|refine aj a2 1 rfl rfl rfl (by assumption) rfl ?_|refine aj a2 0 rfl rfl rfl (by assumption) rfl ?_|fail)|(apply aG; first|refine ai a2 0 rfl rfl rfl rfl rfl rfl rfl ?_|refine ai a2 1 rfl rfl rfl rfl rfl rfl rfl ?_|refine ai a2 2 rfl rfl rfl rfl rfl rfl rfl ?_|refine ai a2 3 rfl rfl rfl rfl rfl rfl rfl ?_|fail)|refine bN rfl ?_)
  exact be (br 2 (cs' := bD ⟨w.1.1, p1.1 :: y.1, w.1.2, [], st.1, 0⟩) rfl fun σ vs h => nD.vrs (a := [.imm 1 (bv w.1.1), .vec q1 1 (bv (p1.1 :: y.1)), .imm 1 (bv w.1.2), .vec none 1 [], .vec q 2 (st.1.map dD), aM 0]) (b := bD ⟨w.1.1, p1.1 :: y.1, w.1.2, [], st.1, 0⟩) ⟨eb.refl _, eb.im, eb.refl _, eb.im, eb.im, eb.refl _, trivial⟩ h) (iH a2 2 [ej b s F st.2] rfl rfl rfl rfl rfl (List.Sublist.cons_cons _ (List.nil_sublist _)) ⟨rfl, rfl⟩)
end Go.Proofs.YtjjpkibjffmceaaGreat
namespace Go.Proofs.YtjjpkibjffmceaaGreat
open Go.RowKit
attribute [local irreducible] AT bV AX AO Av Kt bC eH DA dl
def fz (i j : Nat) (l : ba) : List AV := [aM l.Kind, cO l.Ignore, if j < i then .imm 6 (l.Rules.map bD) else bL]
def eT (i : Nat) : Nat → List ba → List AV
 | _, [] => []
 | k, l :: r => fz i k l ++ eT i (k + 1) r
theorem zt (i : Nat) : ∀ (l : List ba) (k : Nat), (eT i k l).length = l.length * 3
 | [], k => rfl
 | x :: l, k => by
  rw [eT, List.length_append, zt i l (k + 1), List.length_cons, Nat.add_mul]
  simp [fz]
  omega
theorem rI (i : Nat) : ∀ (l : List ba) (k j c : Nat), c < 3 → (eT i k l)[j * 3 + c]? = (l[j]?).bind fun x => (fz i (k + j) x)[c]?
 | [], k, j, c, _ => by simp [eT]
 | x :: l, k, 0, c, hc => by
  rw [eT, List.getElem?_append_left (by simp [fz]; omega)]
  simp
 | x :: l, k, j + 1, c, hc => by
  rw [eT, List.getElem?_append_right (by simp [fz]; omega)]
  have h1 : (j + 1) * 3 + c - (fz i k x).length = j * 3 + c := by simp [fz]; omega
  rw [h1, rI i l (k + 1) j c hc, List.getElem?_cons_succ]
  rw [show k + 1 + j = k + (j + 1) by omega]
theorem vV (i : Nat) : ∀ (l : List ba) (k : Nat) (x : ba), eT i k (l ++ [x]) = eT i k l ++ fz i (k + l.length) x
 | [], k, x => by simp [eT]
 | y :: l, k, x => by
  rw [Gr, eT, vV i l (k + 1) x, eT, List.append_assoc, List.length_cons, show k + 1 + l.length = k + (l.length + 1) by omega]
theorem zu {i : Nat} {l : List ba} {q : ba} {rs : List bX} (hq : l[i]? = some q) : (eT i 0 l).set (i * 3 + 2) (.imm 6 (rs.map bD)) = eT (i + 1) 0 (l.set i { q with Rules := rs }) := by
 have hil := (Gn hq).1
 apply List.ext_getElem?
 intro p
 obtain ⟨j, c, hc, rfl⟩ : ∃ j c, c < 3 ∧ p = j * 3 + c := ⟨p / 3, p % 3, Nat.mod_lt _ (by omega), by omega⟩
 rw [rI _ _ _ _ _ hc]
 by_cases e : i * 3 + 2 = j * 3 + c
 ·have hj : j = i := by omega
  have hc2 : c = 2 := by omega
  subst hj; subst hc2
  rw [List.getElem?_set_self (by rw [zt]; omega), List.getElem?_set_self hil]
  simp [fz]
 ·rw [List.getElem?_set_ne e, rI _ _ _ _ _ hc]
  by_cases hj : i = j
  ·subst hj
   rw [hq, List.getElem?_set_self hil]
   have hc2 : c = 0 ∨ c = 1 := by omega
   rcases hc2 with rfl | rfl <;> rfl
  ·rw [List.getElem?_set_ne hj]
   cases l[j]? with
   | none => rfl
   | some x =>
    simp only [Option.bind_some, Nat.zero_add]
    have hc3 : c = 0 ∨ c = 1 ∨ c = 2 := by omega
    rcases hc3 with rfl | rfl | rfl
    ·rfl
    ·rfl
    ·simp only [fz]
     by_cases hlt : j < i
     ·rw [if_pos hlt, if_pos (by omega)]
     ·rw [if_neg hlt, if_neg (by omega)]
theorem BX {i : Nat} {l : List ba} {q : ba} (hq : l[i]? = some q) (h0 : q.Rules = []) : (eT i 0 l).set (i * 3 + 2) (.imm 6 []) = eT (i + 1) 0 l := by
 have := zu (rs := []) hq
 rw [show l.set i { q with Rules := [] } = l from ?_] at this
 ·exact this
 ·have : ({ q with Rules := [] } : ba) = q := by cases q; simp at h0; simp [h0]
  rw [this]
  apply List.ext_getElem?
  intro j
  by_cases e : i = j
  ·subst e; rw [List.getElem?_set_self (Gn hq).1, hq]
  ·rw [List.getElem?_set_ne e]
theorem zr : ∀ (l : List ba) (i k : Nat), k + l.length ≤ i → eT i k l = (l.map bj).flatten
 | [], i, k, _ => rfl
 | x :: l, i, k, h => by
  simp only [List.length_cons] at h
  rw [eT, zr l i (k + 1) (by omega), Gp, List.flatten_cons]
  congr 1
  simp only [fz]
  rw [if_pos (by omega)]
  rfl
def xi (i : Nat) : Option (Nat × List AV × Nat) → AV
 | none => bL
 | some (b, _, cap) => .sc (.slice (some ⟨b, 0, none⟩) i cap)
def zo : Option (Nat × List AV × Nat) → AL
 | none => []
 | some (b, cs, _) => [(b, .box cs 77)]
def vU (n i : Nat) (l : List ba) : Option (Nat × List AV × Nat) → Prop
 | none => n = 0
 | some (_, cs, cap) => cs.length = cap * 3 ∧ n ≤ cap ∧ cap ≤ maxLen ∧ cs.take (n * 3) = eT i 0 l
end Go.Proofs.YtjjpkibjffmceaaGreat
