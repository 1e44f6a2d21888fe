/-
  The maker: fonts.
-/
import Derived.Test.YtjjpkibjffmceaaGreatM28
import Derived.Test.YtjjpkibjffmceaaGreatM25
import Derived.Test.YtjjpkibjffmceaaGreatM24
namespace Go.Proofs.YtjjpkibjffmceaaGreat
open Go.RowKit
attribute [local irreducible] AT bV AX AO Av Kt bC eH DA dl
variable (s : List Int) (hs : s.length ≤ 1000000)
theorem zX {a c : Nat × AB} {T : AL} : ([a, c] ++ T).Perm (([a] ++ (T ++ [])) ++ [c]) := by
 rw [List.append_nil]
 exact List.Perm.cons a (List.perm_append_comm (l₁ := [c]))
theorem EY {A T : AL} {c : Nat × AB} : ((A ++ T) ++ [c]).Perm ((A ++ [c]) ++ T) := by
 rw [List.append_assoc, List.append_assoc]
 exact List.Perm.append_left _ List.perm_append_comm
theorem xQ : bQ Tryz.prog 22 [] (.imm 1 (aT eV)) := by
 refine aQ Tryz.func22 rfl Tryz.ntmps22 rfl fun B => ?_
 repeat' (first|refine ae ?_|refine a6 ?_|refine aq ?_|refine a7 ?_|refine a8 ?_|refine aa a2 rfl rfl ?_|refine bG a2 ?_|fail)
 exact aA rfl rfl rfl
theorem tx : bQ Tryz.prog 23 [] (.imm 1 (ey dU)) := by
 refine aQ Tryz.func23 rfl Tryz.ntmps23 rfl fun B => ?_
 repeat' (first|refine ae ?_|refine a6 ?_|refine aq ?_|refine a7 ?_|refine a8 ?_|refine aa a2 rfl rfl ?_|refine bG a2 ?_|fail)
 exact aA rfl rfl rfl
theorem qB (k : Nat) (m : MS) : (jZ s k m).1.length = k := by
 exact (bU.runs (fun i (l : List eo) => l.length = i) k rfl fun i l _ h => (bU.any _).bnd fun a _ => (bU.any _).bnd fun b _ => bU.ret (by simp [h])) m
theorem vr (k : Nat) (m : MS) : (gX s k m).1.length = k := by
 exact (bU.runs (fun i (l : List ea) => l.length = i) k rfl fun i l _ h => (bU.any _).bnd fun a _ => bU.ret (by simp [h])) m
theorem qY (x k : Nat) (m : MS) : (jU s x k m).1.length = k := by
 exact (bU.runs (fun i (l : List (List ea)) => l.length = i) k rfl fun i l _ h => (bU.any _).bnd fun a _ => bU.ret (by simp [h])) m
theorem uD (k : Nat) (m : MS) : (ir s k m).1.length = k := by
 exact (bU.runs (fun i (l : List (List ew)) => l.length = i) k rfl fun i l _ h => (bU.any _).bnd fun a _ => (bU.any _).bnd fun b _ => bU.ret (by simp [h])) m
theorem yK (k : Nat) (m : MS) : (oZ s k m).1.length = k := by
 exact (bU.runs (fun i (l : List Int) => l.length = i) k rfl fun i l _ h => (bU.any _).bnd fun a _ => bU.ret (by simp [h])) m
theorem ta (R fn k : Nat) (m : MS) : (g8 s R fn k m).1.length = k := by
 exact (bU.runs (fun i (l : List bo) => l.length = i) k rfl fun i l _ h => (bU.any _).bnd fun a _ => bU.ret (by simp [h])) m
theorem um (n : Int) (k : Nat) (m : MS) : (gR s n k m).1.length ≤ k := by
 exact (bU.runs (fun i (l : List ep) => l.length ≤ i) k (Nat.le_refl _) fun i l _ h => (bU.any _).bnd fun a _ => bU.ite (fun _ => (bU.any _).bnd fun b _ => bU.ret (by simp; omega)) fun _ => bU.ret (by omega)) m
theorem yt (k : Nat) (m : MS) : (mP s k m).1.length ≤ k := by
 exact (bU.runs (fun i (l : List Int) => l.length ≤ i) k (Nat.le_refl _) fun i l _ h => (bU.any _).bnd fun a _ => bU.ret (by
  split
  ·simp; omega
  ·omega)) m
theorem uz (n k : Nat) (m : MS) : (gU s n k m).1.length ≤ k := by
 exact (bU.runs (fun i (l : List bO) => l.length ≤ i) k (Nat.le_refl _) fun i l _ h => (bU.any _).bnd fun a _ => (bU.any _).bnd fun b _ => bU.ret (by
  split
  ·simp; omega
  ·omega)) m
abbrev tB (tb : Nat) : Nat × AB := (tb, .box [aM 0, bL, bL, bL, bL, bL, bL, bL, bL] 36)
include hs
set_option maxHeartbeats 32000000 in
theorem zB : bQ Tryz.prog 21 [.imm 1 (aT s)] (ct (md s)) := by
 refine aQ Tryz.func21 rfl Tryz.ntmps21 rfl fun B => ?_
 repeat' (first|refine ae ?_|refine a6 ?_|refine a7 ?_|refine a8 ?_|refine aa a2 rfl rfl ?_|refine tq (d := 22) fun _=>?_|refine b7 a2 fun _=>?_|refine bG a2 ?_|fail)
 rename_i tb b
 refine aN (aK (L' := [ej b s ⟨aM 0, bL, bL, bL, bL, bL, bL, bL, bL⟩ ⟨0, 0⟩, tB tb]) (Gm _)) ?_
 refine aN (br 0 (cs' := EU s ⟨aM 0, .vec none 9 [], .vec none 2 [], bL, .vec none 2 [], .vec none 4 [], .vec none 1 [], .vec none 1 [], .vec none 1 []⟩ ⟨0, 0⟩) rfl fun σ vs h => cn (k := 3) (cn (k := 4) (cn (k := 6) (cn (k := 7) (cn (k := 8) (cn (k := 9) (cn (k := 10) h rfl fun v hv => cy 1 hv) rfl fun v hv => cy 1 hv) rfl fun v hv => cy 1 hv) rfl fun v hv => cy 4 hv) rfl fun v hv => cy 2 hv) rfl fun v hv => cy 2 hv) rfl fun v hv => cy 9 hv) ?_
 refine cJ ?_
 have hu := cm s hs 0 (n := 4) (by omega)
 have hu : 0 ≤ (dr s 4 ⟨0, 0⟩).1 ∧ (dr s 4 ⟨0, 0⟩).1 < 4 := hu
 generalize e1 : dr s 4 ⟨0, 0⟩ = u at hu ⊢
 have hul : (aT lA)[u.1.toNat]? = some [aM (lA.getD u.1.toNat 0)] := bW (kH (by simp only [lA, List.length_cons, List.length_nil]; omega) 0)
 generalize hU : lA.getD u.1.toNat 0 = U at hul
 repeat' (first|refine ae ?_|refine a6 ?_|refine a7 ?_|refine a8 ?_|refine aa a2 rfl rfl ?_|(apply aX; first|refine aW a2 ?_|refine aP a2 ?_)|(apply aG; first|refine ah 6 a2 0 rfl rfl rfl rfl rfl rfl rfl rfl ?_|refine ah 6 a2 1 rfl rfl rfl rfl rfl rfl rfl rfl ?_|refine ah 6 a2 2 rfl rfl rfl rfl rfl rfl rfl rfl ?_|refine ai a2 0 rfl rfl rfl rfl rfl rfl rfl ?_|refine ai a2 1 rfl rfl rfl rfl rfl rfl rfl ?_|refine ai a2 2 rfl rfl rfl rfl rfl rfl rfl ?_|refine ai a2 3 rfl rfl rfl rfl rfl rfl rfl ?_|fail))
 refine aN (aK (L' := [ej b s ⟨aM U, .vec none 9 [], .vec none 2 [], bL, .vec none 2 [], .vec none 4 [], .vec none 1 [], .vec none 1 [], .vec none 1 []⟩ u.2, tB tb]) (Gm _)) ?_
 refine cJ ?_
 have hk := cm s hs u.2.a (n := 3) (by omega)
 have hk : 0 ≤ (dr s 3 u.2).1 ∧ (dr s 3 u.2).1 < 3 := hk
 generalize e2 : dr s 3 u.2 = k1 at hk ⊢
 obtain ⟨k, hkk⟩ : ∃ k : Nat, k1.1 = k := ⟨k1.1.toNat, by omega⟩
 rw [hkk]
 repeat' (first|refine ae ?_|refine a6 ?_|refine ak ?_|refine a7 ?_|refine a8 ?_|refine aa a2 rfl rfl ?_)
 refine aJ [2, 3, 4] (α := Nat × Option (Nat × Nat)) (fun x => [(5, aM x.1)]) (fun x => x.1 ≤ k) (fun x => [ej b s ⟨aM U, .vec none 9 [], .vec none 2 [], bL, .vec none 2 [], .vec x.2 4 ((jZ s x.1 k1.2).1.map cu), .vec none 1 [], .vec none 1 [], .vec none 1 []⟩ (jZ s x.1 k1.2).2, tB tb] ++ tok x.2 93 4 ((jZ s x.1 k1.2).1.map cu).length) (fun x => k - x.1) (0, none) rfl ⟨rfl, trivial⟩ (Nat.zero_le _) (fun _ _ h => h) ?_
 rintro ⟨i, q⟩ hi
 dsimp only at hi ⊢
 have hal := qB s i k1.2
 have hstep : jZ s (i + 1) k1.2 = (cf (dr s 3) fun a => cf (dr s 4) fun b => cI ((jZ s i k1.2).1 ++ [(⟨iv rk i, 0 - a * 100, 0, b * 100⟩ : eo)])) (jZ s i k1.2).2 := rfl
 try dsimp only [Gr, Gq, Gp, Gj]
 repeat' (first|refine ae ?_|refine a6 ?_|refine a7 ?_|refine a8 ?_|refine aa a2 rfl rfl ?_)
 refine aw rfl (fun h => ?_) (fun h => ?_)
 ·have hil : i < k := by have := Gz h; omega
  generalize jZ s i k1.2 = A at hal hstep ⊢
  have halm : (A.1.map cu).length = A.1.length := Gu ..
  repeat' (first|refine ae ?_|refine ak ?_|refine ar ?_|refine a7 ?_)
  refine bt 15 [(0, .v), (1, .v), (2, .v), (3, .v), (4, .v), (5, .v), (6, .v), (10, .v), (7, .e), (8, .v), (9, .v), (11, .e), (12, .v), (13, .v)] (some (14, .box _ 93)) ?_ ⟨_, rfl, rfl, fun _ _ _ => ii (f9 a2 rfl) rfl⟩ rfl (by kernel_rfl) (by kernel_rfl) (by kernel_rfl) mixed (by kernel_rfl) rfl
  repeat' (first|refine aC ?_|refine aZ a2 ?_|(apply ff;refine gG ?_)|fail)
  refine yN a2 ?_
  rw [tk i (by omega)]
  repeat' (first|refine aC ?_|refine eh a2 ?_|fail)
  refine vI a2 ?_
  rw [vT i (by omega)]
  repeat' (first|refine aC ?_|fail)
  refine di (hs := Nat.le_of_ble_eq_true rfl) ?_
  rw [wD]
  repeat' (first|refine aC ?_|refine aZ a2 ?_|fail)
  refine rq ?_
  have ha := cm s hs A.2.a (n := 3) (by omega)
  have ha : 0 ≤ (dr s 3 A.2).1 ∧ (dr s 3 A.2).1 < 3 := ha
  unfold cf at hstep
  generalize dr s 3 A.2 = a at ha hstep ⊢
  dsimp only at hstep
  repeat' (first|refine aC ?_|(apply ff;refine gG ?_)|fail)
  refine rq ?_
  have hc := cm s hs a.2.a (n := 4) (by omega)
  have hc : 0 ≤ (dr s 4 a.2).1 ∧ (dr s 4 a.2).1 < 4 := hc
  generalize dr s 4 a.2 = c at hc hstep ⊢
  try dsimp only [cI] at hstep
  repeat' (first|refine aC ?_|refine aZ a2 ?_|(apply ff;refine gG ?_)|fail)
  refine lQ [2, 3, 4, 5, 6, 52] (fun _ => _) (fun _ => rfl) rfl fun _ => ?_
  rename_i ab
  refine aN (aK (EY (A := [_, _]))) ?_
  repeat' (first|refine a7 ?_|refine a8 ?_|(apply aG; first|refine ah 6 a2 0 rfl rfl rfl rfl rfl rfl rfl rfl ?_|refine ah 6 a2 1 rfl rfl rfl rfl rfl rfl rfl rfl ?_|refine ah 6 a2 2 rfl rfl rfl rfl rfl rfl rfl rfl ?_|refine ai a2 0 rfl rfl rfl rfl rfl rfl rfl ?_|refine ai a2 1 rfl rfl rfl rfl rfl rfl rfl ?_|refine ai a2 2 rfl rfl rfl rfl rfl rfl rfl ?_|refine ai a2 3 rfl rfl rfl rfl rfl rfl rfl ?_|fail))
  refine bt 9 [(0, .v), (1, .v), (2, .v), (3, .v), (4, .v), (5, .l), (6, .v), (7, .v), (8, .e)] none ?_ trivial rfl (by kernel_rfl) (by kernel_rfl) (by kernel_rfl) mixed (by kernel_rfl) rfl
  repeat' (first|refine aC ?_|refine aZ a2 ?_|refine eh a2 ?_|refine df a2 0 rfl rfl rfl rfl (by first|trivial|rfl) ?_)
  refine fY a2 _ rfl rfl rfl rfl (List.perm_append_comm (l₁ := [_, _])) (by simp; omega) (by simp; omega) (by first | trivial | rfl) fun q' => ?_
  refine bq [2, 3, 4, 5, 53, 61] rfl rfl ?_
  refine aN (aK (List.perm_append_comm (l₂ := [_, _]))) ?_
  repeat' (first|refine a6 ?_|refine a7 ?_|refine aH ?_|refine a8 ?_|refine aa a2 rfl rfl ?_|(apply aV; refine aU ?_)|(apply aG; first|refine ah 6 a2 0 rfl rfl rfl rfl rfl rfl rfl rfl ?_|refine ah 6 a2 1 rfl rfl rfl rfl rfl rfl rfl rfl ?_|refine ah 6 a2 2 rfl rfl rfl rfl rfl rfl rfl rfl ?_|refine ai a2 0 rfl rfl rfl rfl rfl rfl rfl ?_|refine ai a2 1 rfl rfl rfl rfl rfl rfl rfl ?_|refine ai a2 2 rfl rfl rfl rfl rfl rfl rfl ?_|refine ai a2 3 rfl rfl rfl rfl rfl rfl rfl ?_|fail))
  exact aB (i + 1, q') rfl ⟨by rw [Gw]; rfl, trivial⟩ (by dsimp only; omega) (by dsimp only; omega) (fun _ _ h => by dsimp only; rw [hstep]; dsimp only; rw [List.map_append]; exact h)
 have hil : i = k := by have := Gy h; omega
 subst hil
 clear hstep
 have hal := qB s i k1.2
 generalize e3 : jZ s i k1.2 = A at hal ⊢
 repeat' (first|refine ae ?_|refine a6 ?_|refine aO ?_|refine a7 ?_|refine au ?_|refine ay ?_|refine av ?_|refine a8 ?_|refine aa a2 rfl rfl ?_)
 refine bI (br 0 rfl fun σ vs h => cn (k := 7) (c' := .imm 4 (A.1.map cu)) h rfl fun v hv => VR.im hv) ?_
 refine bI (bY (L' := [ej b s ⟨aM U, .vec none 9 [], .vec none 2 [], bL, .vec none 2 [], .imm 4 (A.1.map cu), .vec none 1 [], .vec none 1 [], .vec none 1 []⟩ A.2, tB tb]) (List.Sublist.cons_cons _ (List.Sublist.cons_cons _ (List.nil_sublist _)))) ?_
 refine rj [2, 3, 4] ([ej b s ⟨aM U, .vec none 9 [], .vec none 2 [], bL, .vec none 2 [], .imm 4 (A.1.map cu), .imm 1 ((fG s i A.2).1.map bk), .vec none 1 [], .vec none 1 []⟩ (fG s i A.2).2, tB tb]) rfl (fun Q' K => ?_) ?_
 ·refine aw rfl (fun h => ?_) (fun h => ?_)
  ·have hi0 : ¬ i = 0 := by have := Gz h; omega
   repeat' (first|refine ae ?_|refine a6 ?_|refine aa a2 rfl rfl ?_)
   refine cJ ?_
   have hn := cm s hs A.2.a (n := 4) (by omega)
   have hn : 0 ≤ (dr s 4 A.2).1 ∧ (dr s 4 A.2).1 < 4 := hn
   generalize e4 : dr s 4 A.2 = n1 at hn ⊢
   obtain ⟨n, hnn⟩ : ∃ k : Nat, n1.1 = k := ⟨n1.1.toNat, by omega⟩
   have hv : fG s i A.2 = jU s i n n1.2 := by
    unfold fG
    rw [if_neg hi0]
    unfold cf
    rw [e4]
    dsimp only
    rw [hnn, Int.toNat_natCast]
   rw [hv] at K
   rw [hnn]
   repeat' (first|refine ae ?_|refine a6 ?_|refine ak ?_|refine a7 ?_|refine a8 ?_|refine aa a2 rfl rfl ?_)
   refine aJ [2, 3, 4, 7] (α := Nat × Option (Nat × Nat)) (fun x => [(8, aM x.1)]) (fun x => x.1 ≤ n) (fun x => [ej b s ⟨aM U, .vec none 9 [], .vec none 2 [], bL, .vec none 2 [], .imm 4 (A.1.map cu), .vec x.2 1 ((jU s i x.1 n1.2).1.map bk), .vec none 1 [], .vec none 1 []⟩ (jU s i x.1 n1.2).2, tB tb] ++ tok x.2 98 1 ((jU s i x.1 n1.2).1.map bk).length) (fun x => n - x.1) (0, none) rfl ⟨rfl, trivial⟩ (Nat.zero_le _) (fun _ _ h => h) ?_
   rintro ⟨j, q⟩ hj
   dsimp only at hj ⊢
   have hrl := qY s i j n1.2
   have hstep : jU s i (j + 1) n1.2 = ((jU s i j n1.2).1 ++ [(gX s i (jU s i j n1.2).2).1], (gX s i (jU s i j n1.2).2).2) := rfl
   try dsimp only [Gr, Gq, Gp, Gj]
   repeat' (first|refine ae ?_|refine a6 ?_|refine a7 ?_|refine a8 ?_|refine aa a2 rfl rfl ?_)
   refine aw rfl (fun h => ?_) (fun h => ?_)
   ·have hjn : j < n := by have := Gz h; omega
    generalize jU s i j n1.2 = Rg at hrl hstep ⊢
    have hrlm : (Rg.1.map bk).length = Rg.1.length := Gu ..
    repeat' (first|refine ae ?_|refine a6 ?_|refine ak ?_|refine ar ?_|refine a7 ?_|refine a8 ?_|refine aa a2 rfl rfl ?_|refine b7 a2 fun _=>?_|fail)
    rename_i rb
    refine bI (br 0 (cs' := [.vec none 3 []]) rfl fun σ vs h => cn (k := 0) h rfl fun v hv => cy 3 hv) ?_
    refine bI (aK (List.perm_middle (l₁ := [_, _])).symm) ?_
    refine aJ [2, 3, 4, 7, 8, 9] (α := Nat × Option (Nat × Nat)) (fun x => [(10, aM x.1)]) (fun x => x.1 ≤ i) (fun x => [ej b s ⟨aM U, .vec none 9 [], .vec none 2 [], bL, .vec none 2 [], .imm 4 (A.1.map cu), .vec q 1 (Rg.1.map bk), .vec none 1 [], .vec none 1 []⟩ (gX s x.1 Rg.2).2, tB tb, (rb, .box [.vec x.2 3 ((gX s x.1 Rg.2).1.map fD)] 98)] ++ (tok x.2 95 3 ((gX s x.1 Rg.2).1.map fD).length ++ tok q 98 1 (Rg.1.map bk).length)) (fun x => i - x.1) (0, none) rfl ⟨rfl, trivial⟩ (Nat.zero_le _) (fun _ _ h => h) ?_
    rintro ⟨a, qt⟩ ha
    dsimp only at ha ⊢
    have htl := vr s a Rg.2
    have hstt : gX s (a + 1) Rg.2 = (cf (dr s 5) fun z => cI ((gX s a Rg.2).1 ++ [jM.getD z.toNat ⟨0, 0, 0⟩])) (gX s a Rg.2).2 := rfl
    try dsimp only [Gr, Gq, Gp, Gj]
    repeat' (first|refine ae ?_|refine a6 ?_|refine a7 ?_|refine a8 ?_|refine aa a2 rfl rfl ?_)
    refine aw rfl (fun h => ?_) (fun h => ?_)
    ·have hai : a < i := by have := Gz h; omega
     generalize gX s a Rg.2 = Tn at htl hstt ⊢
     have htlm : (Tn.1.map fD).length = Tn.1.length := Gu ..
     repeat' (first|refine ae ?_|refine ak ?_|refine ar ?_|refine a7 ?_)
     refine dw [.cell (rb, 0, .vec qt 3 (Tn.1.map fD))] 13 [(0, .v), (1, .k), (2, .v), (3, .v), (4, .v), (5, .v), (6, .v), (7, .v), (8, .v), (9, .f), (10, .v), (11, .v), (12, .v)] none ?_ trivial rfl (by kernel_rfl) (by kernel_rfl) (by kernel_rfl) mixed (by kernel_rfl) rfl
     repeat' (first|refine aC ?_|refine aZ a2 ?_|fail)
     refine ez a2 0 rfl rfl rfl (bR 2 rfl rfl cb) (by first | trivial | rfl) ?_
     repeat' (first|refine aC ?_|refine aZ a2 ?_|refine eh a2 ?_|fail)
     refine eR (bR 2 rfl rfl cb) ?_
     have hz := cm s hs Tn.2.a (n := 5) (by omega)
     have hz : 0 ≤ (dr s 5 Tn.2).1 ∧ (dr s 5 Tn.2).1 < 5 := hz
     unfold cf at hstt
     generalize dr s 5 Tn.2 = z at hz hstt ⊢
     dsimp only [cI] at hstt
     have hzt : (jM.map fD)[z.1.toNat]? = some (fD (jM.getD z.1.toNat ⟨0, 0, 0⟩)) := by
      rw [List.getElem?_map, kH (l := jM) (i := z.1.toNat) (by simp only [jM, List.length_cons, List.length_nil]; omega) ⟨0, 0, 0⟩]
      rfl
     generalize jM.getD z.1.toNat ⟨0, 0, 0⟩ = tn at hzt hstt
     repeat' (first|refine aC ?_|refine aZ a2 ?_|(apply ca;refine ck a2 ?_)|refine eh a2 ?_|fail)
     refine bq [2, 3, 4, 7, 8, 9, 10, 80, 91] rfl rfl ?_
     repeat' (first|fail)
     refine bE a2 _ rfl rfl rfl rfl (eU (A := [_, _, _])) (by simp; omega) (by simp; omega) rfl fun q' => ?_
     refine aN (aK (eU (A := [_, _, _])).symm) ?_
     repeat' (first|refine a6 ?_|refine a7 ?_|refine aH ?_|refine a8 ?_|refine aa a2 rfl rfl ?_|(apply aV; refine aU ?_)|(apply aG; first|refine ah 6 a2 0 rfl rfl rfl rfl rfl rfl rfl rfl ?_|refine ah 6 a2 1 rfl rfl rfl rfl rfl rfl rfl rfl ?_|refine ah 6 a2 2 rfl rfl rfl rfl rfl rfl rfl rfl ?_|refine ai a2 0 rfl rfl rfl rfl rfl rfl rfl ?_|refine ai a2 1 rfl rfl rfl rfl rfl rfl rfl ?_|refine ai a2 2 rfl rfl rfl rfl rfl rfl rfl ?_|refine ai a2 3 rfl rfl rfl rfl rfl rfl rfl ?_|fail))
     exact aB (a + 1, q') rfl ⟨by rw [Gw]; rfl, trivial⟩ (by dsimp only; omega) (by dsimp only; omega) (fun _ _ h => by dsimp only; rw [hstt]; dsimp only; rw [List.map_append]; exact h)
    have hai : a = i := by have := Gy h; omega
    subst hai
    clear hstt htl
    generalize gX s a Rg.2 = Tn at hstep ⊢
    repeat' (first|refine aO ?_|refine a7 ?_|refine au ?_|refine ay ?_|refine av ?_)
    refine bI (br 2 (cs' := [.imm 3 (Tn.1.map fD)]) rfl fun σ vs h => cn (k := 0) h rfl fun v hv => VR.im hv) ?_
    refine bI (bY (L' := [ej b s ⟨aM U, .vec none 9 [], .vec none 2 [], bL, .vec none 2 [], .imm 4 (A.1.map cu), .vec q 1 (Rg.1.map bk), .vec none 1 [], .vec none 1 []⟩ Tn.2, tB tb, (rb, .box (bk Tn.1) 98)] ++ tok q 98 1 (Rg.1.map bk).length) (List.Sublist.cons_cons _ (List.Sublist.cons_cons _ (List.Sublist.cons_cons _ (List.sublist_append_right _ _))))) ?_
    refine bt 9 [(0, .v), (1, .v), (2, .v), (3, .v), (4, .v), (5, .l), (6, .l), (7, .v), (8, .e)] none ?_ trivial rfl (by kernel_rfl) (by kernel_rfl) (by kernel_rfl) mixed (by kernel_rfl) rfl
    repeat' (first|refine aC ?_|refine aZ a2 ?_|refine df a2 0 rfl rfl rfl rfl (by first|trivial|rfl) ?_)
    refine vK a2 2 rfl rfl rfl rfl (by first | trivial | rfl) ?_
    repeat' (first|refine aC ?_|refine eh a2 ?_|fail)
    refine fY a2 _ rfl rfl rfl rfl (List.perm_append_comm (l₁ := [_, _, _])) (by simp; omega) (by simp; omega) (by first | trivial | rfl) fun q' => ?_
    refine bq [2, 3, 4, 7, 8, 94, 102] rfl rfl ?_
    refine aN (aK (List.perm_append_comm (l₂ := [_, _, _]))) ?_
    repeat' (first|refine a6 ?_|refine a7 ?_|refine aH ?_|refine a8 ?_|refine aa a2 rfl rfl ?_|(apply aV; refine aU ?_)|(apply aG; first|refine ah 6 a2 0 rfl rfl rfl rfl rfl rfl rfl rfl ?_|refine ah 6 a2 1 rfl rfl rfl rfl rfl rfl rfl rfl ?_|refine ah 6 a2 2 rfl rfl rfl rfl rfl rfl rfl rfl ?_|refine ai a2 0 rfl rfl rfl rfl rfl rfl rfl ?_|refine ai a2 1 rfl rfl rfl rfl rfl rfl rfl ?_|refine ai a2 2 rfl rfl rfl rfl rfl rfl rfl ?_|refine ai a2 3 rfl rfl rfl rfl rfl rfl rfl ?_|fail))
    exact aB (j + 1, q') rfl ⟨by rw [Gw]; rfl, trivial⟩ (by dsimp only; omega) (by dsimp only; omega) (fun _ _ h => by dsimp only; rw [hstep]; dsimp only; rw [List.map_append]; exact h.sublist (List.Sublist.cons_cons _ (List.Sublist.cons_cons _ (List.sublist_cons_self ..))))
   have hjn : j = n := by have := Gy h; omega
   subst hjn
   generalize jU s i j n1.2 = Rg at K ⊢
   repeat' (first|refine aO ?_|refine au ?_|refine ay ?_|refine av ?_)
   refine be (br 0 rfl fun σ vs h => cn (k := 8) (c' := .imm 1 (Rg.1.map bk)) h rfl fun v hv => VR.im hv) ?_
   refine be (bY (L' := [ej b s ⟨aM U, .vec none 9 [], .vec none 2 [], bL, .vec none 2 [], .imm 4 (A.1.map cu), .imm 1 (Rg.1.map bk), .vec none 1 [], .vec none 1 []⟩ Rg.2, tB tb]) (List.Sublist.cons_cons _ (List.Sublist.cons_cons _ (List.nil_sublist _)))) ?_
   exact K _ rfl
  ·have hi0 : i = 0 := by have := Gy h; omega
   have hv : fG s i A.2 = ([], A.2) := by
    unfold fG
    rw [if_pos hi0]
    rfl
   rw [hv] at K
   repeat' (first|refine ar ?_)
   refine be (br 0 rfl fun σ vs h => cn (k := 8) (c' := .imm 1 []) h rfl fun v hv => VR.im hv) ?_
   exact K _ rfl
 generalize e4 : fG s i A.2 = rg
 repeat' (first|refine ae ?_|refine a6 ?_|refine aa a2 rfl rfl ?_)
 refine cJ ?_
 have hk2 := cm s hs rg.2.a (n := 3) (by omega)
 have hk2 : 0 ≤ (dr s 3 rg.2).1 ∧ (dr s 3 rg.2).1 < 3 := hk2
 generalize e5 : dr s 3 rg.2 = k2 at hk2 ⊢
 obtain ⟨k', hkk2⟩ : ∃ k : Nat, k2.1 = k := ⟨k2.1.toNat, by omega⟩
 rw [hkk2]
 repeat' (first|refine ae ?_|refine a6 ?_|refine ak ?_|refine a7 ?_|refine a8 ?_|refine aa a2 rfl rfl ?_)
 refine aJ [2, 3, 4] (α := Nat × Option (Nat × Nat)) (fun x => [(11, aM x.1)]) (fun x => x.1 ≤ k') (fun x => [ej b s ⟨aM U, .vec none 9 [], .vec none 2 [], bL, .vec none 2 [], .imm 4 (A.1.map cu), .imm 1 (rg.1.map bk), .vec x.2 1 ((ir s x.1 k2.2).1.map cM), .vec none 1 []⟩ (ir s x.1 k2.2).2, tB tb] ++ tok x.2 61 1 ((ir s x.1 k2.2).1.map cM).length) (fun x => k' - x.1) (0, none) rfl ⟨rfl, trivial⟩ (Nat.zero_le _) (fun _ _ h => h) ?_
 rintro ⟨j, q2⟩ hj
 dsimp only at hj ⊢
 have hfl := uD s j k2.2
 have hstep : ir s (j + 1) k2.2 = (cf (gJ 0) fun _ => cf (m7 s 6 j 4) fun h => cI ((ir s j k2.2).1 ++ [h])) (ir s j k2.2).2 := rfl
 try dsimp only [Gr, Gq, Gp, Gj]
 repeat' (first|refine ae ?_|refine a6 ?_|refine a7 ?_|refine a8 ?_|refine aa a2 rfl rfl ?_)
 refine aw rfl (fun h => ?_) (fun h => ?_)
 ·have hjk : j < k' := by have := Gz h; omega
  generalize ir s j k2.2 = Fu at hfl hstep ⊢
  have hflm : (Fu.1.map cM).length = Fu.1.length := Gu ..
  unfold cf at hstep
  repeat' (first|refine ae ?_|refine a6 ?_|refine ak ?_|refine ar ?_|refine a7 ?_|refine a8 ?_|refine aa a2 rfl rfl ?_|(apply aG; first|refine ah 6 a2 0 rfl rfl rfl rfl rfl rfl rfl rfl ?_|refine ah 6 a2 1 rfl rfl rfl rfl rfl rfl rfl rfl ?_|refine ah 6 a2 2 rfl rfl rfl rfl rfl rfl rfl rfl ?_|refine ai a2 0 rfl rfl rfl rfl rfl rfl rfl ?_|refine ai a2 1 rfl rfl rfl rfl rfl rfl rfl ?_|refine ai a2 2 rfl rfl rfl rfl rfl rfl rfl ?_|refine ai a2 3 rfl rfl rfl rfl rfl rfl rfl ?_|fail))
  refine bI (aK (L' := [ej b s ⟨aM U, .vec none 9 [], .vec none 2 [], bL, .vec none 2 [], .imm 4 (A.1.map cu), .imm 1 (rg.1.map bk), .vec q2 1 (Fu.1.map cM), .vec none 1 []⟩ (gJ 0 Fu.2).2, tB tb] ++ tok q2 61 1 (Fu.1.map cM).length) (Gm _)) ?_
  generalize (gJ 0 Fu.2).2 = w at hstep ⊢
  dsimp only at hstep
  refine dw [.cell (b, 9, .vec q2 1 (Fu.1.map cM))] 11 [(0, .v), (1, .v), (2, .v), (3, .v), (4, .v), (5, .k), (6, .v), (7, .v), (8, .f), (9, .v), (10, .e)] none ?_ trivial rfl (by kernel_rfl) (by kernel_rfl) (by kernel_rfl) mixed (by kernel_rfl) rfl
  repeat' (first|refine aC ?_|refine aZ a2 ?_|fail)
  refine ez a2 0 rfl rfl rfl (bR 0 rfl rfl cb) (by first | trivial | rfl) ?_
  repeat' (first|refine aC ?_|refine aZ a2 ?_|fail)
  refine qF (qS s hs _ (n := 6) (fn := (j : Int)) (most := 4) (by omega) (by omega) (by omega)) (bR 0 rfl rfl cb) ?_
  generalize m7 s 6 j 4 w = hi at hstep ⊢
  try dsimp only [cI] at hstep
  unfold iZ
  repeat' (first|refine aC ?_|refine eh a2 ?_|fail)
  refine fY a2 _ rfl rfl rfl rfl (List.perm_append_comm (l₁ := [_, _])) (by simp; omega) (by simp; omega) (by first | trivial | rfl) fun q' => ?_
  refine bq [2, 3, 4, 11, 116, 126] rfl rfl ?_
  refine aN (aK (List.perm_append_comm (l₂ := [_, _]))) ?_
  repeat' (first|refine a6 ?_|refine a7 ?_|refine aH ?_|refine a8 ?_|refine aa a2 rfl rfl ?_|(apply aV; refine aU ?_)|(apply aG; first|refine ah 6 a2 0 rfl rfl rfl rfl rfl rfl rfl rfl ?_|refine ah 6 a2 1 rfl rfl rfl rfl rfl rfl rfl rfl ?_|refine ah 6 a2 2 rfl rfl rfl rfl rfl rfl rfl rfl ?_|refine ai a2 0 rfl rfl rfl rfl rfl rfl rfl ?_|refine ai a2 1 rfl rfl rfl rfl rfl rfl rfl ?_|refine ai a2 2 rfl rfl rfl rfl rfl rfl rfl ?_|refine ai a2 3 rfl rfl rfl rfl rfl rfl rfl ?_|fail))
  exact aB (j + 1, q') rfl ⟨by rw [Gw]; rfl, trivial⟩ (by dsimp only; omega) (by dsimp only; omega) (fun _ _ h => by dsimp only; rw [hstep]; dsimp only; rw [List.map_append]; exact h)
 have hjk : j = k' := by have := Gy h; omega
 subst hjk
 clear hstep
 generalize e6 : ir s j k2.2 = fu at hfl ⊢
 repeat' (first|refine ae ?_|refine a6 ?_|refine aO ?_|refine a7 ?_|refine au ?_|refine ay ?_|refine av ?_|refine aa a2 rfl rfl ?_)
 refine aN (br 0 rfl fun σ vs h => cn (k := 9) (c' := .imm 1 (fu.1.map cM)) h rfl fun v hv => VR.im hv) ?_
 refine aN (bY (L' := [ej b s ⟨aM U, .vec none 9 [], .vec none 2 [], bL, .vec none 2 [], .imm 4 (A.1.map cu), .imm 1 (rg.1.map bk), .imm 1 (fu.1.map cM), .vec none 1 []⟩ fu.2, tB tb]) (List.Sublist.cons_cons _ (List.Sublist.cons_cons _ (List.nil_sublist _)))) ?_
 refine cJ ?_
 have hk3 := cm s hs fu.2.a (n := 4) (by omega)
 have hk3 : 0 ≤ (dr s 4 fu.2).1 ∧ (dr s 4 fu.2).1 < 4 := hk3
 generalize e7 : dr s 4 fu.2 = k3 at hk3 ⊢
 obtain ⟨k'', hkk3⟩ : ∃ k : Nat, k3.1 = k := ⟨k3.1.toNat, by omega⟩
 rw [hkk3]
 repeat' (first|refine ae ?_|refine a6 ?_|refine ak ?_|refine a7 ?_|refine a8 ?_|refine aa a2 rfl rfl ?_)
 refine aJ [2, 3, 4] (α := Nat × Option (Nat × Nat)) (fun x => [(12, aM x.1)]) (fun x => x.1 ≤ k'') (fun x => [ej b s ⟨aM U, .vec none 9 [], .vec none 2 [], bL, .vec none 2 [], .imm 4 (A.1.map cu), .imm 1 (rg.1.map bk), .imm 1 (fu.1.map cM), .vec x.2 1 (aT (oZ s x.1 k3.2).1)⟩ (oZ s x.1 k3.2).2, tB tb] ++ tok x.2 3 1 (aT (oZ s x.1 k3.2).1).length) (fun x => k'' - x.1) (0, none) rfl ⟨rfl, trivial⟩ (Nat.zero_le _) (fun _ _ h => h) ?_
 rintro ⟨jc, q3⟩ hjc
 dsimp only at hjc ⊢
 have hcl := yK s jc k3.2
 have hstep : oZ s (jc + 1) k3.2 = (cf (dr s 500) fun z => cI ((oZ s jc k3.2).1 ++ [z - 100])) (oZ s jc k3.2).2 := rfl
 try dsimp only [Gr, Gq, Gp, Gj]
 repeat' (first|refine ae ?_|refine a6 ?_|refine a7 ?_|refine a8 ?_|refine aa a2 rfl rfl ?_)
 refine aw rfl (fun h => ?_) (fun h => ?_)
 ·have hjk : jc < k'' := by have := Gz h; omega
  generalize oZ s jc k3.2 = C at hcl hstep ⊢
  have hclm : (aT C.1).length = C.1.length := aR _
  unfold cf at hstep
  repeat' (first|refine ae ?_|refine ak ?_|refine ar ?_|refine a7 ?_)
  refine dw [.cell (b, 10, .vec q3 1 (aT C.1))] 11 [(0, .v), (1, .v), (2, .v), (3, .v), (4, .v), (5, .k), (6, .v), (7, .f), (8, .v), (9, .v), (10, .e)] none ?_ trivial rfl (by kernel_rfl) (by kernel_rfl) (by kernel_rfl) mixed (by kernel_rfl) rfl
  repeat' (first|refine aC ?_|refine aZ a2 ?_|fail)
  refine ez a2 0 rfl rfl rfl (bR 0 rfl rfl cb) (by first | trivial | rfl) ?_
  repeat' (first|refine aC ?_|refine aZ a2 ?_|fail)
  refine eR (bR 0 rfl rfl cb) ?_
  have hz := cm s hs C.2.a (n := 500) (by omega)
  have hz : 0 ≤ (dr s 500 C.2).1 ∧ (dr s 500 C.2).1 < 500 := hz
  generalize dr s 500 C.2 = z at hz hstep ⊢
  try dsimp only [cI] at hstep
  repeat' (first|refine aC ?_|(apply ff;refine gG ?_)|refine eh a2 ?_|fail)
  refine fY a2 _ rfl rfl rfl rfl (List.perm_append_comm (l₁ := [_, _])) (by simp [aR]; omega) (by simp [aR]; omega) (by first | trivial | rfl) fun q' => ?_
  refine bq [2, 3, 4, 12, 137, 147] rfl rfl ?_
  refine aN (aK (List.perm_append_comm (l₂ := [_, _]))) ?_
  repeat' (first|refine a6 ?_|refine a7 ?_|refine aH ?_|refine a8 ?_|refine aa a2 rfl rfl ?_|(apply aV; refine aU ?_)|(apply aG; first|refine ah 6 a2 0 rfl rfl rfl rfl rfl rfl rfl rfl ?_|refine ah 6 a2 1 rfl rfl rfl rfl rfl rfl rfl rfl ?_|refine ah 6 a2 2 rfl rfl rfl rfl rfl rfl rfl rfl ?_|refine ai a2 0 rfl rfl rfl rfl rfl rfl rfl ?_|refine ai a2 1 rfl rfl rfl rfl rfl rfl rfl ?_|refine ai a2 2 rfl rfl rfl rfl rfl rfl rfl ?_|refine ai a2 3 rfl rfl rfl rfl rfl rfl rfl ?_|fail))
  exact aB (jc + 1, q') rfl ⟨by rw [Gw]; rfl, trivial⟩ (by dsimp only; omega) (by dsimp only; omega) (fun _ _ h => by dsimp only; rw [hstep]; dsimp only; rw [show aT (C.1 ++ [z.1 - 100]) = aT C.1 ++ [[aM (z.1 - 100)]] from List.map_append ..]; exact h)
 have hjk : jc = k'' := by have := Gy h; omega
 subst hjk
 clear hstep
 generalize e8 : oZ s jc k3.2 = cv at hcl ⊢
 repeat' (first|refine ae ?_|refine a6 ?_|refine aO ?_|refine a7 ?_|refine au ?_|refine ay ?_|refine av ?_|refine aa a2 rfl rfl ?_)
 refine aN (br 0 rfl fun σ vs h => cn (k := 10) (c' := .imm 1 (aT cv.1)) h rfl fun v hv => VR.im hv) ?_
 refine aN (bY (L' := [ej b s ⟨aM U, .vec none 9 [], .vec none 2 [], bL, .vec none 2 [], .imm 4 (A.1.map cu), .imm 1 (rg.1.map bk), .imm 1 (fu.1.map cM), .imm 1 (aT cv.1)⟩ cv.2, tB tb]) (List.Sublist.cons_cons _ (List.Sublist.cons_cons _ (List.nil_sublist _)))) ?_
 refine cJ ?_
 have hk4 := cm s hs cv.2.a (n := 9) (by omega)
 have hk4 : 0 ≤ (dr s 9 cv.2).1 ∧ (dr s 9 cv.2).1 < 9 := hk4
 generalize e9 : dr s 9 cv.2 = k4 at hk4 ⊢
 obtain ⟨n, hkk4⟩ : ∃ k : Nat, 2 + k4.1 = k := ⟨(2 + k4.1).toNat, by omega⟩
 repeat' (first|refine ae ?_|refine a6 ?_|refine ak ?_|refine a7 ?_|refine a8 ?_|refine aa a2 rfl rfl ?_|(apply aV; refine aU ?_)|fail)
 rw [hkk4]
 have hrgl : (rg.1.map bk).length = rg.1.length := Gu ..
 have hful : (fu.1.map cM).length = fu.1.length := Gu ..
 have hrg3 : rg.1.length ≤ 1000 := by
  have hR : bU (fG s A.1.length) fun l => l.length ≤ 3 := bU.ite (fun _ => bU.ret (Nat.zero_le _)) fun _ => (cW s (by omega)).bnd fun n hn m => by rw [qY]; omega
  have := hR A.2
  rw [hal] at this
  rw [← e4]
  omega
 refine aJ [2, 3, 4] (α := Nat × Option (Nat × Nat)) (fun x => [(13, aM x.1)]) (fun x => x.1 ≤ n) (fun x => [ej b s ⟨aM U, .vec x.2 9 ((g8 s rg.1.length fu.1.length x.1 k4.2).1.map bA), .vec none 2 [], bL, .vec none 2 [], .imm 4 (A.1.map cu), .imm 1 (rg.1.map bk), .imm 1 (fu.1.map cM), .imm 1 (aT cv.1)⟩ (g8 s rg.1.length fu.1.length x.1 k4.2).2, tB tb] ++ tok x.2 63 9 ((g8 s rg.1.length fu.1.length x.1 k4.2).1.map bA).length) (fun x => n - x.1) (0, none) rfl ⟨rfl, trivial⟩ (Nat.zero_le _) (fun _ _ h => h) ?_
 rintro ⟨jg, q4⟩ hjg
 dsimp only at hjg ⊢
 have hgl := ta s rg.1.length fu.1.length jg k4.2
 have hstep : g8 s rg.1.length fu.1.length (jg + 1) k4.2 = (cf (jF s rg.1.length fu.1.length jg) fun g => cI ((g8 s rg.1.length fu.1.length jg k4.2).1 ++ [g])) (g8 s rg.1.length fu.1.length jg k4.2).2 := rfl
 try dsimp only [Gr, Gq, Gp, Gj]
 repeat' (first|refine ae ?_|refine a6 ?_|refine a7 ?_|refine a8 ?_|refine aa a2 rfl rfl ?_)
 refine aw rfl (fun h => ?_) (fun h => ?_)
 ·have hjn : jg < n := by have := Gz h; omega
  generalize g8 s rg.1.length fu.1.length jg k4.2 = Gs at hgl hstep ⊢
  have hglm : (Gs.1.map bA).length = Gs.1.length := Gu ..
  unfold cf at hstep
  repeat' (first|refine ae ?_|refine a6 ?_|refine ak ?_|refine ar ?_|refine a7 ?_|refine aa a2 rfl rfl ?_)
  refine bb ([ej b s ⟨aM U, .vec q4 9 (Gs.1.map bA), .vec none 2 [], bL, .vec none 2 [], .imm 4 (A.1.map cu), .imm 1 (rg.1.map bk), .imm 1 (fu.1.map cM), .imm 1 (aT cv.1)⟩ Gs.2] ++ (tok q4 63 9 (Gs.1.map bA).length ++ [])) [tB tb] (zd s hs ⟨aM U, .vec q4 9 (Gs.1.map bA), .vec none 2 [], bL, .vec none 2 [], .imm 4 (A.1.map cu), .imm 1 (rg.1.map bk), .imm 1 (fu.1.map cM), .imm 1 (aT cv.1)⟩ rfl rfl rfl rg.1.length fu.1.length jg hrgl hful (by omega) (by omega) (by omega) (by omega) b Gs.2) rfl rfl zX rfl fun c L1 ⟨q', hL1⟩ => ?_
  subst hL1
  refine aN (aK zX.symm) ?_
  generalize jF s rg.1.length fu.1.length jg Gs.2 = g at hstep ⊢
  try dsimp only [cI] at hstep
  repeat' (first|refine a6 ?_|refine a7 ?_|refine aH ?_|refine a8 ?_|refine aa a2 rfl rfl ?_|(apply aV; refine aU ?_)|fail)
  exact aB (jg + 1, q') rfl ⟨by rw [Gw]; rfl, trivial⟩ (by dsimp only; omega) (by dsimp only; omega) (fun _ _ h => by dsimp only; rw [hstep]; dsimp only; rw [List.map_append]; exact h)
 have hjn : jg = n := by have := Gy h; omega
 subst hjn
 clear hstep
 generalize e10 : g8 s rg.1.length fu.1.length jg k4.2 = gl at hgl ⊢
 have hglm : (gl.1.map bA).length = gl.1.length := Gu ..
 repeat' (first|refine ae ?_|refine a6 ?_|refine aO ?_|refine a7 ?_|refine au ?_|refine ay ?_|refine av ?_)
 refine bc (hc := ⟨xQ⟩) ?_
 refine aN (bY (L' := [ej b s ⟨aM U, .vec q4 9 (gl.1.map bA), .vec none 2 [], bL, .vec none 2 [], .imm 4 (A.1.map cu), .imm 1 (rg.1.map bk), .imm 1 (fu.1.map cM), .imm 1 (aT cv.1)⟩ gl.2, tB tb]) (List.Sublist.cons_cons _ (List.Sublist.cons_cons _ (List.nil_sublist _)))) ?_
 repeat' (first|refine ae ?_|refine a6 ?_|refine ak ?_|refine a7 ?_|refine a8 ?_|refine aa a2 rfl rfl ?_)
 have hr16 : (aT eV).length = 16 := rfl
 refine aJ [2, 3, 14] (α := Nat × Option (Nat × Nat)) (fun x => [(15, aM x.1)]) (fun x => x.1 ≤ 16) (fun x => [ej b s ⟨aM U, .vec q4 9 (gl.1.map bA), .vec x.2 2 ((gR s gl.1.length x.1 gl.2).1.map cw), bL, .vec none 2 [], .imm 4 (A.1.map cu), .imm 1 (rg.1.map bk), .imm 1 (fu.1.map cM), .imm 1 (aT cv.1)⟩ (gR s gl.1.length x.1 gl.2).2, tB tb] ++ tok x.2 68 2 ((gR s gl.1.length x.1 gl.2).1.map cw).length) (fun x => 16 - x.1) (0, none) rfl ⟨rfl, trivial⟩ (Nat.zero_le _) (fun _ _ h => h) ?_
 rintro ⟨jr, q5⟩ hjr
 dsimp only at hjr ⊢
 have hcl2 := um s gl.1.length jr gl.2
 have hstep : gR s gl.1.length (jr + 1) gl.2 = (cf (dr s 4) fun z => if 0 < z then cf (dr s gl.1.length) fun g => cI ((gR s gl.1.length jr gl.2).1 ++ [(⟨eV.getD jr 0, g⟩ : ep)]) else cI (gR s gl.1.length jr gl.2).1) (gR s gl.1.length jr gl.2).2 := rfl
 try dsimp only [Gr, Gq, Gp, Gj]
 repeat' (first|refine ae ?_|refine a6 ?_|refine a7 ?_|refine a8 ?_|refine aa a2 rfl rfl ?_)
 refine aw rfl (fun h => ?_) (fun h => ?_)
 ·have hj16 : jr < 16 := by have := Gz h; rw [hr16] at this; omega
  have hrn : (aT eV)[jr]? = some [aM (eV.getD jr 0)] := bW (kH hj16 0)
  generalize eV.getD jr 0 = rn at hrn hstep
  generalize gR s gl.1.length jr gl.2 = Ch at hcl2 hstep ⊢
  have hchm : (Ch.1.map cw).length = Ch.1.length := Gu ..
  unfold cf at hstep
  repeat' (first|refine ae ?_|refine a6 ?_|refine ak ?_|refine ar ?_|refine a7 ?_|refine aa a2 rfl rfl ?_)
  refine cJ ?_
  generalize dr s 4 Ch.2 = z at hstep ⊢
  dsimp only at hstep
  repeat' (first|refine a7 ?_|refine a8 ?_|refine aa a2 rfl rfl ?_)
  refine aw rfl (fun hz => ?_) (fun hz => ?_)
  ·rw [if_pos (Gz hz)] at hstep
   repeat' (first|fail)
   refine dw [.cell (b, 4, .vec q5 2 (Ch.1.map cw))] 21 [(0, .v), (1, .v), (2, .v), (3, .v), (4, .v), (5, .k), (6, .v), (7, .v), (8, .v), (9, .v), (10, .v), (11, .v), (12, .v), (13, .v), (14, .v), (15, .l), (16, .v), (17, .f), (18, .v), (19, .v), (20, .e)] none ?_ trivial rfl (by kernel_rfl) (by kernel_rfl) (by kernel_rfl) mixed (by kernel_rfl) rfl
   repeat' (first|refine aC ?_|refine aZ a2 ?_|fail)
   refine ez a2 0 rfl rfl rfl (bR 0 rfl rfl cb) (by first | trivial | rfl) ?_
   repeat' (first|refine aC ?_|refine aZ a2 ?_|(apply ca;refine ck a2 ?_)|refine df a2 0 rfl rfl rfl rfl (by first|trivial|rfl) ?_)
   rw [hglm]
   refine eR (bR 0 rfl rfl cb) ?_
   generalize dr s gl.1.length z.2 = g at hstep ⊢
   try dsimp only [cI] at hstep
   repeat' (first|refine aC ?_|refine aZ a2 ?_|refine eh a2 ?_|fail)
   refine fY a2 _ rfl rfl rfl rfl (List.perm_append_comm (l₁ := [_, _])) (by simp; omega) (by simp; omega) (by first | trivial | rfl) fun q' => ?_
   refine bq [2, 3, 14, 15, 172, 192] rfl rfl ?_
   refine aN (aK (List.perm_append_comm (l₂ := [_, _]))) ?_
   repeat' (first|refine a6 ?_|refine a7 ?_|refine aH ?_|refine a8 ?_|refine aa a2 rfl rfl ?_|(apply aV; refine aU ?_)|(apply aG; first|refine ah 6 a2 0 rfl rfl rfl rfl rfl rfl rfl rfl ?_|refine ah 6 a2 1 rfl rfl rfl rfl rfl rfl rfl rfl ?_|refine ah 6 a2 2 rfl rfl rfl rfl rfl rfl rfl rfl ?_|refine ai a2 0 rfl rfl rfl rfl rfl rfl rfl ?_|refine ai a2 1 rfl rfl rfl rfl rfl rfl rfl ?_|refine ai a2 2 rfl rfl rfl rfl rfl rfl rfl ?_|refine ai a2 3 rfl rfl rfl rfl rfl rfl rfl ?_|fail))
   exact aB (jr + 1, q') rfl ⟨by rw [Gw]; rfl, trivial⟩ (by dsimp only; omega) (by dsimp only; omega) (fun _ _ h => by dsimp only; rw [hstep]; dsimp only; rw [List.map_append]; exact h)
  ·rw [if_neg (Gy hz)] at hstep
   try dsimp only [cI] at hstep
   repeat' (first|refine a6 ?_|refine ar ?_|refine a7 ?_|refine aH ?_|refine a8 ?_|refine aa a2 rfl rfl ?_|(apply aV; refine aU ?_)|fail)
   exact aB (jr + 1, q5) rfl ⟨by rw [Gw]; rfl, trivial⟩ (by dsimp only; omega) (by dsimp only; omega) (fun _ _ h => by dsimp only; rw [hstep]; exact h)
 have hj16 : jr = 16 := by have := Gy h; rw [hr16] at this; omega
 subst hj16
 clear hstep
 generalize e11 : gR s gl.1.length 16 gl.2 = ch at hcl2 ⊢
 repeat' (first|refine ae ?_|refine a6 ?_|refine aO ?_|refine a7 ?_|refine au ?_|refine ay ?_|refine av ?_|refine aa a2 rfl rfl ?_)
 refine aN (br 0 rfl fun σ vs h => cn (k := 4) (c' := .imm 2 (ch.1.map cw)) h rfl fun v hv => VR.im hv) ?_
 refine aN (bY (L' := [ej b s ⟨aM U, .vec q4 9 (gl.1.map bA), .imm 2 (ch.1.map cw), bL, .vec none 2 [], .imm 4 (A.1.map cu), .imm 1 (rg.1.map bk), .imm 1 (fu.1.map cM), .imm 1 (aT cv.1)⟩ ch.2] ++ [tB tb]) (List.Sublist.cons_cons _ (List.Sublist.cons_cons _ (List.nil_sublist _)))) ?_
 refine bb [ej b s ⟨aM U, .vec q4 9 (gl.1.map bA), .imm 2 (ch.1.map cw), bL, .vec none 2 [], .imm 4 (A.1.map cu), .imm 1 (rg.1.map bk), .imm 1 (fu.1.map cM), .imm 1 (aT cv.1)⟩ ch.2] [tB tb] (uT s hs ⟨aM U, .vec q4 9 (gl.1.map bA), .imm 2 (ch.1.map cw), bL, .vec none 2 [], .imm 4 (A.1.map cu), .imm 1 (rg.1.map bk), .imm 1 (fu.1.map cM), .imm 1 (aT cv.1)⟩ rfl rfl gl.1.length hglm (by omega) b ch.2) rfl rfl (Gm _) rfl fun c L1 hL1 => ?_
 subst hL1
 have hlk6 := (nS s (n := gl.1.length) (by omega) ch.2).len
 generalize e12 : iw s gl.1.length ch.2 = lk at hlk6 ⊢
 have hlkm : (lk.1.map bj).length = lk.1.length := Gu ..
 repeat' (first|refine ae ?_|refine a6 ?_|refine a7 ?_|refine a8 ?_)
 refine bc (hc := ⟨tx⟩) ?_
 refine aN (aK (L' := [ej b s ⟨aM U, .vec q4 9 (gl.1.map bA), .imm 2 (ch.1.map cw), .imm 3 (lk.1.map bj), .vec none 2 [], .imm 4 (A.1.map cu), .imm 1 (rg.1.map bk), .imm 1 (fu.1.map cM), .imm 1 (aT cv.1)⟩ lk.2, tB tb]) (Gm _)) ?_
 repeat' (first|refine ae ?_|refine a6 ?_|refine ak ?_|refine a7 ?_|refine a8 ?_|refine aa a2 rfl rfl ?_)
 have hn8 : (ey dU).length = 8 := rfl
 refine aJ [2, 3, 16] (α := Nat × Option (Nat × Nat)) (fun x => [(17, aM x.1)]) (fun x => x.1 ≤ 8) (fun x => [ej b s ⟨aM U, .vec q4 9 (gl.1.map bA), .imm 2 (ch.1.map cw), .imm 3 (lk.1.map bj), .vec x.2 2 ((gU s lk.1.length x.1 lk.2).1.map bw), .imm 4 (A.1.map cu), .imm 1 (rg.1.map bk), .imm 1 (fu.1.map cM), .imm 1 (aT cv.1)⟩ (gU s lk.1.length x.1 lk.2).2, tB tb] ++ tok x.2 83 2 ((gU s lk.1.length x.1 lk.2).1.map bw).length) (fun x => 8 - x.1) (0, none) rfl ⟨rfl, trivial⟩ (Nat.zero_le _) (fun _ _ h => h) ?_
 rintro ⟨jf, q6⟩ hjf
 dsimp only at hjf ⊢
 have hftl := uz s lk.1.length jf lk.2
 have hstep : gU s lk.1.length (jf + 1) lk.2 = (cf (mP s lk.1.length) fun r => cf (dr s 2) fun z => cI (if z = 0 then (gU s lk.1.length jf lk.2).1 ++ [(⟨dU.getD jf ByteArray.empty, r⟩ : bO)] else (gU s lk.1.length jf lk.2).1)) (gU s lk.1.length jf lk.2).2 := rfl
 try dsimp only [Gr, Gq, Gp, Gj]
 repeat' (first|refine ae ?_|refine a6 ?_|refine a7 ?_|refine a8 ?_|refine aa a2 rfl rfl ?_)
 refine aw rfl (fun h => ?_) (fun h => ?_)
 ·have hj8 : jf < 8 := by have := Gz h; rw [hn8] at this; omega
  have hnm : (ey dU)[jf]? = some [gE (dU.getD jf ByteArray.empty)] := tT (kH hj8 ByteArray.empty)
  generalize dU.getD jf ByteArray.empty = nm at hnm hstep
  generalize gU s lk.1.length jf lk.2 = Ft at hftl hstep ⊢
  have hftm : (Ft.1.map bw).length = Ft.1.length := Gu ..
  unfold cf at hstep
  repeat' (first|refine ae ?_|refine a6 ?_|refine ak ?_|refine ar ?_|refine a7 ?_|refine a8 ?_|refine aa a2 rfl rfl ?_)
  refine bI (bi (t := 18) (c' := .vec none 1 []) rfl fun σ v h => cy 1 h) ?_
  refine aJ [2, 3, 16, 17] (α := Nat × Option (Nat × Nat)) (fun x => [(19, aM x.1), (18, .vec x.2 1 (aT (mP s x.1 Ft.2).1))]) (fun x => x.1 ≤ lk.1.length) (fun x => [ej b s ⟨aM U, .vec q4 9 (gl.1.map bA), .imm 2 (ch.1.map cw), .imm 3 (lk.1.map bj), .vec q6 2 (Ft.1.map bw), .imm 4 (A.1.map cu), .imm 1 (rg.1.map bk), .imm 1 (fu.1.map cM), .imm 1 (aT cv.1)⟩ (mP s x.1 Ft.2).2, tB tb] ++ (tok x.2 3 1 (aT (mP s x.1 Ft.2).1).length ++ tok q6 83 2 (Ft.1.map bw).length)) (fun x => lk.1.length - x.1) (0, none) rfl ⟨rfl, rfl, trivial⟩ (Nat.zero_le _) (fun _ _ h => h) ?_
  rintro ⟨a, q7⟩ ha
  dsimp only at ha ⊢
  have hal7 := yt s a Ft.2
  have hst7 : mP s (a + 1) Ft.2 = (cf (dr s 3) fun z => cI (if z = 0 then (mP s a Ft.2).1 ++ [(a : Int)] else (mP s a Ft.2).1)) (mP s a Ft.2).2 := rfl
  try dsimp only [Gr, Gq, Gp, Gj]
  repeat' (first|refine ae ?_|refine a6 ?_|refine a7 ?_|refine a8 ?_|refine aa a2 rfl rfl ?_|(apply bK; first|refine aj a2 0 rfl rfl rfl rfl rfl ?_|refine aj a2 1 rfl rfl rfl rfl rfl ?_|refine aj a2 2 rfl rfl rfl rfl rfl ?_|refine aj a2 3 rfl rfl rfl rfl rfl ?_|refine aD a2 0 rfl rfl rfl rfl rfl ?_|refine aD a2 1 rfl rfl rfl rfl rfl ?_|refine aD a2 2 rfl rfl rfl rfl rfl ?_|refine aj a2 1 rfl rfl rfl (by assumption) rfl ?_|refine aj a2 0 rfl rfl rfl (by assumption) rfl ?_|fail)|fail)
  refine aw rfl (fun h => ?_) (fun h => ?_)
  ·have hal : a < lk.1.length := by have := Gz h; rw [hlkm] at this; omega
   generalize mP s a Ft.2 = As at hal7 hst7 ⊢
   have hasm : (aT As.1).length = As.1.length := aR _
   unfold cf at hst7
   repeat' (first|refine ae ?_|refine a6 ?_|refine ak ?_|refine ar ?_|refine a7 ?_|refine aa a2 rfl rfl ?_)
   refine cJ ?_
   generalize dr s 3 As.2 = z at hst7 ⊢
   dsimp only [cI] at hst7
   repeat' (first|refine a7 ?_|refine a8 ?_|refine aa a2 rfl rfl ?_)
   refine aw rfl (fun hz => ?_) (fun hz => ?_)
   ·rw [if_pos (Gz hz)] at hst7
    repeat' (first|refine a6 ?_|refine aa a2 rfl rfl ?_|refine bG a2 ?_|fail)
    refine bE a2 _ rfl rfl rfl rfl (eU (A := [_, _])) (by simp [aR]; omega) (by simp [aR]; omega) rfl fun q' => ?_
    refine aN (aK (eU (A := [_, _])).symm) ?_
    repeat' (first|refine a6 ?_|refine a7 ?_|refine aH ?_|refine a8 ?_|refine aa a2 rfl rfl ?_|(apply aV; refine aU ?_)|fail)
    exact aB (a + 1, q') rfl ⟨by rw [Gw]; rfl, by rw [hst7]; dsimp only; rw [show aT (As.1 ++ [(a : Int)]) = aT As.1 ++ [[aM (a : Int)]] from List.map_append ..]; rfl, trivial⟩ (by dsimp only; omega) (by dsimp only; omega) (fun _ _ h => by dsimp only; rw [hst7]; dsimp only; rw [show aT (As.1 ++ [(a : Int)]) = aT As.1 ++ [[aM (a : Int)]] from List.map_append ..]; exact h)
   ·rw [if_neg (Gy hz)] at hst7
    repeat' (first|refine a6 ?_|refine ar ?_|refine a7 ?_|refine aH ?_|refine a8 ?_|refine aa a2 rfl rfl ?_|(apply aV; refine aU ?_)|fail)
    exact aB (a + 1, q7) rfl ⟨by rw [Gw]; rfl, by rw [hst7]; rfl, trivial⟩ (by dsimp only; omega) (by dsimp only; omega) (fun _ _ h => by dsimp only; rw [hst7]; exact h)
  have hal : a = lk.1.length := by have := Gy h; rw [hlkm] at this; omega
  subst hal
  clear hst7
  generalize mP s lk.1.length Ft.2 = As at hal7 hstep ⊢
  dsimp only at hstep
  repeat' (first|refine ae ?_|refine a6 ?_|refine aO ?_|refine a7 ?_|refine au ?_|refine ay ?_|refine av ?_|refine aa a2 rfl rfl ?_)
  refine aN (bi (t := 18) (c' := .imm 1 (aT As.1)) rfl fun σ v h => VR.im h) ?_
  refine aN (bY (L' := [ej b s ⟨aM U, .vec q4 9 (gl.1.map bA), .imm 2 (ch.1.map cw), .imm 3 (lk.1.map bj), .vec q6 2 (Ft.1.map bw), .imm 4 (A.1.map cu), .imm 1 (rg.1.map bk), .imm 1 (fu.1.map cM), .imm 1 (aT cv.1)⟩ As.2, tB tb] ++ tok q6 83 2 (Ft.1.map bw).length) (List.Sublist.cons_cons _ (List.Sublist.cons_cons _ (List.sublist_append_right _ _)))) ?_
  refine cJ ?_
  generalize dr s 2 As.2 = z at hstep ⊢
  dsimp only [cI] at hstep
  repeat' (first|refine a7 ?_|refine a8 ?_|refine aa a2 rfl rfl ?_)
  refine aw rfl (fun hz => ?_) (fun hz => ?_)
  ·rw [if_pos (Gz hz)] at hstep
   repeat' (first|fail)
   refine bt 14 [(0, .v), (1, .v), (2, .v), (3, .v), (4, .v), (5, .l), (6, .v), (7, .v), (8, .v), (9, .v), (10, .v), (11, .v), (12, .v), (13, .e)] none ?_ trivial rfl (by kernel_rfl) (by kernel_rfl) (by kernel_rfl) mixed (by kernel_rfl) rfl
   repeat' (first|refine aC ?_|refine aZ a2 ?_|(apply ca;refine ck a2 ?_)|refine eh a2 ?_|refine df a2 0 rfl rfl rfl rfl (by first|trivial|rfl) ?_)
   refine fY a2 _ rfl rfl rfl rfl (List.perm_append_comm (l₁ := [_, _])) (by simp; omega) (by simp; omega) (by first | trivial | rfl) fun q' => ?_
   refine bq [2, 3, 16, 17, 225, 238] rfl rfl ?_
   refine aN (aK (List.perm_append_comm (l₂ := [_, _]))) ?_
   repeat' (first|refine a6 ?_|refine a7 ?_|refine aH ?_|refine a8 ?_|refine aa a2 rfl rfl ?_|(apply aV; refine aU ?_)|(apply aG; first|refine ah 6 a2 0 rfl rfl rfl rfl rfl rfl rfl rfl ?_|refine ah 6 a2 1 rfl rfl rfl rfl rfl rfl rfl rfl ?_|refine ah 6 a2 2 rfl rfl rfl rfl rfl rfl rfl rfl ?_|refine ai a2 0 rfl rfl rfl rfl rfl rfl rfl ?_|refine ai a2 1 rfl rfl rfl rfl rfl rfl rfl ?_|refine ai a2 2 rfl rfl rfl rfl rfl rfl rfl ?_|refine ai a2 3 rfl rfl rfl rfl rfl rfl rfl ?_|fail))
   exact aB (jf + 1, q') rfl ⟨by rw [Gw]; rfl, trivial⟩ (by dsimp only; omega) (by dsimp only; omega) (fun _ _ h => by dsimp only; rw [hstep]; dsimp only; rw [List.map_append]; exact h)
  ·rw [if_neg (Gy hz)] at hstep
   repeat' (first|refine a6 ?_|refine ar ?_|refine a7 ?_|refine aH ?_|refine a8 ?_|refine aa a2 rfl rfl ?_|(apply aV; refine aU ?_)|fail)
   exact aB (jf + 1, q6) rfl ⟨by rw [Gw]; rfl, trivial⟩ (by dsimp only; omega) (by dsimp only; omega) (fun _ _ h => by dsimp only; rw [hstep]; exact h)
 have hj8 : jf = 8 := by have := Gy h; rw [hn8] at this; omega
 subst hj8
 clear hstep
 generalize e13 : gU s lk.1.length 8 lk.2 = ft at hftl ⊢
 repeat' (first|refine ae ?_|refine a6 ?_|refine aq ?_|refine aO ?_|refine a7 ?_|refine au ?_|refine ay ?_|refine av ?_|refine a8 ?_|refine aa a2 rfl rfl ?_|(apply bK; first|refine aj a2 0 rfl rfl rfl rfl rfl ?_|refine aj a2 1 rfl rfl rfl rfl rfl ?_|refine aj a2 2 rfl rfl rfl rfl rfl ?_|refine aj a2 3 rfl rfl rfl rfl rfl ?_|refine aD a2 0 rfl rfl rfl rfl rfl ?_|refine aD a2 1 rfl rfl rfl rfl rfl ?_|refine aD a2 2 rfl rfl rfl rfl rfl ?_|refine aj a2 1 rfl rfl rfl (by assumption) rfl ?_|refine aj a2 0 rfl rfl rfl (by assumption) rfl ?_|fail)|(apply aG; first|refine ah 6 a2 0 rfl rfl rfl rfl rfl rfl rfl rfl ?_|refine ah 6 a2 1 rfl rfl rfl rfl rfl rfl rfl rfl ?_|refine ah 6 a2 2 rfl rfl rfl rfl rfl rfl rfl rfl ?_|refine ai a2 0 rfl rfl rfl rfl rfl rfl rfl ?_|refine ai a2 1 rfl rfl rfl rfl rfl rfl rfl ?_|refine ai a2 2 rfl rfl rfl rfl rfl rfl rfl ?_|refine ai a2 3 rfl rfl rfl rfl rfl rfl rfl ?_|fail))
 have hv : md s = ⟨U, gl.1, ch.1, lk.1, ft.1, A.1, rg.1, fu.1, cv.1⟩ := by
  unfold md zy cf
  rw [e1]
  try dsimp only
  rw [e2]
  try dsimp only
  rw [hkk, Int.toNat_natCast, e3]
  try dsimp only
  rw [e4, e5]
  try dsimp only
  rw [hkk2, Int.toNat_natCast, e6]
  try dsimp only
  rw [e7]
  try dsimp only
  rw [hkk3, Int.toNat_natCast, e8]
  try dsimp only
  rw [e9]
  try dsimp only
  rw [hkk4, Int.toNat_natCast, e10]
  try dsimp only
  rw [e11]
  try dsimp only
  rw [e12]
  try dsimp only
  rw [e13, hU]
  rfl
 rw [hv]
 exact be (br 1 (cs' := ce ⟨U, gl.1, ch.1, lk.1, ft.1, A.1, rg.1, fu.1, cv.1⟩) rfl fun σ vs h => nD.vrs (a := [aM U, .vec q4 9 (gl.1.map bA), .imm 2 (ch.1.map cw), .imm 3 (lk.1.map bj), .vec q6 2 (ft.1.map bw), .imm 4 (A.1.map cu), .imm 1 (rg.1.map bk), .imm 1 (fu.1.map cM), .imm 1 (aT cv.1)]) (b := ce ⟨U, gl.1, ch.1, lk.1, ft.1, A.1, rg.1, fu.1, cv.1⟩) ⟨eb.refl _, eb.im, eb.refl _, eb.refl _, eb.im, eb.refl _, eb.refl _, eb.refl _, eb.refl _, trivial⟩ h) (iH a2 1 [] rfl rfl rfl rfl rfl (List.nil_sublist _) rfl)
end Go.Proofs.YtjjpkibjffmceaaGreat
namespace Go.Proofs.YtjjpkibjffmceaaGreat
open Go.RowKit
attribute [local irreducible] AT bV AX AO Av Kt bC eH DA dl
theorem xR : CX Tryz.prog 22 [] 3 1 (aT eV) := by
 refine aQ Tryz.func22 rfl Tryz.ntmps22 rfl fun B => ?_
 repeat' (first|refine ae ?_|refine a6 ?_|refine aq ?_|refine a7 ?_|refine a8 ?_|refine aa a2 rfl rfl ?_|refine iz (d := 1) a2 fun _=>?_|fail)
 exact aA rfl rfl ⟨_, rfl, rfl⟩
section
variable {P : Program} {tt : TT} {r : Option Nat} {ops : Array Oper} {Q : Exit → Act → World → Prop} {nt : Nat} {D : List Deferred} {fr : cg} {B : Bs} {L : AL} {rest : List Oper} {d : Nat} {ty t : TypeId} {pos : String} {af : Array Edge} {x y : Operand} {u : AV}
theorem DR (ok : fa P tt) (hi : Nat) {e sz by_ s : Nat} {l1 : List (List AV)} {q : IntKind} {a : Int} (ht : mF tt t = some (e, sz, by_)) (hx : bH fr x = some u) (hu : iF u = some (s, l1)) (hs : Nat.beq s sz = true) (hy : bH fr y = some (.sc (.int q a))) (ha : a = (hi : Int)) (h1 : hi ≤ l1.length) (hd : Nat.ble nt d = false) (h : bV P r ops Q nt D rest ((d, .imm s (l1.take hi)) :: fr) B L) : bV P r ops Q nt D (⟨some d, .slice t x none (some y) none, ty, pos, af, none⟩ :: rest) fr B L := dJ (yf (bZ ok ht).1 hx (dc hu) hs hy ha h1) hd rfl h
end
theorem xa (l : List Int) (k : Nat) : (aT l).take k = aT (l.take k) := by simp [aT]
def FQ (z : Int) : Int := fI.getD (z % 17).toNat 0
def CT (f : aI) (l : List Int) : Nat → List ByteArray
 | 0 => []
 | k + 1 => CT f l k ++ (match f.Features[k]?, l[k]? with | some t, some z => if z.tmod 3 ≠ 0 then [t.Name] else [] | _, _ => [])
def FP (bs : List Int) : List Int := F8 (bs.take 40)
def FO (f : aI) (bs : List Int) : List ByteArray := CT f bs f.Features.length
def Ff (ns : List Int) : aI := md (ns.take 300)
theorem Au (a : List ByteArray) (x : ByteArray) : ey (a ++ [x]) = ey a ++ [[gE x]] := by simp [ey]
end Go.Proofs.YtjjpkibjffmceaaGreat
namespace Go.Proofs.YtjjpkibjffmceaaGreat
open Go.RowKit
attribute [local irreducible] AT bV AX AO Av Kt bC eH DA dl
theorem Ay : ∀ z ∈ fI, qi z = false := by decide
theorem xZ (a b : List ByteArray) : ey a ++ ey b = ey (a ++ b) := (List.map_append ..).symm
end Go.Proofs.YtjjpkibjffmceaaGreat
