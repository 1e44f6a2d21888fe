/-
  The maker: fonts.
-/
import Derived.Test.YtjjpkibjffmceaaGreatM28
import Derived.Test.YtjjpkibjffmceaaGreatM25
import Derived.Test.YtjjpkibjffmceaaGreatM24
namespace Go.Proofs.YtjjpkibjffmceaaGreat
open Go.RowKit
attribute [local irreducible] AT bT AX AO Av Kt bk ej DA cX
variable (s : List Int) (hs : s.length ≤ 1000000)
theorem z7 {a c : Nat × AB} {T : AL} : ([a, c] ++ T).Perm (([a] ++ (T ++ [])) ++ [c]) := by
 rw [List.append_nil]
 exact List.Perm.cons a (List.perm_append_comm (l₁ := [c]))
theorem Ej {A T : AL} {c : Nat × AB} : ((A ++ T) ++ [c]).Perm ((A ++ [c]) ++ T) := by
 rw [List.append_assoc, List.append_assoc]
 exact List.Perm.append_left _ List.perm_append_comm
theorem x7 : bO Tryz.prog 22 [] (.imm 1 (aU eR)) := by
 refine aP Tryz.func22 rfl Tryz.ntmps22 rfl fun B => ?_
 repeat' (first|refine ah ?_|refine a7 ?_|refine ar ?_|refine a8 ?_|refine aa ?_|refine ae a6 rfl rfl ?_|refine bz a6 ?_|fail)
 exact aA rfl rfl rfl
theorem sI : bO Tryz.prog 23 [] (.imm 1 (gi dW)) := by
 refine aP Tryz.func23 rfl Tryz.ntmps23 rfl fun B => ?_
 repeat' (first|refine ah ?_|refine a7 ?_|refine ar ?_|refine a8 ?_|refine aa ?_|refine ae a6 rfl rfl ?_|refine bz a6 ?_|fail)
 exact aA rfl rfl rfl
theorem pV (k : Nat) (m : MS) : (jE s k m).1.length = k := by
 exact (bS.runs (fun i (l : List dY) => l.length = i) k rfl fun i l _ h => (bS.any _).bnd fun a _ => (bS.any _).bnd fun b _ => bS.ret (by simp [h])) m
theorem uL (k : Nat) (m : MS) : (gG s k m).1.length = k := by
 exact (bS.runs (fun i (l : List dS) => l.length = i) k rfl fun i l _ h => (bS.any _).bnd fun a _ => bS.ret (by simp [h])) m
theorem qp (x k : Nat) (m : MS) : (jy s x k m).1.length = k := by
 exact (bS.runs (fun i (l : List (List dS)) => l.length = i) k rfl fun i l _ h => (bS.any _).bnd fun a _ => bS.ret (by simp [h])) m
theorem u4 (k : Nat) (m : MS) : (i4 s k m).1.length = k := by
 exact (bS.runs (fun i (l : List (List eb)) => l.length = i) k rfl fun i l _ h => (bS.any _).bnd fun a _ => (bS.any _).bnd fun b _ => bS.ret (by simp [h])) m
theorem xW (k : Nat) (m : MS) : (oo s k m).1.length = k := by
 exact (bS.runs (fun i (l : List Int) => l.length = i) k rfl fun i l _ h => (bS.any _).bnd fun a _ => bS.ret (by simp [h])) m
theorem so (R fn k : Nat) (m : MS) : (fL s R fn k m).1.length = k := by
 exact (bS.runs (fun i (l : List bf) => l.length = i) k rfl fun i l _ h => (bS.any _).bnd fun a _ => bS.ret (by simp [h])) m
theorem tL (n : Int) (k : Nat) (m : MS) : (gC s n k m).1.length ≤ k := by
 exact (bS.runs (fun i (l : List dO) => l.length ≤ i) k (Nat.le_refl _) fun i l _ h => (bS.any _).bnd fun a _ => bS.ite (fun _ => (bS.any _).bnd fun b _ => bS.ret (by simp; omega)) fun _ => bS.ret (by omega)) m
theorem xI (k : Nat) (m : MS) : (mv s k m).1.length ≤ k := by
 exact (bS.runs (fun i (l : List Int) => l.length ≤ i) k (Nat.le_refl _) fun i l _ h => (bS.any _).bnd fun a _ => bS.ret (by
  split
  ·simp; omega
  ·omega)) m
theorem tW (n k : Nat) (m : MS) : (gF s n k m).1.length ≤ k := by
 exact (bS.runs (fun i (l : List bL) => l.length ≤ i) k (Nat.le_refl _) fun i l _ h => (bS.any _).bnd fun a _ => (bS.any _).bnd fun b _ => bS.ret (by
  split
  ·simp; omega
  ·omega)) m
abbrev tB (tb : Nat) : Nat × AB := (tb, .box [aM 0, bI, bI, bI, bI, bI, bI, bI, bI] 36)
include hs
set_option maxHeartbeats 32000000 in
theorem yG : bO Tryz.prog 21 [.imm 1 (aU s)] (cr (lQ s)) := by
 refine aP Tryz.func21 rfl Tryz.ntmps21 rfl fun B => ?_
 repeat' (first|refine ah ?_|refine a7 ?_|refine a8 ?_|refine aa ?_|refine ae a6 rfl rfl ?_|refine sD (d := 22) fun _=>?_|refine b5 a6 fun _=>?_|refine bz a6 ?_|fail)
 rename_i tb b
 refine aO (aK (L' := [dV b s ⟨aM 0, bI, bI, bI, bI, bI, bI, bI, bI⟩ ⟨0, 0⟩, tB tb]) (Gm _)) ?_
 refine aO (bi 0 (cs' := Ee s ⟨aM 0, .vec none 9 [], .vec none 2 [], bI, .vec none 2 [], .vec none 4 [], .vec none 1 [], .vec none 1 [], .vec none 1 []⟩ ⟨0, 0⟩) rfl fun σ vs h => cg (k := 3) (cg (k := 4) (cg (k := 6) (cg (k := 7) (cg (k := 8) (cg (k := 9) (cg (k := 10) h rfl fun v hv => co 1 hv) rfl fun v hv => co 1 hv) rfl fun v hv => co 1 hv) rfl fun v hv => co 4 hv) rfl fun v hv => co 2 hv) rfl fun v hv => co 2 hv) rfl fun v hv => co 9 hv) ?_
 refine cD ?_
 have hu := cf s hs 0 (n := 4) (by omega)
 have hu : 0 ≤ (dr s 4 ⟨0, 0⟩).1 ∧ (dr s 4 ⟨0, 0⟩).1 < 4 := hu
 generalize e1 : dr s 4 ⟨0, 0⟩ = u at hu ⊢
 have hul : (aU lj)[u.1.toNat]? = some [aM (lj.getD u.1.toNat 0)] := bN (km (by simp only [lj, List.length_cons, List.length_nil]; omega) 0)
 generalize hU : lj.getD u.1.toNat 0 = U at hul
 repeat' (first|refine ah ?_|refine a7 ?_|refine a8 ?_|refine aa ?_|refine ae a6 rfl rfl ?_|(apply aY; first|refine aX a6 ?_|refine aS a6 ?_)|(apply aH; first|refine ai 6 a6 0 rfl rfl rfl rfl rfl rfl rfl rfl ?_|refine ai 6 a6 1 rfl rfl rfl rfl rfl rfl rfl rfl ?_|refine ai 6 a6 2 rfl rfl rfl rfl rfl rfl rfl rfl ?_|refine aj a6 0 rfl rfl rfl rfl rfl rfl rfl ?_|refine aj a6 1 rfl rfl rfl rfl rfl rfl rfl ?_|refine aj a6 2 rfl rfl rfl rfl rfl rfl rfl ?_|refine aj a6 3 rfl rfl rfl rfl rfl rfl rfl ?_|fail))
 refine aO (aK (L' := [dV b s ⟨aM U, .vec none 9 [], .vec none 2 [], bI, .vec none 2 [], .vec none 4 [], .vec none 1 [], .vec none 1 [], .vec none 1 []⟩ u.2, tB tb]) (Gm _)) ?_
 refine cD ?_
 have hk := cf s hs u.2.a (n := 3) (by omega)
 have hk : 0 ≤ (dr s 3 u.2).1 ∧ (dr s 3 u.2).1 < 3 := hk
 generalize e2 : dr s 3 u.2 = k1 at hk ⊢
 obtain ⟨k, hkk⟩ : ∃ k : Nat, k1.1 = k := ⟨k1.1.toNat, by omega⟩
 rw [hkk]
 repeat' (first|refine ah ?_|refine a7 ?_|refine aq ?_|refine a8 ?_|refine aa ?_|refine ae a6 rfl rfl ?_)
 refine aN [2, 3, 4] (α := Nat × Option (Nat × Nat)) (fun x => [(5, aM x.1)]) (fun x => x.1 ≤ k) (fun x => [dV b s ⟨aM U, .vec none 9 [], .vec none 2 [], bI, .vec none 2 [], .vec x.2 4 ((jE s x.1 k1.2).1.map cC), .vec none 1 [], .vec none 1 [], .vec none 1 []⟩ (jE s x.1 k1.2).2, tB tb] ++ tok x.2 93 4 ((jE s x.1 k1.2).1.map cC).length) (fun x => k - x.1) (0, none) rfl ⟨rfl, trivial⟩ (Nat.zero_le _) (fun _ _ h => h) ?_
 rintro ⟨i, q⟩ hi
 dsimp only at hi ⊢
 have hal := pV s i k1.2
 have hstep : jE s (i + 1) k1.2 = (c9 (dr s 3) fun a => c9 (dr s 4) fun b => cA ((jE s i k1.2).1 ++ [(⟨i7 qM i, 0 - a * 100, 0, b * 100⟩ : dY)])) (jE s i k1.2).2 := rfl
 try dsimp only [Gr, Gq, Gp, Gj]
 repeat' (first|refine ah ?_|refine a7 ?_|refine a8 ?_|refine aa ?_|refine ae a6 rfl rfl ?_)
 refine aw rfl (fun h => ?_) (fun h => ?_)
 ·have hil : i < k := by have := Gz h; omega
  generalize jE s i k1.2 = A at hal hstep ⊢
  have halm : (A.1.map cC).length = A.1.length := Gu ..
  repeat' (first|refine ah ?_|refine aq ?_|refine au ?_|refine a8 ?_)
  refine bt 15 [(0, .v), (1, .v), (2, .v), (3, .v), (4, .v), (5, .v), (6, .v), (10, .v), (7, .e), (8, .v), (9, .v), (11, .e), (12, .v), (13, .v)] (some (14, .box _ 93)) ?_ ⟨_, rfl, rfl, fun _ _ _ => gX (eV a6 rfl) rfl⟩ rfl (by kernel_rfl) (by kernel_rfl) (by kernel_rfl) mixed (by kernel_rfl) rfl
  repeat' (first|refine aE ?_|refine aZ a6 ?_|(apply eP;refine fU ?_)|fail)
  refine xY a6 ?_
  rw [sy i (by omega)]
  repeat' (first|refine aE ?_|refine ee a6 ?_|fail)
  refine v6 a6 ?_
  rw [ve i (by omega)]
  repeat' (first|refine aE ?_|fail)
  refine fA (hs := Nat.le_of_ble_eq_true rfl) ?_
  rw [vW]
  repeat' (first|refine aE ?_|refine aZ a6 ?_|fail)
  refine qR ?_
  have ha := cf s hs A.2.a (n := 3) (by omega)
  have ha : 0 ≤ (dr s 3 A.2).1 ∧ (dr s 3 A.2).1 < 3 := ha
  unfold c9 at hstep
  generalize dr s 3 A.2 = a at ha hstep ⊢
  dsimp only at hstep
  repeat' (first|refine aE ?_|(apply eP;refine fU ?_)|fail)
  refine qR ?_
  have hc := cf s hs a.2.a (n := 4) (by omega)
  have hc : 0 ≤ (dr s 4 a.2).1 ∧ (dr s 4 a.2).1 < 4 := hc
  generalize dr s 4 a.2 = c at hc hstep ⊢
  try dsimp only [cA] at hstep
  repeat' (first|refine aE ?_|refine aZ a6 ?_|(apply eP;refine fU ?_)|fail)
  refine kj [2, 3, 4, 5, 6, 52] (fun _ => _) (fun _ => rfl) rfl fun _ => ?_
  rename_i ab
  refine aO (aK (Ej (A := [_, _]))) ?_
  repeat' (first|refine a8 ?_|refine aa ?_|(apply aH; first|refine ai 6 a6 0 rfl rfl rfl rfl rfl rfl rfl rfl ?_|refine ai 6 a6 1 rfl rfl rfl rfl rfl rfl rfl rfl ?_|refine ai 6 a6 2 rfl rfl rfl rfl rfl rfl rfl rfl ?_|refine aj a6 0 rfl rfl rfl rfl rfl rfl rfl ?_|refine aj a6 1 rfl rfl rfl rfl rfl rfl rfl ?_|refine aj a6 2 rfl rfl rfl rfl rfl rfl rfl ?_|refine aj a6 3 rfl rfl rfl rfl rfl rfl rfl ?_|fail))
  refine bt 9 [(0, .v), (1, .v), (2, .v), (3, .v), (4, .v), (5, .l), (6, .v), (7, .v), (8, .e)] none ?_ trivial rfl (by kernel_rfl) (by kernel_rfl) (by kernel_rfl) mixed (by kernel_rfl) rfl
  repeat' (first|refine aE ?_|refine aZ a6 ?_|refine ee a6 ?_|refine cI a6 0 rfl rfl rfl rfl (by first|trivial|rfl) ?_)
  refine fJ a6 _ rfl rfl rfl rfl (List.perm_append_comm (l₁ := [_, _])) (by simp; omega) (by simp; omega) (by first | trivial | rfl) fun q' => ?_
  refine br [2, 3, 4, 5, 53, 61] rfl rfl ?_
  refine aO (aK (List.perm_append_comm (l₂ := [_, _]))) ?_
  repeat' (first|refine a7 ?_|refine a8 ?_|refine aI ?_|refine aa ?_|refine ae a6 rfl rfl ?_|(apply aW; refine aV ?_)|(apply aH; first|refine ai 6 a6 0 rfl rfl rfl rfl rfl rfl rfl rfl ?_|refine ai 6 a6 1 rfl rfl rfl rfl rfl rfl rfl rfl ?_|refine ai 6 a6 2 rfl rfl rfl rfl rfl rfl rfl rfl ?_|refine aj a6 0 rfl rfl rfl rfl rfl rfl rfl ?_|refine aj a6 1 rfl rfl rfl rfl rfl rfl rfl ?_|refine aj a6 2 rfl rfl rfl rfl rfl rfl rfl ?_|refine aj a6 3 rfl rfl rfl rfl rfl rfl rfl ?_|fail))
  exact aC (i + 1, q') rfl ⟨by rw [Gw]; rfl, trivial⟩ (by dsimp only; omega) (by dsimp only; omega) (fun _ _ h => by dsimp only; rw [hstep]; dsimp only; rw [List.map_append]; exact h)
 have hil : i = k := by have := Gy h; omega
 subst hil
 clear hstep
 have hal := pV s i k1.2
 generalize e3 : jE s i k1.2 = A at hal ⊢
 repeat' (first|refine ah ?_|refine a7 ?_|refine aR ?_|refine a8 ?_|refine av ?_|refine aB ?_|refine ay ?_|refine aa ?_|refine ae a6 rfl rfl ?_)
 refine bK (bi 0 rfl fun σ vs h => cg (k := 7) (c' := .imm 4 (A.1.map cC)) h rfl fun v hv => VR.im hv) ?_
 refine bK (bY (L' := [dV b s ⟨aM U, .vec none 9 [], .vec none 2 [], bI, .vec none 2 [], .imm 4 (A.1.map cC), .vec none 1 [], .vec none 1 [], .vec none 1 []⟩ A.2, tB tb]) (List.Sublist.cons_cons _ (List.Sublist.cons_cons _ (List.nil_sublist _)))) ?_
 refine qL [2, 3, 4] ([dV b s ⟨aM U, .vec none 9 [], .vec none 2 [], bI, .vec none 2 [], .imm 4 (A.1.map cC), .imm 1 ((fm s i A.2).1.map bo), .vec none 1 [], .vec none 1 []⟩ (fm s i A.2).2, tB tb]) rfl (fun Q' K => ?_) ?_
 ·refine aw rfl (fun h => ?_) (fun h => ?_)
  ·have hi0 : ¬ i = 0 := by have := Gz h; omega
   repeat' (first|refine ah ?_|refine a7 ?_|refine ae a6 rfl rfl ?_)
   refine cD ?_
   have hn := cf s hs A.2.a (n := 4) (by omega)
   have hn : 0 ≤ (dr s 4 A.2).1 ∧ (dr s 4 A.2).1 < 4 := hn
   generalize e4 : dr s 4 A.2 = n1 at hn ⊢
   obtain ⟨n, hnn⟩ : ∃ k : Nat, n1.1 = k := ⟨n1.1.toNat, by omega⟩
   have hv : fm s i A.2 = jy s i n n1.2 := by
    unfold fm
    rw [if_neg hi0]
    unfold c9
    rw [e4]
    dsimp only
    rw [hnn, Int.toNat_natCast]
   rw [hv] at K
   rw [hnn]
   repeat' (first|refine ah ?_|refine a7 ?_|refine aq ?_|refine a8 ?_|refine aa ?_|refine ae a6 rfl rfl ?_)
   refine aN [2, 3, 4, 7] (α := Nat × Option (Nat × Nat)) (fun x => [(8, aM x.1)]) (fun x => x.1 ≤ n) (fun x => [dV b s ⟨aM U, .vec none 9 [], .vec none 2 [], bI, .vec none 2 [], .imm 4 (A.1.map cC), .vec x.2 1 ((jy s i x.1 n1.2).1.map bo), .vec none 1 [], .vec none 1 []⟩ (jy s i x.1 n1.2).2, tB tb] ++ tok x.2 98 1 ((jy s i x.1 n1.2).1.map bo).length) (fun x => n - x.1) (0, none) rfl ⟨rfl, trivial⟩ (Nat.zero_le _) (fun _ _ h => h) ?_
   rintro ⟨j, q⟩ hj
   dsimp only at hj ⊢
   have hrl := qp s i j n1.2
   have hstep : jy s i (j + 1) n1.2 = ((jy s i j n1.2).1 ++ [(gG s i (jy s i j n1.2).2).1], (gG s i (jy s i j n1.2).2).2) := rfl
   try dsimp only [Gr, Gq, Gp, Gj]
   repeat' (first|refine ah ?_|refine a7 ?_|refine a8 ?_|refine aa ?_|refine ae a6 rfl rfl ?_)
   refine aw rfl (fun h => ?_) (fun h => ?_)
   ·have hjn : j < n := by have := Gz h; omega
    generalize jy s i j n1.2 = Rg at hrl hstep ⊢
    have hrlm : (Rg.1.map bo).length = Rg.1.length := Gu ..
    repeat' (first|refine ah ?_|refine a7 ?_|refine aq ?_|refine au ?_|refine a8 ?_|refine aa ?_|refine ae a6 rfl rfl ?_|refine b5 a6 fun _=>?_|fail)
    rename_i rb
    refine bK (bi 0 (cs' := [.vec none 3 []]) rfl fun σ vs h => cg (k := 0) h rfl fun v hv => co 3 hv) ?_
    refine bK (aK (List.perm_middle (l₁ := [_, _])).symm) ?_
    refine aN [2, 3, 4, 7, 8, 9] (α := Nat × Option (Nat × Nat)) (fun x => [(10, aM x.1)]) (fun x => x.1 ≤ i) (fun x => [dV b s ⟨aM U, .vec none 9 [], .vec none 2 [], bI, .vec none 2 [], .imm 4 (A.1.map cC), .vec q 1 (Rg.1.map bo), .vec none 1 [], .vec none 1 []⟩ (gG s x.1 Rg.2).2, tB tb, (rb, .box [.vec x.2 3 ((gG s x.1 Rg.2).1.map gH)] 98)] ++ (tok x.2 95 3 ((gG s x.1 Rg.2).1.map gH).length ++ tok q 98 1 (Rg.1.map bo).length)) (fun x => i - x.1) (0, none) rfl ⟨rfl, trivial⟩ (Nat.zero_le _) (fun _ _ h => h) ?_
    rintro ⟨a, qt⟩ ha
    dsimp only at ha ⊢
    have htl := uL s a Rg.2
    have hstt : gG s (a + 1) Rg.2 = (c9 (dr s 5) fun z => cA ((gG s a Rg.2).1 ++ [jq.getD z.toNat ⟨0, 0, 0⟩])) (gG s a Rg.2).2 := rfl
    try dsimp only [Gr, Gq, Gp, Gj]
    repeat' (first|refine ah ?_|refine a7 ?_|refine a8 ?_|refine aa ?_|refine ae a6 rfl rfl ?_)
    refine aw rfl (fun h => ?_) (fun h => ?_)
    ·have hai : a < i := by have := Gz h; omega
     generalize gG s a Rg.2 = Tn at htl hstt ⊢
     have htlm : (Tn.1.map gH).length = Tn.1.length := Gu ..
     repeat' (first|refine ah ?_|refine aq ?_|refine au ?_|refine a8 ?_)
     refine dg [.cell (rb, 0, .vec qt 3 (Tn.1.map gH))] 13 [(0, .v), (1, .k), (2, .v), (3, .v), (4, .v), (5, .v), (6, .v), (7, .v), (8, .v), (9, .f), (10, .v), (11, .v), (12, .v)] none ?_ trivial rfl (by kernel_rfl) (by kernel_rfl) (by kernel_rfl) mixed (by kernel_rfl) rfl
     repeat' (first|refine aE ?_|refine aZ a6 ?_|fail)
     refine eg a6 0 rfl rfl rfl (bM 2 rfl rfl bW) (by first | trivial | rfl) ?_
     repeat' (first|refine aE ?_|refine aZ a6 ?_|refine ee a6 ?_|fail)
     refine eD (bM 2 rfl rfl bW) ?_
     have hz := cf s hs Tn.2.a (n := 5) (by omega)
     have hz : 0 ≤ (dr s 5 Tn.2).1 ∧ (dr s 5 Tn.2).1 < 5 := hz
     unfold c9 at hstt
     generalize dr s 5 Tn.2 = z at hz hstt ⊢
     dsimp only [cA] at hstt
     have hzt : (jq.map gH)[z.1.toNat]? = some (gH (jq.getD z.1.toNat ⟨0, 0, 0⟩)) := by
      rw [List.getElem?_map, km (l := jq) (i := z.1.toNat) (by simp only [jq, List.length_cons, List.length_nil]; omega) ⟨0, 0, 0⟩]
      rfl
     generalize jq.getD z.1.toNat ⟨0, 0, 0⟩ = tn at hzt hstt
     repeat' (first|refine aE ?_|refine aZ a6 ?_|(apply bP;refine c8 a6 ?_)|refine ee a6 ?_|fail)
     refine br [2, 3, 4, 7, 8, 9, 10, 80, 91] rfl rfl ?_
     repeat' (first|fail)
     refine bF a6 _ rfl rfl rfl rfl (eG (A := [_, _, _])) (by simp; omega) (by simp; omega) rfl fun q' => ?_
     refine aO (aK (eG (A := [_, _, _])).symm) ?_
     repeat' (first|refine a7 ?_|refine a8 ?_|refine aI ?_|refine aa ?_|refine ae a6 rfl rfl ?_|(apply aW; refine aV ?_)|(apply aH; first|refine ai 6 a6 0 rfl rfl rfl rfl rfl rfl rfl rfl ?_|refine ai 6 a6 1 rfl rfl rfl rfl rfl rfl rfl rfl ?_|refine ai 6 a6 2 rfl rfl rfl rfl rfl rfl rfl rfl ?_|refine aj a6 0 rfl rfl rfl rfl rfl rfl rfl ?_|refine aj a6 1 rfl rfl rfl rfl rfl rfl rfl ?_|refine aj a6 2 rfl rfl rfl rfl rfl rfl rfl ?_|refine aj a6 3 rfl rfl rfl rfl rfl rfl rfl ?_|fail))
     exact aC (a + 1, q') rfl ⟨by rw [Gw]; rfl, trivial⟩ (by dsimp only; omega) (by dsimp only; omega) (fun _ _ h => by dsimp only; rw [hstt]; dsimp only; rw [List.map_append]; exact h)
    have hai : a = i := by have := Gy h; omega
    subst hai
    clear hstt htl
    generalize gG s a Rg.2 = Tn at hstep ⊢
    repeat' (first|refine aR ?_|refine a8 ?_|refine av ?_|refine aB ?_|refine ay ?_)
    refine bK (bi 2 (cs' := [.imm 3 (Tn.1.map gH)]) rfl fun σ vs h => cg (k := 0) h rfl fun v hv => VR.im hv) ?_
    refine bK (bY (L' := [dV b s ⟨aM U, .vec none 9 [], .vec none 2 [], bI, .vec none 2 [], .imm 4 (A.1.map cC), .vec q 1 (Rg.1.map bo), .vec none 1 [], .vec none 1 []⟩ Tn.2, tB tb, (rb, .box (bo Tn.1) 98)] ++ tok q 98 1 (Rg.1.map bo).length) (List.Sublist.cons_cons _ (List.Sublist.cons_cons _ (List.Sublist.cons_cons _ (List.sublist_append_right _ _))))) ?_
    refine bt 9 [(0, .v), (1, .v), (2, .v), (3, .v), (4, .v), (5, .l), (6, .l), (7, .v), (8, .e)] none ?_ trivial rfl (by kernel_rfl) (by kernel_rfl) (by kernel_rfl) mixed (by kernel_rfl) rfl
    repeat' (first|refine aE ?_|refine aZ a6 ?_|refine cI a6 0 rfl rfl rfl rfl (by first|trivial|rfl) ?_)
    refine nL a6 2 rfl rfl rfl rfl (by first | trivial | rfl) ?_
    repeat' (first|refine aE ?_|refine ee a6 ?_|fail)
    refine fJ a6 _ rfl rfl rfl rfl (List.perm_append_comm (l₁ := [_, _, _])) (by simp; omega) (by simp; omega) (by first | trivial | rfl) fun q' => ?_
    refine br [2, 3, 4, 7, 8, 94, 102] rfl rfl ?_
    refine aO (aK (List.perm_append_comm (l₂ := [_, _, _]))) ?_
    repeat' (first|refine a7 ?_|refine a8 ?_|refine aI ?_|refine aa ?_|refine ae a6 rfl rfl ?_|(apply aW; refine aV ?_)|(apply aH; first|refine ai 6 a6 0 rfl rfl rfl rfl rfl rfl rfl rfl ?_|refine ai 6 a6 1 rfl rfl rfl rfl rfl rfl rfl rfl ?_|refine ai 6 a6 2 rfl rfl rfl rfl rfl rfl rfl rfl ?_|refine aj a6 0 rfl rfl rfl rfl rfl rfl rfl ?_|refine aj a6 1 rfl rfl rfl rfl rfl rfl rfl ?_|refine aj a6 2 rfl rfl rfl rfl rfl rfl rfl ?_|refine aj a6 3 rfl rfl rfl rfl rfl rfl rfl ?_|fail))
    exact aC (j + 1, q') rfl ⟨by rw [Gw]; rfl, trivial⟩ (by dsimp only; omega) (by dsimp only; omega) (fun _ _ h => by dsimp only; rw [hstep]; dsimp only; rw [List.map_append]; exact h.sublist (List.Sublist.cons_cons _ (List.Sublist.cons_cons _ (List.sublist_cons_self ..))))
   have hjn : j = n := by have := Gy h; omega
   subst hjn
   generalize jy s i j n1.2 = Rg at K ⊢
   repeat' (first|refine aR ?_|refine av ?_|refine aB ?_|refine ay ?_)
   refine ba (bi 0 rfl fun σ vs h => cg (k := 8) (c' := .imm 1 (Rg.1.map bo)) h rfl fun v hv => VR.im hv) ?_
   refine ba (bY (L' := [dV b s ⟨aM U, .vec none 9 [], .vec none 2 [], bI, .vec none 2 [], .imm 4 (A.1.map cC), .imm 1 (Rg.1.map bo), .vec none 1 [], .vec none 1 []⟩ Rg.2, tB tb]) (List.Sublist.cons_cons _ (List.Sublist.cons_cons _ (List.nil_sublist _)))) ?_
   exact K _ rfl
  ·have hi0 : i = 0 := by have := Gy h; omega
   have hv : fm s i A.2 = ([], A.2) := by
    unfold fm
    rw [if_pos hi0]
    rfl
   rw [hv] at K
   repeat' (first|refine au ?_)
   refine ba (bi 0 rfl fun σ vs h => cg (k := 8) (c' := .imm 1 []) h rfl fun v hv => VR.im hv) ?_
   exact K _ rfl
 generalize e4 : fm s i A.2 = rg
 repeat' (first|refine ah ?_|refine a7 ?_|refine ae a6 rfl rfl ?_)
 refine cD ?_
 have hk2 := cf s hs rg.2.a (n := 3) (by omega)
 have hk2 : 0 ≤ (dr s 3 rg.2).1 ∧ (dr s 3 rg.2).1 < 3 := hk2
 generalize e5 : dr s 3 rg.2 = k2 at hk2 ⊢
 obtain ⟨k', hkk2⟩ : ∃ k : Nat, k2.1 = k := ⟨k2.1.toNat, by omega⟩
 rw [hkk2]
 repeat' (first|refine ah ?_|refine a7 ?_|refine aq ?_|refine a8 ?_|refine aa ?_|refine ae a6 rfl rfl ?_)
 refine aN [2, 3, 4] (α := Nat × Option (Nat × Nat)) (fun x => [(11, aM x.1)]) (fun x => x.1 ≤ k') (fun x => [dV b s ⟨aM U, .vec none 9 [], .vec none 2 [], bI, .vec none 2 [], .imm 4 (A.1.map cC), .imm 1 (rg.1.map bo), .vec x.2 1 ((i4 s x.1 k2.2).1.map cQ), .vec none 1 []⟩ (i4 s x.1 k2.2).2, tB tb] ++ tok x.2 61 1 ((i4 s x.1 k2.2).1.map cQ).length) (fun x => k' - x.1) (0, none) rfl ⟨rfl, trivial⟩ (Nat.zero_le _) (fun _ _ h => h) ?_
 rintro ⟨j, q2⟩ hj
 dsimp only at hj ⊢
 have hfl := u4 s j k2.2
 have hstep : i4 s (j + 1) k2.2 = (c9 (gu 0) fun _ => c9 (lL s 6 j 4) fun h => cA ((i4 s j k2.2).1 ++ [h])) (i4 s j k2.2).2 := rfl
 try dsimp only [Gr, Gq, Gp, Gj]
 repeat' (first|refine ah ?_|refine a7 ?_|refine a8 ?_|refine aa ?_|refine ae a6 rfl rfl ?_)
 refine aw rfl (fun h => ?_) (fun h => ?_)
 ·have hjk : j < k' := by have := Gz h; omega
  generalize i4 s j k2.2 = Fu at hfl hstep ⊢
  have hflm : (Fu.1.map cQ).length = Fu.1.length := Gu ..
  unfold c9 at hstep
  repeat' (first|refine ah ?_|refine a7 ?_|refine aq ?_|refine au ?_|refine a8 ?_|refine aa ?_|refine ae a6 rfl rfl ?_|(apply aH; first|refine ai 6 a6 0 rfl rfl rfl rfl rfl rfl rfl rfl ?_|refine ai 6 a6 1 rfl rfl rfl rfl rfl rfl rfl rfl ?_|refine ai 6 a6 2 rfl rfl rfl rfl rfl rfl rfl rfl ?_|refine aj a6 0 rfl rfl rfl rfl rfl rfl rfl ?_|refine aj a6 1 rfl rfl rfl rfl rfl rfl rfl ?_|refine aj a6 2 rfl rfl rfl rfl rfl rfl rfl ?_|refine aj a6 3 rfl rfl rfl rfl rfl rfl rfl ?_|fail))
  refine bK (aK (L' := [dV b s ⟨aM U, .vec none 9 [], .vec none 2 [], bI, .vec none 2 [], .imm 4 (A.1.map cC), .imm 1 (rg.1.map bo), .vec q2 1 (Fu.1.map cQ), .vec none 1 []⟩ (gu 0 Fu.2).2, tB tb] ++ tok q2 61 1 (Fu.1.map cQ).length) (Gm _)) ?_
  generalize (gu 0 Fu.2).2 = w at hstep ⊢
  dsimp only at hstep
  refine dg [.cell (b, 9, .vec q2 1 (Fu.1.map cQ))] 11 [(0, .v), (1, .v), (2, .v), (3, .v), (4, .v), (5, .k), (6, .v), (7, .v), (8, .f), (9, .v), (10, .e)] none ?_ trivial rfl (by kernel_rfl) (by kernel_rfl) (by kernel_rfl) mixed (by kernel_rfl) rfl
  repeat' (first|refine aE ?_|refine aZ a6 ?_|fail)
  refine eg a6 0 rfl rfl rfl (bM 0 rfl rfl bW) (by first | trivial | rfl) ?_
  repeat' (first|refine aE ?_|refine aZ a6 ?_|fail)
  refine pY (qj s hs _ (n := 6) (fn := (j : Int)) (most := 4) (by omega) (by omega) (by omega)) (bM 0 rfl rfl bW) ?_
  generalize lL s 6 j 4 w = hi at hstep ⊢
  try dsimp only [cA] at hstep
  unfold iJ
  repeat' (first|refine aE ?_|refine ee a6 ?_|fail)
  refine fJ a6 _ rfl rfl rfl rfl (List.perm_append_comm (l₁ := [_, _])) (by simp; omega) (by simp; omega) (by first | trivial | rfl) fun q' => ?_
  refine br [2, 3, 4, 11, 116, 126] rfl rfl ?_
  refine aO (aK (List.perm_append_comm (l₂ := [_, _]))) ?_
  repeat' (first|refine a7 ?_|refine a8 ?_|refine aI ?_|refine aa ?_|refine ae a6 rfl rfl ?_|(apply aW; refine aV ?_)|(apply aH; first|refine ai 6 a6 0 rfl rfl rfl rfl rfl rfl rfl rfl ?_|refine ai 6 a6 1 rfl rfl rfl rfl rfl rfl rfl rfl ?_|refine ai 6 a6 2 rfl rfl rfl rfl rfl rfl rfl rfl ?_|refine aj a6 0 rfl rfl rfl rfl rfl rfl rfl ?_|refine aj a6 1 rfl rfl rfl rfl rfl rfl rfl ?_|refine aj a6 2 rfl rfl rfl rfl rfl rfl rfl ?_|refine aj a6 3 rfl rfl rfl rfl rfl rfl rfl ?_|fail))
  exact aC (j + 1, q') rfl ⟨by rw [Gw]; rfl, trivial⟩ (by dsimp only; omega) (by dsimp only; omega) (fun _ _ h => by dsimp only; rw [hstep]; dsimp only; rw [List.map_append]; exact h)
 have hjk : j = k' := by have := Gy h; omega
 subst hjk
 clear hstep
 generalize e6 : i4 s j k2.2 = fu at hfl ⊢
 repeat' (first|refine ah ?_|refine a7 ?_|refine aR ?_|refine a8 ?_|refine av ?_|refine aB ?_|refine ay ?_|refine ae a6 rfl rfl ?_)
 refine aO (bi 0 rfl fun σ vs h => cg (k := 9) (c' := .imm 1 (fu.1.map cQ)) h rfl fun v hv => VR.im hv) ?_
 refine aO (bY (L' := [dV b s ⟨aM U, .vec none 9 [], .vec none 2 [], bI, .vec none 2 [], .imm 4 (A.1.map cC), .imm 1 (rg.1.map bo), .imm 1 (fu.1.map cQ), .vec none 1 []⟩ fu.2, tB tb]) (List.Sublist.cons_cons _ (List.Sublist.cons_cons _ (List.nil_sublist _)))) ?_
 refine cD ?_
 have hk3 := cf s hs fu.2.a (n := 4) (by omega)
 have hk3 : 0 ≤ (dr s 4 fu.2).1 ∧ (dr s 4 fu.2).1 < 4 := hk3
 generalize e7 : dr s 4 fu.2 = k3 at hk3 ⊢
 obtain ⟨k'', hkk3⟩ : ∃ k : Nat, k3.1 = k := ⟨k3.1.toNat, by omega⟩
 rw [hkk3]
 repeat' (first|refine ah ?_|refine a7 ?_|refine aq ?_|refine a8 ?_|refine aa ?_|refine ae a6 rfl rfl ?_)
 refine aN [2, 3, 4] (α := Nat × Option (Nat × Nat)) (fun x => [(12, aM x.1)]) (fun x => x.1 ≤ k'') (fun x => [dV b s ⟨aM U, .vec none 9 [], .vec none 2 [], bI, .vec none 2 [], .imm 4 (A.1.map cC), .imm 1 (rg.1.map bo), .imm 1 (fu.1.map cQ), .vec x.2 1 (aU (oo s x.1 k3.2).1)⟩ (oo s x.1 k3.2).2, tB tb] ++ tok x.2 3 1 (aU (oo s x.1 k3.2).1).length) (fun x => k'' - x.1) (0, none) rfl ⟨rfl, trivial⟩ (Nat.zero_le _) (fun _ _ h => h) ?_
 rintro ⟨jc, q3⟩ hjc
 dsimp only at hjc ⊢
 have hcl := xW s jc k3.2
 have hstep : oo s (jc + 1) k3.2 = (c9 (dr s 500) fun z => cA ((oo s jc k3.2).1 ++ [z - 100])) (oo s jc k3.2).2 := rfl
 try dsimp only [Gr, Gq, Gp, Gj]
 repeat' (first|refine ah ?_|refine a7 ?_|refine a8 ?_|refine aa ?_|refine ae a6 rfl rfl ?_)
 refine aw rfl (fun h => ?_) (fun h => ?_)
 ·have hjk : jc < k'' := by have := Gz h; omega
  generalize oo s jc k3.2 = C at hcl hstep ⊢
  have hclm : (aU C.1).length = C.1.length := aQ _
  unfold c9 at hstep
  repeat' (first|refine ah ?_|refine aq ?_|refine au ?_|refine a8 ?_)
  refine dg [.cell (b, 10, .vec q3 1 (aU C.1))] 11 [(0, .v), (1, .v), (2, .v), (3, .v), (4, .v), (5, .k), (6, .v), (7, .f), (8, .v), (9, .v), (10, .e)] none ?_ trivial rfl (by kernel_rfl) (by kernel_rfl) (by kernel_rfl) mixed (by kernel_rfl) rfl
  repeat' (first|refine aE ?_|refine aZ a6 ?_|fail)
  refine eg a6 0 rfl rfl rfl (bM 0 rfl rfl bW) (by first | trivial | rfl) ?_
  repeat' (first|refine aE ?_|refine aZ a6 ?_|fail)
  refine eD (bM 0 rfl rfl bW) ?_
  have hz := cf s hs C.2.a (n := 500) (by omega)
  have hz : 0 ≤ (dr s 500 C.2).1 ∧ (dr s 500 C.2).1 < 500 := hz
  generalize dr s 500 C.2 = z at hz hstep ⊢
  try dsimp only [cA] at hstep
  repeat' (first|refine aE ?_|(apply eP;refine fU ?_)|refine ee a6 ?_|fail)
  refine fJ a6 _ rfl rfl rfl rfl (List.perm_append_comm (l₁ := [_, _])) (by simp [aQ]; omega) (by simp [aQ]; omega) (by first | trivial | rfl) fun q' => ?_
  refine br [2, 3, 4, 12, 137, 147] rfl rfl ?_
  refine aO (aK (List.perm_append_comm (l₂ := [_, _]))) ?_
  repeat' (first|refine a7 ?_|refine a8 ?_|refine aI ?_|refine aa ?_|refine ae a6 rfl rfl ?_|(apply aW; refine aV ?_)|(apply aH; first|refine ai 6 a6 0 rfl rfl rfl rfl rfl rfl rfl rfl ?_|refine ai 6 a6 1 rfl rfl rfl rfl rfl rfl rfl rfl ?_|refine ai 6 a6 2 rfl rfl rfl rfl rfl rfl rfl rfl ?_|refine aj a6 0 rfl rfl rfl rfl rfl rfl rfl ?_|refine aj a6 1 rfl rfl rfl rfl rfl rfl rfl ?_|refine aj a6 2 rfl rfl rfl rfl rfl rfl rfl ?_|refine aj a6 3 rfl rfl rfl rfl rfl rfl rfl ?_|fail))
  exact aC (jc + 1, q') rfl ⟨by rw [Gw]; rfl, trivial⟩ (by dsimp only; omega) (by dsimp only; omega) (fun _ _ h => by dsimp only; rw [hstep]; dsimp only; rw [show aU (C.1 ++ [z.1 - 100]) = aU C.1 ++ [[aM (z.1 - 100)]] from List.map_append ..]; exact h)
 have hjk : jc = k'' := by have := Gy h; omega
 subst hjk
 clear hstep
 generalize e8 : oo s jc k3.2 = cv at hcl ⊢
 repeat' (first|refine ah ?_|refine a7 ?_|refine aR ?_|refine a8 ?_|refine av ?_|refine aB ?_|refine ay ?_|refine ae a6 rfl rfl ?_)
 refine aO (bi 0 rfl fun σ vs h => cg (k := 10) (c' := .imm 1 (aU cv.1)) h rfl fun v hv => VR.im hv) ?_
 refine aO (bY (L' := [dV b s ⟨aM U, .vec none 9 [], .vec none 2 [], bI, .vec none 2 [], .imm 4 (A.1.map cC), .imm 1 (rg.1.map bo), .imm 1 (fu.1.map cQ), .imm 1 (aU cv.1)⟩ cv.2, tB tb]) (List.Sublist.cons_cons _ (List.Sublist.cons_cons _ (List.nil_sublist _)))) ?_
 refine cD ?_
 have hk4 := cf s hs cv.2.a (n := 9) (by omega)
 have hk4 : 0 ≤ (dr s 9 cv.2).1 ∧ (dr s 9 cv.2).1 < 9 := hk4
 generalize e9 : dr s 9 cv.2 = k4 at hk4 ⊢
 obtain ⟨n, hkk4⟩ : ∃ k : Nat, 2 + k4.1 = k := ⟨(2 + k4.1).toNat, by omega⟩
 repeat' (first|refine ah ?_|refine a7 ?_|refine aq ?_|refine a8 ?_|refine aa ?_|refine ae a6 rfl rfl ?_|(apply aW; refine aV ?_)|fail)
 rw [hkk4]
 have hrgl : (rg.1.map bo).length = rg.1.length := Gu ..
 have hful : (fu.1.map cQ).length = fu.1.length := Gu ..
 have hrg3 : rg.1.length ≤ 1000 := by
  have hR : bS (fm s A.1.length) fun l => l.length ≤ 3 := bS.ite (fun _ => bS.ret (Nat.zero_le _)) fun _ => (cN s (by omega)).bnd fun n hn m => by rw [qp]; omega
  have := hR A.2
  rw [hal] at this
  rw [← e4]
  omega
 refine aN [2, 3, 4] (α := Nat × Option (Nat × Nat)) (fun x => [(13, aM x.1)]) (fun x => x.1 ≤ n) (fun x => [dV b s ⟨aM U, .vec x.2 9 ((fL s rg.1.length fu.1.length x.1 k4.2).1.map bb), .vec none 2 [], bI, .vec none 2 [], .imm 4 (A.1.map cC), .imm 1 (rg.1.map bo), .imm 1 (fu.1.map cQ), .imm 1 (aU cv.1)⟩ (fL s rg.1.length fu.1.length x.1 k4.2).2, tB tb] ++ tok x.2 63 9 ((fL s rg.1.length fu.1.length x.1 k4.2).1.map bb).length) (fun x => n - x.1) (0, none) rfl ⟨rfl, trivial⟩ (Nat.zero_le _) (fun _ _ h => h) ?_
 rintro ⟨jg, q4⟩ hjg
 dsimp only at hjg ⊢
 have hgl := so s rg.1.length fu.1.length jg k4.2
 have hstep : fL s rg.1.length fu.1.length (jg + 1) k4.2 = (c9 (jj s rg.1.length fu.1.length jg) fun g => cA ((fL s rg.1.length fu.1.length jg k4.2).1 ++ [g])) (fL s rg.1.length fu.1.length jg k4.2).2 := rfl
 try dsimp only [Gr, Gq, Gp, Gj]
 repeat' (first|refine ah ?_|refine a7 ?_|refine a8 ?_|refine aa ?_|refine ae a6 rfl rfl ?_)
 refine aw rfl (fun h => ?_) (fun h => ?_)
 ·have hjn : jg < n := by have := Gz h; omega
  generalize fL s rg.1.length fu.1.length jg k4.2 = Gs at hgl hstep ⊢
  have hglm : (Gs.1.map bb).length = Gs.1.length := Gu ..
  unfold c9 at hstep
  repeat' (first|refine ah ?_|refine a7 ?_|refine aq ?_|refine au ?_|refine a8 ?_|refine ae a6 rfl rfl ?_)
  refine b7 ([dV b s ⟨aM U, .vec q4 9 (Gs.1.map bb), .vec none 2 [], bI, .vec none 2 [], .imm 4 (A.1.map cC), .imm 1 (rg.1.map bo), .imm 1 (fu.1.map cQ), .imm 1 (aU cv.1)⟩ Gs.2] ++ (tok q4 63 9 (Gs.1.map bb).length ++ [])) [tB tb] (yi s hs ⟨aM U, .vec q4 9 (Gs.1.map bb), .vec none 2 [], bI, .vec none 2 [], .imm 4 (A.1.map cC), .imm 1 (rg.1.map bo), .imm 1 (fu.1.map cQ), .imm 1 (aU cv.1)⟩ rfl rfl rfl rg.1.length fu.1.length jg hrgl hful (by omega) (by omega) (by omega) (by omega) b Gs.2) rfl rfl z7 rfl fun c L1 ⟨q', hL1⟩ => ?_
  subst hL1
  refine aO (aK z7.symm) ?_
  generalize jj s rg.1.length fu.1.length jg Gs.2 = g at hstep ⊢
  try dsimp only [cA] at hstep
  repeat' (first|refine a7 ?_|refine a8 ?_|refine aI ?_|refine aa ?_|refine ae a6 rfl rfl ?_|(apply aW; refine aV ?_)|fail)
  exact aC (jg + 1, q') rfl ⟨by rw [Gw]; rfl, trivial⟩ (by dsimp only; omega) (by dsimp only; omega) (fun _ _ h => by dsimp only; rw [hstep]; dsimp only; rw [List.map_append]; exact h)
 have hjn : jg = n := by have := Gy h; omega
 subst hjn
 clear hstep
 generalize e10 : fL s rg.1.length fu.1.length jg k4.2 = gl at hgl ⊢
 have hglm : (gl.1.map bb).length = gl.1.length := Gu ..
 repeat' (first|refine ah ?_|refine a7 ?_|refine aR ?_|refine a8 ?_|refine av ?_|refine aB ?_|refine ay ?_)
 refine bh (hc := ⟨x7⟩) ?_
 refine aO (bY (L' := [dV b s ⟨aM U, .vec q4 9 (gl.1.map bb), .vec none 2 [], bI, .vec none 2 [], .imm 4 (A.1.map cC), .imm 1 (rg.1.map bo), .imm 1 (fu.1.map cQ), .imm 1 (aU cv.1)⟩ gl.2, tB tb]) (List.Sublist.cons_cons _ (List.Sublist.cons_cons _ (List.nil_sublist _)))) ?_
 repeat' (first|refine ah ?_|refine a7 ?_|refine aq ?_|refine a8 ?_|refine aa ?_|refine ae a6 rfl rfl ?_)
 have hr16 : (aU eR).length = 16 := rfl
 refine aN [2, 3, 14] (α := Nat × Option (Nat × Nat)) (fun x => [(15, aM x.1)]) (fun x => x.1 ≤ 16) (fun x => [dV b s ⟨aM U, .vec q4 9 (gl.1.map bb), .vec x.2 2 ((gC s gl.1.length x.1 gl.2).1.map ci), bI, .vec none 2 [], .imm 4 (A.1.map cC), .imm 1 (rg.1.map bo), .imm 1 (fu.1.map cQ), .imm 1 (aU cv.1)⟩ (gC s gl.1.length x.1 gl.2).2, tB tb] ++ tok x.2 68 2 ((gC s gl.1.length x.1 gl.2).1.map ci).length) (fun x => 16 - x.1) (0, none) rfl ⟨rfl, trivial⟩ (Nat.zero_le _) (fun _ _ h => h) ?_
 rintro ⟨jr, q5⟩ hjr
 dsimp only at hjr ⊢
 have hcl2 := tL s gl.1.length jr gl.2
 have hstep : gC s gl.1.length (jr + 1) gl.2 = (c9 (dr s 4) fun z => if 0 < z then c9 (dr s gl.1.length) fun g => cA ((gC s gl.1.length jr gl.2).1 ++ [(⟨eR.getD jr 0, g⟩ : dO)]) else cA (gC s gl.1.length jr gl.2).1) (gC s gl.1.length jr gl.2).2 := rfl
 try dsimp only [Gr, Gq, Gp, Gj]
 repeat' (first|refine ah ?_|refine a7 ?_|refine a8 ?_|refine aa ?_|refine ae a6 rfl rfl ?_)
 refine aw rfl (fun h => ?_) (fun h => ?_)
 ·have hj16 : jr < 16 := by have := Gz h; rw [hr16] at this; omega
  have hrn : (aU eR)[jr]? = some [aM (eR.getD jr 0)] := bN (km hj16 0)
  generalize eR.getD jr 0 = rn at hrn hstep
  generalize gC s gl.1.length jr gl.2 = Ch at hcl2 hstep ⊢
  have hchm : (Ch.1.map ci).length = Ch.1.length := Gu ..
  unfold c9 at hstep
  repeat' (first|refine ah ?_|refine a7 ?_|refine aq ?_|refine au ?_|refine a8 ?_|refine ae a6 rfl rfl ?_)
  refine cD ?_
  generalize dr s 4 Ch.2 = z at hstep ⊢
  dsimp only at hstep
  repeat' (first|refine a8 ?_|refine aa ?_|refine ae a6 rfl rfl ?_)
  refine aw rfl (fun hz => ?_) (fun hz => ?_)
  ·rw [if_pos (Gz hz)] at hstep
   repeat' (first|fail)
   refine dg [.cell (b, 4, .vec q5 2 (Ch.1.map ci))] 21 [(0, .v), (1, .v), (2, .v), (3, .v), (4, .v), (5, .k), (6, .v), (7, .v), (8, .v), (9, .v), (10, .v), (11, .v), (12, .v), (13, .v), (14, .v), (15, .l), (16, .v), (17, .f), (18, .v), (19, .v), (20, .e)] none ?_ trivial rfl (by kernel_rfl) (by kernel_rfl) (by kernel_rfl) mixed (by kernel_rfl) rfl
   repeat' (first|refine aE ?_|refine aZ a6 ?_|fail)
   refine eg a6 0 rfl rfl rfl (bM 0 rfl rfl bW) (by first | trivial | rfl) ?_
   repeat' (first|refine aE ?_|refine aZ a6 ?_|(apply bP;refine c8 a6 ?_)|refine cI a6 0 rfl rfl rfl rfl (by first|trivial|rfl) ?_)
   rw [hglm]
   refine eD (bM 0 rfl rfl bW) ?_
   generalize dr s gl.1.length z.2 = g at hstep ⊢
   try dsimp only [cA] at hstep
   repeat' (first|refine aE ?_|refine aZ a6 ?_|refine ee a6 ?_|fail)
   refine fJ a6 _ rfl rfl rfl rfl (List.perm_append_comm (l₁ := [_, _])) (by simp; omega) (by simp; omega) (by first | trivial | rfl) fun q' => ?_
   refine br [2, 3, 14, 15, 172, 192] rfl rfl ?_
   refine aO (aK (List.perm_append_comm (l₂ := [_, _]))) ?_
   repeat' (first|refine a7 ?_|refine a8 ?_|refine aI ?_|refine aa ?_|refine ae a6 rfl rfl ?_|(apply aW; refine aV ?_)|(apply aH; first|refine ai 6 a6 0 rfl rfl rfl rfl rfl rfl rfl rfl ?_|refine ai 6 a6 1 rfl rfl rfl rfl rfl rfl rfl rfl ?_|refine ai 6 a6 2 rfl rfl rfl rfl rfl rfl rfl rfl ?_|refine aj a6 0 rfl rfl rfl rfl rfl rfl rfl ?_|refine aj a6 1 rfl rfl rfl rfl rfl rfl rfl ?_|refine aj a6 2 rfl rfl rfl rfl rfl rfl rfl ?_|refine aj a6 3 rfl rfl rfl rfl rfl rfl rfl ?_|fail))
   exact aC (jr + 1, q') rfl ⟨by rw [Gw]; rfl, trivial⟩ (by dsimp only; omega) (by dsimp only; omega) (fun _ _ h => by dsimp only; rw [hstep]; dsimp only; rw [List.map_append]; exact h)
  ·rw [if_neg (Gy hz)] at hstep
   try dsimp only [cA] at hstep
   repeat' (first|refine a7 ?_|refine au ?_|refine a8 ?_|refine aI ?_|refine aa ?_|refine ae a6 rfl rfl ?_|(apply aW; refine aV ?_)|fail)
   exact aC (jr + 1, q5) rfl ⟨by rw [Gw]; rfl, trivial⟩ (by dsimp only; omega) (by dsimp only; omega) (fun _ _ h => by dsimp only; rw [hstep]; exact h)
 have hj16 : jr = 16 := by have := Gy h; rw [hr16] at this; omega
 subst hj16
 clear hstep
 generalize e11 : gC s gl.1.length 16 gl.2 = ch at hcl2 ⊢
 repeat' (first|refine ah ?_|refine a7 ?_|refine aR ?_|refine a8 ?_|refine av ?_|refine aB ?_|refine ay ?_|refine ae a6 rfl rfl ?_)
 refine aO (bi 0 rfl fun σ vs h => cg (k := 4) (c' := .imm 2 (ch.1.map ci)) h rfl fun v hv => VR.im hv) ?_
 refine aO (bY (L' := [dV b s ⟨aM U, .vec q4 9 (gl.1.map bb), .imm 2 (ch.1.map ci), bI, .vec none 2 [], .imm 4 (A.1.map cC), .imm 1 (rg.1.map bo), .imm 1 (fu.1.map cQ), .imm 1 (aU cv.1)⟩ ch.2] ++ [tB tb]) (List.Sublist.cons_cons _ (List.Sublist.cons_cons _ (List.nil_sublist _)))) ?_
 refine b7 [dV b s ⟨aM U, .vec q4 9 (gl.1.map bb), .imm 2 (ch.1.map ci), bI, .vec none 2 [], .imm 4 (A.1.map cC), .imm 1 (rg.1.map bo), .imm 1 (fu.1.map cQ), .imm 1 (aU cv.1)⟩ ch.2] [tB tb] (uk s hs ⟨aM U, .vec q4 9 (gl.1.map bb), .imm 2 (ch.1.map ci), bI, .vec none 2 [], .imm 4 (A.1.map cC), .imm 1 (rg.1.map bo), .imm 1 (fu.1.map cQ), .imm 1 (aU cv.1)⟩ rfl rfl gl.1.length hglm (by omega) b ch.2) rfl rfl (Gm _) rfl fun c L1 hL1 => ?_
 subst hL1
 have hlk6 := (nk s (n := gl.1.length) (by omega) ch.2).len
 generalize e12 : i8 s gl.1.length ch.2 = lk at hlk6 ⊢
 have hlkm : (lk.1.map bn).length = lk.1.length := Gu ..
 repeat' (first|refine ah ?_|refine a7 ?_|refine a8 ?_|refine aa ?_)
 refine bh (hc := ⟨sI⟩) ?_
 refine aO (aK (L' := [dV b s ⟨aM U, .vec q4 9 (gl.1.map bb), .imm 2 (ch.1.map ci), .imm 3 (lk.1.map bn), .vec none 2 [], .imm 4 (A.1.map cC), .imm 1 (rg.1.map bo), .imm 1 (fu.1.map cQ), .imm 1 (aU cv.1)⟩ lk.2, tB tb]) (Gm _)) ?_
 repeat' (first|refine ah ?_|refine a7 ?_|refine aq ?_|refine a8 ?_|refine aa ?_|refine ae a6 rfl rfl ?_)
 have hn8 : (gi dW).length = 8 := rfl
 refine aN [2, 3, 16] (α := Nat × Option (Nat × Nat)) (fun x => [(17, aM x.1)]) (fun x => x.1 ≤ 8) (fun x => [dV b s ⟨aM U, .vec q4 9 (gl.1.map bb), .imm 2 (ch.1.map ci), .imm 3 (lk.1.map bn), .vec x.2 2 ((gF s lk.1.length x.1 lk.2).1.map bw), .imm 4 (A.1.map cC), .imm 1 (rg.1.map bo), .imm 1 (fu.1.map cQ), .imm 1 (aU cv.1)⟩ (gF s lk.1.length x.1 lk.2).2, tB tb] ++ tok x.2 83 2 ((gF s lk.1.length x.1 lk.2).1.map bw).length) (fun x => 8 - x.1) (0, none) rfl ⟨rfl, trivial⟩ (Nat.zero_le _) (fun _ _ h => h) ?_
 rintro ⟨jf, q6⟩ hjf
 dsimp only at hjf ⊢
 have hftl := tW s lk.1.length jf lk.2
 have hstep : gF s lk.1.length (jf + 1) lk.2 = (c9 (mv s lk.1.length) fun r => c9 (dr s 2) fun z => cA (if z = 0 then (gF s lk.1.length jf lk.2).1 ++ [(⟨dW.getD jf ByteArray.empty, r⟩ : bL)] else (gF s lk.1.length jf lk.2).1)) (gF s lk.1.length jf lk.2).2 := rfl
 try dsimp only [Gr, Gq, Gp, Gj]
 repeat' (first|refine ah ?_|refine a7 ?_|refine a8 ?_|refine aa ?_|refine ae a6 rfl rfl ?_)
 refine aw rfl (fun h => ?_) (fun h => ?_)
 ·have hj8 : jf < 8 := by have := Gz h; rw [hn8] at this; omega
  have hnm : (gi dW)[jf]? = some [kf (dW.getD jf ByteArray.empty)] := ta (km hj8 ByteArray.empty)
  generalize dW.getD jf ByteArray.empty = nm at hnm hstep
  generalize gF s lk.1.length jf lk.2 = Ft at hftl hstep ⊢
  have hftm : (Ft.1.map bw).length = Ft.1.length := Gu ..
  unfold c9 at hstep
  repeat' (first|refine ah ?_|refine a7 ?_|refine aq ?_|refine au ?_|refine a8 ?_|refine aa ?_|refine ae a6 rfl rfl ?_)
  refine bK (bg (t := 18) (c' := .vec none 1 []) rfl fun σ v h => co 1 h) ?_
  refine aN [2, 3, 16, 17] (α := Nat × Option (Nat × Nat)) (fun x => [(19, aM x.1), (18, .vec x.2 1 (aU (mv s x.1 Ft.2).1))]) (fun x => x.1 ≤ lk.1.length) (fun x => [dV b s ⟨aM U, .vec q4 9 (gl.1.map bb), .imm 2 (ch.1.map ci), .imm 3 (lk.1.map bn), .vec q6 2 (Ft.1.map bw), .imm 4 (A.1.map cC), .imm 1 (rg.1.map bo), .imm 1 (fu.1.map cQ), .imm 1 (aU cv.1)⟩ (mv s x.1 Ft.2).2, tB tb] ++ (tok x.2 3 1 (aU (mv s x.1 Ft.2).1).length ++ tok q6 83 2 (Ft.1.map bw).length)) (fun x => lk.1.length - x.1) (0, none) rfl ⟨rfl, rfl, trivial⟩ (Nat.zero_le _) (fun _ _ h => h) ?_
  rintro ⟨a, q7⟩ ha
  dsimp only at ha ⊢
  have hal7 := xI s a Ft.2
  have hst7 : mv s (a + 1) Ft.2 = (c9 (dr s 3) fun z => cA (if z = 0 then (mv s a Ft.2).1 ++ [(a : Int)] else (mv s a Ft.2).1)) (mv s a Ft.2).2 := rfl
  try dsimp only [Gr, Gq, Gp, Gj]
  repeat' (first|refine ah ?_|refine a7 ?_|refine a8 ?_|refine aa ?_|refine ae a6 rfl rfl ?_|(apply bB; first|refine ak a6 0 rfl rfl rfl rfl rfl ?_|refine ak a6 1 rfl rfl rfl rfl rfl ?_|refine ak a6 2 rfl rfl rfl rfl rfl ?_|refine ak a6 3 rfl rfl rfl rfl rfl ?_|refine aD a6 0 rfl rfl rfl rfl rfl ?_|refine aD a6 1 rfl rfl rfl rfl rfl ?_|refine aD a6 2 rfl rfl rfl rfl rfl ?_|refine ak a6 1 rfl rfl rfl (by assumption) rfl ?_|refine ak a6 0 rfl rfl rfl (by assumption) rfl ?_|fail)|fail)
  refine aw rfl (fun h => ?_) (fun h => ?_)
  ·have hal : a < lk.1.length := by have := Gz h; rw [hlkm] at this; omega
   generalize mv s a Ft.2 = As at hal7 hst7 ⊢
   have hasm : (aU As.1).length = As.1.length := aQ _
   unfold c9 at hst7
   repeat' (first|refine ah ?_|refine a7 ?_|refine aq ?_|refine au ?_|refine a8 ?_|refine ae a6 rfl rfl ?_)
   refine cD ?_
   generalize dr s 3 As.2 = z at hst7 ⊢
   dsimp only [cA] at hst7
   repeat' (first|refine a8 ?_|refine aa ?_|refine ae a6 rfl rfl ?_)
   refine aw rfl (fun hz => ?_) (fun hz => ?_)
   ·rw [if_pos (Gz hz)] at hst7
    repeat' (first|refine a7 ?_|refine ae a6 rfl rfl ?_|refine bz a6 ?_|fail)
    refine bF a6 _ rfl rfl rfl rfl (eG (A := [_, _])) (by simp [aQ]; omega) (by simp [aQ]; omega) rfl fun q' => ?_
    refine aO (aK (eG (A := [_, _])).symm) ?_
    repeat' (first|refine a7 ?_|refine a8 ?_|refine aI ?_|refine aa ?_|refine ae a6 rfl rfl ?_|(apply aW; refine aV ?_)|fail)
    exact aC (a + 1, q') rfl ⟨by rw [Gw]; rfl, by rw [hst7]; dsimp only; rw [show aU (As.1 ++ [(a : Int)]) = aU As.1 ++ [[aM (a : Int)]] from List.map_append ..]; rfl, trivial⟩ (by dsimp only; omega) (by dsimp only; omega) (fun _ _ h => by dsimp only; rw [hst7]; dsimp only; rw [show aU (As.1 ++ [(a : Int)]) = aU As.1 ++ [[aM (a : Int)]] from List.map_append ..]; exact h)
   ·rw [if_neg (Gy hz)] at hst7
    repeat' (first|refine a7 ?_|refine au ?_|refine a8 ?_|refine aI ?_|refine aa ?_|refine ae a6 rfl rfl ?_|(apply aW; refine aV ?_)|fail)
    exact aC (a + 1, q7) rfl ⟨by rw [Gw]; rfl, by rw [hst7]; rfl, trivial⟩ (by dsimp only; omega) (by dsimp only; omega) (fun _ _ h => by dsimp only; rw [hst7]; exact h)
  have hal : a = lk.1.length := by have := Gy h; rw [hlkm] at this; omega
  subst hal
  clear hst7
  generalize mv s lk.1.length Ft.2 = As at hal7 hstep ⊢
  dsimp only at hstep
  repeat' (first|refine ah ?_|refine a7 ?_|refine aR ?_|refine a8 ?_|refine av ?_|refine aB ?_|refine ay ?_|refine ae a6 rfl rfl ?_)
  refine aO (bg (t := 18) (c' := .imm 1 (aU As.1)) rfl fun σ v h => VR.im h) ?_
  refine aO (bY (L' := [dV b s ⟨aM U, .vec q4 9 (gl.1.map bb), .imm 2 (ch.1.map ci), .imm 3 (lk.1.map bn), .vec q6 2 (Ft.1.map bw), .imm 4 (A.1.map cC), .imm 1 (rg.1.map bo), .imm 1 (fu.1.map cQ), .imm 1 (aU cv.1)⟩ As.2, tB tb] ++ tok q6 83 2 (Ft.1.map bw).length) (List.Sublist.cons_cons _ (List.Sublist.cons_cons _ (List.sublist_append_right _ _)))) ?_
  refine cD ?_
  generalize dr s 2 As.2 = z at hstep ⊢
  dsimp only [cA] at hstep
  repeat' (first|refine a8 ?_|refine aa ?_|refine ae a6 rfl rfl ?_)
  refine aw rfl (fun hz => ?_) (fun hz => ?_)
  ·rw [if_pos (Gz hz)] at hstep
   repeat' (first|fail)
   refine bt 14 [(0, .v), (1, .v), (2, .v), (3, .v), (4, .v), (5, .l), (6, .v), (7, .v), (8, .v), (9, .v), (10, .v), (11, .v), (12, .v), (13, .e)] none ?_ trivial rfl (by kernel_rfl) (by kernel_rfl) (by kernel_rfl) mixed (by kernel_rfl) rfl
   repeat' (first|refine aE ?_|refine aZ a6 ?_|(apply bP;refine c8 a6 ?_)|refine ee a6 ?_|refine cI a6 0 rfl rfl rfl rfl (by first|trivial|rfl) ?_)
   refine fJ a6 _ rfl rfl rfl rfl (List.perm_append_comm (l₁ := [_, _])) (by simp; omega) (by simp; omega) (by first | trivial | rfl) fun q' => ?_
   refine br [2, 3, 16, 17, 225, 238] rfl rfl ?_
   refine aO (aK (List.perm_append_comm (l₂ := [_, _]))) ?_
   repeat' (first|refine a7 ?_|refine a8 ?_|refine aI ?_|refine aa ?_|refine ae a6 rfl rfl ?_|(apply aW; refine aV ?_)|(apply aH; first|refine ai 6 a6 0 rfl rfl rfl rfl rfl rfl rfl rfl ?_|refine ai 6 a6 1 rfl rfl rfl rfl rfl rfl rfl rfl ?_|refine ai 6 a6 2 rfl rfl rfl rfl rfl rfl rfl rfl ?_|refine aj a6 0 rfl rfl rfl rfl rfl rfl rfl ?_|refine aj a6 1 rfl rfl rfl rfl rfl rfl rfl ?_|refine aj a6 2 rfl rfl rfl rfl rfl rfl rfl ?_|refine aj a6 3 rfl rfl rfl rfl rfl rfl rfl ?_|fail))
   exact aC (jf + 1, q') rfl ⟨by rw [Gw]; rfl, trivial⟩ (by dsimp only; omega) (by dsimp only; omega) (fun _ _ h => by dsimp only; rw [hstep]; dsimp only; rw [List.map_append]; exact h)
  ·rw [if_neg (Gy hz)] at hstep
   repeat' (first|refine a7 ?_|refine au ?_|refine a8 ?_|refine aI ?_|refine aa ?_|refine ae a6 rfl rfl ?_|(apply aW; refine aV ?_)|fail)
   exact aC (jf + 1, q6) rfl ⟨by rw [Gw]; rfl, trivial⟩ (by dsimp only; omega) (by dsimp only; omega) (fun _ _ h => by dsimp only; rw [hstep]; exact h)
 have hj8 : jf = 8 := by have := Gy h; rw [hn8] at this; omega
 subst hj8
 clear hstep
 generalize e13 : gF s lk.1.length 8 lk.2 = ft at hftl ⊢
 repeat' (first|refine ah ?_|refine a7 ?_|refine ar ?_|refine aR ?_|refine a8 ?_|refine av ?_|refine aB ?_|refine ay ?_|refine aa ?_|refine ae a6 rfl rfl ?_|(apply bB; first|refine ak a6 0 rfl rfl rfl rfl rfl ?_|refine ak a6 1 rfl rfl rfl rfl rfl ?_|refine ak a6 2 rfl rfl rfl rfl rfl ?_|refine ak a6 3 rfl rfl rfl rfl rfl ?_|refine aD a6 0 rfl rfl rfl rfl rfl ?_|refine aD a6 1 rfl rfl rfl rfl rfl ?_|refine aD a6 2 rfl rfl rfl rfl rfl ?_|refine ak a6 1 rfl rfl rfl (by assumption) rfl ?_|refine ak a6 0 rfl rfl rfl (by assumption) rfl ?_|fail)|(apply aH; first|refine ai 6 a6 0 rfl rfl rfl rfl rfl rfl rfl rfl ?_|refine ai 6 a6 1 rfl rfl rfl rfl rfl rfl rfl rfl ?_|refine ai 6 a6 2 rfl rfl rfl rfl rfl rfl rfl rfl ?_|refine aj a6 0 rfl rfl rfl rfl rfl rfl rfl ?_|refine aj a6 1 rfl rfl rfl rfl rfl rfl rfl ?_|refine aj a6 2 rfl rfl rfl rfl rfl rfl rfl ?_|refine aj a6 3 rfl rfl rfl rfl rfl rfl rfl ?_|fail))
 have hv : lQ s = ⟨U, gl.1, ch.1, lk.1, ft.1, A.1, rg.1, fu.1, cv.1⟩ := by
  unfold lQ yE c9
  rw [e1]
  try dsimp only
  rw [e2]
  try dsimp only
  rw [hkk, Int.toNat_natCast, e3]
  try dsimp only
  rw [e4, e5]
  try dsimp only
  rw [hkk2, Int.toNat_natCast, e6]
  try dsimp only
  rw [e7]
  try dsimp only
  rw [hkk3, Int.toNat_natCast, e8]
  try dsimp only
  rw [e9]
  try dsimp only
  rw [hkk4, Int.toNat_natCast, e10]
  try dsimp only
  rw [e11]
  try dsimp only
  rw [e12]
  try dsimp only
  rw [e13, hU]
  rfl
 rw [hv]
 exact ba (bi 1 (cs' := bZ ⟨U, gl.1, ch.1, lk.1, ft.1, A.1, rg.1, fu.1, cv.1⟩) rfl fun σ vs h => mZ.vrs (a := [aM U, .vec q4 9 (gl.1.map bb), .imm 2 (ch.1.map ci), .imm 3 (lk.1.map bn), .vec q6 2 (ft.1.map bw), .imm 4 (A.1.map cC), .imm 1 (rg.1.map bo), .imm 1 (fu.1.map cQ), .imm 1 (aU cv.1)]) (b := bZ ⟨U, gl.1, ch.1, lk.1, ft.1, A.1, rg.1, fu.1, cv.1⟩) ⟨dw.refl _, dw.im, dw.refl _, dw.refl _, dw.im, dw.refl _, dw.refl _, dw.refl _, dw.refl _, trivial⟩ h) (ip a6 1 [] rfl rfl rfl rfl rfl (List.nil_sublist _) rfl)
end Go.Proofs.YtjjpkibjffmceaaGreat
namespace Go.Proofs.YtjjpkibjffmceaaGreat
open Go.RowKit
attribute [local irreducible] AT bT AX AO Av Kt bk ej DA cX
theorem x8 : C5 Tryz.prog 22 [] 3 1 (aU eR) := by
 refine aP Tryz.func22 rfl Tryz.ntmps22 rfl fun B => ?_
 repeat' (first|refine ah ?_|refine a7 ?_|refine ar ?_|refine a8 ?_|refine aa ?_|refine ae a6 rfl rfl ?_|refine jU (d := 1) a6 fun _=>?_|fail)
 exact aA rfl rfl ⟨_, rfl, rfl⟩
section
variable {P : Program} {tt : TT} {r : Option Nat} {ops : Array Oper} {Q : Exit → Act → World → Prop} {nt : Nat} {D : List Deferred} {fr : ca} {B : Bs} {L : AL} {rest : List Oper} {d : Nat} {ty t : TypeId} {pos : String} {af : Array Edge} {x y : Operand} {u : AV}
theorem CX (ok : eW P tt) (hi : Nat) {e sz by_ s : Nat} {l1 : List (List AV)} {q : IntKind} {a : Int} (ht : mf tt t = some (e, sz, by_)) (hx : bH fr x = some u) (hu : il u = some (s, l1)) (hs : Nat.beq s sz = true) (hy : bH fr y = some (.sc (.int q a))) (ha : a = (hi : Int)) (h1 : hi ≤ l1.length) (hd : Nat.ble nt d = false) (h : bT P r ops Q nt D rest ((d, .imm s (l1.take hi)) :: fr) B L) : bT P r ops Q nt D (⟨some d, .slice t x none (some y) none, ty, pos, af, none⟩ :: rest) fr B L := dy (xt (bU ok ht).1 hx (cT hu) hs hy ha h1) hd rfl h
end
theorem wv (l : List Int) (k : Nat) : (aU l).take k = aU (l.take k) := by simp [aU]
def Fb (z : Int) : Int := fX.getD (z % 17).toNat 0
def C1 (f : aJ) (l : List Int) : Nat → List ByteArray
 | 0 => []
 | k + 1 => C1 f l k ++ (match f.Features[k]?, l[k]? with | some t, some z => if z.tmod 3 ≠ 0 then [t.Name] else [] | _, _ => [])
def Fa (bs : List Int) : List Int := Ev (bs.take 40)
def F9 (f : aJ) (bs : List Int) : List ByteArray := C1 f bs f.Features.length
def EE (ns : List Int) : aJ := lQ (ns.take 300)
theorem zD (a : List ByteArray) (x : ByteArray) : gi (a ++ [x]) = gi a ++ [[kf x]] := by simp [gi]
end Go.Proofs.YtjjpkibjffmceaaGreat
namespace Go.Proofs.YtjjpkibjffmceaaGreat
open Go.RowKit
attribute [local irreducible] AT bT AX AO Av Kt bk ej DA cX
theorem zG : ∀ z ∈ fX, rX z = false := by decide
end Go.Proofs.YtjjpkibjffmceaaGreat
