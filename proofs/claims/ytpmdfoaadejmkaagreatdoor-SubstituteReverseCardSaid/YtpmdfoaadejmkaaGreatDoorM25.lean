/-
  What is shown at the head of all laws.
-/
import Derived.Test.YtpmdfoaadejmkaaGreatDoorM24
namespace Go.Proofs.YtpmdfoaadejmkaaGreatDoor
open Go.RowKit
attribute [local irreducible] AT bh AX AO Av Kt b6 dh DA cE
def th (ls : List aQ) : Bool := ls.all (tq 5) && (decide (ls.length ≤ 1000000) && wI ls)
theorem qH {ls : List aQ} (h : th ls = true) : AC Tryz.prog 15 [cA (dQ ls)] [] fun c _ => ∃ E, lx E ∧ zR (.iptr (d9 E)) (dq gU ls) ∧ c = .tup [.iptr (d9 E), az 0] := by
 unfold th wI at h
 simp only [Bool.and_eq_true, decide_eq_true_eq] at h
 refine AC.mono (uQ h.1 h.2.1 (qX h.2.2)) fun c L ⟨E, h1, h2, h3, h4⟩ => ⟨E, h1, ?_, h4⟩
 have := Co h1
 rwa [h2, h3] at this
theorem v9 : th xq = true := by decide +kernel
theorem va : decide ((sD (dq gU xq) [0, 1] [] (cQ [0, 1, 0])).map aF.Glyph = [3, 0]) = true := by decide +kernel
theorem xr : AC Tryz.prog 13 [] [ct] fun c L => c = dB true ∧ L = [ct] := by
 refine aB Tryz.func13 rfl Tryz.ntmps13 rfl fun B => ?_
 repeat' (first|refine a8 ?_|refine a0 ?_|refine a5 ?_|refine a6 ?_|refine a7 a4 rfl rfl ?_|refine c6 a4 ?_|fail)
 refine aL [] _ (AC.args (oG xq) ?_) rfl rfl (Do _) rfl fun c L1 hc => ?_
 ·repeat' first | exact dx.refl _ | exact dx.nil _ | exact True.intro | refine dx.agg ?_ | refine dx.imm ?_ | refine And.intro ?_ ?_
 subst hc
 refine aP (bT (List.sublist_append_right ..)) ?_
 repeat' (first|refine a8 ?_|refine a0 ?_|refine a5 ?_|refine a6 ?_|refine a7 a4 rfl rfl ?_|(apply aO; first|refine a9 1 a4 0 rfl rfl rfl rfl rfl rfl rfl rfl ?_|refine a9 1 a4 1 rfl rfl rfl rfl rfl rfl rfl rfl ?_|refine a9 1 a4 2 rfl rfl rfl rfl rfl rfl rfl rfl ?_|refine aa a4 0 rfl rfl rfl rfl rfl rfl rfl ?_|refine aa a4 1 rfl rfl rfl rfl rfl rfl rfl ?_|refine aa a4 2 rfl rfl rfl rfl rfl rfl rfl ?_|refine aa a4 3 rfl rfl rfl rfl rfl rfl rfl ?_|fail)|refine aZ a4 fun _=>?_|fail)
 refine aL [] _ (qH v9) rfl rfl (Do _) rfl fun c L1 hc => ?_
 obtain ⟨E, hE, hA, rfl⟩ := hc
 refine aP (bT (List.sublist_append_right ..)) ?_
 repeat' (first|refine a8 ?_|refine a0 ?_|refine a5 ?_|refine a6 ?_|refine a7 a4 rfl rfl ?_|refine ak rfl rfl ?_)
 refine bG [2] False rfl (fun Q' K => ?_) (fun hC => hC.elim) (fun _ => ?_)
 ·repeat' (first|fail)
  refine nd Tryz.underlying34 rfl rfl rfl rfl ?_
  repeat' (first|refine a6 ?_|refine a7 a4 rfl rfl ?_)
  exact K _ _ rfl rfl (by simp)
 repeat' (first|refine a8 ?_|refine a0 ?_|refine ah ?_|refine a5 ?_|refine a7 a4 rfl rfl ?_|refine c6 a4 ?_|fail)
 refine aL [] _ (ld [0, 1, 0] (by decide)) rfl rfl (Do _) rfl fun c L1 hc => ?_
 subst hc
 refine aP (bT (List.sublist_append_right ..)) ?_
 repeat' (first|fail)
 refine aL [ct] [] (AC.args (z2 (d9 E) hA [0, 1] [] (cQ [0, 1, 0]) (by decide)) (a := [.iptr (d9 E), .imm 1 (aR [0, 1]), .sc (.slice none 0 0), .imm 6 ((cQ [0, 1, 0]).map bM)]) ⟨dx.refl _, dx.refl _, dx.nil 1, dx.refl _, trivial⟩) rfl rfl (Do _) rfl fun c L1 ⟨hc, hL⟩ => ?_
 subst hc; subst hL
 repeat' (first|refine c6 a4 ?_|fail)
 refine aL [] _ (jC _ [3, 0] (by decide)) rfl rfl (Do _) rfl fun c L1 hc => ?_
 subst hc
 rw [va]
 refine aP (bT (List.sublist_append_right ..)) ?_
 repeat' (first|refine ae ?_|refine a5 ?_|refine a6 ?_|refine a7 a4 rfl rfl ?_)
 exact am rfl rfl ⟨rfl, rfl⟩
theorem gT {A T1 T R : AL} : (A ++ (T1 ++ (T ++ R))).Perm (T ++ (A ++ (T1 ++ R))) := by
 have := List.perm_append_comm_assoc (A ++ T1) T R
 simpa [List.append_assoc] using this
theorem n2 (l : List Int) : (cQ l).length = l.length := g8 l 0
theorem xd : th uS = true := by decide +kernel
def cS (m k : Nat) : List Int := (List.range k).map fun (j : Nat) => if j = m then (1 : Int) else 0
def dz (m k : Nat) : List Int := (List.range k).map fun (j : Nat) => if (m : Int) - 1 ≤ (j : Int) then (1 : Int) else 0
theorem cu (m k : Nat) : (aR (cS m k)).length = k := by unfold cS; simp [aX]
theorem cj (m k : Nat) : (aR (dz m k)).length = k := by unfold dz; simp [aX]
theorem f4 (k : Nat) : (aR (List.replicate k 1)).length = k := by simp [aX]
theorem kx (m k : Nat) : aR (cS m k) ++ [[az (if k = m then 1 else 0)]] = aR (cS m (k + 1)) := by
 unfold cS; rw [List.range_succ]; simp [aR]
theorem gV (m k : Nat) : aR (dz m k) ++ [[az (if (m : Int) - 1 ≤ (k : Int) then 1 else 0)]] = aR (dz m (k + 1)) := by
 unfold dz; rw [List.range_succ]; simp [aR]
theorem oI (k : Nat) : aR (List.replicate k 1) ++ [[az 1]] = aR (List.replicate (k + 1) 1) := by
 rw [List.replicate_succ']; simp [aR]
def tH (m : Nat) : Bool := decide ((dq gU uS 0 (cQ (cS m (m + 1))) []).map aF.Glyph = List.replicate (m + 1) 1) && decide ((dq gU uS 1 (cQ (cS m (m + 1))) []).map aF.Glyph = dz m (m + 1))
theorem r8 : ((List.range 41).all tH) = true := by decide +kernel
theorem z0 (n : Int) (h0 : 0 ≤ n) (h255 : n ≤ 255) : AC Tryz.prog 11 [.sc (.int .u8 n)] [ct] fun c L => c = dB true ∧ L = [ct] := by
 refine aB Tryz.func11 rfl Tryz.ntmps11 rfl fun B => ?_
 repeat' (first|refine a8 ?_|refine a0 ?_|refine a5 ?_|refine a6 ?_|refine a7 a4 rfl rfl ?_)
 refine aL [ct] [] xr rfl rfl (Do _) rfl fun c L1 ⟨hc, hL⟩ => ?_
 subst hc; subst hL
 repeat' (first|refine a8 ?_|refine a0 ?_|refine a5 ?_|refine a6 ?_|refine a7 a4 rfl rfl ?_)
 obtain ⟨m, hm, hme⟩ : ∃ m : Nat, m ≤ 40 ∧ n.tmod 41 = m := ⟨(n.tmod 41).toNat, by rw [Int.tmod_eq_emod_of_nonneg h0]; omega, by rw [Int.tmod_eq_emod_of_nonneg h0]; omega⟩
 refine bV (BA rfl rfl (by decide)) rfl rfl ?_
 rw [hme]
 repeat' (first|fail)
 refine mt a4 rfl rfl rfl rfl rfl rfl ?_
 rw [show IntKind.wrap .i64 (m : Int) = (m : Int) from (by decide : ∀ k : Nat, k < 41 → IntKind.wrap .i64 (k : Int) = (k : Int)) m (by omega)]
 repeat' (first|refine a8 ?_|refine a0 ?_|refine a5 ?_|refine a6 ?_|refine a7 a4 rfl rfl ?_|(apply aO; first|refine a9 5 a4 0 rfl rfl rfl rfl rfl rfl rfl rfl ?_|refine a9 5 a4 1 rfl rfl rfl rfl rfl rfl rfl rfl ?_|refine a9 5 a4 2 rfl rfl rfl rfl rfl rfl rfl rfl ?_|refine a9 6 a4 0 rfl rfl rfl rfl rfl rfl rfl rfl ?_|refine a9 6 a4 1 rfl rfl rfl rfl rfl rfl rfl rfl ?_|refine a9 6 a4 2 rfl rfl rfl rfl rfl rfl rfl rfl ?_|refine aa a4 0 rfl rfl rfl rfl rfl rfl rfl ?_|refine aa a4 1 rfl rfl rfl rfl rfl rfl rfl ?_|refine aa a4 2 rfl rfl rfl rfl rfl rfl rfl ?_|refine aa a4 3 rfl rfl rfl rfl rfl rfl rfl ?_|fail)|refine aZ a4 fun _=>?_|refine c6 a4 ?_|fail)
 refine aL [] _ (AC.args (oG uS) ?_) rfl rfl (Do _) rfl fun c L1 hc => ?_
 ·repeat' first | exact dx.refl _ | exact dx.nil _ | exact True.intro | refine dx.agg ?_ | refine dx.imm ?_ | refine And.intro ?_ ?_
 subst hc
 refine aP (bT (List.sublist_append_right ..)) ?_
 repeat' (first|refine a8 ?_|refine a0 ?_|refine a5 ?_|refine a6 ?_|refine a7 a4 rfl rfl ?_|(apply aO; first|refine a9 5 a4 0 rfl rfl rfl rfl rfl rfl rfl rfl ?_|refine a9 5 a4 1 rfl rfl rfl rfl rfl rfl rfl rfl ?_|refine a9 5 a4 2 rfl rfl rfl rfl rfl rfl rfl rfl ?_|refine a9 6 a4 0 rfl rfl rfl rfl rfl rfl rfl rfl ?_|refine a9 6 a4 1 rfl rfl rfl rfl rfl rfl rfl rfl ?_|refine a9 6 a4 2 rfl rfl rfl rfl rfl rfl rfl rfl ?_|refine aa a4 0 rfl rfl rfl rfl rfl rfl rfl ?_|refine aa a4 1 rfl rfl rfl rfl rfl rfl rfl ?_|refine aa a4 2 rfl rfl rfl rfl rfl rfl rfl ?_|refine aa a4 3 rfl rfl rfl rfl rfl rfl rfl ?_|fail)|refine aZ a4 fun _=>?_|fail)
 refine aL [] _ (qH xd) rfl rfl (Do _) rfl fun c L1 hc => ?_
 obtain ⟨E, hE, hA, rfl⟩ := hc
 refine aP (bT (L' := [ct]) (List.sublist_append_right ..)) ?_
 repeat' (first|refine a8 ?_|refine a0 ?_|refine a5 ?_|refine a6 ?_|refine a7 a4 rfl rfl ?_|refine ak rfl rfl ?_)
 refine bG [4, 7] False rfl (fun Q' K => ?_) (fun hC => hC.elim) (fun _ => ?_)
 ·repeat' (first|fail)
  refine nd Tryz.underlying34 rfl rfl rfl rfl ?_
  repeat' (first|refine a6 ?_|refine a7 a4 rfl rfl ?_)
  exact K _ _ rfl rfl (by simp)
 repeat' (first|refine a8 ?_|refine a0 ?_|refine aj ?_|refine ah ?_|refine a5 ?_|refine a6 ?_|refine a7 a4 rfl rfl ?_|refine tw (n := 0) a4 fun _=>?_|fail)
 refine aK [4, 7] (α := Nat × Option (Nat × Nat) × Option (Nat × Nat) × Option (Nat × Nat)) (fun s => [(12, az s.1), (9, .vec s.2.1 1 (aR (cS m s.1))), (10, .vec s.2.2.1 1 (aR (List.replicate s.1 1))), (11, .vec s.2.2.2 1 (aR (dz m s.1)))]) (fun s => s.1 ≤ m + 1) (fun s => tok s.2.2.2 3 1 s.1 ++ (tok s.2.2.1 3 1 s.1 ++ (tok s.2.1 3 1 s.1 ++ [ct]))) (fun s => m + 1 - s.1) (0, some (_, 0), some (_, 0), some (_, 0)) rfl ⟨rfl, rfl, rfl, rfl, trivial⟩ (Nat.zero_le _) (fun _ _ h => h) ?_
 rintro ⟨k, q1, q2, q3⟩ hk
 dsimp only at hk ⊢
 try dsimp only [Ds, Dr, Dq, Dn]
 repeat' (first|refine a8 ?_|refine a0 ?_|refine a5 ?_|refine a6 ?_|refine a7 a4 rfl rfl ?_)
 refine aq rfl (fun h1 => ?_) (fun h1 => ?_)
 ·have hk2 : k ≤ m := by have := Dz h1; omega
  clear h1
  repeat' (first|refine a8 ?_|refine a0 ?_|refine aj ?_|refine ah ?_|refine a5 ?_|refine a6 ?_|refine a7 a4 rfl rfl ?_)
  refine aq rfl (fun h2 => ?_) (fun h2 => ?_)
  ·have hkm : k = m := by have := Dz h2; omega
   clear h2
   repeat' (first|refine a8 ?_|refine a0 ?_|refine a5 ?_|refine a6 ?_|refine a7 a4 rfl rfl ?_|refine c6 a4 ?_|fail)
   have e9 : aR (cS m k) ++ [[az 1]] = aR (cS m (k + 1)) := by rw [← kx]; simp [hkm]
   refine c5 a4 (tok q3 3 1 k ++ (tok q2 3 1 k ++ [ct])) rfl rfl rfl rfl (by rw [cu]; exact gT) (by rw [cu]; simp; omega) (by rw [cu]; simp; omega) rfl fun q9 => ?_
   rw [e9, cu]
   repeat' (first|refine a8 ?_|refine a0 ?_|refine a5 ?_|refine a6 ?_|refine a7 a4 rfl rfl ?_|refine c6 a4 ?_|fail)
   refine c5 a4 (tok q9 3 1 (k + 1) ++ (tok q3 3 1 k ++ [ct])) rfl rfl rfl rfl (by rw [f4]; exact gT) (by rw [f4]; simp; omega) (by rw [f4]; simp; omega) rfl fun q10 => ?_
   rw [oI, f4]
   repeat' (first|refine a8 ?_|refine a0 ?_|refine a5 ?_|refine a6 ?_|refine a7 a4 rfl rfl ?_|(apply aT; refine aS ?_)|fail)
   refine aq rfl (fun h3 => ?_) (fun h3 => ?_)
   ·have hk1 : ((m : Int) - 1 ≤ (k : Int)) := by have := Dz h3; omega
    have e11 : aR (dz m k) ++ [[az 1]] = aR (dz m (k + 1)) := by rw [← gV]; simp [hk1]
    clear h3
    repeat' (first|refine a0 ?_|refine a7 a4 rfl rfl ?_|refine c6 a4 ?_|fail)
    refine c5 a4 (tok q10 3 1 (k + 1) ++ (tok q9 3 1 (k + 1) ++ [ct])) rfl rfl rfl rfl (by rw [cj]; exact gT) (by rw [cj]; simp; omega) (by rw [cj]; simp; omega) rfl fun q11 => ?_
    rw [e11, cj]
    repeat' (first|refine a0 ?_|refine a5 ?_|refine aG ?_|refine a6 ?_|refine a7 a4 rfl rfl ?_|(apply aT; refine aS ?_)|fail)
    exact ay (k + 1, q9, q10, q11) rfl ⟨by rw [Dv]; rfl, rfl, rfl, rfl, trivial⟩ (by dsimp only; omega) (by dsimp only; omega) (fun _ _ h => h)
   ·have hk1 : ¬ ((m : Int) - 1 ≤ (k : Int)) := by have := Dy h3; omega
    omega
  ·have hkm : ¬ k = m := by have := Dy h2; omega
   clear h2
   repeat' (first|refine a8 ?_|refine a0 ?_|refine ah ?_|refine a5 ?_|refine a7 a4 rfl rfl ?_|refine c6 a4 ?_|fail)
   have e9 : aR (cS m k) ++ [[az 0]] = aR (cS m (k + 1)) := by rw [← kx]; simp [hkm]
   refine c5 a4 (tok q3 3 1 k ++ (tok q2 3 1 k ++ [ct])) rfl rfl rfl rfl (by rw [cu]; exact gT) (by rw [cu]; simp; omega) (by rw [cu]; simp; omega) rfl fun q9 => ?_
   rw [e9, cu]
   repeat' (first|refine a8 ?_|refine a0 ?_|refine a5 ?_|refine a6 ?_|refine a7 a4 rfl rfl ?_|refine c6 a4 ?_|fail)
   refine c5 a4 (tok q9 3 1 (k + 1) ++ (tok q3 3 1 k ++ [ct])) rfl rfl rfl rfl (by rw [f4]; exact gT) (by rw [f4]; simp; omega) (by rw [f4]; simp; omega) rfl fun q10 => ?_
   rw [oI, f4]
   repeat' (first|refine a8 ?_|refine a0 ?_|refine a5 ?_|refine a6 ?_|refine a7 a4 rfl rfl ?_|(apply aT; refine aS ?_)|fail)
   refine aq rfl (fun h3 => ?_) (fun h3 => ?_)
   ·have hk1 : ((m : Int) - 1 ≤ (k : Int)) := by have := Dz h3; omega
    have e11 : aR (dz m k) ++ [[az 1]] = aR (dz m (k + 1)) := by rw [← gV]; simp [hk1]
    clear h3
    repeat' (first|refine a0 ?_|refine a7 a4 rfl rfl ?_|refine c6 a4 ?_|fail)
    refine c5 a4 (tok q10 3 1 (k + 1) ++ (tok q9 3 1 (k + 1) ++ [ct])) rfl rfl rfl rfl (by rw [cj]; exact gT) (by rw [cj]; simp; omega) (by rw [cj]; simp; omega) rfl fun q11 => ?_
    rw [e11, cj]
    repeat' (first|refine a0 ?_|refine a5 ?_|refine aG ?_|refine a6 ?_|refine a7 a4 rfl rfl ?_|(apply aT; refine aS ?_)|fail)
    exact ay (k + 1, q9, q10, q11) rfl ⟨by rw [Dv]; rfl, rfl, rfl, rfl, trivial⟩ (by dsimp only; omega) (by dsimp only; omega) (fun _ _ h => h)
   ·have hk1 : ¬ ((m : Int) - 1 ≤ (k : Int)) := by have := Dy h3; omega
    have e11 : aR (dz m k) ++ [[az 0]] = aR (dz m (k + 1)) := by rw [← gV]; simp [hk1]
    clear h3
    repeat' (first|refine a0 ?_|refine a7 a4 rfl rfl ?_|refine c6 a4 ?_|fail)
    refine c5 a4 (tok q10 3 1 (k + 1) ++ (tok q9 3 1 (k + 1) ++ [ct])) rfl rfl rfl rfl (by rw [cj]; exact gT) (by rw [cj]; simp; omega) (by rw [cj]; simp; omega) rfl fun q11 => ?_
    rw [e11, cj]
    repeat' (first|refine a0 ?_|refine a5 ?_|refine aG ?_|refine a6 ?_|refine a7 a4 rfl rfl ?_|(apply aT; refine aS ?_)|fail)
    exact ay (k + 1, q9, q10, q11) rfl ⟨by rw [Dv]; rfl, rfl, rfl, rfl, trivial⟩ (by dsimp only; omega) (by dsimp only; omega) (fun _ _ h => h)
 ·have hk2 : k = m + 1 := by have := Dy h1; omega
  subst hk2
  clear h1
  have hv := List.all_eq_true.1 r8 m (List.mem_range.2 (by omega))
  unfold tH at hv
  rw [Bool.and_eq_true] at hv
  repeat' (first|refine a8 ?_|refine a0 ?_|refine aM ?_|refine a5 ?_|refine ar ?_|refine aw ?_|refine au ?_|refine a7 a4 rfl rfl ?_)
  refine aP (bT (L' := [ct]) ((List.sublist_append_right _ _).trans ((List.sublist_append_right _ _).trans (List.sublist_append_right _ _)))) ?_
  refine aL [] _ (ld (cS m (m + 1)) (by rw [← aX, cu]; omega)) rfl rfl (Do _) rfl fun c L1 hc => ?_
  subst hc
  refine aP (bT (L' := [ct]) (List.sublist_append_right ..)) ?_
  repeat' (first|fail)
  refine aL [ct] [] (AC.args (hA.ac 0 (cQ (cS m (m + 1))) [] (by rw [n2, ← aX, cu]; omega)) (a := [.iptr (d9 E), az 0, .imm 6 ((cQ (cS m (m + 1))).map bM), .sc (.slice none 0 0)]) ⟨dx.refl _, dx.refl _, dx.refl _, dx.nil 1, trivial⟩) rfl rfl (Do _) rfl fun c L1 ⟨hc, hL⟩ => ?_
  subst hc; subst hL
  repeat' (first|refine a7 a4 rfl rfl ?_)
  refine aL [] _ (jC _ (List.replicate (m + 1) 1) (by rw [List.length_replicate]; omega)) rfl rfl (Do _) rfl fun c L1 hc => ?_
  subst hc
  rw [hv.1]
  refine aP (bT (L' := [ct]) (List.sublist_append_right ..)) ?_
  repeat' (first|refine a7 a4 rfl rfl ?_|refine ak rfl rfl ?_)
  refine aL [] _ (ld (cS m (m + 1)) (by rw [← aX, cu]; omega)) rfl rfl (Do _) rfl fun c L1 hc => ?_
  subst hc
  refine aP (bT (L' := [ct]) (List.sublist_append_right ..)) ?_
  repeat' (first|refine ak rfl rfl ?_)
  refine aL [ct] [] (AC.args (hA.ac 1 (cQ (cS m (m + 1))) [] (by rw [n2, ← aX, cu]; omega)) (a := [.iptr (d9 E), az 1, .imm 6 ((cQ (cS m (m + 1))).map bM), .sc (.slice none 0 0)]) ⟨dx.refl _, dx.refl _, dx.refl _, dx.nil 1, trivial⟩) rfl rfl (Do _) rfl fun c L1 ⟨hc, hL⟩ => ?_
  subst hc; subst hL
  repeat' (first|refine a7 a4 rfl rfl ?_|refine ak rfl rfl ?_)
  refine aL [] _ (jC _ (dz m (m + 1)) (by rw [← aX, cj]; omega)) rfl rfl (Do _) rfl fun c L1 hc => ?_
  subst hc
  rw [hv.2]
  refine aP (bT (L' := [ct]) (List.sublist_append_right ..)) ?_
  repeat' (first|refine ae ?_|refine a5 ?_|refine a6 ?_|refine a7 a4 rfl rfl ?_)
  exact am rfl rfl ⟨rfl, rfl⟩
end Go.Proofs.YtpmdfoaadejmkaaGreatDoor
