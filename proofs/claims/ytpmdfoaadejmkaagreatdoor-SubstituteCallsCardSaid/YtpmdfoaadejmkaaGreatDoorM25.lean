/-
  What is shown at the head of all laws.
-/
import Derived.Test.YtpmdfoaadejmkaaGreatDoorM24
namespace Go.Proofs.YtpmdfoaadejmkaaGreatDoor
open Go.RowKit
attribute [local irreducible] AT bf AX AO Av Kt aZ df DA cA
def tg (ls : List aQ) : Bool := ls.all (tp 5) && (decide (ls.length ≤ 1000000) && wI ls)
theorem qC {ls : List aQ} (h : tg ls = true) : AC Tryz.prog 15 [cx (dM ls)] [] fun c _ => ∃ E, lh E ∧ zU (.iptr (d9 E)) (cT eS ls) ∧ c = .tup [.iptr (d9 E), az 0] := by
 unfold tg wI at h
 simp only [Bool.and_eq_true, decide_eq_true_eq] at h
 refine AC.mono (uP h.1 h.2.1 (qT h.2.2)) fun c L ⟨E, h1, h2, h3, h4⟩ => ⟨E, h1, ?_, h4⟩
 have := Cp h1
 rwa [h2, h3] at this
theorem v7 : tg xp = true := by decide +kernel
theorem v8 : decide ((sC (cT eS xp) [0, 1] [] (cH [0, 1, 0])).map aF.Glyph = [3, 0]) = true := by decide +kernel
theorem xq : AC Tryz.prog 13 [] [cz] fun c L => c = dx true ∧ L = [cz] := by
 refine aB Tryz.func13 rfl Tryz.ntmps13 rfl fun B => ?_
 repeat' (first|refine a8 ?_|refine a0 ?_|refine a5 ?_|refine a6 ?_|refine a7 a4 rfl rfl ?_|refine cj a4 ?_|fail)
 refine aN [] _ (AC.args (oz xp) ?_) rfl rfl (Do _) rfl fun c L1 hc => ?_
 ·repeat' first | exact dG.refl _ | exact dG.nil _ | exact True.intro | refine dG.agg ?_ | refine dG.imm ?_ | refine And.intro ?_ ?_
 subst hc
 refine aP (bZ (List.sublist_append_right ..)) ?_
 repeat' (first|refine a8 ?_|refine a0 ?_|refine a5 ?_|refine a6 ?_|refine a7 a4 rfl rfl ?_|(apply aO; first|refine a9 1 a4 0 rfl rfl rfl rfl rfl rfl rfl rfl ?_|refine a9 1 a4 1 rfl rfl rfl rfl rfl rfl rfl rfl ?_|refine a9 1 a4 2 rfl rfl rfl rfl rfl rfl rfl rfl ?_|refine aa a4 0 rfl rfl rfl rfl rfl rfl rfl ?_|refine aa a4 1 rfl rfl rfl rfl rfl rfl rfl ?_|refine aa a4 2 rfl rfl rfl rfl rfl rfl rfl ?_|refine aa a4 3 rfl rfl rfl rfl rfl rfl rfl ?_|fail)|refine aY a4 fun _=>?_|fail)
 refine aN [] _ (qC v7) rfl rfl (Do _) rfl fun c L1 hc => ?_
 obtain ⟨E, hE, hA, rfl⟩ := hc
 refine aP (bZ (List.sublist_append_right ..)) ?_
 repeat' (first|refine a8 ?_|refine a0 ?_|refine a5 ?_|refine a6 ?_|refine a7 a4 rfl rfl ?_|refine an rfl rfl ?_)
 refine bG [2] False rfl (fun Q' K => ?_) (fun hC => hC.elim) (fun _ => ?_)
 ·repeat' (first|fail)
  refine n3 Tryz.underlying34 rfl rfl rfl rfl ?_
  repeat' (first|refine a6 ?_|refine a7 a4 rfl rfl ?_)
  exact K _ _ rfl rfl (by simp)
 repeat' (first|refine a8 ?_|refine a0 ?_|refine ah ?_|refine a5 ?_|refine a7 a4 rfl rfl ?_|refine cj a4 ?_|fail)
 refine aN [] _ (om [0, 1, 0] (by decide)) rfl rfl (Do _) rfl fun c L1 hc => ?_
 subst hc
 refine aP (bZ (List.sublist_append_right ..)) ?_
 repeat' (first|fail)
 refine aN [cz] [] (AC.args (z2 (d9 E) hA [0, 1] [] (cH [0, 1, 0]) (by decide)) (a := [.iptr (d9 E), .imm 1 (aU [0, 1]), .sc (.slice none 0 0), .imm 6 ((cH [0, 1, 0]).map bM)]) ⟨dG.refl _, dG.refl _, dG.nil 1, dG.refl _, trivial⟩) rfl rfl (Do _) rfl fun c L1 ⟨hc, hL⟩ => ?_
 subst hc; subst hL
 repeat' (first|refine cj a4 ?_|fail)
 refine aN [] _ (mN _ [3, 0] (by decide)) rfl rfl (Do _) rfl fun c L1 hc => ?_
 subst hc
 rw [v8]
 refine aP (bZ (List.sublist_append_right ..)) ?_
 repeat' (first|refine ae ?_|refine a5 ?_|refine a6 ?_|refine a7 a4 rfl rfl ?_)
 exact ak rfl rfl ⟨rfl, rfl⟩
theorem mQ (l : List Int) : (cH l).length = l.length := fX l 0
def tF (m k : Nat) : List Int := (List.range k).map fun (j : Nat) => if j = m then (1 : Int) else 0
def z0 (m k : Nat) : List Int := (List.range k).map fun (j : Nat) => if (m : Int) - 1 ≤ (j : Int) then (1 : Int) else 0
theorem eY (k : Nat) : (aU (List.replicate k 1)).length = k := by simp [b6]
theorem oB (k : Nat) : aU (List.replicate k 1) ++ [[az 1]] = aU (List.replicate (k + 1) 1) := by
 rw [List.replicate_succ']; simp [aU]
def Ch (m : Nat) : Bool := decide ((cT eS yZ 0 (cH (tF m (m + 1))) []).map aF.Glyph = List.replicate (m + 1) 1) && decide ((cT eS yZ 1 (cH (tF m (m + 1))) []).map aF.Glyph = z0 m (m + 1))
theorem u9 : ((List.range 7).all fun k => tg (my k)) = true := by decide +kernel
def mS (n k : Nat) : Bool := if k = 0 then decide ((cT eS (my k) 0 (cH (List.replicate n 0)) []).length < n) else decide ((cT eS (my k) 0 (cH (List.replicate n 0)) []).map aF.Glyph = List.replicate (n * k) 1)
theorem nH {n k : Nat} (h1 : n < 20) (h2 : k < 7) : mS (n + 1) k = true := by
 have h := List.all_eq_true.1 (List.all_eq_true.1 oW n (List.mem_range.2 h1)) k (List.mem_range.2 h2)
 unfold zJ at h
 unfold mS
 dsimp only at h
 by_cases hk : k = 0
 ·rw [if_pos hk] at h ⊢
  exact h
 ·rw [if_neg hk] at h ⊢
  rw [beq_iff_eq] at h
  exact decide_eq_true h
theorem vY (n o : Int) (h0 : 0 ≤ n) (h255 : n ≤ 255) (o0 : 0 ≤ o) (o255 : o ≤ 255) : AC Tryz.prog 10 [.sc (.int .u8 n), .sc (.int .u8 o)] [cz] fun c L => c = dx true ∧ L = [cz] := by
 refine aB Tryz.func10 rfl Tryz.ntmps10 rfl fun B => ?_
 repeat' (first|refine a8 ?_|refine a0 ?_|refine a5 ?_|refine a6 ?_|refine a7 a4 rfl rfl ?_)
 refine aN [cz] [] xq rfl rfl (Do _) rfl fun c L1 ⟨hc, hL⟩ => ?_
 subst hc; subst hL
 repeat' (first|refine a8 ?_|refine a0 ?_|refine a5 ?_|refine a6 ?_|refine a7 a4 rfl rfl ?_)
 obtain ⟨m, hm, hme⟩ : ∃ m : Nat, m < 20 ∧ n.tmod 20 = m := ⟨(n.tmod 20).toNat, by rw [Int.tmod_eq_emod_of_nonneg h0]; omega, by rw [Int.tmod_eq_emod_of_nonneg h0]; omega⟩
 refine bT (zF rfl rfl (by decide)) rfl rfl ?_
 rw [hme]
 repeat' (first|fail)
 refine k9 a4 rfl rfl rfl rfl rfl rfl ?_
 rw [show IntKind.wrap .i64 (m : Int) = (m : Int) from (by decide : ∀ k : Nat, k < 20 → IntKind.wrap .i64 (k : Int) = (k : Int)) m (by omega)]
 repeat' (first|refine a8 ?_|refine a0 ?_|refine a5 ?_|refine a6 ?_|refine a7 a4 rfl rfl ?_|(apply aS; refine aR ?_)|fail)
 obtain ⟨k, hk, hke⟩ : ∃ k : Nat, k < 7 ∧ o.tmod 7 = k := ⟨(o.tmod 7).toNat, by rw [Int.tmod_eq_emod_of_nonneg o0]; omega, by rw [Int.tmod_eq_emod_of_nonneg o0]; omega⟩
 refine bT (zF rfl rfl (by decide)) rfl rfl ?_
 rw [hke]
 repeat' (first|fail)
 refine k9 a4 rfl rfl rfl rfl rfl rfl ?_
 rw [show IntKind.wrap .i64 (k : Int) = (k : Int) from (by decide : ∀ k : Nat, k < 7 → IntKind.wrap .i64 (k : Int) = (k : Int)) k (by omega)]
 repeat' (first|refine a8 ?_|refine a0 ?_|refine aj ?_|refine a5 ?_|refine a6 ?_|refine a7 a4 rfl rfl ?_|refine qN (n := 0) a4 fun _=>?_|fail)
 refine aK [5, 6, 7] (α := Nat × Option (Nat × Nat)) (fun s => [(9, az s.1), (8, .vec s.2 1 (aU (List.replicate s.1 1)))]) (fun s => s.1 ≤ k) (fun s => tok s.2 3 1 s.1 ++ [cz]) (fun s => k - s.1) (0, some (_, 0)) rfl ⟨rfl, rfl, trivial⟩ (Nat.zero_le _) (fun _ _ h => h) ?_
 rintro ⟨i, q⟩ hi
 dsimp only at hi ⊢
 try dsimp only [Ds, Dr, Dq, Dn]
 repeat' (first|refine a8 ?_|refine a0 ?_|refine a5 ?_|refine a6 ?_|refine a7 a4 rfl rfl ?_)
 refine aq rfl (fun h1 => ?_) (fun h1 => ?_)
 ·have hi2 : i < k := by have := Dz h1; omega
  clear h1
  repeat' (first|refine a8 ?_|refine a0 ?_|refine aj ?_|refine ah ?_|refine a5 ?_|refine a7 a4 rfl rfl ?_|refine cj a4 ?_|fail)
  refine cu a4 [cz] rfl rfl rfl rfl (by rw [eY]) (by rw [eY]; simp; omega) (by rw [eY]; simp; omega) rfl fun q8 => ?_
  rw [oB, eY]
  repeat' (first|refine a0 ?_|refine a5 ?_|refine aH ?_|refine a6 ?_|refine a7 a4 rfl rfl ?_|(apply aS; refine aR ?_)|fail)
  exact ay (i + 1, q8) rfl ⟨by rw [Dv]; rfl, rfl, trivial⟩ hi2 (by dsimp only; omega) (fun _ _ h => h)
 have hi2 : i = k := by have := Dy h1; omega
 subst hi2
 clear h1
 repeat' (first|refine a8 ?_|refine a0 ?_|refine aL ?_|refine a5 ?_|refine ar ?_|refine av ?_|refine au ?_|refine a7 a4 rfl rfl ?_|refine cj a4 ?_|fail)
 refine aP (bZ (L' := [cz]) (List.sublist_append_right _ _)) ?_
 refine aN [] _ (AC.args (oz (my i)) ?_) rfl rfl (Do _) rfl fun c L1 hc => ?_
 ·repeat' first | exact dG.refl _ | exact dG.nil _ | exact vecIm | exact True.intro | refine dG.agg ?_ | refine dG.imm ?_ | refine And.intro ?_ ?_
 subst hc
 refine aP (bZ (List.sublist_append_right ..)) ?_
 repeat' (first|refine a8 ?_|refine a0 ?_|refine a5 ?_|refine a6 ?_|refine a7 a4 rfl rfl ?_|(apply aO; first|refine a9 10 a4 0 rfl rfl rfl rfl rfl rfl rfl rfl ?_|refine a9 10 a4 1 rfl rfl rfl rfl rfl rfl rfl rfl ?_|refine a9 10 a4 2 rfl rfl rfl rfl rfl rfl rfl rfl ?_|refine aa a4 0 rfl rfl rfl rfl rfl rfl rfl ?_|refine aa a4 1 rfl rfl rfl rfl rfl rfl rfl ?_|refine aa a4 2 rfl rfl rfl rfl rfl rfl rfl ?_|refine aa a4 3 rfl rfl rfl rfl rfl rfl rfl ?_|fail)|refine aY a4 fun _=>?_|fail)
 refine aN [] _ (qC (List.all_eq_true.1 u9 i (List.mem_range.2 hk))) rfl rfl (Do _) rfl fun c L1 hc => ?_
 obtain ⟨E, hE, hA, rfl⟩ := hc
 refine aP (bZ (L' := [cz]) (List.sublist_append_right ..)) ?_
 repeat' (first|refine a8 ?_|refine a0 ?_|refine a5 ?_|refine a6 ?_|refine a7 a4 rfl rfl ?_|refine an rfl rfl ?_)
 refine bG [6, 7, 11] False rfl (fun Q' K => ?_) (fun hC => hC.elim) (fun _ => ?_)
 ·repeat' (first|fail)
  refine n3 Tryz.underlying34 rfl rfl rfl rfl ?_
  repeat' (first|refine a6 ?_|refine a7 a4 rfl rfl ?_)
  exact K _ _ rfl rfl (by simp)
 repeat' (first|refine a8 ?_|refine a0 ?_|refine ah ?_|refine a5 ?_|refine a7 a4 rfl rfl ?_)
 refine gP a4 (m + 1) rfl rfl rfl rfl rfl (by omega) (by omega) (by omega) (by omega) rfl fun rb => ?_
 rw [show (List.replicate (m + 1) (List.map AV.sc [Value.int .i64 0])).flatten = cB (List.replicate (m + 1) 0) from il (m + 1)]
 repeat' (first|refine a8 ?_|refine a0 ?_|refine a5 ?_|refine a6 ?_|refine a7 a4 rfl rfl ?_)
 have hcc := eN (List.replicate (m + 1) 0)
 have hrl : (List.replicate (m + 1) (0 : Int)).length = m + 1 := List.length_replicate
 refine aP (gt (t := 75) (sz := 1) (n := m + 1) (cap := m + 1) (l := aU (List.replicate (m + 1) 0)) 0 rfl rfl ?_ (by omega) (fun e he => ?_) (by rw [b6, hrl]) (Nat.le_refl _) (by unfold maxLen; omega)) ?_
 ·rw [← ij, Nat.mul_one, List.take_of_length_le (by omega)]
 ·unfold aU at he
  obtain ⟨y, _, rfl⟩ := List.mem_map.1 he
  rfl
 refine aN [] [cz] (om (List.replicate (m + 1) 0) (by omega)) rfl rfl (Do _) rfl fun c L1 hc => ?_
 subst hc
 refine aP (bZ (L' := [cz]) (List.sublist_append_right ..)) ?_
 repeat' (first|fail)
 refine aN [cz] [] (AC.args (hA.ac 0 (cH (List.replicate (m + 1) 0)) [] (by rw [mQ]; omega)) (a := [.iptr (d9 E), az 0, .imm 6 ((cH (List.replicate (m + 1) 0)).map bM), .sc (.slice none 0 0)]) ⟨dG.refl _, dG.refl _, dG.refl _, dG.nil 1, trivial⟩) rfl rfl (Do _) rfl fun c L1 ⟨hc, hL⟩ => ?_
 subst hc; subst hL
 have hlaw := nH hm hk
 have hlen : (cT eS (my i) 0 (cH (List.replicate (m + 1) 0)) []).length ≤ 1000000 := hA.len 0 _ [] (by rw [mQ]; omega)
 unfold mS at hlaw
 generalize cT eS (my i) 0 (cH (List.replicate (m + 1) 0)) [] = out at hlaw hlen ⊢
 have hol : (out.map bM).length = out.length := Du ..
 have hmk : ((1 : Int) + (m : Int)) * (i : Int) = (((m + 1) * i : Nat) : Int) := by
  rw [Int.natCast_mul, Dv, Int.add_comm]
  rfl
 have hmk2 : (m + 1) * i ≤ 20 * 6 := Nat.mul_le_mul (by omega) (by omega)
 repeat' (first|refine a8 ?_|refine a0 ?_|refine aj ?_|refine a5 ?_|refine a6 ?_|refine a7 a4 rfl rfl ?_|refine qN (n := 0) a4 fun _=>?_|fail)
 refine aK [6, 7, 14] (α := Nat × Option (Nat × Nat)) (fun s => [(16, az s.1), (15, .vec s.2 1 (aU (List.replicate s.1 1)))]) (fun s => s.1 ≤ (m + 1) * i) (fun s => tok s.2 3 1 s.1 ++ [cz]) (fun s => (m + 1) * i - s.1) (0, some (_, 0)) rfl ⟨rfl, rfl, trivial⟩ (Nat.zero_le _) (fun _ _ h => h) ?_
 rintro ⟨j, q⟩ hj
 dsimp only at hj ⊢
 try dsimp only [Ds, Dr, Dq, Dn]
 repeat' (first|refine a8 ?_|refine a0 ?_|refine a5 ?_|refine a6 ?_|refine a7 a4 rfl rfl ?_|(apply aS; refine aR ?_)|fail)
 rw [hmk]
 refine aq rfl (fun h1 => ?_) (fun h1 => ?_)
 ·have hj2 : j < (m + 1) * i := by have := Dz h1; omega
  clear h1
  repeat' (first|refine a8 ?_|refine a0 ?_|refine aj ?_|refine ah ?_|refine a5 ?_|refine a7 a4 rfl rfl ?_|refine cj a4 ?_|fail)
  refine cu a4 [cz] rfl rfl rfl rfl (by rw [eY]) (by rw [eY]; simp; omega) (by rw [eY]; simp; omega) rfl fun q8 => ?_
  rw [oB, eY]
  repeat' (first|refine a0 ?_|refine a5 ?_|refine aH ?_|refine a6 ?_|refine a7 a4 rfl rfl ?_|(apply aS; refine aR ?_)|fail)
  exact ay (j + 1, q8) rfl ⟨by rw [Dv]; rfl, rfl, trivial⟩ hj2 (by dsimp only; omega) (fun _ _ h => h)
 have hj2 : j = (m + 1) * i := by have := Dy h1; omega
 subst hj2
 clear h1
 repeat' (first|refine a8 ?_|refine a0 ?_|refine aL ?_|refine a5 ?_|refine ar ?_|refine av ?_|refine au ?_|refine a6 ?_|refine a7 a4 rfl rfl ?_)
 refine aq rfl (fun h1 => ?_) (fun h1 => ?_)
 ·have hi0 : i = 0 := by have := Dz h1; omega
  rw [if_pos hi0] at hlaw
  clear h1
  repeat' (first|refine a8 ?_|refine a0 ?_|refine ae ?_|refine a5 ?_|refine am ?_|refine a6 ?_|refine a7 a4 rfl rfl ?_)
  have hlt : decide ((out.length : Int) < 1 + (m : Int)) = true := decide_eq_true (by have := Dz hlaw; omega)
  rw [hol, hlt]
  refine du ((List.sublist_append_right _ _) : [cz].Sublist _) ?_
  exact ak rfl rfl ⟨rfl, rfl⟩
 have hi0 : ¬ i = 0 := by have := Dy h1; omega
 rw [if_neg hi0] at hlaw
 clear h1
 repeat' (first|refine a8 ?_|refine a0 ?_|refine ah ?_|refine a5 ?_|refine a7 a4 rfl rfl ?_)
 refine aP (bZ (L' := [cz]) (List.sublist_append_right ..)) ?_
 refine aN [] _ (mN out (List.replicate ((m + 1) * i) 1) (by rw [List.length_replicate]; omega)) rfl rfl (Do _) rfl fun c L1 hc => ?_
 subst hc
 rw [hlaw]
 refine aP (bZ (L' := [cz]) (List.sublist_append_right ..)) ?_
 repeat' (first|refine ae ?_|refine a5 ?_|refine a6 ?_|refine a7 a4 rfl rfl ?_)
 exact ak rfl rfl ⟨rfl, rfl⟩
end Go.Proofs.YtpmdfoaadejmkaaGreatDoor
