/-
  What is shown at the head of all laws.
-/
import Derived.Test.YtpmdfoaadejmkaaGreatDoorM24
import Derived.Test.YtpmdfoaadejmkaaGreatDoorM13
namespace Go.Proofs.YtpmdfoaadejmkaaGreatDoor
open Go.RowKit
attribute [local irreducible] AT bh AX AO Av Kt b6 di DA cC
def tl (ls : List aQ) : Bool := ls.all (tv 5) && (decide (ls.length ≤ 1000000) && wQ ls)
theorem qE {ls : List aQ} (h : tl ls = true) : AC Tryz.prog 15 [cz (dP ls)] [] fun c _ => ∃ E, ln E ∧ zY (.iptr (da E)) (d8 f8 ls) ∧ c = .tup [.iptr (da E), aA 0] := by
 unfold tl wQ at h
 simp only [Bool.and_eq_true, decide_eq_true_eq] at h
 refine AC.mono (uW h.1 h.2.1 (qT h.2.2)) fun c L ⟨E, h1, h2, h3, h4⟩ => ⟨E, h1, ?_, h4⟩
 have := Cv h1
 rwa [h2, h3] at this
theorem ve : tl xz = true := by decide +kernel
theorem vf : decide ((sE (d8 f8 xz) [0, 1] [] (cN [0, 1, 0])).map aG.Glyph = [3, 0]) = true := by decide +kernel
theorem xA : AC Tryz.prog 13 [] [cr] fun c L => c = dx true ∧ L = [cr] := by
 refine aC Tryz.func13 rfl Tryz.ntmps13 rfl fun B => ?_
 repeat' (first|refine a9 ?_|refine a4 ?_|refine a6 ?_|refine a7 ?_|refine a8 a5 rfl rfl ?_|refine ce a5 ?_|fail)
 refine aO [] _ (AC.args (oC xz) ?_) rfl rfl (Do _) rfl fun c L1 hc => ?_
 ·repeat' first | exact dJ.refl _ | exact dJ.nil _ | exact True.intro | refine dJ.agg ?_ | refine dJ.imm ?_ | refine And.intro ?_ ?_
 subst hc
 refine aR (cf (List.sublist_append_right ..)) ?_
 repeat' (first|refine a9 ?_|refine a4 ?_|refine a6 ?_|refine a7 ?_|refine a8 a5 rfl rfl ?_|(apply aP; first|refine aa 1 a5 0 rfl rfl rfl rfl rfl rfl rfl rfl ?_|refine aa 1 a5 1 rfl rfl rfl rfl rfl rfl rfl rfl ?_|refine aa 1 a5 2 rfl rfl rfl rfl rfl rfl rfl rfl ?_|refine ad a5 0 rfl rfl rfl rfl rfl rfl rfl ?_|refine ad a5 1 rfl rfl rfl rfl rfl rfl rfl ?_|refine ad a5 2 rfl rfl rfl rfl rfl rfl rfl ?_|refine ad a5 3 rfl rfl rfl rfl rfl rfl rfl ?_|fail)|refine b4 a5 fun _=>?_|fail)
 refine aO [] _ (qE ve) rfl rfl (Do _) rfl fun c L1 hc => ?_
 obtain ⟨E, hE, hA, rfl⟩ := hc
 refine aR (cf (List.sublist_append_right ..)) ?_
 repeat' (first|refine a9 ?_|refine a4 ?_|refine a6 ?_|refine a7 ?_|refine a8 a5 rfl rfl ?_|refine am rfl rfl ?_)
 refine bH [2] False rfl (fun Q' K => ?_) (fun hC => hC.elim) (fun _ => ?_)
 ·repeat' (first|fail)
  refine n7 Tryz.underlying34 rfl rfl rfl rfl ?_
  repeat' (first|refine a7 ?_|refine a8 a5 rfl rfl ?_)
  exact K _ _ rfl rfl (by simp)
 repeat' (first|refine a9 ?_|refine a4 ?_|refine ai ?_|refine a6 ?_|refine a8 a5 rfl rfl ?_|refine ce a5 ?_|fail)
 refine aO [] _ (oq [0, 1, 0] (by decide)) rfl rfl (Do _) rfl fun c L1 hc => ?_
 subst hc
 refine aR (cf (List.sublist_append_right ..)) ?_
 repeat' (first|fail)
 refine aO [cr] [] (AC.args (z9 (da E) hA [0, 1] [] (cN [0, 1, 0]) (by decide)) (a := [.iptr (da E), .imm 1 (aT [0, 1]), .sc (.slice none 0 0), .imm 6 ((cN [0, 1, 0]).map bN)]) ⟨dJ.refl _, dJ.refl _, dJ.nil 1, dJ.refl _, trivial⟩) rfl rfl (Do _) rfl fun c L1 ⟨hc, hL⟩ => ?_
 subst hc; subst hL
 repeat' (first|refine ce a5 ?_|fail)
 refine aO [] _ (mT _ [3, 0] (by decide)) rfl rfl (Do _) rfl fun c L1 hc => ?_
 subst hc
 rw [vf]
 refine aR (cf (List.sublist_append_right ..)) ?_
 repeat' (first|refine ah ?_|refine a6 ?_|refine a7 ?_|refine a8 a5 rfl rfl ?_)
 exact an rfl rfl ⟨rfl, rfl⟩
theorem sb (l : List Int) : (cN l).length = l.length := g8 l 0
def tL (m k : Nat) : List Int := (List.range k).map fun (j : Nat) => if j = m then (1 : Int) else 0
def z7 (m k : Nat) : List Int := (List.range k).map fun (j : Nat) => if (m : Int) - 1 ≤ (j : Int) then (1 : Int) else 0
def Co (m : Nat) : Bool := decide ((d8 f8 z6 0 (cN (tL m (m + 1))) []).map aG.Glyph = List.replicate (m + 1) 1) && decide ((d8 f8 z6 1 (cN (tL m (m + 1))) []).map aG.Glyph = z7 m (m + 1))
theorem uI (ig : Bool) : tl (ox ig) = true := by
 revert ig
 decide +kernel
def ey (a b c : Nat) : Nat → List Int
 | 0 => []
 | 1 => List.replicate a 4 ++ [0]
 | 2 => List.replicate a 4 ++ 0 :: (List.replicate b 4 ++ [1])
 | _ => d4 a b c
def iN (a b c : Nat) : Nat → List Int
 | 0 => []
 | 1 => List.replicate a 4 ++ [2]
 | 2 => List.replicate a 4 ++ 2 :: List.replicate b 4
 | _ => List.replicate a 4 ++ 2 :: (List.replicate b 4 ++ List.replicate c 4)
theorem iZ (l : List Int) (g : Int) : aT l ++ [[aA g]] = aT (l ++ [g]) := by simp [aT]
theorem uJ {a b c : Nat} (ha : a < 8) (hb : b < 8) (hc : c < 8) (ig : Bool) : (d8 f8 (ox ig) 0 (cN (d4 a b c)) []).map aG.Glyph = cE a b c ig ∧ ((cE a b c ig).length = (d4 a b c).length ∨ ∃ x, (d8 f8 (ox ig) 0 (cN (d4 a b c)) [])[a]? = some x ∧ x.Cluster = a) := by
 have h := List.all_eq_true.1 (List.all_eq_true.1 (List.all_eq_true.1 pe a (List.mem_range.2 ha)) b (List.mem_range.2 hb)) c (List.mem_range.2 hc)
 rw [Bool.and_eq_true] at h
 have h : pf a b c ig = true := by cases ig; exact h.2; exact h.1
 unfold pf at h
 dsimp only at h
 rw [Bool.and_eq_true, Bool.or_eq_true, beq_iff_eq] at h
 refine ⟨h.1, h.2.imp (fun h => Dz h) fun h => ?_⟩
 split at h
 ·rename_i x hx
  exact ⟨x, hx, Dz h⟩
 ·cases h
theorem wS (x y z : Int) (ig : Bool) (hx : 0 ≤ x ∧ x ≤ 255) (hy : 0 ≤ y ∧ y ≤ 255) (hz : 0 ≤ z ∧ z ≤ 255) : AC Tryz.prog 9 [.agg [.sc (.int .u8 x), .sc (.int .u8 y), .sc (.int .u8 z)], dx ig] [cr] fun c L => c = dx true ∧ L = [cr] := by
 have hm8 : ∀ v : Int, 0 ≤ v → ∃ k : Nat, k < 8 ∧ v.tmod 8 = k := fun v hv => ⟨(v.tmod 8).toNat, by rw [Int.tmod_eq_emod_of_nonneg hv]; omega, by rw [Int.tmod_eq_emod_of_nonneg hv]; omega⟩
 obtain ⟨A1, hA1, hA2⟩ := hm8 x hx.1
 obtain ⟨B1, hB1, hB2⟩ := hm8 y hy.1
 obtain ⟨C1, hC1, hC2⟩ := hm8 z hz.1
 refine aC Tryz.func9 rfl Tryz.ntmps9 rfl fun B => ?_
 repeat' (first|refine a9 ?_|refine a4 ?_|refine a6 ?_|refine a7 ?_|refine a8 a5 rfl rfl ?_|refine aZ ?_|fail)
 refine aO [cr] [] xA rfl rfl (Do _) rfl fun c L1 ⟨hc, hL⟩ => ?_
 subst hc; subst hL
 repeat' (first|refine a9 ?_|refine a4 ?_|refine a6 ?_|refine a7 ?_|refine a8 a5 rfl rfl ?_|refine ce a5 ?_|fail)
 refine aO [] _ (AC.args (oC (ox ig)) ?_) rfl rfl (Do _) rfl fun c L1 hc => ?_
 ·repeat' first | exact dJ.refl _ | exact dJ.nil _ | exact vecIm | exact True.intro | refine dJ.agg ?_ | refine dJ.imm ?_ | refine And.intro ?_ ?_
 subst hc
 refine aR (cf (List.sublist_append_right ..)) ?_
 repeat' (first|refine a9 ?_|refine a4 ?_|refine a6 ?_|refine a7 ?_|refine a8 a5 rfl rfl ?_|(apply aP; first|refine aa 6 a5 0 rfl rfl rfl rfl rfl rfl rfl rfl ?_|refine aa 6 a5 1 rfl rfl rfl rfl rfl rfl rfl rfl ?_|refine aa 6 a5 2 rfl rfl rfl rfl rfl rfl rfl rfl ?_|refine ad a5 0 rfl rfl rfl rfl rfl rfl rfl ?_|refine ad a5 1 rfl rfl rfl rfl rfl rfl rfl ?_|refine ad a5 2 rfl rfl rfl rfl rfl rfl rfl ?_|refine ad a5 3 rfl rfl rfl rfl rfl rfl rfl ?_|fail)|refine b4 a5 fun _=>?_|fail)
 refine aO [] _ (qE (uI ig)) rfl rfl (Do _) rfl fun c L1 hc => ?_
 obtain ⟨E, hE, hA, rfl⟩ := hc
 refine aR (cf (L' := [cr]) (List.sublist_append_right ..)) ?_
 repeat' (first|refine a9 ?_|refine a4 ?_|refine a6 ?_|refine a7 ?_|refine a8 a5 rfl rfl ?_|refine am rfl rfl ?_)
 refine bH [1, 2, 7] False rfl (fun Q' K => ?_) (fun hC => hC.elim) (fun _ => ?_)
 ·repeat' (first|fail)
  refine n7 Tryz.underlying34 rfl rfl rfl rfl ?_
  repeat' (first|refine a7 ?_|refine a8 a5 rfl rfl ?_)
  exact K _ _ rfl rfl (by simp)
 repeat' (first|refine a9 ?_|refine a4 ?_|refine ak ?_|refine ai ?_|refine a6 ?_|refine a7 ?_|refine a8 a5 rfl rfl ?_|refine tB (n := 0) a5 fun _=>?_|fail)
 rename_i rb wb
 refine aL [1, 2, 7, 10] (α := Nat × Option (Nat × Nat)) (fun s => [(11, aA s.1), (9, .vec s.2 1 (aT (ey A1 B1 C1 s.1)))]) (fun s => s.1 ≤ 3) (fun s => tok s.2 3 1 (aT (ey A1 B1 C1 s.1)).length ++ (tok (some (wb, 0)) 3 1 0 ++ [cr])) (fun s => 3 - s.1) (0, some (_, 0)) rfl ⟨rfl, rfl, trivial⟩ (Nat.zero_le _) (fun _ _ h => h.perm (List.Perm.swap ..)) ?_
 rintro ⟨k, q⟩ hk
 dsimp only at hk ⊢
 try dsimp only [Ds, Dr, Dq, Dn]
 repeat' (first|refine a9 ?_|refine a4 ?_|refine a6 ?_|refine a7 ?_|refine a8 a5 rfl rfl ?_)
 refine ar rfl (fun h1 => ?_) (fun h1 => ?_)
 ·have hk3 : k < 3 := by have := Dz h1; omega
  clear h1
  obtain ⟨v, n, ⟨rest, hv⟩, hvn, hn, hst⟩ : ∃ (v : Int) (n : Nat), (∃ rest, [AV.sc (.int .u8 x), AV.sc (.int .u8 y), AV.sc (.int .u8 z)].drop (k * 1) = AV.sc (.int .u8 v) :: rest) ∧ v.tmod 8 = n ∧ n < 8 ∧ ey A1 B1 C1 (k + 1) = ey A1 B1 C1 k ++ List.replicate n 4 ++ (if k < 2 then [(k : Int)] else []) := by
   have : k = 0 ∨ k = 1 ∨ k = 2 := by omega
   rcases this with rfl | rfl | rfl
   ·exact ⟨x, A1, ⟨_, rfl⟩, hA2, hA1, by simp [ey]⟩
   ·exact ⟨y, B1, ⟨_, rfl⟩, hB2, hB1, by simp [ey]⟩
   ·exact ⟨z, C1, ⟨_, rfl⟩, hC2, hC1, by simp [ey, d4]⟩
  repeat' (first|refine a9 ?_|refine a4 ?_|refine ak ?_|refine ai ?_|refine a6 ?_|refine a7 ?_|refine a8 a5 rfl rfl ?_)
  generalize hP : ey A1 B1 C1 k = P at *
  refine aL [1, 2, 7, 10, 11] (α := Nat × Option (Nat × Nat)) (fun s => [(12, aA s.1), (9, .vec s.2 1 (aT (P ++ List.replicate s.1 4)))]) (fun s => s.1 ≤ n) (fun s => tok s.2 3 1 (aT (P ++ List.replicate s.1 4)).length ++ (tok (some (wb, 0)) 3 1 0 ++ [cr])) (fun s => n - s.1) (0, q) rfl ⟨rfl, by rw [show P ++ List.replicate 0 4 = P from List.append_nil P]; rfl, trivial⟩ (Nat.zero_le _) (fun _ _ h => by dsimp only; rw [show P ++ List.replicate 0 4 = P from List.append_nil P]; exact h) ?_
  rintro ⟨j, q2⟩ hj
  dsimp only at hj ⊢
  try dsimp only [Ds, Dr, Dq, Dn]
  repeat' (first|refine a9 ?_|refine a4 ?_|refine a8 a5 rfl rfl ?_)
  refine tz a5 k ?_ rfl rfl rfl (by rw [Nat.blt_eq]; exact hk3) (Nat.ble_eq_true_of_le (by show k * 1 ≤ 3; omega)) rfl
  rw [hv]
  repeat' (first|refine a8 a5 rfl rfl ?_)
  refine bO (sZ rfl rfl (by decide)) rfl rfl ?_
  rw [hvn]
  repeat' (first|fail)
  refine gT a5 rfl rfl rfl rfl rfl rfl ?_
  rw [show IntKind.wrap .i64 (n : Int) = (n : Int) from (by decide : ∀ k : Nat, k < 8 → IntKind.wrap .i64 (k : Int) = (k : Int)) n hn]
  repeat' (first|refine a6 ?_|refine a7 ?_|refine a8 a5 rfl rfl ?_)
  refine ar rfl (fun h1 => ?_) (fun h1 => ?_)
  ·have hj2 : j < n := by have := Dz h1; omega
   clear h1
   repeat' (first|refine a9 ?_|refine a4 ?_|refine ak ?_|refine ai ?_|refine a6 ?_|refine a8 a5 rfl rfl ?_|refine ce a5 ?_|fail)
   have hPl : P.length ≤ 40 := by
    rw [← hP]
    have : k = 0 ∨ k = 1 ∨ k = 2 := by omega
    rcases this with rfl | rfl | rfl <;> simp [ey] <;> omega
   refine cj a5 (tok (some (wb, 0)) 3 1 0 ++ [cr]) rfl rfl rfl rfl (Do _) (by simp [aW]; omega) (by simp [aW]; omega) rfl fun q8 => ?_
   rw [iZ, List.append_assoc, show List.replicate j (4 : Int) ++ [4] = List.replicate (j + 1) 4 from List.replicate_succ'.symm]
   repeat' (first|refine a4 ?_|refine a6 ?_|refine aH ?_|refine a7 ?_|refine a8 a5 rfl rfl ?_|(apply aU; refine aS ?_)|fail)
   exact az (j + 1, q8) rfl ⟨by rw [Dv]; rfl, rfl, trivial⟩ hj2 (by dsimp only; omega) (fun _ _ h => h)
  have hj2 : j = n := by have := Dy h1; omega
  subst hj2
  clear h1
  repeat' (first|refine a9 ?_|refine a4 ?_|refine aM ?_|refine a6 ?_|refine au ?_|refine aw ?_|refine av ?_|refine a7 ?_|refine a8 a5 rfl rfl ?_)
  have hPl : P.length ≤ 40 := by
   rw [← hP]
   have : k = 0 ∨ k = 1 ∨ k = 2 := by omega
   rcases this with rfl | rfl | rfl <;> simp [ey] <;> omega
  refine ar rfl (fun h1 => ?_) (fun h1 => ?_)
  ·have hk2 : k < 2 := by have := Dz h1; omega
   rw [if_pos hk2] at hst
   clear h1
   repeat' (first|refine a4 ?_|refine a8 a5 rfl rfl ?_|refine ce a5 ?_|fail)
   refine cj a5 (tok (some (wb, 0)) 3 1 0 ++ [cr]) rfl rfl rfl rfl (Do _) (by simp [aW]; omega) (by simp [aW]; omega) rfl fun q8 => ?_
   rw [iZ, ← hst]
   repeat' (first|refine a4 ?_|refine a6 ?_|refine aH ?_|refine a7 ?_|refine a8 a5 rfl rfl ?_|(apply aU; refine aS ?_)|fail)
   exact az (k + 1, q8) rfl ⟨by rw [Dv]; rfl, rfl, trivial⟩ hk3 (by dsimp only; omega) (fun _ _ h => h)
  ·have hk2 : ¬ k < 2 := by have := Dy h1; omega
   rw [if_neg hk2, List.append_nil] at hst
   rw [← hst]
   clear h1
   repeat' (first|refine a4 ?_|refine ai ?_|refine a6 ?_|refine aH ?_|refine a7 ?_|refine a8 a5 rfl rfl ?_|(apply aU; refine aS ?_)|fail)
   exact az (k + 1, q2) rfl ⟨by rw [Dv]; rfl, rfl, trivial⟩ hk3 (by dsimp only; omega) (fun _ _ h => h)
 have hk2 : k = 3 := by have := Dy h1; omega
 subst hk2
 clear h1
 repeat' (first|refine a9 ?_|refine a4 ?_|refine aM ?_|refine a6 ?_|refine au ?_|refine aw ?_|refine av ?_)
 refine tz a5 1 ?_
 repeat' (first|refine a8 a5 rfl rfl ?_)
 refine bO (sZ rfl rfl (by decide)) rfl rfl ?_
 rw [hB2]
 repeat' (first|fail)
 refine gT a5 rfl rfl rfl rfl rfl rfl ?_
 rw [show IntKind.wrap .i64 (B1 : Int) = (B1 : Int) from (by decide : ∀ k : Nat, k < 8 → IntKind.wrap .i64 (k : Int) = (k : Int)) B1 hB1]
 repeat' (first|refine a9 ?_|refine a4 ?_|refine a6 ?_|refine a7 ?_|refine a8 a5 rfl rfl ?_)
 refine cA (t := 77) [2, 7, 9, 10] (0 < B1 ∧ ig = false) rfl (fun Q' K => ?_) ?_
 ·repeat' (first|refine a7 ?_|refine a8 a5 rfl rfl ?_|refine am rfl rfl ?_|refine ax rfl rfl rfl rfl ?_|refine aI rfl rfl rfl (fun _ => ?_) (fun _ => ?_))
  all_goals exact K _ _ rfl rfl (by simp_all <;> omega)
 refine a6 ?_
 refine t3 (α := Option (Nat × Nat)) [2, 7, 9, 10] (fun p => [(2, .iptr [.sc (.int .u8 x), .sc (.int .u8 y), .sc (.int .u8 z)]), (7, .iptr (da E)), (9, .vec q 1 (aT (ey A1 B1 C1 3))), (10, .vec p 1 (aT (cE A1 B1 C1 ig)))]) (fun _ => [cr]) (fun _ => True) (fun Q' K => ?_) (fun p _ => ?_)
 ·refine ar rfl (fun h1 => ?_) (fun h1 => ?_)
  ·have hc := Dz h1
   have hw : cE A1 B1 C1 ig = ey A1 B1 C1 3 := by unfold cE; rw [if_pos hc]; rfl
   rw [hw] at K
   repeat' (first|refine a4 ?_|refine a7 ?_|refine a8 a5 rfl rfl ?_)
   refine dk ((List.sublist_append_right _ _).trans (List.sublist_append_right _ _) : [cr].Sublist _) ?_
   exact K q _ trivial rfl
  ·have hc := Dy h1
   have hw : cE A1 B1 C1 ig = iN A1 B1 C1 3 := by unfold cE; rw [if_neg hc]; rfl
   rw [hw] at K
   clear h1
   repeat' (first|refine a9 ?_|refine a4 ?_|refine ak ?_|refine a6 ?_|refine a7 ?_|refine a8 a5 rfl rfl ?_)
   refine aL [2, 7, 9] (α := Nat × Option (Nat × Nat)) (fun s => [(14, aA s.1), (10, .vec s.2 1 (aT (iN A1 B1 C1 s.1)))]) (fun s => s.1 ≤ 3) (fun s => tok s.2 3 1 (aT (iN A1 B1 C1 s.1)).length ++ (tok q 3 1 (aT (ey A1 B1 C1 3)).length ++ [cr])) (fun s => 3 - s.1) (0, some (wb, 0)) rfl ⟨rfl, rfl, trivial⟩ (Nat.zero_le _) (fun _ _ h => h.perm (List.perm_append_comm_assoc ..)) ?_
   rintro ⟨k, p⟩ hk
   dsimp only at hk ⊢
   try dsimp only [Ds, Dr, Dq, Dn]
   repeat' (first|refine a9 ?_|refine a4 ?_|refine a6 ?_|refine a7 ?_|refine a8 a5 rfl rfl ?_)
   refine ar rfl (fun h1 => ?_) (fun h1 => ?_)
   ·have hk3 : k < 3 := by have := Dz h1; omega
    clear h1
    obtain ⟨v, n, ⟨rest, hv⟩, hvn, hn, hst⟩ : ∃ (v : Int) (n : Nat), (∃ rest, [AV.sc (.int .u8 x), AV.sc (.int .u8 y), AV.sc (.int .u8 z)].drop (k * 1) = AV.sc (.int .u8 v) :: rest) ∧ v.tmod 8 = n ∧ n < 8 ∧ iN A1 B1 C1 (k + 1) = iN A1 B1 C1 k ++ List.replicate n 4 ++ (if k = 0 then [2] else []) := by
     have : k = 0 ∨ k = 1 ∨ k = 2 := by omega
     rcases this with rfl | rfl | rfl
     ·exact ⟨x, A1, ⟨_, rfl⟩, hA2, hA1, by simp [iN]⟩
     ·exact ⟨y, B1, ⟨_, rfl⟩, hB2, hB1, by simp [iN]⟩
     ·exact ⟨z, C1, ⟨_, rfl⟩, hC2, hC1, by simp [iN]⟩
    repeat' (first|refine a9 ?_|refine a4 ?_|refine ak ?_|refine ai ?_|refine a6 ?_|refine a7 ?_|refine a8 a5 rfl rfl ?_)
    have hPl : (iN A1 B1 C1 k).length ≤ 40 := by
     have : k = 0 ∨ k = 1 ∨ k = 2 := by omega
     rcases this with rfl | rfl | rfl <;> simp [iN] <;> omega
    generalize hP : iN A1 B1 C1 k = P at *
    refine aL [2, 7, 9, 14] (α := Nat × Option (Nat × Nat)) (fun s => [(15, aA s.1), (10, .vec s.2 1 (aT (P ++ List.replicate s.1 4)))]) (fun s => s.1 ≤ n) (fun s => tok s.2 3 1 (aT (P ++ List.replicate s.1 4)).length ++ (tok q 3 1 (aT (ey A1 B1 C1 3)).length ++ [cr])) (fun s => n - s.1) (0, p) rfl ⟨rfl, by rw [show P ++ List.replicate 0 4 = P from List.append_nil P]; rfl, trivial⟩ (Nat.zero_le _) (fun _ _ h => by dsimp only; rw [show P ++ List.replicate 0 4 = P from List.append_nil P]; exact h) ?_
    rintro ⟨j, q2⟩ hj
    dsimp only at hj ⊢
    try dsimp only [Ds, Dr, Dq, Dn]
    repeat' (first|refine a9 ?_|refine a4 ?_|refine a8 a5 rfl rfl ?_)
    refine tz a5 k ?_ rfl rfl rfl (by rw [Nat.blt_eq]; exact hk3) (Nat.ble_eq_true_of_le (by show k * 1 ≤ 3; omega)) rfl
    rw [hv]
    repeat' (first|refine a8 a5 rfl rfl ?_)
    refine bO (sZ rfl rfl (by decide)) rfl rfl ?_
    rw [hvn]
    repeat' (first|fail)
    refine gT a5 rfl rfl rfl rfl rfl rfl ?_
    rw [show IntKind.wrap .i64 (n : Int) = (n : Int) from (by decide : ∀ k : Nat, k < 8 → IntKind.wrap .i64 (k : Int) = (k : Int)) n hn]
    repeat' (first|refine a6 ?_|refine a7 ?_|refine a8 a5 rfl rfl ?_)
    refine ar rfl (fun h1 => ?_) (fun h1 => ?_)
    ·have hj2 : j < n := by have := Dz h1; omega
     clear h1
     repeat' (first|refine a9 ?_|refine a4 ?_|refine ak ?_|refine ai ?_|refine a6 ?_|refine a8 a5 rfl rfl ?_|refine ce a5 ?_|fail)
     refine cj a5 (tok q 3 1 (aT (ey A1 B1 C1 3)).length ++ [cr]) rfl rfl rfl rfl (Do _) (by simp [aW]; omega) (by simp [aW]; omega) rfl fun q8 => ?_
     rw [iZ, List.append_assoc, show List.replicate j (4 : Int) ++ [4] = List.replicate (j + 1) 4 from List.replicate_succ'.symm]
     repeat' (first|refine a4 ?_|refine a6 ?_|refine aH ?_|refine a7 ?_|refine a8 a5 rfl rfl ?_|(apply aU; refine aS ?_)|fail)
     exact az (j + 1, q8) rfl ⟨by rw [Dv]; rfl, rfl, trivial⟩ hj2 (by dsimp only; omega) (fun _ _ h => h)
    have hj2 : j = n := by have := Dy h1; omega
    subst hj2
    clear h1
    repeat' (first|refine a9 ?_|refine a4 ?_|refine aM ?_|refine a6 ?_|refine au ?_|refine aw ?_|refine av ?_|refine a7 ?_|refine a8 a5 rfl rfl ?_)
    refine ar rfl (fun h1 => ?_) (fun h1 => ?_)
    ·have hk2 : k = 0 := by have := Dz h1; omega
     rw [if_pos hk2] at hst
     clear h1
     repeat' (first|refine a4 ?_|refine a8 a5 rfl rfl ?_|refine ce a5 ?_|fail)
     refine cj a5 (tok q 3 1 (aT (ey A1 B1 C1 3)).length ++ [cr]) rfl rfl rfl rfl (Do _) (by simp [aW]; omega) (by simp [aW]; omega) rfl fun q8 => ?_
     rw [iZ, ← hst]
     repeat' (first|refine a4 ?_|refine a6 ?_|refine aH ?_|refine a7 ?_|refine a8 a5 rfl rfl ?_|(apply aU; refine aS ?_)|fail)
     exact az (k + 1, q8) rfl ⟨by rw [Dv]; rfl, rfl, trivial⟩ hk3 (by dsimp only; omega) (fun _ _ h => h)
    ·have hk2 : ¬ k = 0 := by have := Dy h1; omega
     rw [if_neg hk2, List.append_nil] at hst
     rw [← hst]
     clear h1
     repeat' (first|refine a4 ?_|refine ai ?_|refine a6 ?_|refine aH ?_|refine a7 ?_|refine a8 a5 rfl rfl ?_|(apply aU; refine aS ?_)|fail)
     exact az (k + 1, q2) rfl ⟨by rw [Dv]; rfl, rfl, trivial⟩ hk3 (by dsimp only; omega) (fun _ _ h => h)
   have hk2 : k = 3 := by have := Dy h1; omega
   subst hk2
   clear h1
   repeat' (first|refine aM ?_|refine au ?_|refine aw ?_|refine av ?_)
   refine dk ((List.sublist_append_right _ _).trans (List.sublist_append_right _ _) : [cr].Sublist _) ?_
   exact K p _ trivial rfl
 ·have hml : (d4 A1 B1 C1).length ≤ 1000000 := by simp [d4]; omega
  have hwl : (cE A1 B1 C1 ig).length ≤ 1000000 := by unfold cE; split <;> simp [d4] <;> omega
  repeat' (first|refine a9 ?_|refine a4 ?_|refine a8 a5 rfl rfl ?_)
  refine aO [] [cr] (oq (d4 A1 B1 C1) hml) rfl rfl (Do _) rfl fun c L1 hc => ?_
  subst hc
  refine aR (cf (L' := [cr]) (List.sublist_append_right ..)) ?_
  repeat' (first|fail)
  refine aO [cr] [] (AC.args (hA.ac 0 (cN (d4 A1 B1 C1)) [] (by rw [sb]; omega)) (a := [.iptr (da E), aA 0, .imm 6 ((cN (d4 A1 B1 C1)).map bN), .sc (.slice none 0 0)]) ⟨dJ.refl _, dJ.refl _, dJ.refl _, dJ.nil 1, trivial⟩) rfl rfl (Do _) rfl fun c L1 ⟨hc, hL⟩ => ?_
  subst hc; subst hL
  have hlaw := uJ hA1 hB1 hC1 ig
  generalize d8 f8 (ox ig) 0 (cN (d4 A1 B1 C1)) [] = out at hlaw ⊢
  repeat' (first|refine a9 ?_|refine a4 ?_|refine a6 ?_|refine a7 ?_|refine a8 a5 rfl rfl ?_)
  refine tz a5 0 ?_
  repeat' (first|refine a8 a5 rfl rfl ?_)
  refine bO (sZ rfl rfl (by decide)) rfl rfl ?_
  rw [hA2]
  repeat' (first|fail)
  refine gT a5 rfl rfl rfl rfl rfl rfl ?_
  rw [show IntKind.wrap .i64 (A1 : Int) = (A1 : Int) from (by decide : ∀ k : Nat, k < 8 → IntKind.wrap .i64 (k : Int) = (k : Int)) A1 hA1]
  repeat' (first|refine a9 ?_|refine a4 ?_|refine a6 ?_|refine a7 ?_|refine a8 a5 rfl rfl ?_)
  refine aO [] [cr] (mT out (cE A1 B1 C1 ig) hwl) rfl rfl (Do _) rfl fun c L1 hc => ?_
  subst hc
  rw [decide_eq_true hlaw.1]
  refine aR (cf (L' := [cr]) (List.sublist_append_right ..)) ?_
  have hw1 : (aT (cE A1 B1 C1 ig)).length = (cE A1 B1 C1 ig).length := aW _
  have hw2 : (aT (ey A1 B1 C1 3)).length = (d4 A1 B1 C1).length := aW _
  repeat' (first|refine a8 a5 rfl rfl ?_|refine am rfl rfl ?_)
  by_cases he : (cE A1 B1 C1 ig).length = (d4 A1 B1 C1).length
  ·have hd : decide (((aT (cE A1 B1 C1 ig)).length : Int) = ((aT (ey A1 B1 C1 3)).length : Int)) = true := decide_eq_true (by omega)
   first
    | rw [hd]
    | skip
   repeat' (first|refine ah ?_|refine a6 ?_|refine a7 ?_|refine a8 a5 rfl rfl ?_|refine am rfl rfl ?_|refine ax rfl rfl rfl rfl ?_)
   exact an rfl rfl ⟨rfl, rfl⟩
  ·obtain ⟨x0, hx0, hx1⟩ := hlaw.2.resolve_left he
   have hd : decide (((aT (cE A1 B1 C1 ig)).length : Int) = ((aT (ey A1 B1 C1 3)).length : Int)) = false := decide_eq_false (by omega)
   have hxg : (out.map bN)[A1]? = some (bN x0) := by simp [hx0]
   first
    | rw [hd]
    | skip
   repeat' (first|refine ah ?_|refine a6 ?_|refine a7 ?_|refine a8 a5 rfl rfl ?_|refine am rfl rfl ?_|(apply aF; first|refine aE a5 ?_|refine aB a5 ?_)|fail)
   rw [decide_eq_true hx1]
   exact an rfl rfl ⟨rfl, rfl⟩
end Go.Proofs.YtpmdfoaadejmkaaGreatDoor
namespace Go.Proofs.YtpmdfoaadejmkaaGreatDoor
open Go.ChangeShapes Go.WideShapes Go.ChangeAt Go.RowKit
section
variable {H : Type} {enc : TypeId × Value → H} {W : World}
set_option maxRecDepth 100000 in
theorem sw {base : Nat} {v : Value} {d : DataW H} {p : List MemPlace} (hok : Value.okWide Tryz.prog W .any base 88 v) (h : DataW.Trod enc Tryz.prog W 0 (fun _ => true) true 88 v d p) : ∃ a b c, (0 ≤ a ∧ a ≤ 255) ∧ (0 ≤ b ∧ b ≤ 255) ∧ (0 ≤ c ∧ c ≤ 255) ∧ ∀ σ, VR σ (.agg [.sc (.int .u8 a), .sc (.int .u8 b), .sc (.int .u8 c)]) v := by
 have hc : ∃ cs, v = .agg cs := by
  simp only [Value.okWide, Tryz.underlying88] at hok
  obtain ⟨cs, h1, _⟩ := hok
  exact ⟨cs, h1⟩
 obtain ⟨cs, rfl⟩ := hc
 obtain ⟨fuel, hf⟩ := h
 obtain ⟨xs, m, _, _, h1, h2, h3⟩ := DataW.trod_array Tryz.underlying88 (show DataW.trod enc Tryz.prog W 0 (fun _ => true) true fuel 88 cs.toList = some _ by simpa [Value.cells] using hf)
 have c1 : Tryz.prog.cellsOf 5 = 1 := by kernel_rfl
 have c3 : Tryz.prog.cellsOf 88 = 3 := by kernel_rfl
 rw [c1] at h3
 rw [c3] at h1
 obtain ⟨ls⟩ := cs
 have k : ∀ i, i < 3 → ∃ z, (0 ≤ z ∧ z ≤ 255) ∧ (ls.drop (i * 1)).take 1 = [.int .u8 z] := fun i hi => by
  have h4 := h3 i hi
  rw [Bn (show i < xs.length by omega)] at h4
  obtain ⟨z, hz, _, hw⟩ := DataW.trod_int Tryz.underlying5 h4
  exact ⟨z, Cg hw, hz⟩
 obtain ⟨a, wa, ha⟩ := k 0 (by omega)
 obtain ⟨b, wb, hb⟩ := k 1 (by omega)
 obtain ⟨c, wc, hc⟩ := k 2 (by omega)
 match ls, h1 with
 | [x, y, z], _ =>
  simp at ha hb hc
  subst ha
  subst hb
  subst hc
  exact ⟨a, b, c, wa, wb, wc, fun σ => .agg _ _ rfl (cG.cons (.sc _) (cG.cons (.sc _) (cG.cons (.sc _) cG.nil))).2 (by intro u hu; simp at hu; rcases hu with rfl | rfl | rfl <;> rfl)⟩
end
end Go.Proofs.YtpmdfoaadejmkaaGreatDoor
